/- Joined. -/
import Derived.Test.YtmpddimhleianaaGreatV7
set_option linter.unusedVariables false
set_option linter.unusedSimpArgs false
set_option maxRecDepth 8000
set_option maxHeartbeats 4000000
namespace Go.Proofs.YtmpddimhleianaaGreat
open Go Go.FH Go.RowKit
theorem mw(s:ap)(h:StR s):PC Tryz.prog 210 [.agg (aE s.a)] (.int .i64 (cY s)):=by
 refine ae 4 ?_;have hb:=h.bo;obtain⟨R,hR⟩:∃R,R=cY s:=⟨_,rfl⟩
 rw[<-hR];unfold cY dW at hR;refine gon ?_;refine az (fun i:Nat=>[(3,.int .i64 i)]) (fun _=>[.var (aE s.a)]) (fun i=>s.orph.length-i) (fun i=>i<=s.orph.length/\R=Cj (iK (fun i=>decide (0<=aj s.nodes (dn s.orph i).parent)) (s.orph.length-i) i)) 0 ⟨amc _,hR⟩ ?_ ?_
 ·exact ais [] [0]
 clear hR;rintro i ⟨hi,hn⟩;refine dp ?_;by_cases h1:i<s.orph.length
 ·have e1:=inT h1
  have hw:=af h1 WL;have hgd:(rows aO s.orph).getD i []=aO (dn s.orph i):=aS (f:=aO) cw h1;have c1:=cC s.nodes (dn s.orph i).parent h.bn;refine bw e1 ?_;refine ah hgd ?_;refine aK (c1) ?_;refine gon ?_;by_cases q:0<=aj s.nodes (dn s.orph i).parent
  ·have e2:=au q;rw[nB h1 e2]at hn;subst hn;refine aM e2 ?_;exact ai
  ·have e2:=aA q;rw[nz h1 e2]at hn;refine bJ e2 ?_;refine ah hw ?_;refine⟨i+1,⟨h1,hn⟩,WL,?_⟩;exact ais [] [0]
 ·obtain rfl:i=s.orph.length:=WL
  have e1:=inF (s.orph.length);rw[nu]at hn;subst hn;refine aF e1 ?_;exact ai
theorem yU(s:ap)(b:Blk)(h:StR s)(h1:StR (dD s (BV s.nodes b (dc b)).1)):PC Tryz.prog 209 [.agg (aE s.a),.agg (aO b)] (.agg (aE (kL s b).a)):=by
 refine ae 5 ?_;have c1:=ET b;have c2:=G8 s.nodes b (dc b) h.bn;have c3:=Jg (dD s (BV s.nodes b (dc b)).1) b.just b.fin h1;have h2:=h1.upd b.just b.fin
 have hI:kL s b=if dg (dK (dD s (BV s.nodes b (dc b)).1) b.just b.fin) b.slot<dg (dK (dD s (BV s.nodes b (dc b)).1) b.just b.fin) (dK (dD s (BV s.nodes b (dc b)).1) b.just b.fin).now
  then dK (dK (dD s (BV s.nodes b (dc b)).1) b.just b.fin) b.pul.j b.pul.f else dK (dD s (BV s.nodes b (dc b)).1) b.just b.fin:=rfl
 rw[hI];clear hI;unfold dD at c3;generalize dc b=st at *;generalize BV s.nodes b st=T at *;obtain⟨T1,T2⟩:=T;show Tri _ _ _ _ (PQ _ (.agg (aE (ap.a (if dg (dK (dD s T1) b.just b.fin) b.slot<dg (dK (dD s T1) b.just b.fin) (dK (dD s T1) b.just b.fin).now then dK (dK (dD s T1) b.just b.fin) b.pul.j b.pul.f else dK (dD s T1) b.just b.fin))))) _ _
 change StR (dK (dD s T1) b.just b.fin)at h2
 change PC _ _ _ (.agg (aE (dK (dD s T1) b.just b.fin).a))at c3
 generalize dK (dD s T1) b.just b.fin=S2 at *;have c4:=fT S2 b.slot h2.spe;have c5:=fT S2 S2.now h2.spe;have c6:=Jg S2 b.pul.j b.pul.f h2;refine gon ?_;refine aK (c1) ?_;refine gon ?_;refine aK (c2) ?_;refine gon ?_;refine ahG c3 ?_;refine aK (c4) ?_;refine gon ?_;refine aK (c5) ?_;refine gon ?_;by_cases q:dg S2 b.slot<dg S2 S2.now
 ·have e1:=au q;rw[al7 q];refine aM e1 ?_;refine ahG c6 ?_;exact ai
 ·have e1:=aA q;rw[al5 q];refine aF e1 ?_;exact ai
theorem yT(s:ap)(b:Blk):(kL s b).orph.length<=s.orph.length:=by
 unfold kL;have h1:=(pT (dD s (BV s.nodes b (dc b)).1) b.just b.fin).1;have h2:=(pT (dK (dD s (BV s.nodes b (dc b)).1) b.just b.fin) b.pul.j b.pul.f).1;have h3:(dD s (BV s.nodes b (dc b)).1).orph.length=s.orph.length:=rfl;split<;>omega
theorem rp{p:ap×List Rt}(h0:0<=cY p.1):(waitR p).1.orph.length+1<=p.1.orph.length:=by
 have h1:=i6 p.1;have h2:=NI p.1.orph (i:=(cY p.1).toNat) WL;have h3:=yT (withO p.1 (takeO p.1.orph (cY p.1).toNat)) (dn p.1.orph (cY p.1).toNat);have h4:(withO p.1 (takeO p.1.orph (cY p.1).toNat)).orph.length=(takeO p.1.orph (cY p.1).toNat).length:=rfl;unfold waitR;split
 ·show (kL _ _).orph.length+1<=_;omega
 ·show (takeO p.1.orph (cY p.1).toNat).length+1<=_;omega
theorem Dw:∀ (f g:Nat) (p:ap×List Rt),p.1.orph.length<f->p.1.orph.length<g->waitG f p=waitG g p
 |0,_,_,h,_=>by omega
 |_,0,_,_,h=>by omega
 | f + 1, g + 1, p, h1, h2 => by
   unfold waitG;split
   ·rfl
   ·rename_i hw;have:=rp (p:=p) WL;exact Dw f g (waitR p) WL WL
theorem EX{p:ap×List Rt}(h0:0<=cY p.1):waitG (p.1.orph.length+1) p=waitG ((waitR p).1.orph.length+1) (waitR p):=by
 have h1:=rp h0;conv=>lhs;unfold waitG
 rw[al5 WL];exact Dw _ _ _ WL WL
theorem BQ(s:ap)(b:Blk)(h:StR s):ay Tryz.prog 208 [.agg (aE { s.a with orph:=.hs 238 0 0 s.orph.length }),.agg (aO b)] [.vec 238 (rows aO s.orph)] (.int .i64 (de s b)) [.vec 238 (rows aO s.orph)]:=by
 refine ay.lend rfl ?_;have ht:List.take s.orph.length (rows aO s.orph)=rows aO s.orph:=amf WM;(try simp only[go_sem,ht,al8,ama,ake,ako])
 exact uO s b h
theorem BI(s:ap)(h:StR s):ay Tryz.prog 210 [.agg (aE { s.a with orph:=.hs 238 0 0 s.orph.length })] [.vec 238 (rows aO s.orph)] (.int .i64 (cY s)) [.vec 238 (rows aO s.orph)]:=by
 refine ay.lend rfl ?_;have ht:List.take s.orph.length (rows aO s.orph)=rows aO s.orph:=amf WM;(try simp only[go_sem,ht,al8,ama,ake,ako])
 exact mw s h
theorem DT(s:ap)(b:Blk)(h:StR s)(h1:StR (dD s (BV s.nodes b (dc b)).1)):ay Tryz.prog 209 [.agg (aE { s.a with orph:=.hs 238 0 0 s.orph.length }),.agg (aO b)] [.vec 238 (rows aO s.orph)] (.agg (aE (kL s b).a)) [.gone]:=by
 have ht:List.take s.orph.length (rows aO s.orph)=rows aO s.orph:=amf WM
 have:=ay.give (σ:=[.vec 238 (rows aO s.orph)]) (args:=[.agg (aE { s.a with orph:=.hs 238 0 0 s.orph.length }),.agg (aO b)]) (r:=_) (by
  (try simp only[go_sem,ht,al8,ama,ake,ako])
  exact yU s b h h1)
 exact this
def Ki(b:Blk)(p:ap×List Rt)(o:Bool):St:=if o then [.var (aE p.1.a),.var (aO b),.var (aE kU),.vec 32 (rows rtc p.2)]else [.var (aE p.1.a),.var (aO b),.var (aE kU)]
def Kl(p:ap×List Rt)(o:Bool):AV:=if o then .hs 32 3 0 p.2.length else .sl 32 true (rows rtc p.2)
theorem KJ(S:ap)(m:Nat)(hS:bP S m)(b:Blk)(hbu:np m b)(hlo:S.orph.length<=3)(R:ap×List Rt)(hR0:R=waitG (S.orph.length+1) (S,[b.root])):
 Tri Tryz.prog 108 0 (eH.tl 7) (PQ [.cell 4 true 150,.tmp 5,.tmp 6] (.tup [.agg (aE R.1.a),.sl 32 false (rows rtc R.2),.int .i64 0])) ⟨12,[.dead,.dead,.ptr 0 0,.ptr 1 0,.ptr 2 0,.dead,.dead,.dead,.dead,.dead,.dead,.dead],[]⟩ [.var (aE S.a),.var (aO b),.var (aE kU)]:=by
 unfold eH;refine bd ?_;simp only[ab.tl];have c0:=mw S hS.r;refine gon ?_;refine ahG c0 ?_
 refine az (fun x:(ap×List Rt)×Bool=>[(9,Kl x.1 x.2),(10,.int .i64 (cY x.1.1)),(11,.dead)]) (fun x=>Ki b x.1 x.2) (fun x=>x.1.1.orph.length)
  (fun x=>bP x.1.1 m/\R=waitG (x.1.1.orph.length+1) x.1/\x.1.2.length+x.1.1.orph.length<=10) ((S,[b.root]),false) ⟨hS,hR0,by simp only[al8,ama];omega⟩ ?_ ?_
 ·show GC _ _ _ ⟨_,jc [(9,.sl 32 true [rtc b.root]),(10,.int .i64 (cY S)),(11,.dead)] _,[]⟩ [.var (aE S.a),.var (aO b),.var (aE kU)]
  exact ais [] [0,1,2]
 clear hR0 c0;rintro⟨⟨S1,L⟩,o⟩ ⟨hi,hR,hl⟩;dsimp only at hi hR hl ⊢;have hwb:=i6 S1;by_cases hw:cY S1<0
 ·have hR':R=(S1,L):=by rw[hR];unfold waitG;rw[al7 hw]
  subst hR';clear hR;generalize cY S1=W at *;have e1:decide (W ≥ 0)=false:=aA WL;have e2:decide (0<=W)=false:=aA WL;have ht:List.take L.length (rows rtc L)=rows rtc L:=amf WM;cases o with
  | true =>
    show Tri _ _ _ _ _ ⟨_,jc [(9,.hs 32 3 0 L.length),(10,_),(11,.dead)] _,[]⟩ [.var (aE S1.a),.var (aO b),.var (aE kU),.vec 32 (rows rtc L)]
    (try simp only[dE,dr,amx,amy])
    refine fU e1 e2 ?_;refine⟨_,(by first|rfl|exact evd),.inl ?_⟩;exact uZ ht
  | false =>
    show Tri _ _ _ _ _ ⟨_,jc [(9,.sl 32 true (rows rtc L)),(10,_),(11,.dead)] _,[]⟩ [.var (aE S1.a),.var (aO b),.var (aE kU)]
    (try simp only[dE,dr,amx,amy])
    refine fU e1 e2 ?_;refine⟨_,(by first|rfl|exact evd),.inr ⟨.tup [.agg (aE S1.a),.sl 32 true (rows rtc L),.int .i64 0],?_,⟨S1.pul,jF L,trivial,trivial⟩,Wk.tup ⟨Wk.refl _,Wk.open_ _ _ _,Wk.refl _,trivial⟩⟩⟩;(try simp only[go_sem,Nat.reduceAdd,Nat.reduceSub,Nat.reduceMul,Nat.reduceLT,Nat.reduceLeDiff,Nat.reduceEqDiff,reduceIte,Int.reduceToNat,Int.reduceLT,Int.reduceLE,Int.reduceEq,Int.reduceNeg,reduceCtorEq,Int.reduceBEq,Int.reduceBNe])
    all_goals rfl
 ·have hst:=EX (p:=(S1,L)) (show 0<=cY S1 by omega)
  dsimp only at hst;rw[hst]at hR;clear hst;have hro:=rp (p:=(S1,L)) (by show 0<=cY S1;omega);have hI:bP (waitR (S1,L)).1 m:=bP.waitR hi (by show 0<=cY S1;omega);have hwr:waitR (S1,L)=if de (withO S1 (takeO S1.orph (cY S1).toNat)) (dn S1.orph (cY S1).toNat)=0 then (kL (withO S1 (takeO S1.orph (cY S1).toNat)) (dn S1.orph (cY S1).toNat),L++[(dn S1.orph (cY S1).toNat).root])else (withO S1 (takeO S1.orph (cY S1).toNat),L):=rfl
  obtain⟨u,hu⟩:=ajO (show 0<=cY S1 by omega);rw[hu]at hwr hwb ⊢;rw[amw]at hwr;have hul:u<S1.orph.length:=WL
  have h2:=hi.takeO u;have hbo:=hi.uo _ (bK cw hul);have hgd:(rows aO S1.orph).getD u []=aO (dn S1.orph u):=aS (f:=aO) cw hul;change np m (dn S1.orph u)at hbo
  generalize dn S1.orph u=ob at *;have e2:decide (0<=(u:Int))=true:=au WL;have hw1:IntKind.i64.wrap ((u:Int)+1)=((u+1:Nat):Int):=aL WL WL;have ht1:List.take u (rows aO S1.orph)=rows aO (S1.orph.take u):=si _ _ _;have ht2:List.drop (u+1) (rows aO S1.orph)=rows aO (S1.orph.drop (u+1)):=uz _ _ _;have ht3:rows aO (S1.orph.take u)++rows aO (S1.orph.drop (u+1))=rows aO (takeO S1.orph u):=vT _ _ _;have ht4:(S1.orph.take u).length+(S1.orph.drop (u+1)).length=(takeO S1.orph u).length:=by unfold takeO;rw[akC]
  have ht5:List.take (S1.orph.length-(u+1)) (rows aO (S1.orph.drop (u+1)))=rows aO (S1.orph.drop (u+1)):=amf WM;have hlo:(takeO S1.orph u).length<=3:=h2.oo;have hoo:=hi.oo;have c1:=BQ (withO S1 (takeO S1.orph u)) ob h2.r;have c2:=fun hc=>DT (withO S1 (takeO S1.orph u)) ob h2.r (h2.insN hc hbo).r
  have c3:=BI (withO S1 (takeO S1.orph u)) h2.r;unfold withO at c1 c2 c3;dsimp only at c1 c2 c3;have ht6:List.take (takeO S1.orph u).length (rows aO (takeO S1.orph u))=rows aO (takeO S1.orph u):=amf WM;have hsn:rows rtc L++[rtc ob.root]=rows rtc (L++[ob.root]):=cR rtc L ob.root;have hT0:takeO S1.orph u=takeO S1.orph u:=rfl;cases o with
  | true =>
    show Tri _ _ _ _ _ ⟨_,jc [(9,.hs 32 3 0 L.length),(10,_),(11,.dead)] _,[]⟩ [.var (aE S1.a),.var (aO b),.var (aE kU),.vec 32 (rows rtc L)]
    (try simp only[dE,dr,amx,amy])
    refine bw e2 ?_;refine jj hgd hw1 ht1 ht2 ht3 ht4 ht5 ?_;refine ocg [6] c1 ?_;by_cases hc:de (withO S1 (takeO S1.orph u)) ob=0
    ·have e3:(de (withO S1 (takeO S1.orph u)) ob==0)=true:=by simp[hc]
     rw[al7 hc]at hwr;rw[hwr]at hR hro hI;dsimp only at hR hro hI;have c4:=c2 hc;have c5:=mw _ hI.r;unfold withO at e3;change ay _ _ _ _ (.agg (aE (kL (withO S1 (takeO S1.orph u)) ob).a)) _ at c4
     generalize kL (withO S1 (takeO S1.orph u)) ob=S3 at *;refine aM e3 ?_;refine oce [6] c4 ?_;refine ah hsn ?_;refine ahG c5 ?_;refine⟨((S3,L++[ob.root]),true),⟨hI,hR,by simp only[akC,al8,ama];omega⟩,by dsimp only;omega,?_⟩;(try simp only[Kl,Ki,amt,amj,ame,withO])
     exact ais [] [0,1,2,7]
    ·have e3:(de (withO S1 (takeO S1.orph u)) ob==0)=false:=by simp[hc]
     rw[al5 hc]at hwr;rw[hwr]at hR hro hI;dsimp only at hR hro hI;unfold withO at e3;refine aF e3 ?_;refine ocg [6] c3 ?_;refine⟨((withO S1 (takeO S1.orph u),L),true),⟨hI,hR,by dsimp only;omega⟩,by dsimp only;omega,?_⟩;(try simp only[Kl,Ki,amt,amj,ame,withO])
     refine GC.mk' [6] [0,1,2,3] WM rfl WM WM (by(try simp only[go_sem,Nat.reduceAdd,Nat.reduceSub,Nat.reduceMul,Nat.reduceLT,Nat.reduceLeDiff,Nat.reduceEqDiff,reduceIte,Int.reduceToNat,Int.reduceLT,Int.reduceLE,Int.reduceEq,Int.reduceNeg,reduceCtorEq,Int.reduceBEq,Int.reduceBNe,ht6]);all_goals first|rfl|exact⟨rfl,rfl⟩) (by(try simp only[go_sem,Nat.reduceAdd,Nat.reduceSub,Nat.reduceMul,Nat.reduceLT,Nat.reduceLeDiff,Nat.reduceEqDiff,reduceIte,Int.reduceToNat,Int.reduceLT,Int.reduceLE,Int.reduceEq,Int.reduceNeg,reduceCtorEq,Int.reduceBEq,Int.reduceBNe,ht6]);all_goals rfl)
  | false =>
    show Tri _ _ _ _ _ ⟨_,jc [(9,.sl 32 true (rows rtc L)),(10,_),(11,.dead)] _,[]⟩ [.var (aE S1.a),.var (aO b),.var (aE kU)]
    (try simp only[dE,dr,amx,amy])
    refine bw e2 ?_;refine jj hgd hw1 ht1 ht2 ht3 ht4 ht5 ?_;refine ocg [5] c1 ?_;by_cases hc:de (withO S1 (takeO S1.orph u)) ob=0
    ·have e3:(de (withO S1 (takeO S1.orph u)) ob==0)=true:=by simp[hc]
     rw[al7 hc]at hwr;rw[hwr]at hR hro hI;dsimp only at hR hro hI;have c4:=c2 hc;have c5:=mw _ hI.r;unfold withO at e3;change ay _ _ _ _ (.agg (aE (kL (withO S1 (takeO S1.orph u)) ob).a)) _ at c4
     generalize kL (withO S1 (takeO S1.orph u)) ob=S3 at *;refine aM e3 ?_;refine oce [5] c4 ?_;refine ah hsn ?_;refine ahG c5 ?_;refine⟨((S3,L++[ob.root]),true),⟨hI,hR,by simp only[akC,al8,ama];omega⟩,by dsimp only;omega,?_⟩;(try simp only[Kl,Ki,amt,amj,ame,withO])
     exact ais [] [0,1,2,6]
    ·have e3:(de (withO S1 (takeO S1.orph u)) ob==0)=false:=by simp[hc]
     rw[al5 hc]at hwr;rw[hwr]at hR hro hI;dsimp only at hR hro hI;unfold withO at e3;refine aF e3 ?_;refine ocg [5] c3 ?_;refine⟨((withO S1 (takeO S1.orph u),L),false),⟨hI,hR,by dsimp only;omega⟩,by dsimp only;omega,?_⟩;(try simp only[Kl,Ki,amt,amj,ame,withO])
     refine GC.mk' [5] [0,1,2] WM rfl WM WM (by(try simp only[go_sem,Nat.reduceAdd,Nat.reduceSub,Nat.reduceMul,Nat.reduceLT,Nat.reduceLeDiff,Nat.reduceEqDiff,reduceIte,Int.reduceToNat,Int.reduceLT,Int.reduceLE,Int.reduceEq,Int.reduceNeg,reduceCtorEq,Int.reduceBEq,Int.reduceBNe,ht6]);all_goals first|rfl|exact⟨rfl,rfl⟩) (by(try simp only[go_sem,Nat.reduceAdd,Nat.reduceSub,Nat.reduceMul,Nat.reduceLT,Nat.reduceLeDiff,Nat.reduceEqDiff,reduceIte,Int.reduceToNat,Int.reduceLT,Int.reduceLE,Int.reduceEq,Int.reduceNeg,reduceCtorEq,Int.reduceBEq,Int.reduceBNe,ht6]);all_goals rfl)
theorem Fa{fr:Fr}{σ:St}{rs:List gN}{l:List AV}{n:Int}(hl:dH fr σ rs=some l)(hv:fz σ (List.range σ.length) (gk l)=.tup [.agg (aE kU),.sl 0 true [],.int .i64 n]):PQ rs (.tup [.agg (aE jX.a),.sl 32 false (rows rtc []),.int .i64 n]) .ret fr σ:=
 ⟨l,hl,.inr ⟨_,hv,(by simp[PuL,Pu,fy,kU,aE,eJ,mg,dI,ju,gV,ui,bW,cp0]),Wk.tup ⟨Qg,Wk.empty _ _ _,Wk.refl _,trivial⟩⟩⟩
theorem Dy(s:ap)(m:Nat)(h:bP s m)(b:Blk)(hb:np m b):PC Tryz.prog 117 [.agg (aE s.a),.agg (aO b)] (.tup [.agg (aE (di s b).1.a),.sl 32 false (rows rtc (di s b).2.1),.int .i64 (di s b).2.2]):=by
 have tl:=KJ;refine PC.fact 12 yc WM puA ⟨(di s b).1.pul,jF _,trivial,trivial⟩ ?_;have hc:eH=.seq eH.hd (.seq (eH.tl 1).hd (.seq (eH.tl 2).hd (.seq (eH.tl 3).hd (.seq (eH.tl 4).hd (.seq (eH.tl 5).hd (.seq (eH.tl 6).hd (eH.tl 7))))))):=rfl;rw[hc];clear hc;generalize eH.tl 7=cT at *;unfold eH;refine bd ?_;simp only[ab.tl,ab.hd];have c1:=uO s b h.r;have hoo:=h.oo;unfold di;by_cases q1:de s b=10
 ·rw[al7 q1]
  rw[q1]at c1;have hlo:=h.cfg.lo;by_cases q2:s.cfg.lim.orph<=s.orph.length
  ·have e1:decide ((s.orph.length:Int) ≥ s.cfg.lim.orph)=true:=au q2;have e2:decide (s.cfg.lim.orph<=(s.orph.length:Int))=true:=au q2;rw[al7 q2];refine gon ?_;refine am c1 ?_;refine Ff ?_;refine cH e1 e2 ?_;exact Fa (by first|rfl|exact evd) (by first|rfl|exact evd)
  ·have e1:decide ((s.orph.length:Int) ≥ s.cfg.lim.orph)=false:=aA q2;have e2:decide (s.cfg.lim.orph<=(s.orph.length:Int))=false:=aA q2;have hsn:rows aO s.orph++[aO (noT b)]=rows aO (s.orph++[noT b]):=cR aO s.orph (noT b);have ht:∀l:List Blk,List.take l.length (rows aO l)=rows aO l:=fun l=>amf WM
   have ht2:List.take (s.orph.length+1) (rows aO (s.orph++[noT b]))=rows aO (s.orph++[noT b]):=amf WM;have hno:aO { pul:=b.pul,slot:=b.slot,root:=b.root,parent:=b.parent,payload:=b.payload,diff:=b.diff,pdiff:=b.pdiff,just:=b.just,fin:=b.fin,timely:=false }=aO (noT b):=rfl;rw[al5 q2];refine gon ?_;refine am c1 ?_;refine Ff ?_;refine fp e1 e2 ?_;refine dC hno hsn ht ?_;refine⟨_,(by first|rfl|exact evd),.inr ⟨.tup [.agg (aE (withO s (s.orph++[noT b])).a),.sl 0 true [],.int .i64 0],?_,⟨(withO s (s.orph++[noT b])).pul,trivial,trivial,trivial⟩,Wk.tup ⟨Wk.refl _,Wk.empty _ _ _,Wk.refl _,trivial⟩⟩⟩;exact uZ ht2
 rw[al5 q1];have n1:(de s b==10)=false:=by simp[q1]
 by_cases q2:de s b=0
 case neg=>
  rw[al7 q2];have e1:(de s b != 0)=true:=by simp[q2]
  generalize de s b=E at *;refine gon ?_;refine am c1 ?_;refine bJ n1 ?_;refine aM e1 ?_;exact Fa (by first|rfl|exact evd) (by first|rfl|exact evd)
 rw[al5 (by simp[q2])];have hI:=h.insN q2 hb;have hins:=h.ins q2 hb;have c2:=yU s b h.r hI.r;have hor:=yT s b;rw[q2]at c1;clear n1 q1 q2 hI;have hBI:blockI s b=if b.timely=true/\b.slot=s.now/\s.boost=rt0 then withB (kL s b) b.root else kL s b:=rfl
 obtain⟨B,hB,hBI2⟩:∃B:Bool,(B=true↔(b.timely=true/\b.slot=s.now/\s.boost=rt0))/\blockI s b=if B=true then withB (kL s b) b.root else kL s b:=by
  by_cases q:b.timely=true/\b.slot=s.now/\s.boost=rt0
  ·exact⟨true,by simp[q],by rw[hBI,al7 q,al7 rfl]⟩
  ·exact⟨false,by simp[q],by rw[hBI,al5 q,al5 WM]⟩
 rw[hBI2];clear hBI hBI2;generalize kL s b=S at *
 have key:∀ (ts:List (Nat×AV)),Tri Tryz.prog 108 0 (.seq ((eH.tl 5).hd) (.seq (eH.tl 6).hd cT)) (PQ [.cell 4 true 150,.tmp 5,.tmp 6] (.tup [.agg (aE (waitG ((if B=true then withB S b.root else S).orph.length+1) ((if B=true then withB S b.root else S),[b.root])).1.a),.sl 32 false (rows rtc (waitG ((if B=true then withB S b.root else S).orph.length+1) ((if B=true then withB S b.root else S),[b.root])).2),.int .i64 0]))
  ⟨12,[.agg (aE s.a),.agg (aO b),.ptr 0 0,.ptr 1 0,.ptr 2 0,.sl 0 true [],.int .i64 0,.int .i64 0,.bool B,.dead,.dead,.dead],ts⟩ [.var (aE s.a),.var (aO b),.var (aE kU)]:=by
  intro ts;unfold eH;refine bd ?_;simp only[ab.tl,ab.hd];refine gon ?_;refine ahG c2 ?_;cases B with
  | true =>
    have t2:=tl (withB S b.root) m (hins.withB _) b hb (by show S.orph.length<=3;omega) _ rfl;refine agF ?_;(try simp only[amt])
    refine eg ?_ t2;unfold withB;exact ais [] [0,1,2]
  | false =>
    have t2:=tl S m hins b hb WL _ rfl;refine agE ?_;(try simp only[ame,amj])
    refine eg ?_ t2;exact ais [] [0,1,2]
 unfold eH at key;dsimp only[nfO,Int.reduceOfNat,Int.reduceNegSucc,wA,wB,wC,wD,wE,wF,wG,wH,wI,wJ,wK,wL,wM,wN,wO,wP,wQ,wR,wS,wT,wU,wV,wW,wX,wY,wZ,om,oo,on,omg,og,ong,ci,cu,cb,cf,fA,lA,lF,bI,bC,sO,eX,lN,iX,kA,kB,kC,sR,cN]at key;simp only[ab.tl,ab.hd]at key;clear tl c2 hins hor;refine gon ?_;refine am c1 ?_;refine bk ?_;refine aB ?_;refine qU ?_;refine tp ?_;cases h1:b.timely with
 | false =>
   obtain rfl:B=false:=by rw[<-amZ,hB,h1];simp
   repeat(first|refine qU ?_|simp only[go_sem,h1])
   exact key _
 | true =>
   by_cases h2:b.slot=s.now
   ·have e2:(b.slot==s.now)=true:=by simp[h2]
    by_cases h3:s.boost=rt0
    ·have e3:=au h3;obtain rfl:B=true:=hB.2 ⟨h1,h2,h3⟩;repeat(first|refine qU ?_|simp only[go_sem,h1,e2,e3])
     exact key _
    ·have e3:=aA h3;obtain rfl:B=false:=by rw[<-amZ,hB];exact fun h=>h3 h.2.2
     repeat(first|refine qU ?_|simp only[go_sem,h1,e2,e3])
     exact key _
   ·have e2:(b.slot==s.now)=false:=by simp[h2]
    obtain rfl:B=false:=by rw[<-amZ,hB];exact fun h=>h2 h.2.1
    repeat(first|refine qU ?_|simp only[go_sem,h1,e2])
    exact key _
theorem BN{s:ap}{a:bp}(h:(cm s a).2=0):∀j∈a.vals,0<=j/\j<s.cfg.bals.length:=fun j hjm=>by
 have hv:cE a.vals s.cfg.bals.length=0:=by
  unfold cm at h;split at h
  ·rename_i h1;exact absurd h h1
  ·rename_i h1;simpa using h1
 obtain⟨u,hm,rfl⟩:=amJ hjm;have:=(iS hv).2 u hm;rw[alt,al6 hm,amT]at this;omega
theorem Ir(s:ap)(m:Nat)(h:bP s m)(a:bp)(ha:a.vals.length<=2097152):PC Tryz.prog 119 [.agg (aE s.a),.agg (cy a.a)] (.tup [.agg (aE (mA s a).1.a),.int .i64 (mA s a).2]):=by
 refine ae 9 ?_;have c1:=sf s a h.r ha;have c2:=fun(hz:(cm s a).2=0)=>BM s a h.r ha (fun j hj=>by have:=BN hz j hj;have:=h.ll;omega)
 have haa:=h.aa;unfold mA;generalize hC:cm s a=C at *;obtain⟨C1,C2⟩:=C;dsimp only at c1 c2 ⊢;by_cases q1:C2=0
 case neg=>
  have e1:(C2 != 0)=true:=by simp[q1]
  rw[al7 q1];refine gon ?_;refine am c1 ?_;refine aM e1 ?_;exact pZ (by first|rfl|exact evd) (by first|rfl|exact evd)
 subst q1;rw[al5 WM];cases C1 with
 | false =>
   have c3:=c2 rfl;refine gon ?_;refine am c1 ?_;refine bk ?_;refine agF ?_;refine ahG c3 ?_;(try simp only[amt])
   exact ai
 | true =>
   rw[al5 WM];by_cases q2:s.cfg.lim.early<=s.early.length
   ·have e2:decide (s.cfg.lim.early<=(s.early.length:Int))=true:=au q2;have e3:decide ((s.early.length:Int) ≥ s.cfg.lim.early)=true:=au q2;rw[al7 q2];refine gon ?_;refine am c1 ?_;refine bk ?_;refine aB ?_;refine cH e2 e3 ?_;exact pZ (by first|rfl|exact evd) (by first|rfl|exact evd)
   ·have e2:decide (s.cfg.lim.early<=(s.early.length:Int))=false:=aA q2;have e3:decide ((s.early.length:Int) ≥ s.cfg.lim.early)=false:=aA q2;have hsn:rows bp.c s.early++[cy a.a]=rows bp.c (s.early++[a]):=cR bp.c s.early a;have ht:List.take (s.early.length+1) (rows bp.c (s.early++[a]))=rows bp.c (s.early++[a]):=amf WM;have ht2:List.take s.early.length (rows bp.c s.early)=rows bp.c s.early:=amf WM;have ht3:List.take a.vals.length (aH .i64 a.vals)=aH .i64 a.vals:=amf WM;rw[al5 q2];refine gon ?_;refine am c1 ?_;refine bk ?_;refine aB ?_;refine fp e2 e3 ?_;refine qU ?_;refine tp ?_;repeat(first|refine qU ?_|simp only[go_sem,ht2])
    refine eg (fr2:=⟨9,[.dead,.dead,.ptr 0 0,.ptr 1 0,.ptr 2 0,.int .i64 0,.dead,.dead,.dead],[]⟩) (σ2:=[.var (aE s.a),.var (cy a.a),.var (aE kU)]) (GC.mk' [3] [0,1,2] WM rfl WM WM (by(try simp only[go_sem,Nat.reduceAdd,Nat.reduceSub,Nat.reduceMul,Nat.reduceLT,Nat.reduceLeDiff,Nat.reduceEqDiff,reduceIte,Int.reduceToNat,Int.reduceLT,Int.reduceLE,Int.reduceEq,Int.reduceNeg,reduceCtorEq,Int.reduceBEq,Int.reduceBNe,ht3]);all_goals first|rfl|exact⟨rfl,rfl⟩) (by(try simp only[go_sem,Nat.reduceAdd,Nat.reduceSub,Nat.reduceMul,Nat.reduceLT,Nat.reduceLeDiff,Nat.reduceEqDiff,reduceIte,Int.reduceToNat,Int.reduceLT,Int.reduceLE,Int.reduceEq,Int.reduceNeg,reduceCtorEq,Int.reduceBEq,Int.reduceBNe,ht3]);all_goals rfl)) ?_;refine aZ hsn ht2 ?_;refine⟨_,(by first|rfl|exact evd),.inl ?_⟩;exact uZ ht
theorem Kb(s:ap)(m:Nat)(h:bP s m)(t:aW)(ht:t.bals.length<=2097152):PC Tryz.prog 121 [.agg (aE s.a),.agg (ar t.a)] (.tup [.agg (aE (kY s t).1.a),.int .i64 (kY s t).2]):=by
 refine ae 9 ?_;have c0:=sq s;have c1:=xV t s.cfg.bals.length ht;have c2:=CR s.tabs t s.cfg.bals.length s.cfg.lim.table h.r.bt ht;unfold kY;generalize gh t s.cfg.bals.length=V at *;generalize iZ s.tabs t s.cfg.bals.length s.cfg.lim.table=T at *;obtain⟨T1,T2⟩:=T;dsimp only at c2 ⊢;by_cases q1:V=0
 case neg=>
  have e1:(V != 0)=true:=by simp[q1]
  rw[al7 q1];refine gon ?_;refine aK (c0) ?_;refine gon ?_;refine aK (c1) ?_;refine aM e1 ?_;exact pZ (by first|rfl|exact evd) (by first|rfl|exact evd)
 subst q1;rw[al5 WM];by_cases q2:t.cp.ep<s.j.ep
 ·have e2:=au q2;rw[al7 q2];refine gon ?_;refine aK (c0) ?_;refine gon ?_;refine aK (c1) ?_;refine dQ ?_;refine aM e2 ?_;exact pZ (by first|rfl|exact evd) (by first|rfl|exact evd)
 have e2:=aA q2;rw[al5 q2];by_cases q3:T2=0
 case neg=>
  have e3:(T2 != 0)=true:=by simp[q3]
  rw[al7 q3];refine gon ?_;refine aK (c0) ?_;refine gon ?_;refine aK (c1) ?_;refine dQ ?_;refine aF e2 ?_;refine aK (c0) ?_;refine gon ?_;refine aK (c2) ?_;refine aM e3 ?_;exact pZ (by first|rfl|exact evd) (by first|rfl|exact evd)
 subst q3;rw[al5 WM];refine gon ?_;refine aK (c0) ?_;refine gon ?_;refine aK (c1) ?_;refine dQ ?_;refine aF e2 ?_;refine aK (c0) ?_;refine gon ?_;refine aK (c2) ?_;refine bk ?_;exact ai
theorem ER(s:ap)(m:Nat)(h:bP s m)(x:fe)(h1:x.fst.vals.length<=100)(h2:x.snd.vals.length<=100):PC Tryz.prog 120 [.agg (aE s.a),.agg (d7 x.a)] (.tup [.agg (aE (ik s x).1.a),.int .i64 (ik s x).2]):=by
 refine ae 9 ?_;have c0:=sq s;have c1:=CT x.a x.fst.vals x.snd.vals false false s.cfg.bals.length rfl rfl h1 h2;have c2:=vO x.a x.fst.vals x.snd.vals false false rfl rfl h1 h2;have hcl:(kr x.fst.vals x.snd.vals x.fst.vals.length).length<=x.fst.vals.length:=rO _ _ _;have hqq:=h.qq;have hii:=h.ii;have c3:=OH s.eqv (kr x.fst.vals x.snd.vals x.fst.vals.length) WL;unfold ik;generalize evE x.a x.fst.vals x.snd.vals s.cfg.bals.length=V at *;generalize kr x.fst.vals x.snd.vals x.fst.vals.length=C at *;generalize Gb s.eqv C=U at *;generalize IntKind.i64.wrap ((U.length:Int)-s.eqv.length)=N at *;by_cases q1:V=0
 case neg=>
  have e1:(V != 0)=true:=by simp[q1]
  rw[al7 q1];refine gon ?_;refine aK (c0) ?_;refine gon ?_;refine aK (c1) ?_;refine aM e1 ?_;exact pZ (by first|rfl|exact evd) (by first|rfl|exact evd)
 subst q1;rw[al5 WM];by_cases q2:N=0
 ·have e2:(N==0)=true:=by simp[q2]
  rw[al7 q2];refine gon ?_;refine aK (c0) ?_;refine gon ?_;refine aK (c1) ?_;refine bk ?_;refine aK (c2) ?_;refine gon ?_;refine aK (c3) ?_;refine aM e2 ?_;exact pZ (by first|rfl|exact evd) (by first|rfl|exact evd)
 ·have e2:(N==0)=false:=by simp[q2]
  rw[al5 q2];refine gon ?_;refine aK (c0) ?_;refine gon ?_;refine aK (c1) ?_;refine bk ?_;refine aK (c2) ?_;refine gon ?_;refine aK (c3) ?_;refine aF e2 ?_;exact ai
end Go.Proofs.YtmpddimhleianaaGreat
