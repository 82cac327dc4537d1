/-
 My texts Qf, Qg, joined.
-/
import Derived.Test.YtnjdpnfglgcjcaaGreatT2
import Derived.Test.YtnjdpnfglgcjcaaGreatR1
import Derived.Test.YtnjdpnfglgcjcaaGreatV7
set_option linter.unusedVariables false
set_option linter.unusedSimpArgs false
set_option maxRecDepth 8000
set_option maxHeartbeats 4000000
namespace Go.FH
open Go Go.RowKit
theorem tU{e p now:Int}(he:0<=e)(hp:1<=p)(hp2:p<=64)(hn:0<=now)(hn2:now<18446744073709551616)(h:e<=IntKind.u64.wrap (Int.tdiv now p)):(bD e p).2=0:=by
 have hd:Int.tdiv now p=now / p:=Int.tdiv_eq_ediv_of_nonneg hn;have h0:0<=now / p:=Int.ediv_nonneg hn (by omega);have h1:now / p<=now:=Int.ediv_le_self _ hn;rw[hd,aU h0 (by omega)]at h;have hb:mO p=true:=by simp[mO];omega
 unfold bD;rw[if_pos hb];unfold CV;have hd2:Int.tdiv 18446744073709551615 p=18446744073709551615 / p:=Int.tdiv_eq_ediv_of_nonneg (by decide);have hq0:0<=18446744073709551615 / p:=Int.ediv_nonneg (by decide) (by omega);have hq1:18446744073709551615 / p<=18446744073709551615:=Int.ediv_le_self _ (by decide);have hle:now / p<=18446744073709551615 / p:=Int.ediv_le_ediv (by omega) (by omega);rw[hd2,aU hq0 (by omega),if_neg (by omega)]
theorem QY(o:Option Nat):o.isSome=decide (0<=rP o):=by
 cases o with
 |none=>rfl
 |some k=>rw[gc];simp
end Go.FH
namespace Go.Proofs.YtnjdpnfglgcjcaaGreat
open Go Go.FH Go.RowKit
theorem m6{s:am}(h1:1<=s.cfg.spe)(h2:s.cfg.spe<=64)(n:Int):(fC n s.cfg.spe).1=bY s n:=by
 unfold fC bY;rw[if_pos (by simp[mO];omega)]
theorem ZQ{s:am}(h1:1<=s.cfg.spe)(h2:s.cfg.spe<=64)(hn:U64 s.now){a b:Cp}(ha:U64 a.ep)(hb:U64 b.ep):OG s a b=qP s a b:=by
 unfold OG qP;rw[m6 h1 h2,QY];unfold cS;by_cases hE:a.ep<=bY s s.now
 case neg=>rw[au hE];simp
 by_cases hB:b.ep<=a.ep
 case neg=>rw[au hB];simp
 have ka:(bD a.ep s.cfg.spe).2=0:=tU ha.1 h1 h2 hn.1 hn.2 hE;have kb:(bD b.ep s.cfg.spe).2=0:=tU hb.1 h1 h2 hn.1 hn.2 (Int.le_trans hB hE);unfold jz cR oT;rw[ka,kb,ak hE,ak hB];generalize aj s.nodes a.rt=I;generalize aj s.nodes b.rt=K;generalize rP _=T;by_cases i1:I<0
 ·rw[au (show ¬0<=I by omega),if_pos (c:=I<0\/_) (.inl i1)];simp
 by_cases i2:K<0
 ·rw[if_pos (c:=K<0\/_) (.inl i2),au (show ¬0<=K by omega)];simp
 by_cases i3:(nod s.nodes I.toNat).status=2
 ·rw[if_pos (c:=I<0\/_) (.inr i3)];simp[i3]
 by_cases i4:(nod s.nodes K.toNat).status=2
 ·rw[if_pos (c:=K<0\/_) (.inr i4)];simp[i4]
 rw[if_neg (c:=I<0\/_) (fun h=>h.elim i1 i3),if_neg (c:=K<0\/_) (fun h=>h.elim i2 i4),ak (show 0<=I by omega),ak (show 0<=K by omega),ak (p:=(nod s.nodes I.toNat).status≠2) i3,ak (p:=(nod s.nodes K.toNat).status≠2) i4];simp only[decide_true,Bool.true_and,Bool.not_true,Bool.false_or,Bool.and_true];generalize decide ((nod s.nodes I.toNat).blk.slot<=_)=x;generalize decide ((nod s.nodes K.toNat).blk.slot<=_)=y;generalize dv s.nodes K I=z;generalize decide (0<=T)=t;cases x<;>cases y<;>cases z<;>cases t<;>rfl
theorem bi.spe{s:am}{i:Nat}(h:bi s i):1<=s.cfg.spe/\s.cfg.spe<=64:=⟨h.cfg.s1,by have:=h.cfg.s4;omega⟩
theorem bi.may{s:am}{i:Nat}(h:bi s i){a b:Cp}(ha:U64 a.ep)(hb:U64 b.ep):OG s a b=qP s a b:=ZQ h.spe.1 h.spe.2 h.nw.1 ha hb
theorem bi.cp{s:am}{i:Nat}(h:bi s i):CpR s:=by
 have r:=h.r;have h1:=h.tt;have h2:=h.aa;have h3:=h.cfg.b1;exact⟨r.bn,r.bl,r.be,by omega,r.bb,r.bo,by omega,fun a ha=>by have:=h.av a ha;omega,by omega⟩
theorem ZE(l:List aH)(e:Int):gP (fun i=>decide ((tab l i).cp.ep<e)) l default l.length=eM l e:=by
 unfold gP eM;refine qU fun k x hk=>?_
 unfold G9 tab;by_cases h:(l.getD k default).cp.ep<e
 ·rw[if_pos (ak h),if_neg (by omega)]
 ·rw[if_neg (by dsimp only;rw[au h];simp),if_pos (by omega)]
theorem ZM(l:List Blk)(a:Int):gP (fun i=>decide ((l.getD i dO).slot<=a)) l dO l.length=aL (nS l a) [] l.length:=by
 unfold gP;refine qU fun k x hk=>?_
 unfold G9 nS;by_cases h:(l.getD k dO).slot<=a
 ·rw[if_pos (ak h),if_neg (by omega)]
 ·rw[if_neg (by dsimp only;rw[au h];simp),if_pos (by omega)]
theorem Ww(x:aH)(c:Cp):aI Tryz.prog 249 [.agg (aH.c x),.ptr 0 0] [.var (cpC c)] (.bool (decide (x.cp.ep<c.ep))) [.var (cpC c)]:=by
 refine aI.fact 4 qH (by simp) ?_ (by simp);unfold j5;refine bd ?_;refine gon ?_;exact adb [] [0]
theorem Wx(x:Blk)(a:Int):aI Tryz.prog 253 [.agg (aA x),.ptr 0 0] [.var [.int .u64 a]] (.bool (decide (x.slot<=a))) [.var [.int .u64 a]]:=by
 refine aI.fact 4 qI (by simp) ?_ (by simp);unfold j6;refine bd ?_;refine gon ?_;exact adb [] [0]
def rE(s:am):Sto:=⟨s.cfg.a,.sl 34 false (rows bM s.latest),.sl 1 false (ax .i64 s.eqv),s.j,s.f,.sl 67 false (rows aW.c s.early),.hs 238 0 0 s.orph.length,.sl 240 false (rows aP s.nodes),s.now,s.boost,.sl 34 false (rows aH.c s.tabs)⟩
theorem Sp{α:Type}(f:α->List AV)(l z:List α):List.take l.length (rows f (l++z))=rows f l:=by
 unfold rows;rw[List.map_append,List.take_append_of_le_length (by simp)];exact List.take_of_length_le (by simp)
attribute [go_sem] Sp Nat.le_add_right
theorem QD(l:List Blk)(fn:FuncId)(c:gZ)(p:Nat->Bool)(hl:l.length<=1000000)(hc:∀i,i<l.length->aI Tryz.prog fn [.agg (aA (l.getD i dO)),.ptr 0 0] [.var c.cs] (.bool (p i)) [.var c.cs]):
 ∃z:List Blk,aI Tryz.prog 252 [.hs 238 1 0 l.length,.fn (.func fn) [.ptr 0 0]] [.var c.cs,.vec 238 (rows aA l)] (.hs 238 1 0 (gP p l dO l.length).length) [.var c.cs,.vec 238 (rows aA (gP p l dO l.length++z))]:=by
 obtain⟨z,k,hz,h⟩:=UD l dO fn c p hl hc;refine⟨List.replicate k dO,?_⟩
 have:rows aA (gP p l dO l.length++List.replicate k dO)=rows aA (gP p l dO l.length)++z.xs:=by
  rw[hz];unfold rows;rw[List.map_append,List.map_replicate]
 rw[this];exact h
theorem AH(s:am)(i:Nat)(h:bi s i)(j f:Cp)(hj:U64 j.ep)(hf:U64 f.ep):
 ∃z:List Blk,aI Tryz.prog 124 [.agg (aw s.a),.agg (cpC j),.agg (cpC f)] [] (.agg (aw (rE (dl s j f)))) [.vec 238 (rows aA ((dl s j f).orph++z))]:=by
 have c1:=kW s h.cp;unfold OO at c1;have c2:=Rx s h.r j f h.uj h.uf hj hf;rw[h.may (nV h.uj hj) (nV h.uf hf)]at c2;have hm:=fun e:qP s (dK s.j j) (dK s.f f)=true=>LY e
 unfold dl;have ha:=nV h.uj hj;have hb:=nV h.uf hf;generalize dK s.j j=a at *;generalize dK s.f f=b at *;cases hM:qP s a b with
 | false =>
   rw[hM]at c2;rw[if_pos rfl];refine⟨[],?_⟩;unfold rE;rw[List.append_nil];refine aI.fact 13 ik (by simp) ?_ (by simp);unfold fO;refine bd ?_;refine gon ?_;refine bP [] (c1) evd (bx.mk' (by simp) evd) ?_;refine evg ?_;refine gon ?_;refine ai c2 ?_;refine aV ?_;exact adb [4,5,6,7,9,10] [8]
 | true =>
   rw[hM]at c2;rw[if_neg (by simp)];obtain⟨k1,k2,k3⟩:=hm hM;obtain⟨zt,_,_,c3⟩:=UE s.tabs default 249 ⟨cpC a,fF a⟩ (fun i=>decide ((tab s.tabs i).cp.ep<a.ep)) (by have:=h.tt;omega) (fun i _=>Ww _ a);rw[ZE]at c3;by_cases hs:b=s.f
   ·rw[if_pos hs];refine⟨[],?_⟩;unfold rE;rw[List.append_nil];refine aI.fact 13 ik (by simp) ?_ (by simp);unfold fO;refine bd ?_;have e2:=ak hs;refine gon ?_;refine bP [] (c1) evd (bx.mk' (by simp) evd) ?_;refine evg ?_;refine gon ?_;refine ai c2 ?_;refine bh ?_;refine bP [12,10] (c3) evd (bx.mk' (by simp) evd) ?_;refine evg ?_;refine aE e2 ?_;exact adb [4,5,6,7,9,10] [8]
   ·rw[if_neg hs]
    have b2:=dX s.nodes b.rt;have hI:isN s.nodes (aj s.nodes b.rt)=true:=oR.2 ⟨k2,b2.2⟩;have c6:=eD s.nodes b.rt h.r.bn;have c7:=OY s.nodes h.tree (aj s.nodes b.rt) h.r.bn hI;have hl1:(dL s.nodes (aj s.nodes b.rt)).1.length<=s.nodes.length:=(m8 s.nodes _ s.nodes.length).2;have c8:=eD (dL s.nodes (aj s.nodes b.rt)).1 s.boost (by have:=h.r.bn;omega);have c9:=iw (e:=b.ep) (p:=s.cfg.spe) hb.1 hb.2;obtain⟨zo,c10⟩:=QD s.orph 253 ⟨[.int .u64 (bD b.ep s.cfg.spe).1],by simp[PuL,Pu]⟩ (fun k=>decide ((s.orph.getD k dO).slot<=(bD b.ep s.cfg.spe).1)) h.r.bo (fun k _=>Wx _ _);rw[ZM]at c10;refine⟨zo,?_⟩;unfold rE cR;generalize (dL s.nodes (aj s.nodes b.rt)).2=P2 at *;generalize (dL s.nodes (aj s.nodes b.rt)).1=P1 at *;generalize aj s.nodes b.rt=I at *;generalize aj P1 s.boost=B at *;dsimp only at c10 ⊢;generalize aL (nS s.orph (bD b.ep s.cfg.spe).1) [] s.orph.length=O at *;generalize bD b.ep s.cfg.spe=S at *;obtain⟨S1,S2⟩:=S;dsimp only at c9 c10 ⊢;refine aI.fact 13 ik (by simp) ?_ (by simp);unfold fO;refine bd ?_;have e2:=au hs;refine gon ?_;refine bP [] (c1) evd (bx.mk' (by simp) evd) ?_;refine evg ?_;refine gon ?_;refine ai c2 ?_;refine bh ?_;refine bP [12,10] (c3) evd (bx.mk' (by simp) evd) ?_;refine evg ?_;refine aD e2 ?_;refine aC (c6) ?_;refine gon ?_;refine aC (c7) ?_;refine gon ?_;refine ai c8 ?_;by_cases q:B<0
    ·have e3:=ak q;rw[if_pos q];refine aE e3 ?_;refine acT c9 ?_;refine bP [16,8] (c10) evd (bx.mk' (by simp) evd) ?_;refine evg ?_;refine gon ?_;exact adb [4,5,6,7,10] [8]
    ·have e3:=au q;rw[if_neg q];refine aD e3 ?_;refine acT c9 ?_;refine bP [16,8] (c10) evd (bx.mk' (by simp) evd) ?_;refine evg ?_;refine gon ?_;exact adb [4,5,6,7,10] [8]
end Go.Proofs.YtnjdpnfglgcjcaaGreat
namespace Go.Proofs.YtnjdpnfglgcjcaaGreat
open Go Go.FH Go.RowKit
theorem K1(s:am)(h:CpR s):PC Tryz.prog 102 [.agg (aw s.a)] (.agg (aw s.a)):=by
 have c:=kW s h;unfold OO at c;refine c.pc puA puA ?_;(try simp only[go_sem,Nat.reduceAdd,Nat.reduceSub,Nat.reduceMul,Nat.reduceLT,Nat.reduceLeDiff,Nat.reduceEqDiff,reduceIte,Int.reduceToNat,Int.reduceLT,Int.reduceLE,Int.reduceEq,Int.reduceNeg,reduceCtorEq,Int.reduceBEq,Int.reduceBNe])
 rfl
theorem BY(s:am)(i:Nat)(h:bi s i)(a:aW)(ha:a.vals.length<=1000000):PC Tryz.prog 125 [.agg (aw s.a),.agg (bZ a.a)] (.tup [.bool (dB s a).1,.int .i64 (dB s a).2]):=by
 refine PC.fact 15 Cq (by simp) puA puA ?_;unfold qX;refine bd ?_;obtain⟨R,hR⟩:∃R,R=dB s a:=⟨_,rfl⟩
 rw[<-hR];unfold dB at hR;have c1:=ou a.vals false s.cfg.bals.length (by omega);have c2:=kX a.slot s.cfg.spe;have c3:=kX s.now s.cfg.spe;have f2:=m6 h.spe.1 h.spe.2 a.slot;have f3:=m6 h.spe.1 h.spe.2 s.now;have c4:=eD s.nodes a.root h.r.bn;have c5:=eD s.nodes a.target.rt h.r.bn;have b4:=dX s.nodes a.root;have uS:U64 (bY s a.slot):=by unfold bY;exact cH _
 have uN:U64 (bY s s.now):=by unfold bY;exact cH _
 have c6:=iw (e:=bY s a.slot) (p:=s.cfg.spe) uS.1 uS.2;have c7:=fun st=>OP s.nodes h.tree h.r.bn (aj s.nodes a.root) st
 unfold cR at hR;generalize aj s.nodes a.root=I at *;generalize aj s.nodes a.target.rt=G at *;generalize dr a.vals s.cfg.bals.length=V at *;generalize fC a.slot s.cfg.spe=E1 at *;generalize fC s.now s.cfg.spe=E2 at *;obtain⟨e11,e12⟩:=E1;obtain⟨e21,e22⟩:=E2;dsimp only at f2 f3 c2 c3;generalize bY s a.slot=W at *;generalize bY s s.now=M at *;subst f2 f3;refine gon ?_;refine ai c1 ?_;by_cases q1:V=0
 case neg=>
  have e1:(V != 0)=true:=by simp[q1]
  rw[if_pos q1]at hR;subst hR;refine aE e1 ?_;exact af
 have e1:(V != 0)=false:=by simp[q1]
 rw[if_neg (by simp[q1])]at hR;subst q1;refine aD e1 ?_;refine acT c2 ?_;refine ai c3 ?_;have uS0:=uS.1;have uS1:=uS.2;have uN0:=uN.1;have uN1:=uN.2;have fail:(a.target.ep≠e11\/(a.target.ep≠e21/\(e21=0\/a.target.ep≠IntKind.u64.wrap (e21-1))))->R=(false,18):=fun hq=>by rw[hR,if_pos hq]
 by_cases q2:a.target.ep=e11
 case neg=>
  have e2:(a.target.ep != e11)=true:=by simp[q2]
  obtain rfl:=fail (.inl q2);refine aE e2 ?_;exact af
 have e2:(a.target.ep != e11)=false:=by simp[q2]
 by_cases q3:e21<e11
 ·have e3:decide (e11 > e21)=true:=ak q3
  have e3':decide (e21<e11)=true:=ak q3
  obtain rfl:=fail (.inr ⟨by omega,by
   by_cases h0:e21=0
   ·exact .inl h0
   ·right;rw[aU (by omega) (by omega)];omega⟩)
  refine fK e2 e3 e3' ?_;exact af
 have e3:decide (e11 > e21)=false:=au q3;have e3':decide (e21<e11)=false:=au q3;have ew:IntKind.u64.wrap (e21-e11)=e21-e11:=aU (by omega) (by omega);by_cases q4:1<e21-e11
 ·have e4:decide (e21-e11 > 1)=true:=ak q4;have e4':decide (1<e21-e11)=true:=ak q4;obtain rfl:=fail (.inr ⟨by omega,by right;rw[aU (by omega) (by omega)];omega⟩);refine eI e2 e3 e3' ew e4 e4' ?_;refine abX ?_;exact af
 have e4:decide (e21-e11 > 1)=false:=au q4;have e4':decide (1<e21-e11)=false:=au q4
 rw [if_neg (by
  rintro (h|⟨h1,h2⟩)
  ·exact h q2
  ·rcases h2 with h2|h2
   ·omega
   ·by_cases h0:e21=0
    ·omega
    ·rw[aU (by omega) (by omega)]at h2;omega)]at hR
 clear fail;refine eI e2 e3 e3' ew e4 e4' ?_;refine abW ?_;refine aC (c4) ?_;refine gon ?_;refine aC (c5) ?_;by_cases q5:I<0
 ·have e5:=ak q5;rw[if_pos (.inl q5)]at hR;subst hR;refine aE e5 ?_;exact af
 have e5:=au q5;by_cases q6:G<0
 ·have e6:=ak q6;rw[if_pos (.inr q6)]at hR;subst hR;refine cn e5 e6 ?_;exact af
 have e6:=au q6;rw[if_neg (fun h=>h.elim q5 q6)]at hR;have hg:(rows aP s.nodes).getD I.toNat []=aP (nod s.nodes I.toNat):=aM (f:=aP) jm (by omega);refine dD e5 e6 ?_;refine ap hg ?_;by_cases q7:a.slot<(nod s.nodes I.toNat).blk.slot
 ·have e7:decide ((nod s.nodes I.toNat).blk.slot > a.slot)=true:=ak q7;have e7':decide (a.slot<(nod s.nodes I.toNat).blk.slot)=true:=ak q7;rw[if_pos q7]at hR;subst hR;refine cn e7 e7' ?_;exact af
 have e7:decide ((nod s.nodes I.toNat).blk.slot > a.slot)=false:=au q7;have e7':decide (a.slot<(nod s.nodes I.toNat).blk.slot)=false:=au q7;rw[if_neg q7]at hR;refine dD e7 e7' ?_;rw[q2]at hR;generalize bD e11 s.cfg.spe=S at *;obtain⟨S1,S2⟩:=S;dsimp only at c6 hR;have c7:=c7 S1;generalize atT s.nodes I S1=T at *;refine gon ?_;refine acT c6 ?_;refine ai c7 ?_;by_cases q8:T=G
 case neg=>
  have e8:(T != G)=true:=by simp[q8]
  rw[if_pos q8]at hR;subst hR;refine aE e8 ?_;exact af
 have e8:(T != G)=false:=by simp[q8]
 rw[if_neg (by simp[q8])]at hR;subst hR;refine aQ e8 ?_;have e9:decide (a.slot ≥ s.now)=decide (s.now<=a.slot):=rfl;refine ap e9 ?_;exact af
theorem OU(s:am)(i:Nat)(h:bi s i)(a:aW)(ha:a.vals.length<=1000000):
 aI Tryz.prog 125 [.agg (aw { s.a with early:=.hs 67 0 0 s.early.length }),.agg (bZ a.a)] [.vec 67 (rows aW.c s.early)] (.tup [.bool (dB s a).1,.int .i64 (dB s a).2]) [.vec 67 (rows aW.c s.early)]:=by
 refine aI.lend rfl ?_;have ht:List.take s.early.length (rows aW.c s.early)=rows aW.c s.early:=List.take_of_length_le (by simp);(try simp only[go_sem,ht,List.length_cons,List.length_nil,List.range_succ,List.range_zero])
 exact BY s i h a ha
theorem FE(s:am)(i0:Nat)(h:bi s i0)(a:aW)(ha:a.vals.length<=1000000)(hj:∀j∈a.vals,0<=j/\j<s.latest.length):
 aI Tryz.prog 126 [.agg (aw s.a),.agg (bZ a.a)] [] (.agg (aw { (castIn s a).a with early:=.hs 67 0 0 s.early.length })) [.vec 67 (rows aW.c s.early)]:=by
 have c1:=kW s h.cp;unfold OO at c1;unfold castIn BI;generalize hep:a.target.ep=ep;generalize hl:a.vals=l at *;refine aI.fact 22 Ej (by simp) ?_ (by simp);unfold sc;refine bd ?_;refine gon ?_;refine bP [] (c1) evd (bx.mk' (by simp) evd) ?_;refine evg ?_;refine aO hep hl ?_
 refine ay (fun i:Nat=>[(21,.int .i64 i)]) (fun i=>[.var (aw s.a),.var (bZ a.a),.var (aw gY),.vec 1 (ax .u64 s.cfg.bals),.vec 34 (rows bM (aL (mD ep a.root l) (s.latest,0) i).1),.vec 1 (ax .i64 s.eqv),.vec 67 (rows aW.c s.early),.vec 238 (rows aA s.orph),.vec 240 (rows aP s.nodes),.vec 34 (rows aH.c s.tabs),.var (aw ⟨⟨s.cfg.lim,s.cfg.spe,s.cfg.boost,s.cfg.ttd,s.cfg.gen,.hs 1 3 0 s.cfg.bals.length⟩,.hs 34 4 0 s.latest.length,.hs 1 5 0 s.eqv.length,s.j,s.f,.hs 67 6 0 s.early.length,.hs 238 7 0 s.orph.length,.hs 240 8 0 s.nodes.length,s.now,s.boost,.hs 34 9 0 s.tabs.length⟩),.var (bM ⟨true,ep,a.root⟩)]) (fun i=>l.length-i) (fun i=>i<=l.length) 0 (Nat.zero_le _) ?_ ?_
 ·exact adk [] [0,1,2,3,4,5,6,7,8,9,10,11]
 intro i hi;refine dM ?_;by_cases h1:i<l.length
 ·have e1:=inT h1
  have hw:=ah h1 (by omega);have hgd:=gdn (k:=.i64) h1;have hm:l.getD i 0∈l:=by rw[List.getD_eq_getElem?_getD,List.getElem?_eq_getElem h1];exact List.getElem_mem h1
  obtain⟨j0,j1⟩:=hj _ hm;have hs:=bH (mD ep a.root l) (s.latest,0) i;have hlen:=nM ep a.root l s.latest i;generalize aL (mD ep a.root l) (s.latest,0) i=p at *;obtain⟨u,n⟩:=p;dsimp only at hlen;have h3:(l.getD i 0).toNat<u.length:=by omega
  have hgu:(rows bM u).getD (l.getD i 0).toNat []=bM (vot u (l.getD i 0).toNat):=aM (f:=bM) fg h3;have hc:mD ep a.root l i (u,n)=if (vot u (l.getD i 0).toNat).has=false\/(vot u (l.getD i 0).toNat).ep<ep then (u.set (l.getD i 0).toNat ⟨true,ep,a.root⟩,IntKind.i64.wrap (n+1))else (u,n):=rfl
  generalize hx:vot u (l.getD i 0).toNat=x at *;generalize l.getD i 0=j at *;have hset:(rows bM u).set j.toNat (bM ⟨true,ep,a.root⟩)=rows bM (u.set j.toNat ⟨true,ep,a.root⟩):=zj bM u j.toNat ⟨true,ep,a.root⟩;dsimp only;refine I4 e1 hgd hl hep ?_;obtain⟨xh,xe,xr⟩:=x;dsimp only at hc;cases xh with
  | false =>
    rw[if_pos (.inl rfl)]at hc;refine vX hgd hgu hlen ?_;refine eO hgd hgu hset hw hlen ?_;refine⟨i+1,h1,by omega,?_⟩;rw[hs,hc];exact adk [] [0,1,2,3,4,5,6,7,8,9,10,11]
  | true =>
    by_cases hx2:xe<ep
    ·have e2:=ak hx2;rw[if_pos (.inr hx2)]at hc;refine I4 hgd hgu e2 hlen ?_;refine eO hgd hgu hset hw hlen ?_;refine⟨i+1,h1,by omega,?_⟩;rw[hs,hc];exact adk [] [0,1,2,3,4,5,6,7,8,9,10,11]
    ·have e2:=au hx2;rw[if_neg (by simp[hx2])]at hc;refine BS hgd hgu e2 hlen ?_;refine ap hw ?_;refine⟨i+1,h1,by omega,?_⟩;rw[hs,hc];exact adk [] [0,1,2,3,4,5,6,7,8,9,10,11]
 ·obtain rfl:i=l.length:=by omega
  have e1:=inF (l.length);have hlen:=nM ep a.root l s.latest l.length;generalize (aL (mD ep a.root l) (s.latest,0) l.length).1=L at *;rw[<-hlen];refine aD e1 ?_;exact adb [3,4,5,7,8,9] [6]
theorem xy(s:am)(m:Nat)(h:bi s m):PC Tryz.prog 44 [.agg (aw s.a)] (.tup [.agg (aw (dH s).1.a),.int .i64 (dH s).2]):=by
 refine PC.fact 45 LR (by simp) puA puA ?_;unfold yw;refine bd ?_;unfold dH;have hsp:=h.cfg.s1;have hs4:=h.cfg.s4;have hge:decide (s.now ≥ 1099511627776)=decide ((1099511627776:Int)<=s.now):=rfl;by_cases q1:1099511627776<=s.now
 ·have e1:decide ((1099511627776:Int)<=s.now)=true:=ak q1;rw[if_pos q1];refine cn hge e1 ?_;exact gS (by first|rfl|exact evd) (by first|rfl|exact evd)
 have e1:decide ((1099511627776:Int)<=s.now)=false:=au q1;rw[if_neg q1];have hA:=h.tickA q1;have hB:=hA.tickB;have c0:=K1 s h.cp;have c1:=RI (tickA s) hA.r.bn;have up:U64 (jp (tickA s)).j.ep/\U64 (jp (tickA s)).f.ep:=L6 fun k hk=>hA.blk hk
 obtain⟨zz,cu⟩:=AH (tickA s) m hA (jp (tickA s)).j (jp (tickA s)).f up.1 up.2
 have c2:PC Tryz.prog 124 [.agg (aw (tickA s).a),.agg (cpC (jp (tickA s)).j),.agg (cpC (jp (tickA s)).f)] (.agg (aw (dl (tickA s) (jp (tickA s)).j (jp (tickA s)).f).a)):=by
  unfold rE at cu;refine cu.pc puA puA ?_;(try simp only[go_sem,Nat.reduceAdd,Nat.reduceSub,Nat.reduceMul,Nat.reduceLT,Nat.reduceLeDiff,Nat.reduceEqDiff,reduceIte,Int.reduceToNat,Int.reduceLT,Int.reduceLE,Int.reduceEq,Int.reduceNeg,reduceCtorEq,Int.reduceBEq,Int.reduceBNe])
  rfl
 clear cu;have c3:=XK (tickA s).now (tickA s).cfg.spe
 have hmod:IntKind.u64.wrap (Int.tmod (tickA s).now (tickA s).cfg.spe)=Int.tmod (tickA s).now (tickA s).cfg.spe:=by
  have hn:=hA.nw.1;have hsp':1<=(tickA s).cfg.spe:=hsp;rw[Int.tmod_eq_emod_of_nonneg hn.lo];have h1:=Int.emod_nonneg (tickA s).now (show (tickA s).cfg.spe≠0 by omega);have h2:=Int.emod_lt_of_pos (tickA s).now (show 0<(tickA s).cfg.spe by omega);have hs4':(tickA s).cfg.spe<=4:=hs4;exact aU h1 (by omega)
 have heb:mO (tickA s).cfg.spe=true:=by
  have hsp':1<=(tickA s).cfg.spe:=hsp;have hs4':(tickA s).cfg.spe<=4:=hs4;simp[mO];omega
 rw[heb,Bool.true_and]at c3;have hT1:Int.tmod (tickA s).now (tickA s).cfg.spe=0->tickB (tickA s)=dl (tickA s) (jp (tickA s)).j (jp (tickA s)).f:=fun hz=>by unfold tickB;rw[hmod,if_pos hz]
 have hT2:Int.tmod (tickA s).now (tickA s).cfg.spe≠0->tickB (tickA s)=tickA s:=fun hz=>by unfold tickB;rw[hmod,if_neg hz]
 show Tri _ _ _ _ (PQ _ (.tup [.agg (aw (dn (tickB (tickA s)) (tickB (tickA s)).early.length).a),.int .i64 0])) _ _
 generalize tickB (tickA s)=S2 at *;refine eC hge e1 ?_;refine acT c0 ?_;refine ai c3 ?_;refine uz (fun _=>[]) (fun _=>[.var (aw s.a),.var (aw gY),.var (aw S2.a)]) (fun hT=>?_) (fun hF=>?_) ?_
 ·rw[hT1 (by simpa using hT)];refine gon ?_;refine acT c1 ?_;refine acT c2 ?_;exact adk [] [0,1,2]
 ·rw[hT2 (by simpa using hF)];refine gon ?_;exact adk [] [0,1,2]
 clear hT1 hT2 hmod c1 c2 c0 c3;refine gon ?_;refine oe 2 113 67 ?_ (by rfl) (by exact wl _);simp only[go_sem,wm];have hK:∀k,k<=S2.early.length->bi (dn S2 k) m/\(dn S2 k).early.length<=k:=bi.tickR hB.av hB.aa hB
 have hz:dn S2 0=withE S2 []:=rfl;have haa:=hB.aa;refine ay (fun i:Nat=>[(44,.int .i64 i)]) (fun i=>[.var (aw s.a),.var (aw gY),.var (aw { (dn S2 i).a with early:=.hs 67 3 0 (dn S2 i).early.length }),.vec 67 (rows aW.c (dn S2 i).early)]) (fun i=>S2.early.length-i) (fun i=>i<=S2.early.length) 0 (Nat.zero_le _) ?_ ?_
 ·rw[hz];unfold withE;exact adk [] [0,1,2,3]
 intro i hk;obtain⟨hki,hkl⟩:=hK i hk;have hsk:=TH S2 i;refine dM ?_;by_cases h1:i<S2.early.length
 ·have e1:=inT h1
  have hw:=ah h1 (by omega);have hgd:(rows aW.c S2.early).getD i []=bZ (fk S2.early i).a:=aM (f:=aW.c) default h1;have hav:=hB.av _ (xV h1);have hc:tickR S2.early i (dn S2 i)=if (dn S2 i).now<=(fk S2.early i).slot then withE (dn S2 i) ((dn S2 i).early++[fk S2.early i])else if (dB (dn S2 i) (fk S2.early i)).2=0 then castIn (dn S2 i) (fk S2.early i)else dn S2 i:=rfl
  have c1:=OU (dn S2 i) m hki (fk S2.early i) (by omega);have c2:=FE (dn S2 i) m hki (fk S2.early i) (by omega)
  have hj:(dB (dn S2 i) (fk S2.early i)).2=0->∀j∈(fk S2.early i).vals,0<=j/\j<(dn S2 i).latest.length:=fun hq j hjm=>by
   have hv:dr (fk S2.early i).vals (dn S2 i).cfg.bals.length=0:=by
    unfold dB at hq;split at hq
    ·rename_i h1;exact absurd hq h1
    ·rename_i h1;simpa using h1
   obtain⟨u,hm,rfl⟩:=List.getElem_of_mem hjm;have:=(jw hv).2 u hm;rw[List.getD_eq_getElem?_getD,List.getElem?_eq_getElem hm,Option.getD_some]at this;have hll:=hki.ll;omega
  clear hK;have hcl:(castIn (dn S2 i) (fk S2.early i)).early=(dn S2 i).early:=rfl;rw[hc]at hsk;generalize hs:dn S2 i=s1 at *;generalize fk S2.early i=a at *;have hr:rows aW.c s1.early++[bZ a.a]=rows aW.c (s1.early++[a]):=da aW.c s1.early a;generalize hR:dB s1 a=R at *;obtain⟨R1,R2⟩:=R;dsimp only at c1 hsk hj;have hg2:decide (a.slot ≥ s1.now)=decide (s1.now<=a.slot):=rfl;refine bg e1 ?_;refine ap hgd ?_;by_cases q2:s1.now<=a.slot
  ·have e2:=ak q2;rw[if_pos q2]at hsk;refine im hg2 e2 ?_;refine cZ hgd hr hw ?_;refine⟨i+1,h1,by omega,?_⟩;rw[hsk];unfold withE;exact adk [] [0,1,2,5]
  ·have e2:=au q2
   rw[if_neg q2]at hsk;refine dD hg2 e2 ?_;refine ap hgd ?_;refine bP [3] (c1) evd (bx.mk' (by simp) evd) ?_;refine evg ?_;refine gon ?_;by_cases q3:R2=0
   ·rw[if_pos q3]at hsk;subst q3;have c3:=c2 (hj rfl);generalize hcs:castIn s1 a=s3 at *;refine kO ?_;have ht:List.take s1.early.length (rows aW.c s1.early)=rows aW.c s1.early:=List.take_of_length_le (by simp);refine Gp [3] ?_;simp only[evZ,E0];(try simp only[go_sem,Nat.reduceAdd,Nat.reduceSub,Nat.reduceMul,Nat.reduceLT,Nat.reduceLeDiff,Nat.reduceEqDiff,reduceIte,Int.reduceToNat,Int.reduceLT,Int.reduceLE,Int.reduceEq,Int.reduceNeg,reduceCtorEq,Int.reduceBEq,Int.reduceBNe,ht])
    refine gon ?_;refine bP [] (c3) evd (bx.mk' (by simp) evd) ?_;refine evg ?_;refine ap hw ?_;refine⟨i+1,h1,by omega,?_⟩;rw[hsk,hcl];exact adk [] [0,1,2,5]
   ·have e3:(R2==0)=false:=by simp[q3]
    rw[if_neg q3]at hsk;refine aQ e3 ?_;refine ap hw ?_;refine⟨i+1,h1,by omega,?_⟩;rw[hsk];exact adk [] [0,1,2,3]
 ·obtain rfl:i=S2.early.length:=by omega
  have e1:=inF (S2.early.length);generalize dn S2 S2.early.length=s1 at *;have ht:List.take s1.early.length (rows aW.c s1.early)=rows aW.c s1.early:=List.take_of_length_le (by simp);refine aD e1 ?_;refine⟨_,(by first|rfl|exact evd),.inl ?_⟩;exact nN ht
end Go.Proofs.YtnjdpnfglgcjcaaGreat
