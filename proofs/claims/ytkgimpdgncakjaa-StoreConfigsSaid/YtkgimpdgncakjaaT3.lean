/-
 My texts Qf, Qg, joined.
-/
import Derived.Test.YtkgimpdgncakjaaT2
import Derived.Test.YtkgimpdgncakjaaR1
import Derived.Test.YtkgimpdgncakjaaV7
namespace Go.FH
open Go Go.RowKit
set_option linter.unusedVariables false
set_option linter.unusedSimpArgs false
theorem ui_{e p now:Int}(he:0≤e)(hp:1≤p)(hp2:p≤64)(hn:0≤now)(hn2:now<18446744073709551616)(h:e≤IntKind.u64.wrap (Int.tdiv now p)):(bL_ e p).2=0:=by
 have hd:Int.tdiv now p=now / p:=Int.tdiv_eq_ediv_of_nonneg hn;have h0:0≤now / p:=Int.ediv_nonneg hn (by omega);have h1:now / p≤now:=Int.ediv_le_self _ hn;rw[hd,aW_ h0 (by omega)]at h;have hb:gX_ p=true:=by simp[gX_];omega
 unfold bL_;rw[if_pos hb];unfold vB_;have hd2:Int.tdiv 18446744073709551615 p=18446744073709551615 / p:=Int.tdiv_eq_ediv_of_nonneg (by decide);have hq0:0≤18446744073709551615 / p:=Int.ediv_nonneg (by decide) (by omega);have hq1:18446744073709551615 / p≤18446744073709551615:=Int.ediv_le_self _ (by decide);have hle:now / p≤18446744073709551615 / p:=Int.ediv_le_ediv (by omega) (by omega);rw[hd2,aW_ hq0 (by omega),if_neg (by omega)]
theorem vj_(o:Option Nat):o.isSome=decide (0≤mk_ o):=by
 cases o with
 |none=>rfl
 |some k=>rw[fs_];simp
end Go.FH
namespace Go.Proofs.Ytkgimpdgncakjaa
open Go Go.FH Go.RowKit
set_option linter.unusedVariables false
set_option linter.unusedSimpArgs false
set_option maxRecDepth 8000
set_option maxHeartbeats 4000000
theorem kZ_{s:ag_}(h1:1≤s.cfg.spe)(h2:s.cfg.spe≤64)(n:Int):(cM_ n s.cfg.spe).1=ce_ s n:=by
 unfold cM_ ce_;rw[if_pos (by simp[gX_];omega)]
theorem Cr_{s:ag_}(h1:1≤s.cfg.spe)(h2:s.cfg.spe≤64)(hn:U64 s.now){a b:Cp}(ha:U64 a.ep)(hb:U64 b.ep):tE_ s a b=rH_ s a b:=by
 unfold tE_ rH_;rw[kZ_ h1 h2,vj_];unfold kA_;by_cases hE:a.ep≤ce_ s s.now
 case neg=>rw[decide_eq_false hE];simp
 by_cases hB:b.ep≤a.ep
 case neg=>rw[decide_eq_false hB];simp
 have ka:(bL_ a.ep s.cfg.spe).2=0:=ui_ ha.1 h1 h2 hn.1 hn.2 hE;have kb:(bL_ b.ep s.cfg.spe).2=0:=ui_ hb.1 h1 h2 hn.1 hn.2 (Int.le_trans hB hE);unfold vb_ fR_ gh_;rw[ka,kb,decide_eq_true hE,decide_eq_true hB];generalize al_ s.nodes a.rt=I;generalize al_ s.nodes b.rt=K;generalize mk_ _=T;by_cases i1:I<0
 ·rw[decide_eq_false (show ¬0≤I by omega),if_pos (c:=I<0∨_) (.inl i1)];simp
 by_cases i2:K<0
 ·rw[if_pos (c:=K<0∨_) (.inl i2),decide_eq_false (show ¬0≤K by omega)];simp
 by_cases i3:(nod s.nodes I.toNat).status=2
 ·rw[if_pos (c:=I<0∨_) (.inr i3)];simp[i3]
 by_cases i4:(nod s.nodes K.toNat).status=2
 ·rw[if_pos (c:=K<0∨_) (.inr i4)];simp[i4]
 rw[if_neg (c:=I<0∨_) (fun h=>h.elim i1 i3),if_neg (c:=K<0∨_) (fun h=>h.elim i2 i4),decide_eq_true (show 0≤I by omega),decide_eq_true (show 0≤K by omega),decide_eq_true (p:=(nod s.nodes I.toNat).status≠2) i3,decide_eq_true (p:=(nod s.nodes K.toNat).status≠2) i4];simp only[decide_true,Bool.true_and,Bool.not_true,Bool.false_or,Bool.and_true];generalize decide ((nod s.nodes I.toNat).blk.slot≤_)=x;generalize decide ((nod s.nodes K.toNat).blk.slot≤_)=y;generalize dg_ s.nodes K I=z;generalize decide (0≤T)=t;cases x<;>cases y<;>cases z<;>cases t<;>rfl
theorem aH_.spe{s:ag_}{i:Nat}(h:aH_ s i):1≤s.cfg.spe∧s.cfg.spe≤64:=⟨h.cfg.s1,by have:=h.cfg.s4;omega⟩
theorem aH_.may{s:ag_}{i:Nat}(h:aH_ s i){a b:Cp}(ha:U64 a.ep)(hb:U64 b.ep):tE_ s a b=rH_ s a b:=Cr_ h.spe.1 h.spe.2 h.nw.1 ha hb
theorem aH_.cp{s:ag_}{i:Nat}(h:aH_ s i):CpR s:=by
 have r:=h.r;have h1:=h.tt;have h2:=h.aa;have h3:=h.cfg.b1;exact⟨r.bn,r.bl,r.be,by omega,r.bb,r.bo,by omega,fun a ha=>by have:=h.av a ha;omega,by omega⟩
theorem Ci_(l:List as_)(e:Int):cL_ (fun i=>decide ((tab l i).cp.ep<e)) l default l.length=cW_ l e:=by
 unfold cL_ cW_;refine hi_ fun k x hk=>?_
 unfold pj_ tab;by_cases h:(l.getD k default).cp.ep<e
 ·rw[if_pos (decide_eq_true h),if_neg (by omega)]
 ·rw[if_neg (by dsimp only;rw[decide_eq_false h];simp),if_pos (by omega)]
theorem Co_(l:List Blk)(a:Int):cL_ (fun i=>decide ((l.getD i eW_).slot≤a)) l eW_ l.length=bd_ (kE_ l a) [] l.length:=by
 unfold cL_;refine hi_ fun k x hk=>?_
 unfold pj_ kE_;by_cases h:(l.getD k eW_).slot≤a
 ·rw[if_pos (decide_eq_true h),if_neg (by omega)]
 ·rw[if_neg (by dsimp only;rw[decide_eq_false h];simp),if_pos (by omega)]
theorem ze_(x:as_)(c:Cp):ao_ Try.prog 53 [.agg (as_.c x),.ptr 0 0] [.var (cpC c)] (.bool (decide (x.cp.ep<c.ep))) [.var (cpC c)]:=by
 refine ao_.fact 4 gY_ (by simp) ?_ (by simp);unfold dT_;refine bd ?_;try refine aa_ ?_
 exact Gt_ [] [0]
theorem zf_(x:Blk)(a:Int):ao_ Try.prog 58 [.agg (aw_ x),.ptr 0 0] [.var [.int .u64 a]] (.bool (decide (x.slot≤a))) [.var [.int .u64 a]]:=by
 refine ao_.fact 4 gZ_ (by simp) ?_ (by simp);unfold dU_;refine bd ?_;try refine aa_ ?_
 exact Gt_ [] [0]
def tL_(s:ag_):Sto:=⟨s.cfg.a,.sl 34 false (rows aV_ s.latest),.sl 1 false (au_ .i64 s.eqv),s.j,s.f,.sl 67 false (rows aB_.c s.early),.hs 238 0 0 s.orph.length,.sl 240 false (rows av_ s.nodes),s.now,s.boost,.sl 34 false (rows as_.c s.tabs)⟩
theorem wi_{α:Type}(f:α→List AV)(l z:List α):List.take l.length (rows f (l++z))=rows f l:=by
 unfold rows;rw[List.map_append,List.take_append_of_le_length (by simp)];exact List.take_of_length_le (by simp)
attribute [go_sem] wi_ Nat.le_add_right
theorem uX_(l:List Blk)(fn:FuncId)(c:dF_)(p:Nat→Bool)(hl:l.length≤1000000)(hc:∀i,i<l.length→ao_ Try.prog fn [.agg (aw_ (l.getD i eW_)),.ptr 0 0] [.var c.cs] (.bool (p i)) [.var c.cs]):
 ∃z:List Blk,ao_ Try.prog 57 [.hs 238 1 0 l.length,.fn (.func fn) [.ptr 0 0]] [.var c.cs,.vec 238 (rows aw_ l)] (.hs 238 1 0 (cL_ p l eW_ l.length).length) [.var c.cs,.vec 238 (rows aw_ (cL_ p l eW_ l.length++z))]:=by
 obtain⟨z,k,hz,h⟩:=xH_ l eW_ fn c p hl hc;refine⟨List.replicate k eW_,?_⟩
 have:rows aw_ (cL_ p l eW_ l.length++List.replicate k eW_)=rows aw_ (cL_ p l eW_ l.length)++z.xs:=by
  rw[hz];unfold rows;rw[List.map_append,List.map_replicate]
 rw[this];exact h
theorem yq_(s:ag_)(i:Nat)(h:aH_ s i)(j f:Cp)(hj:U64 j.ep)(hf:U64 f.ep):
 ∃z:List Blk,ao_ Try.prog 29 [.agg (ak_ s.a),.agg (cpC j),.agg (cpC f)] [] (.agg (ak_ (tL_ (cN_ s j f)))) [.vec 238 (rows aw_ ((cN_ s j f).orph++z))]:=by
 have c1:=kX_ s h.cp;unfold Cx_ at c1;have c2:=vC_ s h.r j f h.uj h.uf hj hf;rw[h.may (gr_ h.uj hj) (gr_ h.uf hf)]at c2;have hm:=fun e:rH_ s (cA_ s.j j) (cA_ s.f f)=true=>wD_ e
 unfold cN_;have ha:=gr_ h.uj hj;have hb:=gr_ h.uf hf;generalize cA_ s.j j=a at *;generalize cA_ s.f f=b at *;cases hM:rH_ s a b with
 | false =>
   rw[hM]at c2;rw[if_pos rfl];refine⟨[],?_⟩;unfold tL_;rw[List.append_nil];refine ao_.fact 13 cX_ (by simp) ?_ (by simp);unfold ch_;refine bd ?_;try refine aa_ ?_
   refine bC_ [] (c1) evd (bf_.mk' (by simp) evd) ?_;refine evg ?_;try refine aa_ ?_
   refine FZ_ c2 ?_
   refine EB_ ?_
   exact Gt_ [4,5,6,7,9,10] [8]
 | true =>
   rw[hM]at c2;rw[if_neg (by simp)];obtain⟨k1,k2,k3⟩:=hm hM;obtain⟨zt,_,_,c3⟩:=xI_ s.tabs default 53 ⟨cpC a,cO_ a⟩ (fun i=>decide ((tab s.tabs i).cp.ep<a.ep)) (by have:=h.tt;omega) (fun i _=>ze_ _ a);rw[Ci_]at c3;by_cases hs:b=s.f
   ·rw[if_pos hs];refine⟨[],?_⟩;unfold tL_;rw[List.append_nil];refine ao_.fact 13 cX_ (by simp) ?_ (by simp);unfold ch_;refine bd ?_;have e2:decide (b=s.f)=true:=decide_eq_true hs;try refine aa_ ?_
    refine bC_ [] (c1) evd (bf_.mk' (by simp) evd) ?_;refine evg ?_;try refine aa_ ?_
    refine FZ_ c2 ?_
    refine EA_ ?_
    refine bC_ [12,10] (c3) evd (bf_.mk' (by simp) evd) ?_;refine evg ?_;repeat(first|refine aa_ ?_|simp only[go_sem,e2])
    refine EB_ ?_
    exact Gt_ [4,5,6,7,9,10] [8]
   ·rw[if_neg hs]
    have b2:=ic_ s.nodes b.rt;have hI:isN s.nodes (al_ s.nodes b.rt)=true:=he_.2 ⟨k2,b2.2⟩;have c6:=dJ_ s.nodes b.rt h.r.bn;have c7:=tR_ s.nodes h.tree (al_ s.nodes b.rt) h.r.bn hI;have hl1:(ef_ s.nodes (al_ s.nodes b.rt)).1.length≤s.nodes.length:=(iL_ s.nodes _ s.nodes.length).2;have c8:=dJ_ (ef_ s.nodes (al_ s.nodes b.rt)).1 s.boost (by have:=h.r.bn;omega);have c9:=eU_ (e:=b.ep) (p:=s.cfg.spe) hb.1 hb.2;obtain⟨zo,c10⟩:=uX_ s.orph 58 ⟨[.int .u64 (bL_ b.ep s.cfg.spe).1],by simp[PuL,Pu]⟩ (fun k=>decide ((s.orph.getD k eW_).slot≤(bL_ b.ep s.cfg.spe).1)) h.r.bo (fun k _=>zf_ _ _);rw[Co_]at c10;refine⟨zo,?_⟩;unfold tL_ fR_;generalize (ef_ s.nodes (al_ s.nodes b.rt)).2=P2 at *;generalize (ef_ s.nodes (al_ s.nodes b.rt)).1=P1 at *;generalize al_ s.nodes b.rt=I at *;generalize al_ P1 s.boost=B at *;dsimp only at c10 ⊢;generalize bd_ (kE_ s.orph (bL_ b.ep s.cfg.spe).1) [] s.orph.length=O at *;generalize bL_ b.ep s.cfg.spe=S at *;obtain⟨S1,S2⟩:=S;dsimp only at c9 c10 ⊢;refine ao_.fact 13 cX_ (by simp) ?_ (by simp);unfold ch_;refine bd ?_;have e2:decide (b=s.f)=false:=decide_eq_false hs;try refine aa_ ?_
    refine bC_ [] (c1) evd (bf_.mk' (by simp) evd) ?_;refine evg ?_;try refine aa_ ?_
    refine FZ_ c2 ?_
    refine EA_ ?_
    refine bC_ [12,10] (c3) evd (bf_.mk' (by simp) evd) ?_;refine evg ?_;repeat(first|refine aa_ ?_|simp only[go_sem,e2])
    refine EA_ ?_
    refine co_ (c6) ?_;try refine aa_ ?_
    refine co_ (c7) ?_;try refine aa_ ?_
    refine aA_ c8 ?_;by_cases q:B<0
    ·have e3:decide (B<0)=true:=decide_eq_true q;rw[if_pos q];repeat(first|refine aa_ ?_|simp only[go_sem,e3])
     refine EB_ ?_
     refine FZ_ c9 ?_
     refine bC_ [16,8] (c10) evd (bf_.mk' (by simp) evd) ?_;refine evg ?_;try refine aa_ ?_
     exact Gt_ [4,5,6,7,10] [8]
    ·have e3:decide (B<0)=false:=decide_eq_false q;rw[if_neg q];repeat(first|refine aa_ ?_|simp only[go_sem,e3])
     refine EA_ ?_
     refine FZ_ c9 ?_
     refine bC_ [16,8] (c10) evd (bf_.mk' (by simp) evd) ?_;refine evg ?_;try refine aa_ ?_
     exact Gt_ [4,5,6,7,10] [8]
end Go.Proofs.Ytkgimpdgncakjaa
namespace Go.Proofs.Ytkgimpdgncakjaa
open Go Go.FH Go.RowKit
set_option linter.unusedVariables false
set_option linter.unusedSimpArgs false
set_option maxRecDepth 8000
set_option maxHeartbeats 4000000
theorem wt_(s:ag_)(h:CpR s):PC Try.prog 14 [.agg (ak_ s.a)] (.agg (ak_ s.a)):=by
 have c:=kX_ s h;unfold Cx_ at c;refine c.pc puA puA ?_;(try simp only[go_sem,Nat.reduceAdd,Nat.reduceSub,Nat.reduceMul,Nat.reduceLT,Nat.reduceLeDiff,Nat.reduceEqDiff,reduceIte,Int.reduceToNat,Int.reduceLT,Int.reduceLE,Int.reduceEq,Int.reduceNeg,reduceCtorEq,Int.reduceBEq,Int.reduceBNe])
 rfl
theorem tP_(s:ag_)(i:Nat)(h:aH_ s i)(a:aB_)(ha:a.vals.length≤1000000):PC Try.prog 30 [.agg (ak_ s.a),.agg (bg_ a.a)] (.tup [.bool (dm_ s a).1,.int .i64 (dm_ s a).2]):=by
 refine PC.fact 15 lZ_ (by simp) puA puA ?_;unfold hj_;refine bd ?_;obtain⟨R,hR⟩:∃R,R=dm_ s a:=⟨_,rfl⟩
 rw[←hR];unfold dm_ at hR;have c1:=kd_ a.vals false s.cfg.bals.length (by omega);have c2:=iD_ a.slot s.cfg.spe;have c3:=iD_ s.now s.cfg.spe;have f2:=kZ_ h.spe.1 h.spe.2 a.slot;have f3:=kZ_ h.spe.1 h.spe.2 s.now;have c4:=dJ_ s.nodes a.root h.r.bn;have c5:=dJ_ s.nodes a.target.rt h.r.bn;have b4:=ic_ s.nodes a.root;have uS:U64 (ce_ s a.slot):=by unfold ce_;exact gM_ _
 have uN:U64 (ce_ s s.now):=by unfold ce_;exact gM_ _
 have c6:=eU_ (e:=ce_ s a.slot) (p:=s.cfg.spe) uS.1 uS.2;have c7:=fun st=>AL_ s.nodes h.tree h.r.bn (al_ s.nodes a.root) st
 unfold fR_ at hR;generalize al_ s.nodes a.root=I at *;generalize al_ s.nodes a.target.rt=G at *;generalize fV_ a.vals s.cfg.bals.length=V at *;generalize cM_ a.slot s.cfg.spe=E1 at *;generalize cM_ s.now s.cfg.spe=E2 at *;obtain⟨e11,e12⟩:=E1;obtain⟨e21,e22⟩:=E2;dsimp only at f2 f3 c2 c3;generalize ce_ s a.slot=W at *;generalize ce_ s s.now=M at *;subst f2 f3;try refine aa_ ?_
 refine aA_ c1 ?_;by_cases q1:V=0
 case neg=>
  have e1:(V != 0)=true:=by simp[q1]
  rw[if_pos q1]at hR;subst hR;repeat(first|refine aa_ ?_|simp only[go_sem,e1])
  refine EB_ ?_
  exact am_
 have e1:(V != 0)=false:=by simp[q1]
 rw[if_neg (by simp[q1])]at hR;subst q1;repeat(first|refine aa_ ?_|simp only[go_sem,e1])
 refine EA_ ?_
 refine FZ_ c2 ?_
 refine aA_ c3 ?_;have uS0:=uS.1;have uS1:=uS.2;have uN0:=uN.1;have uN1:=uN.2;have fail:(a.target.ep≠e11∨(a.target.ep≠e21∧(e21=0∨a.target.ep≠IntKind.u64.wrap (e21-1))))→R=(false,18):=fun hq=>by rw[hR,if_pos hq]
 by_cases q2:a.target.ep=e11
 case neg=>
  have e2:(a.target.ep != e11)=true:=by simp[q2]
  obtain rfl:=fail (.inl q2);repeat(first|refine aa_ ?_|simp only[go_sem,e2])
  refine EB_ ?_
  exact am_
 have e2:(a.target.ep != e11)=false:=by simp[q2]
 by_cases q3:e21<e11
 ·have e3:decide (e11 > e21)=true:=decide_eq_true q3
  have e3':decide (e21<e11)=true:=decide_eq_true q3
  obtain rfl:=fail (.inr ⟨by omega,by
   by_cases h0:e21=0
   ·exact .inl h0
   ·right;rw[aW_ (by omega) (by omega)];omega⟩)
  repeat(first|refine aa_ ?_|simp only[go_sem,e2,e3,e3'])
  refine EB_ ?_
  exact am_
 have e3:decide (e11 > e21)=false:=decide_eq_false q3;have e3':decide (e21<e11)=false:=decide_eq_false q3;have ew:IntKind.u64.wrap (e21-e11)=e21-e11:=aW_ (by omega) (by omega);by_cases q4:1<e21-e11
 ·have e4:decide (e21-e11 > 1)=true:=decide_eq_true q4;have e4':decide (1<e21-e11)=true:=decide_eq_true q4;obtain rfl:=fail (.inr ⟨by omega,by right;rw[aW_ (by omega) (by omega)];omega⟩);repeat(first|refine aa_ ?_|simp only[go_sem,e2,e3,e3',ew,e4,e4'])
  refine EB_ ?_
  exact am_
 have e4:decide (e21-e11 > 1)=false:=decide_eq_false q4;have e4':decide (1<e21-e11)=false:=decide_eq_false q4
 rw [if_neg (by
  rintro (h|⟨h1,h2⟩)
  ·exact h q2
  ·rcases h2 with h2|h2
   ·omega
   ·by_cases h0:e21=0
    ·omega
    ·rw[aW_ (by omega) (by omega)]at h2;omega)]at hR
 clear fail;repeat(first|refine aa_ ?_|simp only[go_sem,e2,e3,e3',ew,e4,e4'])
 refine EA_ ?_
 refine co_ (c4) ?_;try refine aa_ ?_
 refine co_ (c5) ?_;by_cases q5:I<0
 ·have e5:decide (I<0)=true:=decide_eq_true q5;rw[if_pos (.inl q5)]at hR;subst hR;repeat(first|refine aa_ ?_|simp only[go_sem,e5])
  refine EB_ ?_
  exact am_
 have e5:decide (I<0)=false:=decide_eq_false q5;by_cases q6:G<0
 ·have e6:decide (G<0)=true:=decide_eq_true q6;rw[if_pos (.inr q6)]at hR;subst hR;repeat(first|refine aa_ ?_|simp only[go_sem,e5,e6])
  refine EB_ ?_
  exact am_
 have e6:decide (G<0)=false:=decide_eq_false q6;rw[if_neg (fun h=>h.elim q5 q6)]at hR;have hg:(rows av_ s.nodes).getD I.toNat []=av_ (nod s.nodes I.toNat):=aR_ (f:=av_) fX_ (by omega);repeat(first|refine aa_ ?_|simp only[go_sem,e5,e6])
 refine ac_ ?_;repeat(first|refine aa_ ?_|simp only[go_sem,hg])
 by_cases q7:a.slot<(nod s.nodes I.toNat).blk.slot
 ·have e7:decide ((nod s.nodes I.toNat).blk.slot > a.slot)=true:=decide_eq_true q7;have e7':decide (a.slot<(nod s.nodes I.toNat).blk.slot)=true:=decide_eq_true q7;rw[if_pos q7]at hR;subst hR;repeat(first|refine aa_ ?_|simp only[go_sem,e7,e7'])
  refine EB_ ?_
  exact am_
 have e7:decide ((nod s.nodes I.toNat).blk.slot > a.slot)=false:=decide_eq_false q7;have e7':decide (a.slot<(nod s.nodes I.toNat).blk.slot)=false:=decide_eq_false q7;rw[if_neg q7]at hR;repeat(first|refine aa_ ?_|simp only[go_sem,e7,e7'])
 refine ac_ ?_;rw[q2]at hR;generalize bL_ e11 s.cfg.spe=S at *;obtain⟨S1,S2⟩:=S;dsimp only at c6 hR;have c7:=c7 S1;generalize atT s.nodes I S1=T at *;try refine aa_ ?_
 refine FZ_ c6 ?_
 refine aA_ c7 ?_;by_cases q8:T=G
 case neg=>
  have e8:(T != G)=true:=by simp[q8]
  rw[if_pos q8]at hR;subst hR;repeat(first|refine aa_ ?_|simp only[go_sem,e8])
  refine EB_ ?_
  exact am_
 have e8:(T != G)=false:=by simp[q8]
 rw[if_neg (by simp[q8])]at hR;subst hR;repeat(first|refine aa_ ?_|simp only[go_sem,e8])
 refine ac_ ?_;have e9:decide (a.slot ≥ s.now)=decide (s.now≤a.slot):=rfl;repeat(first|refine aa_ ?_|simp only[go_sem,e9])
 exact am_
theorem tO_(s:ag_)(i:Nat)(h:aH_ s i)(a:aB_)(ha:a.vals.length≤1000000):
 ao_ Try.prog 30 [.agg (ak_ { s.a with early:=.hs 67 0 0 s.early.length }),.agg (bg_ a.a)] [.vec 67 (rows aB_.c s.early)] (.tup [.bool (dm_ s a).1,.int .i64 (dm_ s a).2]) [.vec 67 (rows aB_.c s.early)]:=by
 refine ao_.lend rfl ?_;have ht:List.take s.early.length (rows aB_.c s.early)=rows aB_.c s.early:=List.take_of_length_le (by simp);(try simp only[go_sem,ht,List.length_cons,List.length_nil,List.range_succ,List.range_zero])
 exact tP_ s i h a ha
theorem vD_(s:ag_)(i0:Nat)(h:aH_ s i0)(a:aB_)(ha:a.vals.length≤1000000)(hj:∀j∈a.vals,0≤j∧j<s.latest.length):
 ao_ Try.prog 31 [.agg (ak_ s.a),.agg (bg_ a.a)] [] (.agg (ak_ { (castIn s a).a with early:=.hs 67 0 0 s.early.length })) [.vec 67 (rows aB_.c s.early)]:=by
 have c1:=kX_ s h.cp;unfold Cx_ at c1;unfold castIn Dz_;generalize hep:a.target.ep=ep;generalize hl:a.vals=l at *;refine ao_.fact 22 ng_ (by simp) ?_ (by simp);unfold hI_;refine bd ?_;try refine aa_ ?_
 refine bC_ [] (c1) evd (bf_.mk' (by simp) evd) ?_;refine evg ?_;repeat(first|refine aa_ ?_|simp only[go_sem,hep,hl])
 refine aE_ (fun i:Nat=>[(21,.int .i64 i)]) (fun i=>[.var (ak_ s.a),.var (bg_ a.a),.var (ak_ kQ_),.vec 1 (au_ .u64 s.cfg.bals),.vec 34 (rows aV_ (bd_ (kq_ ep a.root l) (s.latest,0) i).1),.vec 1 (au_ .i64 s.eqv),.vec 67 (rows aB_.c s.early),.vec 238 (rows aw_ s.orph),.vec 240 (rows av_ s.nodes),.vec 34 (rows as_.c s.tabs),.var (ak_ ⟨⟨s.cfg.lim,s.cfg.spe,s.cfg.boost,s.cfg.ttd,s.cfg.gen,.hs 1 3 0 s.cfg.bals.length⟩,.hs 34 4 0 s.latest.length,.hs 1 5 0 s.eqv.length,s.j,s.f,.hs 67 6 0 s.early.length,.hs 238 7 0 s.orph.length,.hs 240 8 0 s.nodes.length,s.now,s.boost,.hs 34 9 0 s.tabs.length⟩),.var (aV_ ⟨true,ep,a.root⟩)]) (fun i=>l.length-i) (fun i=>i≤l.length) 0 (Nat.zero_le _) ?_ ?_
 ·exact GH_ [] [0,1,2,3,4,5,6,7,8,9,10,11]
 intro i hi;refine eP_ ?_;by_cases h1:i<l.length
 ·have e1:=inT h1
  have hw:=ai_ h1 (by omega);have hgd:=gdn (k:=.i64) h1;have hm:l.getD i 0∈l:=by rw[List.getD_eq_getElem?_getD,List.getElem?_eq_getElem h1];exact List.getElem_mem h1
  obtain⟨j0,j1⟩:=hj _ hm;have hs:=dq_ (kq_ ep a.root l) (s.latest,0) i;have hlen:=kr_ ep a.root l s.latest i;generalize bd_ (kq_ ep a.root l) (s.latest,0) i=p at *;obtain⟨u,n⟩:=p;dsimp only at hlen;have h3:(l.getD i 0).toNat<u.length:=by omega
  have hgu:(rows aV_ u).getD (l.getD i 0).toNat []=aV_ (vot u (l.getD i 0).toNat):=aR_ (f:=aV_) eu_ h3;have hc:kq_ ep a.root l i (u,n)=if (vot u (l.getD i 0).toNat).has=false∨(vot u (l.getD i 0).toNat).ep<ep then (u.set (l.getD i 0).toNat ⟨true,ep,a.root⟩,IntKind.i64.wrap (n+1))else (u,n):=rfl
  generalize hx:vot u (l.getD i 0).toNat=x at *;generalize l.getD i 0=j at *;have hset:(rows aV_ u).set j.toNat (aV_ ⟨true,ep,a.root⟩)=rows aV_ (u.set j.toNat ⟨true,ep,a.root⟩):=AX_ aV_ u j.toNat ⟨true,ep,a.root⟩;dsimp only;repeat(first|refine aa_ ?_|simp only[go_sem,e1,hgd,hl,hep])
  refine ab_ ?_;obtain⟨xh,xe,xr⟩:=x;dsimp only at hc;cases xh with
  | false =>
    rw[if_pos (.inl rfl)]at hc;repeat(first|refine aa_ ?_|simp only[go_sem,hgd,hgu,hlen])
    refine ab_ ?_;repeat(first|refine aa_ ?_|simp only[go_sem,hgd,hgu,hset,hw,hlen])
    refine⟨i+1,h1,by omega,?_⟩;rw[hs,hc];exact GH_ [] [0,1,2,3,4,5,6,7,8,9,10,11]
  | true =>
    by_cases hx2:xe<ep
    ·have e2:decide (xe<ep)=true:=decide_eq_true hx2;rw[if_pos (.inr hx2)]at hc;repeat(first|refine aa_ ?_|simp only[go_sem,hgd,hgu,e2,hlen])
     refine ab_ ?_;repeat(first|refine aa_ ?_|simp only[go_sem,hgd,hgu,hset,hw,hlen])
     refine⟨i+1,h1,by omega,?_⟩;rw[hs,hc];exact GH_ [] [0,1,2,3,4,5,6,7,8,9,10,11]
    ·have e2:decide (xe<ep)=false:=decide_eq_false hx2;rw[if_neg (by simp[hx2])]at hc;repeat(first|refine aa_ ?_|simp only[go_sem,hgd,hgu,e2,hlen])
     refine ac_ ?_;repeat(first|refine aa_ ?_|simp only[go_sem,hw])
     refine⟨i+1,h1,by omega,?_⟩;rw[hs,hc];exact GH_ [] [0,1,2,3,4,5,6,7,8,9,10,11]
 ·obtain rfl:i=l.length:=by omega
  have e1:=inF (l.length);have hlen:=kr_ ep a.root l s.latest l.length;generalize (bd_ (kq_ ep a.root l) (s.latest,0) l.length).1=L at *;rw[←hlen];repeat(first|refine aa_ ?_|simp only[go_sem,e1])
  refine EA_ ?_
  exact Gt_ [3,4,5,7,8,9] [6]
theorem vM_(s:ag_)(m:Nat)(h:aH_ s m):PC Try.prog 10 [.agg (ak_ s.a)] (.tup [.agg (ak_ (fT_ s).1.a),.int .i64 (fT_ s).2]):=by
 refine PC.fact 45 rC_ (by simp) puA puA ?_;unfold kn_;refine bd ?_;unfold fT_;have hsp:=h.cfg.s1;have hs4:=h.cfg.s4;have hge:decide (s.now ≥ 1099511627776)=decide ((1099511627776:Int)≤s.now):=rfl;by_cases q1:1099511627776≤s.now
 ·have e1:decide ((1099511627776:Int)≤s.now)=true:=decide_eq_true q1;rw[if_pos q1];repeat(first|refine aa_ ?_|simp only[go_sem,hge,e1])
  refine EB_ ?_
  exact AQ_ (by first|rfl|exact evd) (by first|rfl|exact evd)
 have e1:decide ((1099511627776:Int)≤s.now)=false:=decide_eq_false q1;rw[if_neg q1];have hA:=h.tickA q1;have hB:=hA.tickB;have c0:=wt_ s h.cp;have c1:=vH_ (tickA s) hA.r.bn;have up:U64 (fd_ (tickA s)).j.ep∧U64 (fd_ (tickA s)).f.ep:=wJ_ fun k hk=>hA.blk hk
 obtain⟨zz,cu⟩:=yq_ (tickA s) m hA (fd_ (tickA s)).j (fd_ (tickA s)).f up.1 up.2
 have c2:PC Try.prog 29 [.agg (ak_ (tickA s).a),.agg (cpC (fd_ (tickA s)).j),.agg (cpC (fd_ (tickA s)).f)] (.agg (ak_ (cN_ (tickA s) (fd_ (tickA s)).j (fd_ (tickA s)).f).a)):=by
  unfold tL_ at cu;refine cu.pc puA puA ?_;(try simp only[go_sem,Nat.reduceAdd,Nat.reduceSub,Nat.reduceMul,Nat.reduceLT,Nat.reduceLeDiff,Nat.reduceEqDiff,reduceIte,Int.reduceToNat,Int.reduceLT,Int.reduceLE,Int.reduceEq,Int.reduceNeg,reduceCtorEq,Int.reduceBEq,Int.reduceBNe])
  rfl
 clear cu;have c3:=Ar_ (tickA s).now (tickA s).cfg.spe
 have hmod:IntKind.u64.wrap (Int.tmod (tickA s).now (tickA s).cfg.spe)=Int.tmod (tickA s).now (tickA s).cfg.spe:=by
  have hn:=hA.nw.1;have hsp':1≤(tickA s).cfg.spe:=hsp;rw[Int.tmod_eq_emod_of_nonneg hn.lo];have h1:=Int.emod_nonneg (tickA s).now (show (tickA s).cfg.spe≠0 by omega);have h2:=Int.emod_lt_of_pos (tickA s).now (show 0<(tickA s).cfg.spe by omega);have hs4':(tickA s).cfg.spe≤4:=hs4;exact aW_ h1 (by omega)
 have heb:gX_ (tickA s).cfg.spe=true:=by
  have hsp':1≤(tickA s).cfg.spe:=hsp;have hs4':(tickA s).cfg.spe≤4:=hs4;simp[gX_];omega
 rw[heb,Bool.true_and]at c3;have hT1:Int.tmod (tickA s).now (tickA s).cfg.spe=0→tickB (tickA s)=cN_ (tickA s) (fd_ (tickA s)).j (fd_ (tickA s)).f:=fun hz=>by unfold tickB;rw[hmod,if_pos hz]
 have hT2:Int.tmod (tickA s).now (tickA s).cfg.spe≠0→tickB (tickA s)=tickA s:=fun hz=>by unfold tickB;rw[hmod,if_neg hz]
 show Tri _ _ _ _ (PQ _ (.tup [.agg (ak_ (cG_ (tickB (tickA s)) (tickB (tickA s)).early.length).a),.int .i64 0])) _ _
 generalize tickB (tickA s)=S2 at *;repeat(first|refine aa_ ?_|simp only[go_sem,hge,e1])
 refine EA_ ?_
 refine FZ_ c0 ?_
 refine aA_ c3 ?_;refine yZ_ (fun _=>[]) (fun _=>[.var (ak_ s.a),.var (ak_ kQ_),.var (ak_ S2.a)]) (fun hT=>?_) (fun hF=>?_) ?_
 ·rw[hT1 (by simpa using hT)];try refine aa_ ?_
  refine FZ_ c1 ?_
  refine FZ_ c2 ?_
  exact GH_ [] [0,1,2]
 ·rw[hT2 (by simpa using hF)];try refine aa_ ?_
  exact GH_ [] [0,1,2]
 clear hT1 hT2 hmod c1 c2 c0 c3;try refine aa_ ?_
 refine oz_ 2 113 67 ?_ (by rfl) (by exact pT_ _);simp only[go_sem,pU_];have hK:∀k,k≤S2.early.length→aH_ (cG_ S2 k) m∧(cG_ S2 k).early.length≤k:=aH_.tickR hB.av hB.aa hB
 have hz:cG_ S2 0=withE S2 []:=rfl;have haa:=hB.aa;refine aE_ (fun i:Nat=>[(44,.int .i64 i)]) (fun i=>[.var (ak_ s.a),.var (ak_ kQ_),.var (ak_ { (cG_ S2 i).a with early:=.hs 67 3 0 (cG_ S2 i).early.length }),.vec 67 (rows aB_.c (cG_ S2 i).early)]) (fun i=>S2.early.length-i) (fun i=>i≤S2.early.length) 0 (Nat.zero_le _) ?_ ?_
 ·rw[hz];unfold withE;exact GH_ [] [0,1,2,3]
 intro i hk;obtain⟨hki,hkl⟩:=hK i hk;have hsk:=Do_ S2 i;refine eP_ ?_;by_cases h1:i<S2.early.length
 ·have e1:=inT h1
  have hw:=ai_ h1 (by omega);have hgd:(rows aB_.c S2.early).getD i []=bg_ (dG_ S2.early i).a:=aR_ (f:=aB_.c) default h1;have hav:=hB.av _ (sN_ h1);have hc:tickR S2.early i (cG_ S2 i)=if (cG_ S2 i).now≤(dG_ S2.early i).slot then withE (cG_ S2 i) ((cG_ S2 i).early++[dG_ S2.early i])else if (dm_ (cG_ S2 i) (dG_ S2.early i)).2=0 then castIn (cG_ S2 i) (dG_ S2.early i)else cG_ S2 i:=rfl
  have c1:=tO_ (cG_ S2 i) m hki (dG_ S2.early i) (by omega);have c2:=vD_ (cG_ S2 i) m hki (dG_ S2.early i) (by omega)
  have hj:(dm_ (cG_ S2 i) (dG_ S2.early i)).2=0→∀j∈(dG_ S2.early i).vals,0≤j∧j<(cG_ S2 i).latest.length:=fun hq j hjm=>by
   have hv:fV_ (dG_ S2.early i).vals (cG_ S2 i).cfg.bals.length=0:=by
    unfold dm_ at hq;split at hq
    ·rename_i h1;exact absurd hq h1
    ·rename_i h1;simpa using h1
   obtain⟨u,hm,rfl⟩:=List.getElem_of_mem hjm;have:=(Du_ hv).2 u hm;rw[List.getD_eq_getElem?_getD,List.getElem?_eq_getElem hm,Option.getD_some]at this;have hll:=hki.ll;omega
  clear hK;have hcl:(castIn (cG_ S2 i) (dG_ S2.early i)).early=(cG_ S2 i).early:=rfl;rw[hc]at hsk;generalize hs:cG_ S2 i=s1 at *;generalize dG_ S2.early i=a at *;have hr:rows aB_.c s1.early++[bg_ a.a]=rows aB_.c (s1.early++[a]):=lw_ aB_.c s1.early a;generalize hR:dm_ s1 a=R at *;obtain⟨R1,R2⟩:=R;dsimp only at c1 hsk hj;have hg2:decide (a.slot ≥ s1.now)=decide (s1.now≤a.slot):=rfl;repeat(first|refine aa_ ?_|simp only[go_sem,e1])
  refine ab_ ?_;repeat(first|refine aa_ ?_|simp only[go_sem,hgd])
  by_cases q2:s1.now≤a.slot
  ·have e2:decide (s1.now≤a.slot)=true:=decide_eq_true q2;rw[if_pos q2]at hsk;repeat(first|refine aa_ ?_|simp only[go_sem,hg2,e2])
   refine ab_ ?_;repeat(first|refine aa_ ?_|simp only[go_sem,hgd,hr,hw])
   refine⟨i+1,h1,by omega,?_⟩;rw[hsk];unfold withE;exact GH_ [] [0,1,2,5]
  ·have e2:decide (s1.now≤a.slot)=false:=decide_eq_false q2
   rw[if_neg q2]at hsk;repeat(first|refine aa_ ?_|simp only[go_sem,hg2,e2])
   refine ac_ ?_;repeat(first|refine aa_ ?_|simp only[go_sem,hgd])
   refine bC_ [3] (c1) evd (bf_.mk' (by simp) evd) ?_;refine evg ?_;try refine aa_ ?_
   by_cases q3:R2=0
   ·rw[if_pos q3]at hsk;subst q3;have c3:=c2 (hj rfl);generalize hcs:castIn s1 a=s3 at *;try refine aa_ ?_
    refine ab_ ?_;have ht:List.take s1.early.length (rows aB_.c s1.early)=rows aB_.c s1.early:=List.take_of_length_le (by simp);refine BC_ [3] ?_;simp only[evZ,tw_];(try simp only[go_sem,Nat.reduceAdd,Nat.reduceSub,Nat.reduceMul,Nat.reduceLT,Nat.reduceLeDiff,Nat.reduceEqDiff,reduceIte,Int.reduceToNat,Int.reduceLT,Int.reduceLE,Int.reduceEq,Int.reduceNeg,reduceCtorEq,Int.reduceBEq,Int.reduceBNe,ht])
    try refine aa_ ?_
    refine bC_ [] (c3) evd (bf_.mk' (by simp) evd) ?_;refine evg ?_;repeat(first|refine aa_ ?_|simp only[go_sem,hw])
    refine⟨i+1,h1,by omega,?_⟩;rw[hsk,hcl];exact GH_ [] [0,1,2,5]
   ·have e3:(R2==0)=false:=by simp[q3]
    rw[if_neg q3]at hsk;repeat(first|refine aa_ ?_|simp only[go_sem,e3])
    refine ac_ ?_;repeat(first|refine aa_ ?_|simp only[go_sem,hw])
    refine⟨i+1,h1,by omega,?_⟩;rw[hsk];exact GH_ [] [0,1,2,3]
 ·obtain rfl:i=S2.early.length:=by omega
  have e1:=inF (S2.early.length);generalize cG_ S2 S2.early.length=s1 at *;have ht:List.take s1.early.length (rows aB_.c s1.early)=rows aB_.c s1.early:=List.take_of_length_le (by simp);repeat(first|refine aa_ ?_|simp only[go_sem,e1])
  refine EA_ ?_
  refine⟨_,(by first|rfl|exact evd),.inl ?_⟩;(try simp only[go_sem,Nat.reduceAdd,Nat.reduceSub,Nat.reduceMul,Nat.reduceLT,Nat.reduceLeDiff,Nat.reduceEqDiff,reduceIte,Int.reduceToNat,Int.reduceLT,Int.reduceLE,Int.reduceEq,Int.reduceNeg,reduceCtorEq,Int.reduceBEq,Int.reduceBNe,ht])
  rfl
end Go.Proofs.Ytkgimpdgncakjaa
