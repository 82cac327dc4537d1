/-
 My texts Qf, Qg, joined.
-/
import Derived.Test.YtkgimpdgncakjaaGreatT2
import Derived.Test.YtkgimpdgncakjaaGreatR1
import Derived.Test.YtkgimpdgncakjaaGreatV7
namespace Go.FH
open Go Go.RowKit
set_option linter.unusedVariables false
set_option linter.unusedSimpArgs false
theorem rd_{e p now:Int}(he:0≤e)(hp:1≤p)(hp2:p≤64)(hn:0≤now)(hn2:now<18446744073709551616)(h:e≤IntKind.u64.wrap (Int.tdiv now p)):(bx_ e p).2=0:=by
 have hd:Int.tdiv now p=now / p:=Int.tdiv_eq_ediv_of_nonneg hn;have h0:0≤now / p:=Int.ediv_nonneg hn (by omega);have h1:now / p≤now:=Int.ediv_le_self _ hn;rw[hd,aF_ h0 (by omega)]at h;have hb:iX_ p=true:=by simp[iX_];omega
 unfold bx_;rw[if_pos hb];unfold vT_;have hd2:Int.tdiv 18446744073709551615 p=18446744073709551615 / p:=Int.tdiv_eq_ediv_of_nonneg (by decide);have hq0:0≤18446744073709551615 / p:=Int.ediv_nonneg (by decide) (by omega);have hq1:18446744073709551615 / p≤18446744073709551615:=Int.ediv_le_self _ (by decide);have hle:now / p≤18446744073709551615 / p:=Int.ediv_le_ediv (by omega) (by omega);rw[hd2,aF_ hq0 (by omega),if_neg (by omega)]
theorem Gr_(o:Option Nat):o.isSome=decide (0≤lH_ o):=by
 cases o with
 |none=>rfl
 |some k=>rw[ie_];simp
end Go.FH
namespace Go.Proofs.YtkgimpdgncakjaaGreat
open Go Go.FH Go.RowKit
set_option linter.unusedVariables false
set_option linter.unusedSimpArgs false
set_option maxRecDepth 8000
set_option maxHeartbeats 4000000
theorem id_{s:ai_}(h1:1≤s.cfg.spe)(h2:s.cfg.spe≤64)(n:Int):(dE_ n s.cfg.spe).1=aU_ s n:=by
 unfold dE_ aU_;rw[if_pos (by simp[iX_];omega)]
theorem Pd_{s:ai_}(h1:1≤s.cfg.spe)(h2:s.cfg.spe≤64)(hn:U64 s.now){a b:Cp}(ha:U64 a.ep)(hb:U64 b.ep):Ei_ s a b=iK_ s a b:=by
 unfold Ei_ iK_;rw[id_ h1 h2,Gr_];unfold dp_;by_cases hE:a.ep≤aU_ s s.now
 case neg=>rw[decide_eq_false hE];simp
 by_cases hB:b.ep≤a.ep
 case neg=>rw[decide_eq_false hB];simp
 have ka:(bx_ a.ep s.cfg.spe).2=0:=rd_ ha.1 h1 h2 hn.1 hn.2 hE;have kb:(bx_ b.ep s.cfg.spe).2=0:=rd_ hb.1 h1 h2 hn.1 hn.2 (Int.le_trans hB hE);unfold pd_ bK_ jt_;rw[ka,kb,decide_eq_true hE,decide_eq_true hB];generalize ak_ s.nodes a.rt=I;generalize ak_ s.nodes b.rt=K;generalize lH_ _=T;by_cases i1:I<0
 ·rw[decide_eq_false (show ¬0≤I by omega),if_pos (c:=I<0∨_) (.inl i1)];simp
 by_cases i2:K<0
 ·rw[if_pos (c:=K<0∨_) (.inl i2),decide_eq_false (show ¬0≤K by omega)];simp
 by_cases i3:(nod s.nodes I.toNat).status=2
 ·rw[if_pos (c:=I<0∨_) (.inr i3)];simp[i3]
 by_cases i4:(nod s.nodes K.toNat).status=2
 ·rw[if_pos (c:=K<0∨_) (.inr i4)];simp[i4]
 rw[if_neg (c:=I<0∨_) (fun h=>h.elim i1 i3),if_neg (c:=K<0∨_) (fun h=>h.elim i2 i4),decide_eq_true (show 0≤I by omega),decide_eq_true (show 0≤K by omega),decide_eq_true (p:=(nod s.nodes I.toNat).status≠2) i3,decide_eq_true (p:=(nod s.nodes K.toNat).status≠2) i4];simp only[decide_true,Bool.true_and,Bool.not_true,Bool.false_or,Bool.and_true];generalize decide ((nod s.nodes I.toNat).blk.slot≤_)=x;generalize decide ((nod s.nodes K.toNat).blk.slot≤_)=y;generalize dn_ s.nodes K I=z;generalize decide (0≤T)=t;cases x<;>cases y<;>cases z<;>cases t<;>rfl
theorem aJ_.spe{s:ai_}{i:Nat}(h:aJ_ s i):1≤s.cfg.spe∧s.cfg.spe≤64:=⟨h.cfg.s1,by have:=h.cfg.s4;omega⟩
theorem aJ_.may{s:ai_}{i:Nat}(h:aJ_ s i){a b:Cp}(ha:U64 a.ep)(hb:U64 b.ep):Ei_ s a b=iK_ s a b:=Pd_ h.spe.1 h.spe.2 h.nw.1 ha hb
theorem aJ_.cp{s:ai_}{i:Nat}(h:aJ_ s i):CpR s:=by
 have r:=h.r;have h1:=h.tt;have h2:=h.aa;have h3:=h.cfg.b1;exact⟨r.bn,r.bl,r.be,by omega,r.bb,r.bo,by omega,fun a ha=>by have:=h.av a ha;omega,by omega⟩
theorem OQ_(l:List au_)(e:Int):ei_ (fun i=>decide ((tab l i).cp.ep<e)) l default l.length=dL_ l e:=by
 unfold ei_ dL_;refine kS_ fun k x hk=>?_
 unfold xC_ tab;by_cases h:(l.getD k default).cp.ep<e
 ·rw[if_pos (decide_eq_true h),if_neg (by omega)]
 ·rw[if_neg (by dsimp only;rw[decide_eq_false h];simp),if_pos (by omega)]
theorem OZ_(l:List Blk)(a:Int):ei_ (fun i=>decide ((l.getD i cg_).slot≤a)) l cg_ l.length=aw_ (iH_ l a) [] l.length:=by
 unfold ei_;refine kS_ fun k x hk=>?_
 unfold xC_ iH_;by_cases h:(l.getD k cg_).slot≤a
 ·rw[if_pos (decide_eq_true h),if_neg (by omega)]
 ·rw[if_neg (by dsimp only;rw[decide_eq_false h];simp),if_pos (by omega)]
theorem Lu_(x:au_)(c:Cp):ap_ Tryz.prog 115 [.agg (au_.c x),.ptr 0 0] [.var (cpC c)] (.bool (decide (x.cp.ep<c.ep))) [.var (cpC c)]:=by
 refine ap_.fact 4 kH_ (by simp) ?_ (by simp);unfold fQ_;refine bd ?_;try refine aa_ ?_
 exact SM_ [] [0]
theorem Lv_(x:Blk)(a:Int):ap_ Tryz.prog 119 [.agg (al_ x),.ptr 0 0] [.var [.int .u64 a]] (.bool (decide (x.slot≤a))) [.var [.int .u64 a]]:=by
 refine ap_.fact 4 kI_ (by simp) ?_ (by simp);unfold fR_;refine bd ?_;try refine aa_ ?_
 exact SM_ [] [0]
def lv_(s:ai_):Sto:=⟨s.cfg.a,.sl 34 false (rows bg_ s.latest),.sl 1 false (aq_ .i64 s.eqv),s.j,s.f,.sl 67 false (rows aG_.c s.early),.hs 238 0 0 s.orph.length,.sl 240 false (rows aE_ s.nodes),s.now,s.boost,.sl 34 false (rows au_.c s.tabs)⟩
theorem HF_{α:Type}(f:α→List AV)(l z:List α):List.take l.length (rows f (l++z))=rows f l:=by
 unfold rows;rw[List.map_append,List.take_append_of_le_length (by simp)];exact List.take_of_length_le (by simp)
attribute [go_sem] HF_ Nat.le_add_right
theorem Ga_(l:List Blk)(fn:FuncId)(c:es_)(p:Nat→Bool)(hl:l.length≤1000000)(hc:∀i,i<l.length→ap_ Tryz.prog fn [.agg (al_ (l.getD i cg_)),.ptr 0 0] [.var c.cs] (.bool (p i)) [.var c.cs]):
 ∃z:List Blk,ap_ Tryz.prog 118 [.hs 238 1 0 l.length,.fn (.func fn) [.ptr 0 0]] [.var c.cs,.vec 238 (rows al_ l)] (.hs 238 1 0 (ei_ p l cg_ l.length).length) [.var c.cs,.vec 238 (rows al_ (ei_ p l cg_ l.length++z))]:=by
 obtain⟨z,k,hz,h⟩:=JA_ l cg_ fn c p hl hc;refine⟨List.replicate k cg_,?_⟩
 have:rows al_ (ei_ p l cg_ l.length++List.replicate k cg_)=rows al_ (ei_ p l cg_ l.length)++z.xs:=by
  rw[hz];unfold rows;rw[List.map_append,List.map_replicate]
 rw[this];exact h
theorem rV_(s:ai_)(i:Nat)(h:aJ_ s i)(j f:Cp)(hj:U64 j.ep)(hf:U64 f.ep):
 ∃z:List Blk,ap_ Tryz.prog 41 [.agg (aj_ s.a),.agg (cpC j),.agg (cpC f)] [] (.agg (aj_ (lv_ (bp_ s j f)))) [.vec 238 (rows al_ ((bp_ s j f).orph++z))]:=by
 have c1:=np_ s h.cp;unfold Np_ at c1;have c2:=GP_ s h.r j f h.uj h.uf hj hf;rw[h.may (jJ_ h.uj hj) (jJ_ h.uf hf)]at c2;have hm:=fun e:iK_ s (bG_ s.j j) (bG_ s.f f)=true=>BG_ e
 unfold bp_;have ha:=jJ_ h.uj hj;have hb:=jJ_ h.uf hf;generalize bG_ s.j j=a at *;generalize bG_ s.f f=b at *;cases hM:iK_ s a b with
 | false =>
   rw[hM]at c2;rw[if_pos rfl];refine⟨[],?_⟩;unfold lv_;rw[List.append_nil];refine ap_.fact 13 ex_ (by simp) ?_ (by simp);unfold dx_;refine bd ?_;try refine aa_ ?_
   refine bj_ [] (c1) evd (aV_.mk' (by simp) evd) ?_;refine evg ?_;try refine aa_ ?_
   refine Sv_ c2 ?_
   refine Rn_ ?_
   exact SM_ [4,5,6,7,9,10] [8]
 | true =>
   rw[hM]at c2;rw[if_neg (by simp)];obtain⟨k1,k2,k3⟩:=hm hM;obtain⟨zt,_,_,c3⟩:=JB_ s.tabs default 115 ⟨cpC a,dv_ a⟩ (fun i=>decide ((tab s.tabs i).cp.ep<a.ep)) (by have:=h.tt;omega) (fun i _=>Lu_ _ a);rw[OQ_]at c3;by_cases hs:b=s.f
   ·rw[if_pos hs];refine⟨[],?_⟩;unfold lv_;rw[List.append_nil];refine ap_.fact 13 ex_ (by simp) ?_ (by simp);unfold dx_;refine bd ?_;have e2:decide (b=s.f)=true:=decide_eq_true hs;try refine aa_ ?_
    refine bj_ [] (c1) evd (aV_.mk' (by simp) evd) ?_;refine evg ?_;try refine aa_ ?_
    refine Sv_ c2 ?_
    refine Rm_ ?_
    refine bj_ [12,10] (c3) evd (aV_.mk' (by simp) evd) ?_;refine evg ?_;repeat(first|refine aa_ ?_|simp only[go_sem,e2])
    refine Rn_ ?_
    exact SM_ [4,5,6,7,9,10] [8]
   ·rw[if_neg hs]
    have b2:=cl_ s.nodes b.rt;have hI:isN s.nodes (ak_ s.nodes b.rt)=true:=jq_.2 ⟨k2,b2.2⟩;have c6:=cG_ s.nodes b.rt h.r.bn;have c7:=Ex_ s.nodes h.tree (ak_ s.nodes b.rt) h.r.bn hI;have hl1:(em_ s.nodes (ak_ s.nodes b.rt)).1.length≤s.nodes.length:=(ig_ s.nodes _ s.nodes.length).2;have c8:=cG_ (em_ s.nodes (ak_ s.nodes b.rt)).1 s.boost (by have:=h.r.bn;omega);have c9:=eE_ (e:=b.ep) (p:=s.cfg.spe) hb.1 hb.2;obtain⟨zo,c10⟩:=Ga_ s.orph 119 ⟨[.int .u64 (bx_ b.ep s.cfg.spe).1],by simp[PuL,Pu]⟩ (fun k=>decide ((s.orph.getD k cg_).slot≤(bx_ b.ep s.cfg.spe).1)) h.r.bo (fun k _=>Lv_ _ _);rw[OZ_]at c10;refine⟨zo,?_⟩;unfold lv_ bK_;generalize (em_ s.nodes (ak_ s.nodes b.rt)).2=P2 at *;generalize (em_ s.nodes (ak_ s.nodes b.rt)).1=P1 at *;generalize ak_ s.nodes b.rt=I at *;generalize ak_ P1 s.boost=B at *;dsimp only at c10 ⊢;generalize aw_ (iH_ s.orph (bx_ b.ep s.cfg.spe).1) [] s.orph.length=O at *;generalize bx_ b.ep s.cfg.spe=S at *;obtain⟨S1,S2⟩:=S;dsimp only at c9 c10 ⊢;refine ap_.fact 13 ex_ (by simp) ?_ (by simp);unfold dx_;refine bd ?_;have e2:decide (b=s.f)=false:=decide_eq_false hs;try refine aa_ ?_
    refine bj_ [] (c1) evd (aV_.mk' (by simp) evd) ?_;refine evg ?_;try refine aa_ ?_
    refine Sv_ c2 ?_
    refine Rm_ ?_
    refine bj_ [12,10] (c3) evd (aV_.mk' (by simp) evd) ?_;refine evg ?_;repeat(first|refine aa_ ?_|simp only[go_sem,e2])
    refine Rm_ ?_
    refine as_ (c6) ?_;try refine aa_ ?_
    refine as_ (c7) ?_;try refine aa_ ?_
    refine ae_ c8 ?_;by_cases q:B<0
    ·have e3:decide (B<0)=true:=decide_eq_true q;rw[if_pos q];repeat(first|refine aa_ ?_|simp only[go_sem,e3])
     refine Rn_ ?_
     refine Sv_ c9 ?_
     refine bj_ [16,8] (c10) evd (aV_.mk' (by simp) evd) ?_;refine evg ?_;try refine aa_ ?_
     exact SM_ [4,5,6,7,10] [8]
    ·have e3:decide (B<0)=false:=decide_eq_false q;rw[if_neg q];repeat(first|refine aa_ ?_|simp only[go_sem,e3])
     refine Rm_ ?_
     refine Sv_ c9 ?_
     refine bj_ [16,8] (c10) evd (aV_.mk' (by simp) evd) ?_;refine evg ?_;try refine aa_ ?_
     exact SM_ [4,5,6,7,10] [8]
end Go.Proofs.YtkgimpdgncakjaaGreat
namespace Go.Proofs.YtkgimpdgncakjaaGreat
open Go Go.FH Go.RowKit
set_option linter.unusedVariables false
set_option linter.unusedSimpArgs false
set_option maxRecDepth 8000
set_option maxHeartbeats 4000000
theorem Bd_(s:ai_)(h:CpR s):PC Tryz.prog 38 [.agg (aj_ s.a)] (.agg (aj_ s.a)):=by
 have c:=np_ s h;unfold Np_ at c;refine c.pc puA puA ?_;(try simp only[go_sem,Nat.reduceAdd,Nat.reduceSub,Nat.reduceMul,Nat.reduceLT,Nat.reduceLeDiff,Nat.reduceEqDiff,reduceIte,Int.reduceToNat,Int.reduceLT,Int.reduceLE,Int.reduceEq,Int.reduceNeg,reduceCtorEq,Int.reduceBEq,Int.reduceBNe])
 rfl
theorem Et_(s:ai_)(i:Nat)(h:aJ_ s i)(a:aG_)(ha:a.vals.length≤1000000):PC Tryz.prog 42 [.agg (aj_ s.a),.agg (bi_ a.a)] (.tup [.bool (cq_ s a).1,.int .i64 (cq_ s a).2]):=by
 refine PC.fact 15 sZ_ (by simp) puA puA ?_;unfold kW_;refine bd ?_;obtain⟨R,hR⟩:∃R,R=cq_ s a:=⟨_,rfl⟩
 rw[←hR];unfold cq_ at hR;have c1:=pH_ a.vals false s.cfg.bals.length (by omega);have c2:=gz_ a.slot s.cfg.spe;have c3:=gz_ s.now s.cfg.spe;have f2:=id_ h.spe.1 h.spe.2 a.slot;have f3:=id_ h.spe.1 h.spe.2 s.now;have c4:=cG_ s.nodes a.root h.r.bn;have c5:=cG_ s.nodes a.target.rt h.r.bn;have b4:=cl_ s.nodes a.root;have uS:U64 (aU_ s a.slot):=by unfold aU_;exact bf_ _
 have uN:U64 (aU_ s s.now):=by unfold aU_;exact bf_ _
 have c6:=eE_ (e:=aU_ s a.slot) (p:=s.cfg.spe) uS.1 uS.2;have c7:=fun st=>Eo_ s.nodes h.tree h.r.bn (ak_ s.nodes a.root) st
 unfold bK_ at hR;generalize ak_ s.nodes a.root=I at *;generalize ak_ s.nodes a.target.rt=G at *;generalize cV_ a.vals s.cfg.bals.length=V at *;generalize dE_ a.slot s.cfg.spe=E1 at *;generalize dE_ s.now s.cfg.spe=E2 at *;obtain⟨e11,e12⟩:=E1;obtain⟨e21,e22⟩:=E2;dsimp only at f2 f3 c2 c3;generalize aU_ s a.slot=W at *;generalize aU_ s s.now=M at *;subst f2 f3;try refine aa_ ?_
 refine ae_ c1 ?_;by_cases q1:V=0
 case neg=>
  have e1:(V != 0)=true:=by simp[q1]
  rw[if_pos q1]at hR;subst hR;repeat(first|refine aa_ ?_|simp only[go_sem,e1])
  refine Rn_ ?_
  exact ag_
 have e1:(V != 0)=false:=by simp[q1]
 rw[if_neg (by simp[q1])]at hR;subst q1;repeat(first|refine aa_ ?_|simp only[go_sem,e1])
 refine Rm_ ?_
 refine Sv_ c2 ?_
 refine ae_ c3 ?_;have uS0:=uS.1;have uS1:=uS.2;have uN0:=uN.1;have uN1:=uN.2;have fail:(a.target.ep≠e11∨(a.target.ep≠e21∧(e21=0∨a.target.ep≠IntKind.u64.wrap (e21-1))))→R=(false,18):=fun hq=>by rw[hR,if_pos hq]
 by_cases q2:a.target.ep=e11
 case neg=>
  have e2:(a.target.ep != e11)=true:=by simp[q2]
  obtain rfl:=fail (.inl q2);repeat(first|refine aa_ ?_|simp only[go_sem,e2])
  refine Rn_ ?_
  exact ag_
 have e2:(a.target.ep != e11)=false:=by simp[q2]
 by_cases q3:e21<e11
 ·have e3:decide (e11 > e21)=true:=decide_eq_true q3
  have e3':decide (e21<e11)=true:=decide_eq_true q3
  obtain rfl:=fail (.inr ⟨by omega,by
   by_cases h0:e21=0
   ·exact .inl h0
   ·right;rw[aF_ (by omega) (by omega)];omega⟩)
  repeat(first|refine aa_ ?_|simp only[go_sem,e2,e3,e3'])
  refine Rn_ ?_
  exact ag_
 have e3:decide (e11 > e21)=false:=decide_eq_false q3;have e3':decide (e21<e11)=false:=decide_eq_false q3;have ew:IntKind.u64.wrap (e21-e11)=e21-e11:=aF_ (by omega) (by omega);by_cases q4:1<e21-e11
 ·have e4:decide (e21-e11 > 1)=true:=decide_eq_true q4;have e4':decide (1<e21-e11)=true:=decide_eq_true q4;obtain rfl:=fail (.inr ⟨by omega,by right;rw[aF_ (by omega) (by omega)];omega⟩);repeat(first|refine aa_ ?_|simp only[go_sem,e2,e3,e3',ew,e4,e4'])
  refine Rn_ ?_
  exact ag_
 have e4:decide (e21-e11 > 1)=false:=decide_eq_false q4;have e4':decide (1<e21-e11)=false:=decide_eq_false q4
 rw [if_neg (by
  rintro (h|⟨h1,h2⟩)
  ·exact h q2
  ·rcases h2 with h2|h2
   ·omega
   ·by_cases h0:e21=0
    ·omega
    ·rw[aF_ (by omega) (by omega)]at h2;omega)]at hR
 clear fail;repeat(first|refine aa_ ?_|simp only[go_sem,e2,e3,e3',ew,e4,e4'])
 refine Rm_ ?_
 refine as_ (c4) ?_;try refine aa_ ?_
 refine as_ (c5) ?_;by_cases q5:I<0
 ·have e5:decide (I<0)=true:=decide_eq_true q5;rw[if_pos (.inl q5)]at hR;subst hR;repeat(first|refine aa_ ?_|simp only[go_sem,e5])
  refine Rn_ ?_
  exact ag_
 have e5:decide (I<0)=false:=decide_eq_false q5;by_cases q6:G<0
 ·have e6:decide (G<0)=true:=decide_eq_true q6;rw[if_pos (.inr q6)]at hR;subst hR;repeat(first|refine aa_ ?_|simp only[go_sem,e5,e6])
  refine Rn_ ?_
  exact ag_
 have e6:decide (G<0)=false:=decide_eq_false q6;rw[if_neg (fun h=>h.elim q5 q6)]at hR;have hg:(rows aE_ s.nodes).getD I.toNat []=aE_ (nod s.nodes I.toNat):=aB_ (f:=aE_) hz_ (by omega);repeat(first|refine aa_ ?_|simp only[go_sem,e5,e6])
 refine ab_ ?_;repeat(first|refine aa_ ?_|simp only[go_sem,hg])
 by_cases q7:a.slot<(nod s.nodes I.toNat).blk.slot
 ·have e7:decide ((nod s.nodes I.toNat).blk.slot > a.slot)=true:=decide_eq_true q7;have e7':decide (a.slot<(nod s.nodes I.toNat).blk.slot)=true:=decide_eq_true q7;rw[if_pos q7]at hR;subst hR;repeat(first|refine aa_ ?_|simp only[go_sem,e7,e7'])
  refine Rn_ ?_
  exact ag_
 have e7:decide ((nod s.nodes I.toNat).blk.slot > a.slot)=false:=decide_eq_false q7;have e7':decide (a.slot<(nod s.nodes I.toNat).blk.slot)=false:=decide_eq_false q7;rw[if_neg q7]at hR;repeat(first|refine aa_ ?_|simp only[go_sem,e7,e7'])
 refine ab_ ?_;rw[q2]at hR;generalize bx_ e11 s.cfg.spe=S at *;obtain⟨S1,S2⟩:=S;dsimp only at c6 hR;have c7:=c7 S1;generalize atT s.nodes I S1=T at *;try refine aa_ ?_
 refine Sv_ c6 ?_
 refine ae_ c7 ?_;by_cases q8:T=G
 case neg=>
  have e8:(T != G)=true:=by simp[q8]
  rw[if_pos q8]at hR;subst hR;repeat(first|refine aa_ ?_|simp only[go_sem,e8])
  refine Rn_ ?_
  exact ag_
 have e8:(T != G)=false:=by simp[q8]
 rw[if_neg (by simp[q8])]at hR;subst hR;repeat(first|refine aa_ ?_|simp only[go_sem,e8])
 refine ab_ ?_;have e9:decide (a.slot ≥ s.now)=decide (s.now≤a.slot):=rfl;repeat(first|refine aa_ ?_|simp only[go_sem,e9])
 exact ag_
theorem Es_(s:ai_)(i:Nat)(h:aJ_ s i)(a:aG_)(ha:a.vals.length≤1000000):
 ap_ Tryz.prog 42 [.agg (aj_ { s.a with early:=.hs 67 0 0 s.early.length }),.agg (bi_ a.a)] [.vec 67 (rows aG_.c s.early)] (.tup [.bool (cq_ s a).1,.int .i64 (cq_ s a).2]) [.vec 67 (rows aG_.c s.early)]:=by
 refine ap_.lend rfl ?_;have ht:List.take s.early.length (rows aG_.c s.early)=rows aG_.c s.early:=List.take_of_length_le (by simp);(try simp only[go_sem,ht,List.length_cons,List.length_nil,List.range_succ,List.range_zero])
 exact Et_ s i h a ha
theorem GQ_(s:ai_)(i0:Nat)(h:aJ_ s i0)(a:aG_)(ha:a.vals.length≤1000000)(hj:∀j∈a.vals,0≤j∧j<s.latest.length):
 ap_ Tryz.prog 43 [.agg (aj_ s.a),.agg (bi_ a.a)] [] (.agg (aj_ { (castIn s a).a with early:=.hs 67 0 0 s.early.length })) [.vec 67 (rows aG_.c s.early)]:=by
 have c1:=np_ s h.cp;unfold Np_ at c1;unfold castIn uB_;generalize hep:a.target.ep=ep;generalize hl:a.vals=l at *;refine ap_.fact 22 uP_ (by simp) ?_ (by simp);unfold lU_;refine bd ?_;try refine aa_ ?_
 refine bj_ [] (c1) evd (aV_.mk' (by simp) evd) ?_;refine evg ?_;repeat(first|refine aa_ ?_|simp only[go_sem,hep,hl])
 refine ao_ (fun i:Nat=>[(21,.int .i64 i)]) (fun i=>[.var (aj_ s.a),.var (bi_ a.a),.var (aj_ eS_),.vec 1 (aq_ .u64 s.cfg.bals),.vec 34 (rows bg_ (aw_ (jl_ ep a.root l) (s.latest,0) i).1),.vec 1 (aq_ .i64 s.eqv),.vec 67 (rows aG_.c s.early),.vec 238 (rows al_ s.orph),.vec 240 (rows aE_ s.nodes),.vec 34 (rows au_.c s.tabs),.var (aj_ ⟨⟨s.cfg.lim,s.cfg.spe,s.cfg.boost,s.cfg.ttd,s.cfg.gen,.hs 1 3 0 s.cfg.bals.length⟩,.hs 34 4 0 s.latest.length,.hs 1 5 0 s.eqv.length,s.j,s.f,.hs 67 6 0 s.early.length,.hs 238 7 0 s.orph.length,.hs 240 8 0 s.nodes.length,s.now,s.boost,.hs 34 9 0 s.tabs.length⟩),.var (bg_ ⟨true,ep,a.root⟩)]) (fun i=>l.length-i) (fun i=>i≤l.length) 0 (Nat.zero_le _) ?_ ?_
 ·exact ST_ [] [0,1,2,3,4,5,6,7,8,9,10,11]
 intro i hi;refine cC_ ?_;by_cases h1:i<l.length
 ·have e1:=inT h1
  have hw:=af_ h1 (by omega);have hgd:=gdn (k:=.i64) h1;have hm:l.getD i 0∈l:=by rw[List.getD_eq_getElem?_getD,List.getElem?_eq_getElem h1];exact List.getElem_mem h1
  obtain⟨j0,j1⟩:=hj _ hm;have hs:=bA_ (jl_ ep a.root l) (s.latest,0) i;have hlen:=kj_ ep a.root l s.latest i;generalize aw_ (jl_ ep a.root l) (s.latest,0) i=p at *;obtain⟨u,n⟩:=p;dsimp only at hlen;have h3:(l.getD i 0).toNat<u.length:=by omega
  have hgu:(rows bg_ u).getD (l.getD i 0).toNat []=bg_ (vot u (l.getD i 0).toNat):=aB_ (f:=bg_) gj_ h3;have hc:jl_ ep a.root l i (u,n)=if (vot u (l.getD i 0).toNat).has=false∨(vot u (l.getD i 0).toNat).ep<ep then (u.set (l.getD i 0).toNat ⟨true,ep,a.root⟩,IntKind.i64.wrap (n+1))else (u,n):=rfl
  generalize hx:vot u (l.getD i 0).toNat=x at *;generalize l.getD i 0=j at *;have hset:(rows bg_ u).set j.toNat (bg_ ⟨true,ep,a.root⟩)=rows bg_ (u.set j.toNat ⟨true,ep,a.root⟩):=qW_ bg_ u j.toNat ⟨true,ep,a.root⟩;dsimp only;repeat(first|refine aa_ ?_|simp only[go_sem,e1,hgd,hl,hep])
  refine ac_ ?_;obtain⟨xh,xe,xr⟩:=x;dsimp only at hc;cases xh with
  | false =>
    rw[if_pos (.inl rfl)]at hc;repeat(first|refine aa_ ?_|simp only[go_sem,hgd,hgu,hlen])
    refine ac_ ?_;repeat(first|refine aa_ ?_|simp only[go_sem,hgd,hgu,hset,hw,hlen])
    refine⟨i+1,h1,by omega,?_⟩;rw[hs,hc];exact ST_ [] [0,1,2,3,4,5,6,7,8,9,10,11]
  | true =>
    by_cases hx2:xe<ep
    ·have e2:decide (xe<ep)=true:=decide_eq_true hx2;rw[if_pos (.inr hx2)]at hc;repeat(first|refine aa_ ?_|simp only[go_sem,hgd,hgu,e2,hlen])
     refine ac_ ?_;repeat(first|refine aa_ ?_|simp only[go_sem,hgd,hgu,hset,hw,hlen])
     refine⟨i+1,h1,by omega,?_⟩;rw[hs,hc];exact ST_ [] [0,1,2,3,4,5,6,7,8,9,10,11]
    ·have e2:decide (xe<ep)=false:=decide_eq_false hx2;rw[if_neg (by simp[hx2])]at hc;repeat(first|refine aa_ ?_|simp only[go_sem,hgd,hgu,e2,hlen])
     refine ab_ ?_;repeat(first|refine aa_ ?_|simp only[go_sem,hw])
     refine⟨i+1,h1,by omega,?_⟩;rw[hs,hc];exact ST_ [] [0,1,2,3,4,5,6,7,8,9,10,11]
 ·obtain rfl:i=l.length:=by omega
  have e1:=inF (l.length);have hlen:=kj_ ep a.root l s.latest l.length;generalize (aw_ (jl_ ep a.root l) (s.latest,0) l.length).1=L at *;rw[←hlen];repeat(first|refine aa_ ?_|simp only[go_sem,e1])
  refine Rm_ ?_
  exact SM_ [3,4,5,7,8,9] [6]
theorem He_(s:ai_)(m:Nat)(h:aJ_ s m):PC Tryz.prog 11 [.agg (aj_ s.a)] (.tup [.agg (aj_ (gi_ s).1.a),.int .i64 (gi_ s).2]):=by
 refine PC.fact 45 BA_ (by simp) puA puA ?_;unfold ql_;refine bd ?_;unfold gi_;have hsp:=h.cfg.s1;have hs4:=h.cfg.s4;have hge:decide (s.now ≥ 1099511627776)=decide ((1099511627776:Int)≤s.now):=rfl;by_cases q1:1099511627776≤s.now
 ·have e1:decide ((1099511627776:Int)≤s.now)=true:=decide_eq_true q1;rw[if_pos q1];repeat(first|refine aa_ ?_|simp only[go_sem,hge,e1])
  refine Rn_ ?_
  exact jM_ (by first|rfl|exact evd) (by first|rfl|exact evd)
 have e1:decide ((1099511627776:Int)≤s.now)=false:=decide_eq_false q1;rw[if_neg q1];have hA:=h.tickA q1;have hB:=hA.tickB;have c0:=Bd_ s h.cp;have c1:=GX_ (tickA s) hA.r.bn;have up:U64 (fp_ (tickA s)).j.ep∧U64 (fp_ (tickA s)).f.ep:=Ij_ fun k hk=>hA.blk hk
 obtain⟨zz,cu⟩:=rV_ (tickA s) m hA (fp_ (tickA s)).j (fp_ (tickA s)).f up.1 up.2
 have c2:PC Tryz.prog 41 [.agg (aj_ (tickA s).a),.agg (cpC (fp_ (tickA s)).j),.agg (cpC (fp_ (tickA s)).f)] (.agg (aj_ (bp_ (tickA s) (fp_ (tickA s)).j (fp_ (tickA s)).f).a)):=by
  unfold lv_ at cu;refine cu.pc puA puA ?_;(try simp only[go_sem,Nat.reduceAdd,Nat.reduceSub,Nat.reduceMul,Nat.reduceLT,Nat.reduceLeDiff,Nat.reduceEqDiff,reduceIte,Int.reduceToNat,Int.reduceLT,Int.reduceLE,Int.reduceEq,Int.reduceNeg,reduceCtorEq,Int.reduceBEq,Int.reduceBNe])
  rfl
 clear cu;have c3:=MQ_ (tickA s).now (tickA s).cfg.spe
 have hmod:IntKind.u64.wrap (Int.tmod (tickA s).now (tickA s).cfg.spe)=Int.tmod (tickA s).now (tickA s).cfg.spe:=by
  have hn:=hA.nw.1;have hsp':1≤(tickA s).cfg.spe:=hsp;rw[Int.tmod_eq_emod_of_nonneg hn.lo];have h1:=Int.emod_nonneg (tickA s).now (show (tickA s).cfg.spe≠0 by omega);have h2:=Int.emod_lt_of_pos (tickA s).now (show 0<(tickA s).cfg.spe by omega);have hs4':(tickA s).cfg.spe≤4:=hs4;exact aF_ h1 (by omega)
 have heb:iX_ (tickA s).cfg.spe=true:=by
  have hsp':1≤(tickA s).cfg.spe:=hsp;have hs4':(tickA s).cfg.spe≤4:=hs4;simp[iX_];omega
 rw[heb,Bool.true_and]at c3;have hT1:Int.tmod (tickA s).now (tickA s).cfg.spe=0→tickB (tickA s)=bp_ (tickA s) (fp_ (tickA s)).j (fp_ (tickA s)).f:=fun hz=>by unfold tickB;rw[hmod,if_pos hz]
 have hT2:Int.tmod (tickA s).now (tickA s).cfg.spe≠0→tickB (tickA s)=tickA s:=fun hz=>by unfold tickB;rw[hmod,if_neg hz]
 show Tri _ _ _ _ (PQ _ (.tup [.agg (aj_ (bI_ (tickB (tickA s)) (tickB (tickA s)).early.length).a),.int .i64 0])) _ _
 generalize tickB (tickA s)=S2 at *;repeat(first|refine aa_ ?_|simp only[go_sem,hge,e1])
 refine Rm_ ?_
 refine Sv_ c0 ?_
 refine ae_ c3 ?_;refine ks_ (fun _=>[]) (fun _=>[.var (aj_ s.a),.var (aj_ eS_),.var (aj_ S2.a)]) (fun hT=>?_) (fun hF=>?_) ?_
 ·rw[hT1 (by simpa using hT)];try refine aa_ ?_
  refine Sv_ c1 ?_
  refine Sv_ c2 ?_
  exact ST_ [] [0,1,2]
 ·rw[hT2 (by simpa using hF)];try refine aa_ ?_
  exact ST_ [] [0,1,2]
 clear hT1 hT2 hmod c1 c2 c0 c3;try refine aa_ ?_
 refine iW_ 2 113 67 ?_ (by rfl) (by exact oT_ _);simp only[go_sem,oU_];have hK:∀k,k≤S2.early.length→aJ_ (bI_ S2 k) m∧(bI_ S2 k).early.length≤k:=aJ_.tickR hB.av hB.aa hB
 have hz:bI_ S2 0=withE S2 []:=rfl;have haa:=hB.aa;refine ao_ (fun i:Nat=>[(44,.int .i64 i)]) (fun i=>[.var (aj_ s.a),.var (aj_ eS_),.var (aj_ { (bI_ S2 i).a with early:=.hs 67 3 0 (bI_ S2 i).early.length }),.vec 67 (rows aG_.c (bI_ S2 i).early)]) (fun i=>S2.early.length-i) (fun i=>i≤S2.early.length) 0 (Nat.zero_le _) ?_ ?_
 ·rw[hz];unfold withE;exact ST_ [] [0,1,2,3]
 intro i hk;obtain⟨hki,hkl⟩:=hK i hk;have hsk:=IC_ S2 i;refine cC_ ?_;by_cases h1:i<S2.early.length
 ·have e1:=inT h1
  have hw:=af_ h1 (by omega);have hgd:(rows aG_.c S2.early).getD i []=bi_ (dD_ S2.early i).a:=aB_ (f:=aG_.c) default h1;have hav:=hB.av _ (uj_ h1);have hc:tickR S2.early i (bI_ S2 i)=if (bI_ S2 i).now≤(dD_ S2.early i).slot then withE (bI_ S2 i) ((bI_ S2 i).early++[dD_ S2.early i])else if (cq_ (bI_ S2 i) (dD_ S2.early i)).2=0 then castIn (bI_ S2 i) (dD_ S2.early i)else bI_ S2 i:=rfl
  have c1:=Es_ (bI_ S2 i) m hki (dD_ S2.early i) (by omega);have c2:=GQ_ (bI_ S2 i) m hki (dD_ S2.early i) (by omega)
  have hj:(cq_ (bI_ S2 i) (dD_ S2.early i)).2=0→∀j∈(dD_ S2.early i).vals,0≤j∧j<(bI_ S2 i).latest.length:=fun hq j hjm=>by
   have hv:cV_ (dD_ S2.early i).vals (bI_ S2 i).cfg.bals.length=0:=by
    unfold cq_ at hq;split at hq
    ·rename_i h1;exact absurd hq h1
    ·rename_i h1;simpa using h1
   obtain⟨u,hm,rfl⟩:=List.getElem_of_mem hjm;have:=(gN_ hv).2 u hm;rw[List.getD_eq_getElem?_getD,List.getElem?_eq_getElem hm,Option.getD_some]at this;have hll:=hki.ll;omega
  clear hK;have hcl:(castIn (bI_ S2 i) (dD_ S2.early i)).early=(bI_ S2 i).early:=rfl;rw[hc]at hsk;generalize hs:bI_ S2 i=s1 at *;generalize dD_ S2.early i=a at *;have hr:rows aG_.c s1.early++[bi_ a.a]=rows aG_.c (s1.early++[a]):=bF_ aG_.c s1.early a;generalize hR:cq_ s1 a=R at *;obtain⟨R1,R2⟩:=R;dsimp only at c1 hsk hj;have hg2:decide (a.slot ≥ s1.now)=decide (s1.now≤a.slot):=rfl;repeat(first|refine aa_ ?_|simp only[go_sem,e1])
  refine ac_ ?_;repeat(first|refine aa_ ?_|simp only[go_sem,hgd])
  by_cases q2:s1.now≤a.slot
  ·have e2:decide (s1.now≤a.slot)=true:=decide_eq_true q2;rw[if_pos q2]at hsk;repeat(first|refine aa_ ?_|simp only[go_sem,hg2,e2])
   refine ac_ ?_;repeat(first|refine aa_ ?_|simp only[go_sem,hgd,hr,hw])
   refine⟨i+1,h1,by omega,?_⟩;rw[hsk];unfold withE;exact ST_ [] [0,1,2,5]
  ·have e2:decide (s1.now≤a.slot)=false:=decide_eq_false q2
   rw[if_neg q2]at hsk;repeat(first|refine aa_ ?_|simp only[go_sem,hg2,e2])
   refine ab_ ?_;repeat(first|refine aa_ ?_|simp only[go_sem,hgd])
   refine bj_ [3] (c1) evd (aV_.mk' (by simp) evd) ?_;refine evg ?_;try refine aa_ ?_
   by_cases q3:R2=0
   ·rw[if_pos q3]at hsk;subst q3;have c3:=c2 (hj rfl);generalize hcs:castIn s1 a=s3 at *;try refine aa_ ?_
    refine ac_ ?_;have ht:List.take s1.early.length (rows aG_.c s1.early)=rows aG_.c s1.early:=List.take_of_length_le (by simp);refine wN_ [3] ?_;simp only[evZ,vw_];(try simp only[go_sem,Nat.reduceAdd,Nat.reduceSub,Nat.reduceMul,Nat.reduceLT,Nat.reduceLeDiff,Nat.reduceEqDiff,reduceIte,Int.reduceToNat,Int.reduceLT,Int.reduceLE,Int.reduceEq,Int.reduceNeg,reduceCtorEq,Int.reduceBEq,Int.reduceBNe,ht])
    try refine aa_ ?_
    refine bj_ [] (c3) evd (aV_.mk' (by simp) evd) ?_;refine evg ?_;repeat(first|refine aa_ ?_|simp only[go_sem,hw])
    refine⟨i+1,h1,by omega,?_⟩;rw[hsk,hcl];exact ST_ [] [0,1,2,5]
   ·have e3:(R2==0)=false:=by simp[q3]
    rw[if_neg q3]at hsk;repeat(first|refine aa_ ?_|simp only[go_sem,e3])
    refine ab_ ?_;repeat(first|refine aa_ ?_|simp only[go_sem,hw])
    refine⟨i+1,h1,by omega,?_⟩;rw[hsk];exact ST_ [] [0,1,2,3]
 ·obtain rfl:i=S2.early.length:=by omega
  have e1:=inF (S2.early.length);generalize bI_ S2 S2.early.length=s1 at *;have ht:List.take s1.early.length (rows aG_.c s1.early)=rows aG_.c s1.early:=List.take_of_length_le (by simp);repeat(first|refine aa_ ?_|simp only[go_sem,e1])
  refine Rm_ ?_
  refine⟨_,(by first|rfl|exact evd),.inl ?_⟩;(try simp only[go_sem,Nat.reduceAdd,Nat.reduceSub,Nat.reduceMul,Nat.reduceLT,Nat.reduceLeDiff,Nat.reduceEqDiff,reduceIte,Int.reduceToNat,Int.reduceLT,Int.reduceLE,Int.reduceEq,Int.reduceNeg,reduceCtorEq,Int.reduceBEq,Int.reduceBNe,ht])
  rfl
end Go.Proofs.YtkgimpdgncakjaaGreat
