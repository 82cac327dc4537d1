/-
 My texts Tk, joined.
-/
import Derived.Test.YtkgimpdgncakjaaGreatP5
import Derived.Test.YtkgimpdgncakjaaGreatT8
import Derived.Test.YtkgimpdgncakjaaGreatR1
namespace Go.Proofs.YtkgimpdgncakjaaGreat
open Go Go.FH Go.RowKit
set_option linter.unusedVariables false
set_option linter.unusedSimpArgs false
set_option maxRecDepth 8000
set_option maxHeartbeats 4000000
theorem RE_(n:Int):0≤du_ .i64 n 16777215:=by
 unfold du_
 have h:(BitVec.ofInt IntKind.i64.bits n &&& BitVec.ofInt IntKind.i64.bits 16777215).toNat≤16777215:=by
  rw[BitVec.toNat_and];exact Nat.le_trans Nat.and_le_right (by decide)
 rw[aC_ (by omega) (by omega)];omega
theorem Lp_(X:Sto)(v:Int)(hp:PuL (ak_ X))(c1:PC Tryz.prog 15 [.agg (ak_ X)] (.int .i64 v))(c2:PC Tryz.prog 19 [.agg (ak_ X)] (.int .i64 v)):Tri Tryz.prog 196 0 (aR_.tl 7) (PQ [.tmp 6] (.bool true)) ⟨181,[.dead,.dead,.dead,.dead,.dead,.dead,.bool false,.ptr 0 0,.dead,.dead,.dead,.dead,.dead,.dead,.dead,.dead,.dead,.dead,.dead,.dead,.dead,.dead,.dead,.dead,.dead,.dead,.dead,.dead,.dead,.dead,.dead,.dead,.dead,.dead,.dead,.dead,.dead,.dead,.dead,.dead,.dead,.dead,.dead,.dead,.dead,.dead,.dead,.dead,.dead,.dead,.dead,.dead,.dead,.dead,.dead,.dead,.dead,.dead,.dead,.dead,.dead,.dead,.dead,.dead,.dead,.dead,.dead,.dead,.dead,.dead,.dead,.dead,.dead,.dead,.dead,.dead,.dead,.dead,.dead,.dead,.dead,.dead,.dead,.dead,.dead,.dead,.dead,.dead,.dead,.dead,.dead,.dead,.dead,.dead,.dead,.dead,.dead,.dead,.dead,.dead,.dead,.dead,.dead,.dead,.dead,.dead,.dead,.dead,.dead,.dead,.dead,.dead,.dead,.dead,.dead,.dead,.dead,.dead,.dead,.dead,.dead,.dead,.dead,.dead,.dead,.dead,.dead,.dead,.dead,.dead,.dead,.dead,.dead,.dead,.dead,.dead,.dead,.dead,.dead,.dead,.dead,.dead,.dead,.dead,.dead,.dead,.dead,.dead,.dead,.dead,.dead,.dead,.dead,.dead,.dead,.dead,.dead,.dead,.dead,.dead,.dead,.dead,.dead,.dead,.dead,.dead,.dead,.dead,.dead,.dead,.dead,.dead,.dead,.dead,.dead,.dead,.dead,.dead,.dead,.dead,.dead],[]⟩ [.var (ak_ X)]:=by
 unfold aR_;refine bd ?_;simp only[ad_.tl];have c3:=AB_;have eq1:∀n:Int,(n==n)=true:=fun n=>by simp
 have hpx:=(ha_ _).1 hp;try refine aa_ ?_
 refine ao_ (c1) ?_;try refine aa_ ?_
 refine ao_ (c2) ?_;repeat(first|refine aa_ ?_|simp only[go_sem,eq1])
 refine ao_ (c3) ?_;try refine aa_ ?_
 exact ae_
theorem dw_(X:ah_)(hr:Oo_ X)(hw:U64 X.now):PC Tryz.prog 15 [.agg (ak_ X.a)] (.int .i64 (kA_ X))∧PC Tryz.prog 19 [.agg (ak_ X.a)] (.int .i64 (kA_ X)):=⟨rW_ X hr,KG_ X hr hw⟩
theorem pc_StoreValid(l:List Int)(hl:l.length≤maxLen)(hwl:∀z∈l,(Lit.int .i64 z).wf=true)(which:Int)(hwh:(Lit.int .i64 which).wf=true)(k:Int)(hla:(Lit.int .i64 k).wf=true):PC Tryz.prog 4 [.sl 1 false (aq_ .i64 l),.int .i64 which,.int .i64 k] (.bool true):=by
 have tl:=Lp_;obtain⟨a,⟨ha,hV,hB⟩,ca⟩:=Hm_ l;have hI:=ha.sto;have hr:=RW_ hI hB;have hw:=hI.nw.1;have c0:=rW_ a.sto hr;rw[hV.val (by have:=hI.cfg.ln;omega) hI.uf hw]at c0;have hK0:=(RE_ k);generalize hK:du_ .i64 k 16777215=K at *;have hpos:=hI.tree.pos;obtain⟨p,hp,hpp⟩:=ca_ (k:=K) hK0 hpos;have hpi:(p:Int)<((a.sto.nodes.length:Nat):Int):=by omega
 have hgd:(rows ax_ a.sto.nodes).getD p []=ax_ (nod a.sto.nodes p):=aA_ (f:=ax_) gs_ hpp;have hset:∀y,(rows ax_ a.sto.nodes).set p (ax_ y)=rows ax_ (a.sto.nodes.set p y):=fun y=>by unfold rows;rw[List.map_set]
 have htk:∀y,List.take a.sto.nodes.length (rows ax_ (a.sto.nodes.set p y))=rows ax_ (a.sto.nodes.set p y):=fun y=>List.take_of_length_le (by simp)
 have hn13:=hI.nn;have htt:=hI.tt;have hoo:=hI.oo;have haa:=hI.aa
 have htp:0<a.sto.tabs.length:=by
  obtain⟨t,h1,_⟩:=hV.w.tj;exact List.length_pos_of_mem h1
 have hti:(0:Int)<((a.sto.tabs.length:Nat):Int):=by omega
 have hgt:(rows au_.c a.sto.tabs).getD 0 []=aY_ (tab a.sto.tabs 0).a:=aA_ (f:=au_.c) default htp;have hsnT:rows au_.c a.sto.tabs++[aY_ (tab a.sto.tabs 0).a]=rows au_.c (a.sto.tabs++[tab a.sto.tabs 0]):=bB_ au_.c _ _;have hl0:0<a.sto.latest.length:=by rw[hI.ll];exact hI.cfg.b0
 have hl1:(1:Int)≤((a.sto.latest.length:Nat):Int):=by omega
 have hl1':decide ((1:Int)≤((a.sto.latest.length:Nat):Int))=true:=decide_eq_true hl1;have hdrop:(rows aV_ a.sto.latest).drop 1=rows aV_ (a.sto.latest.drop 1):=by unfold rows;rw[List.map_drop]
 have hdtk:List.take (a.sto.latest.length-1) (rows aV_ (a.sto.latest.drop 1))=rows aV_ (a.sto.latest.drop 1):=List.take_of_length_le (by simp);obtain⟨bk,hbk,cbk⟩:=yS_ a.sto 24 hI hI.cfg.tt 99 K hK0 (by decide) (by decide) (by decide);obtain⟨at_,hat,cat_⟩:=yR_ a.sto 24 hI K hK0;have hsnO:rows ap_ a.sto.orph++[ap_ bk]=rows ap_ (a.sto.orph++[bk]):=bB_ ap_ _ _;have hsnE:rows aD_.c a.sto.early++[bl_ at_.a]=rows aD_.c (a.sto.early++[at_]):=bB_ aD_.c _ _;generalize hW:du_ .i64 which 31=W;refine PC.fact 181 pn_ (by simp) puA puA ?_;have hc:aR_=.seq aR_.hd (.seq (aR_.tl 1).hd (.seq (aR_.tl 2).hd (.seq (aR_.tl 3).hd (.seq (aR_.tl 4).hd (.seq (aR_.tl 5).hd (.seq (aR_.tl 6).hd (aR_.tl 7))))))):=rfl;rw[hc];clear hc;generalize aR_.tl 7=cT at *;unfold aR_;refine bd ?_;simp only[ad_.tl,ad_.hd];try refine aa_ ?_
 refine So_ ca ?_
 refine So_ c0 ?_
 refine ab_ ?_;repeat(first|refine aa_ ?_|simp only[go_sem,hK])
 repeat(first|refine aa_ ?_|simp only[go_sem,hp,hpp,hpi,hW])
 by_cases q0:W=0
 ·have e:(W==0)=true:=by simp[q0]
  obtain⟨v1,v2⟩:=dw_ (⟨a.sto.cfg,a.sto.latest,a.sto.eqv,a.sto.j,⟨a.sto.f.ep,lD_ (du_ .i64 K 31)⟩,a.sto.early,a.sto.orph,a.sto.nodes,a.sto.now,a.sto.boost,a.sto.tabs⟩:ah_) ⟨hr.bn,hr.bl,hr.be,hr.bt,hr.bb,hr.bu,hr.bo,hr.ba,hr.bv,hr.bc,hr.cu,hr.uf⟩ hw;have t:=tl _ _ (ah_.pul _) v1 v2;repeat(first|refine aa_ ?_|simp only[go_sem,e])
  refine Ri_ ?_
  refine So_ (dN_ _) ?_
  refine bE_ ?_ t;exact SN_ [1] [0]
 have e:(W==0)=false:=by simp[q0]
 repeat(first|refine aa_ ?_|simp only[go_sem,e])
 refine Rh_ ?_
 clear e;by_cases q1:W=1
 ·have e:(W==1)=true:=by simp[q1]
  obtain⟨v1,v2⟩:=dw_ (⟨a.sto.cfg,a.sto.latest,a.sto.eqv,⟨IntKind.u64.wrap (du_ .i64 K 3),(nod a.sto.nodes p).blk.root⟩,a.sto.f,a.sto.early,a.sto.orph,a.sto.nodes,a.sto.now,a.sto.boost,a.sto.tabs⟩:ah_) ⟨hr.bn,hr.bl,hr.be,hr.bt,hr.bb,hr.bu,hr.bo,hr.ba,hr.bv,hr.bc,hr.cu,hr.uf⟩ hw;have t:=tl _ _ (ah_.pul _) v1 v2;repeat(first|refine aa_ ?_|simp only[go_sem,e])
  refine ac_ ?_;repeat(first|refine aa_ ?_|simp only[go_sem,hgd,hpp,hpi])
  refine bE_ ?_ t;exact SN_ [1] [0]
 have e:(W==1)=false:=by simp[q1]
 repeat(first|refine aa_ ?_|simp only[go_sem,e])
 refine Rh_ ?_
 clear e;by_cases q2:W=2
 ·have e:(W==2)=true:=by simp[q2]
  obtain⟨v1,v2⟩:=dw_ (⟨a.sto.cfg,a.sto.latest,a.sto.eqv,a.sto.j,a.sto.f,a.sto.early,a.sto.orph,a.sto.nodes,a.sto.now,a.sto.boost,[]⟩:ah_) ⟨hr.bn,hr.bl,hr.be,(Nat.zero_le _),(fun t ht=>(by cases ht)),(fun t ht=>(by cases ht)),hr.bo,hr.ba,hr.bv,hr.bc,hr.cu,hr.uf⟩ hw
  have wk:Wk (.agg (ak_ ⟨a.sto.cfg.a,.sl 34 false (rows aV_ a.sto.latest),.sl 1 false (aq_ .i64 a.sto.eqv),a.sto.j,a.sto.f,.sl 67 false (rows aD_.c a.sto.early),.sl 238 false (rows ap_ a.sto.orph),.sl 240 false (rows ax_ a.sto.nodes),a.sto.now,a.sto.boost,.sl 0 true []⟩)) (.agg (ak_ (⟨a.sto.cfg,a.sto.latest,a.sto.eqv,a.sto.j,a.sto.f,a.sto.early,a.sto.orph,a.sto.nodes,a.sto.now,a.sto.boost,[]⟩:ah_).a)):=by
   refine Wk.agg ?_;unfold ah_.a ak_;dsimp only;exact(WkC.refl _).app (.cons (Wk.refl _) (fun h=>h) (.cons (Wk.refl _) (fun h=>h) ((WkC.refl _).app ((WkC.refl _).app (.cons (Wk.refl _) (fun h=>h) (.cons (Wk.refl _) (fun h=>h) (.cons (Wk.refl _) (fun h=>h) (.same _ ((WkC.refl _).app (.one (Wk.empty _ _ _) fun h=>h))))))))))
  have pu:PuL (ak_ ⟨a.sto.cfg.a,.sl 34 false (rows aV_ a.sto.latest),.sl 1 false (aq_ .i64 a.sto.eqv),a.sto.j,a.sto.f,.sl 67 false (rows aD_.c a.sto.early),.sl 238 false (rows ap_ a.sto.orph),.sl 240 false (rows ax_ a.sto.nodes),a.sto.now,a.sto.boost,.sl 0 true []⟩):=by
   have h:=ah_.pure a.sto;exact(ha_ _).2 ⟨h.1,h.2.1,h.2.2.1,h.2.2.2.1,h.2.2.2.2.1,h.2.2.2.2.2.1,trivial⟩
  have t:=tl _ _ pu ⟨v1.call.wk ⟨wk,trivial⟩,⟨pu,trivial⟩,v1.pr⟩ ⟨v2.call.wk ⟨wk,trivial⟩,⟨pu,trivial⟩,v2.pr⟩;repeat(first|refine aa_ ?_|simp only[go_sem,e])
  refine Ri_ ?_
  refine bE_ ?_ t;exact SN_ [1] [0]
 have e:(W==2)=false:=by simp[q2]
 repeat(first|refine aa_ ?_|simp only[go_sem,e])
 refine Rh_ ?_
 clear e;by_cases q3:W=3
 ·have e:(W==3)=true:=by simp[q3]
  obtain⟨v1,v2⟩:=dw_ (⟨a.sto.cfg,a.sto.latest,a.sto.eqv,a.sto.j,a.sto.f,a.sto.early,a.sto.orph,a.sto.nodes,a.sto.now,a.sto.boost,(a.sto.tabs++[tab a.sto.tabs 0])⟩:ah_) ⟨hr.bn,hr.bl,hr.be,(by rw[List.length_append];have:=hI.tt;show _+1≤_;omega),(fun t ht=>(List.mem_append.1 ht).elim (hr.bb t) fun h=>by rw[List.mem_singleton.1 h];exact hr.bb _ (bH_ _ htp)),(fun t ht=>(List.mem_append.1 ht).elim (hr.bu t) fun h=>by rw[List.mem_singleton.1 h];exact hr.bu _ (bH_ _ htp)),hr.bo,hr.ba,hr.bv,hr.bc,hr.cu,hr.uf⟩ hw;have t:=tl _ _ (ah_.pul _) v1 v2;repeat(first|refine aa_ ?_|simp only[go_sem,e])
  refine ac_ ?_;refine la_ [1] ?_;simp only[evZ,pw_];(try simp only[go_sem,Nat.reduceAdd,Nat.reduceSub,Nat.reduceMul,Nat.reduceLT,Nat.reduceLeDiff,Nat.reduceEqDiff,reduceIte,Int.reduceToNat,Int.reduceLT,Int.reduceLE,Int.reduceEq,Int.reduceNeg,reduceCtorEq,Int.reduceBEq,Int.reduceBNe])
  repeat(first|refine aa_ ?_|simp only[go_sem,hgt,hti,htp,hsnT])
  refine bE_ ?_ t;exact SN_ [3] [0]
 have e:(W==3)=false:=by simp[q3]
 repeat(first|refine aa_ ?_|simp only[go_sem,e])
 refine Rh_ ?_
 clear e;by_cases q4:W=4
 ·have e:(W==4)=true:=by simp[q4]
  obtain⟨v1,v2⟩:=dw_ (⟨a.sto.cfg,(a.sto.latest.drop 1),a.sto.eqv,a.sto.j,a.sto.f,a.sto.early,a.sto.orph,a.sto.nodes,a.sto.now,a.sto.boost,a.sto.tabs⟩:ah_) ⟨hr.bn,(by rw[List.length_drop];have:=hr.bl;omega),hr.be,hr.bt,hr.bb,hr.bu,hr.bo,hr.ba,hr.bv,hr.bc,hr.cu,hr.uf⟩ hw;have t:=tl _ _ (ah_.pul _) v1 v2;repeat(first|refine aa_ ?_|simp only[go_sem,e])
  refine ac_ ?_;repeat(first|refine aa_ ?_|simp only[go_sem,hl1,hl1',hdrop,hdtk])
  refine bE_ ?_ t;exact SN_ [1] [0]
 have e:(W==4)=false:=by simp[q4]
 repeat(first|refine aa_ ?_|simp only[go_sem,e])
 refine Rh_ ?_
 clear e;by_cases q5:W=5
 ·have e:(W==5)=true:=by simp[q5]
  obtain⟨v1,v2⟩:=dw_ (⟨a.sto.cfg,a.sto.latest,[du_ .i64 K 7,du_ .i64 (dg_ .i64 K 3) 7],a.sto.j,a.sto.f,a.sto.early,a.sto.orph,a.sto.nodes,a.sto.now,a.sto.boost,a.sto.tabs⟩:ah_) ⟨hr.bn,hr.bl,(by show 2≤_;decide),hr.bt,hr.bb,hr.bu,hr.bo,hr.ba,hr.bv,hr.bc,hr.cu,hr.uf⟩ hw
  have wk:Wk (.agg (ak_ ⟨a.sto.cfg.a,.sl 34 false (rows aV_ a.sto.latest),.sl 1 true [[.int .i64 (du_ .i64 K 7)],[.int .i64 (du_ .i64 (dg_ .i64 K 3) 7)]],a.sto.j,a.sto.f,.sl 67 false (rows aD_.c a.sto.early),.sl 238 false (rows ap_ a.sto.orph),.sl 240 false (rows ax_ a.sto.nodes),a.sto.now,a.sto.boost,.sl 34 false (rows au_.c a.sto.tabs)⟩)) (.agg (ak_ (⟨a.sto.cfg,a.sto.latest,[du_ .i64 K 7,du_ .i64 (dg_ .i64 K 3) 7],a.sto.j,a.sto.f,a.sto.early,a.sto.orph,a.sto.nodes,a.sto.now,a.sto.boost,a.sto.tabs⟩:ah_).a)):=by
   refine Wk.agg ?_;unfold ah_.a ak_;dsimp only;exact(WkC.refl _).app (.cons (Wk.refl _) (fun h=>h) (.cons (Wk.open_ _ _ _) (fun h=>h) (WkC.refl _)))
  have pu:PuL (ak_ ⟨a.sto.cfg.a,.sl 34 false (rows aV_ a.sto.latest),.sl 1 true [[.int .i64 (du_ .i64 K 7)],[.int .i64 (du_ .i64 (dg_ .i64 K 3) 7)]],a.sto.j,a.sto.f,.sl 67 false (rows aD_.c a.sto.early),.sl 238 false (rows ap_ a.sto.orph),.sl 240 false (rows ax_ a.sto.nodes),a.sto.now,a.sto.boost,.sl 34 false (rows au_.c a.sto.tabs)⟩):=by
   have h:=ah_.pure a.sto;exact(ha_ _).2 ⟨h.1,h.2.1,⟨⟨trivial,trivial⟩,⟨trivial,trivial⟩,trivial⟩,h.2.2.2.1,h.2.2.2.2.1,h.2.2.2.2.2.1,h.2.2.2.2.2.2⟩
  have t:=tl _ _ pu ⟨v1.call.wk ⟨wk,trivial⟩,⟨pu,trivial⟩,v1.pr⟩ ⟨v2.call.wk ⟨wk,trivial⟩,⟨pu,trivial⟩,v2.pr⟩;repeat(first|refine aa_ ?_|simp only[go_sem,e])
  refine Ri_ ?_
  refine bE_ ?_ t;exact SN_ [1] [0]
 have e:(W==5)=false:=by simp[q5]
 repeat(first|refine aa_ ?_|simp only[go_sem,e])
 refine Rh_ ?_
 clear e;by_cases q6:W=6
 ·have e:(W==6)=true:=by simp[q6]
  obtain⟨v1,v2⟩:=dw_ (⟨a.sto.cfg,a.sto.latest,a.sto.eqv,a.sto.j,a.sto.f,a.sto.early,a.sto.orph,a.sto.nodes,a.sto.now,(lD_ (du_ .i64 K 31)),a.sto.tabs⟩:ah_) ⟨hr.bn,hr.bl,hr.be,hr.bt,hr.bb,hr.bu,hr.bo,hr.ba,hr.bv,hr.bc,hr.cu,hr.uf⟩ hw;have t:=tl _ _ (ah_.pul _) v1 v2;repeat(first|refine aa_ ?_|simp only[go_sem,e])
  refine Ri_ ?_
  refine So_ (dN_ _) ?_
  refine bE_ ?_ t;exact SN_ [1] [0]
 have e:(W==6)=false:=by simp[q6]
 repeat(first|refine aa_ ?_|simp only[go_sem,e])
 refine Rh_ ?_
 clear e;by_cases q7:W=7
 ·have e:(W==7)=true:=by simp[q7]
  obtain⟨v1,v2⟩:=dw_ (⟨a.sto.cfg,a.sto.latest,a.sto.eqv,a.sto.j,a.sto.f,a.sto.early,a.sto.orph,a.sto.nodes,(IntKind.u64.wrap (du_ .i64 K 7)),a.sto.boost,a.sto.tabs⟩:ah_) ⟨hr.bn,hr.bl,hr.be,hr.bt,hr.bb,hr.bu,hr.bo,hr.ba,hr.bv,hr.bc,hr.cu,hr.uf⟩ (be_ _);have t:=tl _ _ (ah_.pul _) v1 v2;repeat(first|refine aa_ ?_|simp only[go_sem,e])
  refine Ri_ ?_
  refine bE_ ?_ t;exact SN_ [1] [0]
 have e:(W==7)=false:=by simp[q7]
 repeat(first|refine aa_ ?_|simp only[go_sem,e])
 refine Rh_ ?_
 clear e;by_cases q8:W=8
 ·have e:(W==8)=true:=by simp[q8]
  obtain⟨v1,v2⟩:=dw_ (⟨a.sto.cfg,a.sto.latest,a.sto.eqv,a.sto.j,a.sto.f,a.sto.early,a.sto.orph,(a.sto.nodes.set p ⟨(nod a.sto.nodes p).blk,(nod a.sto.nodes p).up,du_ .i64 (dg_ .i64 K 4) 3⟩),a.sto.now,a.sto.boost,a.sto.tabs⟩:ah_) ⟨(by rw[List.length_set];exact hr.bn),hr.bl,hr.be,hr.bt,hr.bb,hr.bu,hr.bo,hr.ba,hr.bv,hr.bc,hr.cu,hr.uf⟩ hw;have t:=tl _ _ (ah_.pul _) v1 v2;repeat(first|refine aa_ ?_|simp only[go_sem,e])
  refine ac_ ?_;repeat(first|refine aa_ ?_|simp only[go_sem,hgd,hpp,hpi,hset])
  refine la_ [1] ?_;simp only[evZ,pw_];(try simp only[go_sem,Nat.reduceAdd,Nat.reduceSub,Nat.reduceMul,Nat.reduceLT,Nat.reduceLeDiff,Nat.reduceEqDiff,reduceIte,Int.reduceToNat,Int.reduceLT,Int.reduceLE,Int.reduceEq,Int.reduceNeg,reduceCtorEq,Int.reduceBEq,Int.reduceBNe,htk])
  refine bE_ ?_ t;exact SN_ [] [0]
 have e:(W==8)=false:=by simp[q8]
 repeat(first|refine aa_ ?_|simp only[go_sem,e])
 refine Rh_ ?_
 clear e;by_cases q9:W=9
 ·have e:(W==9)=true:=by simp[q9]
  obtain⟨v1,v2⟩:=dw_ (⟨a.sto.cfg,a.sto.latest,a.sto.eqv,a.sto.j,a.sto.f,a.sto.early,a.sto.orph,(a.sto.nodes.set p ⟨⟨⟨⟨IntKind.u64.wrap (du_ .i64 (dg_ .i64 K 4) 7),(nod a.sto.nodes p).blk.pul.j.rt⟩,(nod a.sto.nodes p).blk.pul.f⟩,(nod a.sto.nodes p).blk.slot,(nod a.sto.nodes p).blk.root,(nod a.sto.nodes p).blk.parent,(nod a.sto.nodes p).blk.payload,(nod a.sto.nodes p).blk.diff,(nod a.sto.nodes p).blk.pdiff,(nod a.sto.nodes p).blk.just,(nod a.sto.nodes p).blk.fin,(nod a.sto.nodes p).blk.timely⟩,(nod a.sto.nodes p).up,(nod a.sto.nodes p).status⟩),a.sto.now,a.sto.boost,a.sto.tabs⟩:ah_) ⟨(by rw[List.length_set];exact hr.bn),hr.bl,hr.be,hr.bt,hr.bb,hr.bu,hr.bo,hr.ba,hr.bv,hr.bc,hr.cu,hr.uf⟩ hw;have t:=tl _ _ (ah_.pul _) v1 v2;repeat(first|refine aa_ ?_|simp only[go_sem,e])
  refine ac_ ?_;repeat(first|refine aa_ ?_|simp only[go_sem,hgd,hpp,hpi,hset])
  refine la_ [1] ?_;simp only[evZ,pw_];(try simp only[go_sem,Nat.reduceAdd,Nat.reduceSub,Nat.reduceMul,Nat.reduceLT,Nat.reduceLeDiff,Nat.reduceEqDiff,reduceIte,Int.reduceToNat,Int.reduceLT,Int.reduceLE,Int.reduceEq,Int.reduceNeg,reduceCtorEq,Int.reduceBEq,Int.reduceBNe,htk])
  refine bE_ ?_ t;exact SN_ [] [0]
 have e:(W==9)=false:=by simp[q9]
 repeat(first|refine aa_ ?_|simp only[go_sem,e])
 refine Rh_ ?_
 clear e;by_cases q10:W=10
 ·have e:(W==10)=true:=by simp[q10]
  obtain⟨v1,v2⟩:=dw_ (⟨a.sto.cfg,a.sto.latest,a.sto.eqv,a.sto.j,a.sto.f,a.sto.early,a.sto.orph,(a.sto.nodes.set p ⟨⟨⟨(nod a.sto.nodes p).blk.pul.j,(nod a.sto.nodes p).blk.pul.f⟩,IntKind.u64.wrap (du_ .i64 (dg_ .i64 K 4) 15),(nod a.sto.nodes p).blk.root,(nod a.sto.nodes p).blk.parent,(nod a.sto.nodes p).blk.payload,(nod a.sto.nodes p).blk.diff,(nod a.sto.nodes p).blk.pdiff,(nod a.sto.nodes p).blk.just,(nod a.sto.nodes p).blk.fin,(nod a.sto.nodes p).blk.timely⟩,(nod a.sto.nodes p).up,(nod a.sto.nodes p).status⟩),a.sto.now,a.sto.boost,a.sto.tabs⟩:ah_) ⟨(by rw[List.length_set];exact hr.bn),hr.bl,hr.be,hr.bt,hr.bb,hr.bu,hr.bo,hr.ba,hr.bv,hr.bc,hr.cu,hr.uf⟩ hw;have t:=tl _ _ (ah_.pul _) v1 v2;repeat(first|refine aa_ ?_|simp only[go_sem,e])
  refine ac_ ?_;repeat(first|refine aa_ ?_|simp only[go_sem,hgd,hpp,hpi,hset])
  refine la_ [1] ?_;simp only[evZ,pw_];(try simp only[go_sem,Nat.reduceAdd,Nat.reduceSub,Nat.reduceMul,Nat.reduceLT,Nat.reduceLeDiff,Nat.reduceEqDiff,reduceIte,Int.reduceToNat,Int.reduceLT,Int.reduceLE,Int.reduceEq,Int.reduceNeg,reduceCtorEq,Int.reduceBEq,Int.reduceBNe,htk])
  refine bE_ ?_ t;exact SN_ [] [0]
 have e:(W==10)=false:=by simp[q10]
 repeat(first|refine aa_ ?_|simp only[go_sem,e])
 refine Rh_ ?_
 clear e;by_cases q11:W=11
 ·have e:(W==11)=true:=by simp[q11]
  obtain⟨v1,v2⟩:=dw_ (⟨⟨⟨1,a.sto.cfg.lim.orph,a.sto.cfg.lim.early,a.sto.cfg.lim.table,a.sto.cfg.lim.retry,a.sto.cfg.lim.backoff⟩,a.sto.cfg.spe,a.sto.cfg.boost,a.sto.cfg.ttd,a.sto.cfg.gen,a.sto.cfg.bals⟩,a.sto.latest,a.sto.eqv,a.sto.j,a.sto.f,a.sto.early,a.sto.orph,a.sto.nodes,a.sto.now,a.sto.boost,a.sto.tabs⟩:ah_) ⟨hr.bn,hr.bl,hr.be,hr.bt,hr.bb,hr.bu,hr.bo,hr.ba,hr.bv,hr.bc,hr.cu,hr.uf⟩ hw;have t:=tl _ _ (ah_.pul _) v1 v2;repeat(first|refine aa_ ?_|simp only[go_sem,e])
  refine Ri_ ?_
  refine bE_ ?_ t;exact SN_ [1] [0]
 have e:(W==11)=false:=by simp[q11]
 repeat(first|refine aa_ ?_|simp only[go_sem,e])
 refine Rh_ ?_
 clear e;by_cases q12:W=12
 ·have e:(W==12)=true:=by simp[q12]
  obtain⟨v1,v2⟩:=dw_ (⟨a.sto.cfg,a.sto.latest,a.sto.eqv,a.sto.j,a.sto.f,a.sto.early,(a.sto.orph++[bk]),a.sto.nodes,a.sto.now,a.sto.boost,a.sto.tabs⟩:ah_) ⟨hr.bn,hr.bl,hr.be,hr.bt,hr.bb,hr.bu,(by rw[List.length_append];have:=hI.oo;show _+1≤_;omega),hr.ba,hr.bv,hr.bc,hr.cu,hr.uf⟩ hw;have t:=tl _ _ (ah_.pul _) v1 v2;repeat(first|refine aa_ ?_|simp only[go_sem,e])
  refine ac_ ?_;refine la_ [1] ?_;simp only[evZ,pw_];(try simp only[go_sem,Nat.reduceAdd,Nat.reduceSub,Nat.reduceMul,Nat.reduceLT,Nat.reduceLeDiff,Nat.reduceEqDiff,reduceIte,Int.reduceToNat,Int.reduceLT,Int.reduceLE,Int.reduceEq,Int.reduceNeg,reduceCtorEq,Int.reduceBEq,Int.reduceBNe])
  repeat(first|refine aa_ ?_|simp only[go_sem,hsnO])
  refine ao_ (cbk) ?_;repeat(first|refine aa_ ?_|simp only[go_sem,hsnO])
  refine bE_ ?_ t;exact SN_ [4] [0]
 have e:(W==12)=false:=by simp[q12]
 repeat(first|refine aa_ ?_|simp only[go_sem,e])
 refine Rh_ ?_
 clear e;by_cases q13:W=13
 ·have e:(W==13)=true:=by simp[q13]
  obtain⟨v1,v2⟩:=dw_ (⟨a.sto.cfg,a.sto.latest,a.sto.eqv,a.sto.j,a.sto.f,(a.sto.early++[at_]),a.sto.orph,a.sto.nodes,a.sto.now,a.sto.boost,a.sto.tabs⟩:ah_) ⟨hr.bn,hr.bl,hr.be,hr.bt,hr.bb,hr.bu,hr.bo,(by rw[List.length_append];have:=hI.aa;show _+1≤_;omega),(fun x hx=>(List.mem_append.1 hx).elim (hr.bv x) fun h=>by rw[List.mem_singleton.1 h];have:=hat.len;omega),hr.bc,hr.cu,hr.uf⟩ hw;have t:=tl _ _ (ah_.pul _) v1 v2;repeat(first|refine aa_ ?_|simp only[go_sem,e])
  refine ac_ ?_;refine la_ [1] ?_;simp only[evZ,pw_];(try simp only[go_sem,Nat.reduceAdd,Nat.reduceSub,Nat.reduceMul,Nat.reduceLT,Nat.reduceLeDiff,Nat.reduceEqDiff,reduceIte,Int.reduceToNat,Int.reduceLT,Int.reduceLE,Int.reduceEq,Int.reduceNeg,reduceCtorEq,Int.reduceBEq,Int.reduceBNe])
  repeat(first|refine aa_ ?_|simp only[go_sem,hsnE])
  refine ao_ (cat_) ?_;repeat(first|refine aa_ ?_|simp only[go_sem,hsnE])
  refine bE_ ?_ t;exact SN_ [4] [0]
 have e:(W==13)=false:=by simp[q13]
 repeat(first|refine aa_ ?_|simp only[go_sem,e])
 refine Rh_ ?_
 clear e;by_cases q14:W=14
 ·have e:(W==14)=true:=by simp[q14]
  obtain⟨v1,v2⟩:=dw_ (⟨a.sto.cfg,a.sto.latest,a.sto.eqv,a.sto.j,a.sto.f,a.sto.early,a.sto.orph,a.sto.nodes,(IntKind.u64.wrap (1099511627776+IntKind.u64.wrap (du_ .i64 K 1))),a.sto.boost,a.sto.tabs⟩:ah_) ⟨hr.bn,hr.bl,hr.be,hr.bt,hr.bb,hr.bu,hr.bo,hr.ba,hr.bv,hr.bc,hr.cu,hr.uf⟩ (be_ _);have t:=tl _ _ (ah_.pul _) v1 v2;repeat(first|refine aa_ ?_|simp only[go_sem,e])
  refine Ri_ ?_
  refine bE_ ?_ t;exact SN_ [1] [0]
 have e:(W==14)=false:=by simp[q14]
 repeat(first|refine aa_ ?_|simp only[go_sem,e])
 refine Rh_ ?_
 clear e;by_cases q15:W=15
 ·have e:(W==15)=true:=by simp[q15]
  obtain⟨v1,v2⟩:=dw_ (⟨a.sto.cfg,a.sto.latest,a.sto.eqv,a.sto.j,a.sto.f,a.sto.early,a.sto.orph,(a.sto.nodes.set p ⟨⟨⟨(nod a.sto.nodes p).blk.pul.j,(nod a.sto.nodes p).blk.pul.f⟩,(nod a.sto.nodes p).blk.slot,(nod a.sto.nodes p).blk.root,(nod a.sto.nodes p).blk.parent,(nod a.sto.nodes p).blk.payload,(nod a.sto.nodes p).blk.diff,(nod a.sto.nodes p).blk.pdiff,(nod a.sto.nodes p).blk.just,⟨IntKind.u64.wrap (du_ .i64 (dg_ .i64 K 4) 3),(nod a.sto.nodes p).blk.fin.rt⟩,(nod a.sto.nodes p).blk.timely⟩,(nod a.sto.nodes p).up,(nod a.sto.nodes p).status⟩),a.sto.now,a.sto.boost,a.sto.tabs⟩:ah_) ⟨(by rw[List.length_set];exact hr.bn),hr.bl,hr.be,hr.bt,hr.bb,hr.bu,hr.bo,hr.ba,hr.bv,hr.bc,hr.cu,hr.uf⟩ hw;have t:=tl _ _ (ah_.pul _) v1 v2;repeat(first|refine aa_ ?_|simp only[go_sem,e])
  refine ac_ ?_;repeat(first|refine aa_ ?_|simp only[go_sem,hgd,hpp,hpi,hset])
  refine la_ [1] ?_;simp only[evZ,pw_];(try simp only[go_sem,Nat.reduceAdd,Nat.reduceSub,Nat.reduceMul,Nat.reduceLT,Nat.reduceLeDiff,Nat.reduceEqDiff,reduceIte,Int.reduceToNat,Int.reduceLT,Int.reduceLE,Int.reduceEq,Int.reduceNeg,reduceCtorEq,Int.reduceBEq,Int.reduceBNe,htk])
  refine bE_ ?_ t;exact SN_ [] [0]
 have e:(W==15)=false:=by simp[q15]
 repeat(first|refine aa_ ?_|simp only[go_sem,e])
 refine Rh_ ?_
 clear e;by_cases q16:W=16
 ·have e:(W==16)=true:=by simp[q16]
  obtain⟨v1,v2⟩:=dw_ (⟨a.sto.cfg,a.sto.latest,a.sto.eqv,a.sto.j,⟨IntKind.u64.wrap (du_ .i64 K 3),a.sto.f.rt⟩,a.sto.early,a.sto.orph,a.sto.nodes,a.sto.now,a.sto.boost,a.sto.tabs⟩:ah_) ⟨hr.bn,hr.bl,hr.be,hr.bt,hr.bb,hr.bu,hr.bo,hr.ba,hr.bv,hr.bc,hr.cu,(be_ _)⟩ hw;have t:=tl _ _ (ah_.pul _) v1 v2;repeat(first|refine aa_ ?_|simp only[go_sem,e])
  refine Ri_ ?_
  refine bE_ ?_ t;exact SN_ [1] [0]
 have e:(W==16)=false:=by simp[q16]
 repeat(first|refine aa_ ?_|simp only[go_sem,e])
 refine Rh_ ?_
 clear e;obtain⟨v1,v2⟩:=dw_ a.sto hr hw;have t:=tl _ _ (ah_.pul _) v1 v2;refine bE_ ?_ t;exact SN_ [1] [0]
end Go.Proofs.YtkgimpdgncakjaaGreat
