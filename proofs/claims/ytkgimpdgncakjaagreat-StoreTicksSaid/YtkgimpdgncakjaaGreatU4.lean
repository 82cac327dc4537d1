/-
 My texts Me, Mf, Mg, joined.
-/
import Derived.Test.YtkgimpdgncakjaaGreatU3
import Derived.Test.YtkgimpdgncakjaaGreatU1
namespace Go.Proofs.YtkgimpdgncakjaaGreat
open Go Go.FH Go.RowKit
set_option linter.unusedVariables false
set_option linter.unusedSimpArgs false
set_option maxRecDepth 8000
set_option maxHeartbeats 4000000
structure OW_(c:bt_):Prop where
 r:OX_ c
 new:hi_ c=0
 bu:∀x∈c.bals,0≤x∧x<40
theorem vu_{l:List Int}(h:∀x∈l,0≤x∧x<40)(hl:l.length≤6):∀n,n≤l.length→(fc_ l n).2=0∧0≤(fc_ l n).1∧(fc_ l n).1≤40*n
 |0,_=>⟨rfl,Int.le_refl _,by show (0:Int)≤_;omega⟩
 | n + 1, hn => by
   obtain⟨h1,h2,h3⟩:=vu_ h hl n (by omega);have hs:fc_ l (n+1)=rM_ (fc_ l n).1 (l.getD n 0):=by show (if (fc_ l n).2≠0 then fc_ l n else _)=_;rw[if_neg (by simp[h1])]
   have hx:=h _ (dN_ 0 (show n<l.length by omega));rw[hs];unfold rM_;have hw:IntKind.u64.wrap ((fc_ l n).1+l.getD n 0)=(fc_ l n).1+l.getD n 0:=aL_ (by omega) (by omega);have hw2:IntKind.u64.wrap (18446744073709551615-l.getD n 0)=18446744073709551615-l.getD n 0:=aL_ (by omega) (by omega);split
   ·rename_i hh;first|(rw[hw2]at hh;omega)|omega
   ·dsimp only;rw[hw];exact⟨rfl,by omega,by omega⟩
theorem Nu_{c:bt_}(h1:1≤c.spe)(h2:c.spe≤64)(h3:c.boost≤100)(h4:c.bals.length≤6)(n1:1≤c.lim.node)(n2:c.lim.node≤4096)(o1:0≤c.lim.orph)(o2:c.lim.orph≤64)(e1:0≤c.lim.early)(e2:c.lim.early≤256)(t1:1≤c.lim.table)(t2:c.lim.table≤64)
 (r1:0≤c.lim.retry) (r2:c.lim.retry≤256) (b1:1≤c.lim.backoff) (b2:c.lim.backoff≤1048576) (hg:c.gen≠rt0) (hb:∀x∈c.bals,0≤x∧x<40):hi_ c=0:=by
 have w:∀ {n lo hi:Int},lo≤n→n≤hi→wit n lo hi=true:=fun h1 h2=>by unfold wit;rw[decide_eq_true h1,decide_eq_true h2];rfl
 have hs:=vu_ hb h4 c.bals.length (Nat.le_refl _)
 have hv:eu_ ⟨⟨0,c.gen⟩,c.bals⟩ c.bals.length=0:=by
  unfold eu_ re_;dsimp only;rw[if_neg (by simp),if_neg];rintro (h|h)
  ·exact h hs.1
  ·omega
 unfold hi_;rw[if_neg (by omega),if_neg (by omega),if_neg (by omega),if_neg (by omega),w n1 n2,w o1 o2,w e1 e2,w t1 t2,w r1 r2,if_neg (by simp),if_neg (by simp),if_neg (by simp),if_neg (by simp),if_neg (by simp),if_neg (by omega),if_neg (by omega),if_neg hg,hv]
def ti_(l:List Int)(n:Nat):List Int:=(List.range n).map fun i=>IntKind.u64.wrap (Int.tmod (atN l (10+i)) 40)
theorem Bu_(l:List Int)(n:Nat):(ti_ l n).length=n:=by simp[ti_]
theorem MU_(l:List Int)(n:Nat)(hn:n≤100):∀x∈ti_ l n,0≤x∧x<40:=fun x hx=>by
 unfold ti_ at hx;obtain⟨v,hv,rfl⟩:=List.mem_map.1 hx;rw[List.mem_range]at hv;obtain⟨r,h,h'⟩:=bQ_ (n:=40) (fB_ l (10+v) (by omega)).1 (by decide);have h2:Int.tmod (atN l (10+v)) 40=(r:Int):=h;rw[h2,aL_ (by omega) (by omega)];omega
theorem Pj_(l:List Int)(n:Nat):ti_ l (n+1)=ti_ l n++[IntKind.u64.wrap (Int.tmod (atN l (10+n)) 40)]:=by simp[ti_,List.range_succ]
theorem Na_(x:Cfg)(v:AV):(bf_ x).set 44 v=bf_ { x with bals:=v }:=by
 simp only[bf_,List.set_append,bs_,aC_,ag_,List.length_cons,Nat.reduceSub,Nat.reduceLT,if_false,List.set_cons_succ,List.set_cons_zero]
theorem MZ_(x:Cfg):(bf_ x).getD 44 .dead=x.bals:=by
 simp only[bf_,List.getD_eq_getElem?_getD,List.getElem?_append,bs_,aC_,ag_,List.length_cons,Nat.reduceSub,Nat.reduceLT,if_false,List.getElem?_cons_succ,List.getElem?_cons_zero,Option.getD_some]
section
variable{fr:Fr}{σ:St}{rs:List eA_}{G:bt_→Prop}{l:List AV}{a:Lim}{b c:Int}{d:Wd}{e:Rt}{f:List Int}
theorem NP_(hl:bV_ fr σ rs=some l)(hv:fz σ (List.range σ.length) (ee_ l)=.agg (bf_ ⟨a,b,c,d,e,.sl 1 false (aq_ .u64 f)⟩))(hg:G ⟨a,b,c,d,e,f⟩):Sm G fun x=>PQ rs (.agg (bf_ x.a)) .ret fr σ:=⟨_,hg,l,hl,.inl hv⟩
end
theorem xJ_(l:List Int):Sm OW_ fun c=>PC Tryz.prog 55 [.sl 1 false (aq_ .i64 l)] (.agg (bf_ c.a)):=by
 refine fU_ 5 wo_ (by simp) puA (fun r _=>puA) ?_;unfold nw_;refine bd ?_;obtain⟨r0,h0,b0⟩:=bQ_ (n:=8) (fB_ l 0 (by decide)).1 (by decide);have t0:Int.tmod (atN l 0) 8=(r0:Int):=h0;have a0:PC Tryz.prog 103 [.sl 1 false (aq_ .i64 l),.int .i64 0] (.int .i64 (atN l 0)):=dm_ l false 0 (by decide);obtain⟨r1,h1,b1⟩:=bQ_ (n:=4) (fB_ l 1 (by decide)).1 (by decide);have t1:Int.tmod (atN l 1) 4=(r1:Int):=h1;have a1:PC Tryz.prog 103 [.sl 1 false (aq_ .i64 l),.int .i64 1] (.int .i64 (atN l 1)):=dm_ l false 1 (by decide);obtain⟨r2,h2,b2⟩:=bQ_ (n:=4) (fB_ l 2 (by decide)).1 (by decide);have t2:Int.tmod (atN l 2) 4=(r2:Int):=h2;have a2:PC Tryz.prog 103 [.sl 1 false (aq_ .i64 l),.int .i64 2] (.int .i64 (atN l 2)):=dm_ l false 2 (by decide);obtain⟨r3,h3,b3⟩:=bQ_ (n:=4) (fB_ l 3 (by decide)).1 (by decide);have t3:Int.tmod (atN l 3) 4=(r3:Int):=h3;have a3:PC Tryz.prog 103 [.sl 1 false (aq_ .i64 l),.int .i64 3] (.int .i64 (atN l 3)):=dm_ l false 3 (by decide);obtain⟨r4,h4,b4⟩:=bQ_ (n:=4) (fB_ l 4 (by decide)).1 (by decide);have t4:Int.tmod (atN l 4) 4=(r4:Int):=h4;have a4:PC Tryz.prog 103 [.sl 1 false (aq_ .i64 l),.int .i64 4] (.int .i64 (atN l 4)):=dm_ l false 4 (by decide);obtain⟨r5,h5,b5⟩:=bQ_ (n:=5) (fB_ l 5 (by decide)).1 (by decide);have t5:Int.tmod (atN l 5) 5=(r5:Int):=h5;have a5:PC Tryz.prog 103 [.sl 1 false (aq_ .i64 l),.int .i64 5] (.int .i64 (atN l 5)):=dm_ l false 5 (by decide);obtain⟨r6,h6,b6⟩:=bQ_ (n:=4) (fB_ l 6 (by decide)).1 (by decide);have t6:Int.tmod (atN l 6) 4=(r6:Int):=h6;have a6:PC Tryz.prog 103 [.sl 1 false (aq_ .i64 l),.int .i64 6] (.int .i64 (atN l 6)):=dm_ l false 6 (by decide);obtain⟨r7,h7,b7⟩:=bQ_ (n:=3) (fB_ l 7 (by decide)).1 (by decide);have t7:Int.tmod (atN l 7) 3=(r7:Int):=h7;have a7:PC Tryz.prog 103 [.sl 1 false (aq_ .i64 l),.int .i64 7] (.int .i64 (atN l 7)):=dm_ l false 7 (by decide);obtain⟨r8,h8,b8⟩:=bQ_ (n:=2) (fB_ l 8 (by decide)).1 (by decide);have t8:Int.tmod (atN l 8) 2=(r8:Int):=h8;have a8:PC Tryz.prog 103 [.sl 1 false (aq_ .i64 l),.int .i64 8] (.int .i64 (atN l 8)):=dm_ l false 8 (by decide);obtain⟨r9,h9,b9⟩:=bQ_ (n:=5) (fB_ l 9 (by decide)).1 (by decide);have t9:Int.tmod (atN l 9) 5=(r9:Int):=h9;have a9:PC Tryz.prog 103 [.sl 1 false (aq_ .i64 l),.int .i64 9] (.int .i64 (atN l 9)):=dm_ l false 9 (by decide)
 obtain⟨bo,hbo,hbo0,hbo1⟩:∃bo:Int,([[.int .i64 0],[.int .i64 40],[.int .i64 100]]:List (List AV)).getD r7 []=[.int .i64 bo]∧0≤bo∧bo≤100:=by
  match r7,b7 with
  |0,_=>exact⟨0,rfl,by decide,by decide⟩
  |1,_=>exact⟨40,rfl,by decide,by decide⟩
  |2,_=>exact⟨100,rfl,by decide,by decide⟩
 have sw0:∀ (w:Wd) (x:Int),spl (wdc w) 0 [.int .u64 x]=wdc (w.set 0 x):=fun w x=>jb_ w (by decide) x
 have sw1:∀ (w:Wd) (x:Int),spl (wdc w) 1 [.int .u64 x]=wdc (w.set 1 x):=fun w x=>jb_ w (by decide) x
 have sw2:∀ (w:Wd) (x:Int),spl (wdc w) 2 [.int .u64 x]=wdc (w.set 2 x):=fun w x=>jb_ w (by decide) x
 refine bE_ ?_;refine ec_ ?_;refine bE_ ?_;refine ec_ ?_;refine ca_ (a0) ?_;repeat(first|refine gd_ ?_|simp only[go_sem,t0,hbo,sw0,sw1,sw2])
 refine ca_ (a1) ?_;repeat(first|refine gd_ ?_|simp only[go_sem,t1,hbo,sw0,sw1,sw2])
 refine ca_ (a2) ?_;repeat(first|refine gd_ ?_|simp only[go_sem,t2,hbo,sw0,sw1,sw2])
 refine ca_ (a3) ?_;repeat(first|refine gd_ ?_|simp only[go_sem,t3,hbo,sw0,sw1,sw2])
 refine ca_ (a4) ?_;repeat(first|refine gd_ ?_|simp only[go_sem,t4,hbo,sw0,sw1,sw2])
 refine ca_ (a5) ?_;repeat(first|refine gd_ ?_|simp only[go_sem,t5,hbo,sw0,sw1,sw2])
 refine ca_ (a6) ?_;repeat(first|refine gd_ ?_|simp only[go_sem,t6,hbo,sw0,sw1,sw2])
 refine ca_ (a7) ?_;repeat(first|refine gd_ ?_|simp only[go_sem,t7,hbo,sw0,sw1,sw2])
 refine ca_ (a8) ?_;repeat(first|refine gd_ ?_|simp only[go_sem,t8,hbo,sw0,sw1,sw2])
 refine ca_ (el_ 1) ?_;refine gd_ ?_
 refine Ql_ (fr2:=⟨5,[.sl 1 false (aq_ .i64 l),.dead,.ptr 0 0,.ptr 1 0,.dead],[]⟩) (σ2:=[.var (bf_ ih_),.var (bf_ ⟨⟨IntKind.i64.wrap (6+r0),r1,r2,IntKind.i64.wrap (1+r3),r4,IntKind.u64.wrap (IntKind.i64.wrap (1+r5))⟩,IntKind.u64.wrap (IntKind.i64.wrap (1+r6)),IntKind.u64.wrap bo,((wd0.set 0 100).set 1 0).set 2 (IntKind.u64.wrap r8),yH_ 1,.sl 0 true []⟩)]) (by exact QV_ [] [0,11]) ?_;have hN:IntKind.i64.wrap (6+(r0:Int))≤13:=by rw[aF_ (by omega) (by omega)];omega
 have hN1:1≤IntKind.i64.wrap (6+(r0:Int)):=by rw[aF_ (by omega) (by omega)];omega
 have hT1:1≤IntKind.i64.wrap (1+(r3:Int)):=by rw[aF_ (by omega) (by omega)];omega
 have hB:IntKind.u64.wrap (IntKind.i64.wrap (1+(r5:Int)))=1+r5:=by rw[aF_ (by omega) (by omega),aL_ (by omega) (by omega)]
 have hP:IntKind.u64.wrap bo≤100:=by rw[aL_ (by omega) (by omega)];exact hbo1
 have hG:yH_ 1≠rt0:=by decide
 have hT:IntKind.i64.wrap (1+(r3:Int))≤4:=by rw[aF_ (by omega) (by omega)];omega
 have hS:IntKind.u64.wrap (IntKind.i64.wrap (1+(r6:Int)))=1+r6:=by rw[aF_ (by omega) (by omega),aL_ (by omega) (by omega)]
 have hW:WdG (((wd0.set 0 100).set 1 0).set 2 (IntKind.u64.wrap r8)):=((rL_.set _ ⟨by decide,by decide⟩).set _ ⟨by decide,by decide⟩).set _ (bg_ _);rw[hS];generalize IntKind.i64.wrap (6+(r0:Int))=cN at *;generalize IntKind.i64.wrap (1+(r3:Int))=cT at *;generalize IntKind.u64.wrap (IntKind.i64.wrap (1+(r5:Int)))=cB at *;generalize IntKind.u64.wrap bo=cP at *;generalize ((wd0.set 0 100).set 1 0).set 2 (IntKind.u64.wrap r8)=cW at *;have hn9:IntKind.i64.wrap (2+(r9:Int))=((2+r9:Nat):Int):=by rw[aF_ (by omega) (by omega)];omega
 refine bE_ ?_;refine vn_ (fun L:List Int=>L.length=2+r9∧∀x∈L,0≤x∧x<40) (fun _=>[]) (fun L=>[.var (bf_ ih_),.var (bf_ ⟨⟨cN,r1,r2,cT,r4,cB⟩,1+r6,cP,cW,yH_ 1,.hs 1 2 0 L.length⟩),.vec 1 (aq_ .u64 L)]) ?_ (fun L hL=>?_)
 ·refine Mm_ (ti_ l (2+r9)) ⟨Bu_ _ _,MU_ _ _ (by omega)⟩ ?_
  generalize hM:2+r9=M at *;try refine aa_ ?_
  refine iB_ 1 44 1 ?_ (by rfl) (by exact MZ_ _);simp only[go_sem,Na_];refine am_ (fun i:Nat=>[(4,.int .i64 i)]) (fun i=>[.var (bf_ ih_),.var (bf_ ⟨⟨cN,r1,r2,cT,r4,cB⟩,1+r6,cP,cW,yH_ 1,.hs 1 2 0 (ti_ l i).length⟩),.vec 1 (aq_ .u64 (ti_ l i))]) (fun i=>M-i) (fun i=>i≤M) 0 (Nat.zero_le _) ?_ ?_
  ·rw[show ti_ l 0=[]from rfl];exact QV_ [] [0,1,2]
  intro i hi;have hlen:=Bu_ l i;by_cases h1:i<M
  ·have e1:decide ((i:Int)<(M:Int))=true:=decide_eq_true (by omega);have hw:=ae_ h1 (by omega);have hw2:IntKind.i64.wrap (10+(i:Int))=((10+i:Nat):Int):=by rw[aF_ (by omega) (by omega)];omega
   have hs:=Pj_ l i;have aa:=dm_ l false (10+i) (by omega);try refine aa_ ?_
   refine ah_ a9 ?_;repeat(first|refine aa_ ?_|simp only[go_sem,t9,hn9,e1])
   refine ac_ ?_;repeat(first|refine aa_ ?_|simp only[go_sem,hw2])
   refine au_ (aa) ?_;repeat(first|refine aa_ ?_|simp only[go_sem,hw])
   refine⟨i+1,h1,by omega,?_⟩;rw[hs];exact QV_ [] [0,1,4]
  ·obtain rfl:i=M:=by omega
   have e1:decide ((i:Int)<(i:Int))=false:=decide_eq_false (by omega);try refine aa_ ?_
   refine ah_ a9 ?_;repeat(first|refine aa_ ?_|simp only[go_sem,t9,hn9,e1])
   refine PG_ ?_
   exact QV_ [] [0,1,2]
 (try simp only[ar_])
 refine bm_ ?_;refine NP_ (by first|rfl|exact evd) (by first|rfl|((try simp only[go_sem,Nat.reduceAdd,Nat.reduceSub,Nat.reduceMul,Nat.reduceLT,Nat.reduceLeDiff,Nat.reduceEqDiff,reduceIte,Int.reduceToNat,Int.reduceLT,Int.reduceLE,Int.reduceEq,Int.reduceNeg,reduceCtorEq,Int.reduceBEq,Int.reduceBNe]);rfl)) ?_;obtain⟨hL1,hL2⟩:=hL;refine⟨⟨?_,?_,?_,?_,?_,?_,?_,?_,?_,hW⟩,Nu_ ?_ ?_ ?_ ?_ ?_ ?_ ?_ ?_ ?_ ?_ ?_ ?_ ?_ ?_ ?_ ?_ hG hL2,hL2⟩<;>dsimp only<;>omega
structure Pa_(x:da_):Prop where
 a1:U64 x.fst.src
 a2:U64 x.fst.tgt
 b1:U64 x.snd.src
 b2:U64 x.snd.tgt
 l1:x.fst.vals.length≤10
 l2:x.snd.vals.length≤10
section
variable{fr:Fr}{σ:St}{rs:List eA_}{G:da_→Prop}{l:List AV}{a1 a2 b1 b2:Int}{r1 r2:Rt}{m1 m2:List Int}
theorem NQ_(hl:bV_ fr σ rs=some l)(hv:fz σ (List.range σ.length) (ee_ l)=.agg (bZ_ ⟨⟨a1,a2,r1,.sl 1 false (aq_ .i64 m1)⟩,⟨b1,b2,r2,.sl 1 false (aq_ .i64 m2)⟩⟩))(hg:G ⟨⟨a1,a2,r1,m1⟩,⟨b1,b2,r2,m2⟩⟩):Sm G fun x=>PQ rs (.agg (bZ_ x.a)) .ret fr σ:=⟨_,hg,l,hl,.inl hv⟩
end
theorem Hv_(n:Nat)(k:Int)(hn:n≤10):Sm Pa_ fun x=>PC Tryz.prog 24 [.int .i64 n,.int .i64 k] (.agg (bZ_ x.a)):=by
 have S1:=yN_ n k (by omega);have S2:=yN_ n (dq_ .i64 k 6) (by omega);have l1:=yM_ n k;have l2:=yM_ n (dq_ .i64 k 6);generalize yL_ n k=A at *;generalize yL_ n (dq_ .i64 k 6)=B at *;have u1:U64 1:=⟨by decide,by decide⟩;have u2:U64 2:=⟨by decide,by decide⟩;have u4:U64 4:=⟨by decide,by decide⟩;have u5:U64 5:=⟨by decide,by decide⟩;have u6:U64 6:=⟨by decide,by decide⟩;refine fU_ 6 rV_ (by simp) puA (fun r _=>puA) ?_;unfold kz_;refine bd ?_;refine bE_ ?_;refine ec_ ?_;refine bE_ ?_;refine ec_ ?_;refine bu_ (el_ 2) ?_;refine gd_ ?_;refine bu_ (S1) ?_;refine gd_ ?_;refine bu_ (el_ 2) ?_;refine gd_ ?_;refine bu_ (S2) ?_;refine gd_ ?_;repeat'(first|refine bm_ ?_|(refine aS_ (fun h=>?_) (fun h=>?_)<;>try(exact absurd h (by decide)))|refine cr_ (fun h=>?_) (fun h=>?_))
 all_goals try(refine bu_ (el_ _) ?_;repeat'(first|refine bm_ ?_|(refine aS_ (fun h=>?_) (fun h=>?_)<;>try(exact absurd h (by decide)))|refine cr_ (fun h=>?_) (fun h=>?_)))
 all_goals(refine NQ_ (by first|rfl|exact evd) (by first|rfl|((try simp only[go_sem,Nat.reduceAdd,Nat.reduceSub,Nat.reduceMul,Nat.reduceLT,Nat.reduceLeDiff,Nat.reduceEqDiff,reduceIte,Int.reduceToNat,Int.reduceLT,Int.reduceLE,Int.reduceEq,Int.reduceNeg,reduceCtorEq,Int.reduceBEq,Int.reduceBNe]);all_goals rfl)) ?_)
 all_goals(refine⟨?_,?_,?_,?_,?_,?_⟩<;>(try dsimp only)<;>first|assumption|omega)
structure OpG(x:VOp):Prop where
 r:OpR x
 u:OpU (toV x)
 diff:WdG x.blk.diff
 pdiff:WdG x.blk.pdiff
 k1:1≤x.kind
 k6:x.kind≤6
def vA_:aH_:=⟨0,rt0,cp0,[]⟩
def GX_:cQ_:=⟨0,0,rt0,[]⟩
def rJ_:da_:=⟨GX_,GX_⟩
def rK_:aw_:=⟨cp0,[]⟩
theorem qS_{k:Int}{b:Blk}{a:aH_}{g:da_}{t:aw_}{v:Vdt}(hb:sZ_ b)(ha:OV_ a)(hg:Pa_ g)(ht:Pb_ t)(hv:U64 v.tag)(h1:1≤k)(h6:k≤6):OpG ⟨k,b,a,g,t,v,0,0⟩:=
 ⟨⟨hb.u,ha.len,hg.l1,hg.l2,ht.len⟩,⟨hb.u,ha.slot,ha.ep,Nat.le_trans ha.len (by decide),⟨hg.a1,hg.a2,rfl,Nat.le_trans hg.l1 (by decide)⟩,⟨hg.b1,hg.b2,rfl,Nat.le_trans hg.l2 (by decide)⟩,⟨ht.ep,rfl,ht.bals,Nat.le_trans ht.len (by decide)⟩,hv⟩,hb.diff,hb.pdiff,h1,h6⟩
theorem u0:U64 0:=⟨by decide,by decide⟩
theorem tj_:sZ_ bR_:=⟨u0,u0,u0,u0,u0,rL_,rL_⟩
theorem qh_:OV_ vA_:=⟨u0,u0,by simp[vA_]⟩
theorem qj_:Pa_ rJ_:=⟨u0,u0,u0,u0,by simp[rJ_,GX_],by simp[rJ_,GX_]⟩
theorem qk_:Pb_ rK_:=⟨u0,by simp[rK_],by simp[rK_]⟩
theorem rd_{fr:Fr}{σ:St}{rs:List eA_}{G:VOp→Prop}{l:List AV}(y:SOp)(x:VOp)(hl:bV_ fr σ rs=some l)(hv:fz σ (List.range σ.length) (ee_ l)=.agg (bq_ y))(hp:PuL (bq_ y))(hw:WkC (bq_ y) (bq_ x.a))(hg:G x):Sm G fun x=>PQ rs (.agg (bq_ x.a)) .ret fr σ:=
 ⟨x,hg,l,hl,.inr ⟨_,hv,hp,Wk.agg hw⟩⟩
theorem yu_{k w p:Int}{b:Blk}{a:Att}{g:Slg}{t:Tab}{v:Vdt}(ha:PuL (aY_ a))(hg:PuL (bZ_ g))(ht:PuL (aT_ t)):PuL (bq_ ⟨k,b,a,g,t,v,w,p⟩):=by
 refine(eS_ _).2 ?_;have h1:=(ei_ _).1 ha;have h2:=(fz_ _).1 hg;have h3:=(dJ_ _).1 ht;exact⟨h1,h2,h3⟩
theorem Kr_(s:aI_)(i:Nat)(h:dW_ s i)(httd:WdG s.sto.cfg.ttd)(n k:Int)(hk:0≤k):Sm OpG fun x=>PC Tryz.prog 104 [.agg (aD_ s.a),.int .i64 n,.int .i64 k] (.agg (bq_ x.a)):=by
 obtain⟨b,hb,cb⟩:=Ho_ s.sto i h.sto httd n (dq_ .i64 k 4) (hF_ 4 hk);obtain⟨a,ha,ca⟩:=Hn_ s.sto i h.sto (dq_ .i64 k 4) (hF_ 4 hk);obtain⟨g,hg,cg⟩:=Hv_ s.sto.cfg.bals.length (dq_ .i64 k 4) (by have:=h.sto.cfg.b1;omega);obtain⟨t,ht,ct⟩:=Hx_ s.sto i h.sto (dq_ .i64 k 4) (hF_ 4 hk);obtain⟨v,hv,cv⟩:=Hy_ s i h (dq_ .i64 k 4) (hF_ 4 hk);have pa:PuL (aY_ jw_):=(ei_ _).2 trivial;have pg:PuL (bZ_ sF_):=(fz_ _).2 ⟨trivial,trivial⟩;have pt:PuL (aT_ fw_):=(dJ_ _).2 trivial;refine fU_ 48 HW_ (by simp) puA (fun r _=>puA) ?_;unfold xL_;refine bd ?_;refine bE_ ?_;refine ec_ ?_;refine bE_ ?_;refine ec_ ?_;refine bE_ ?_;refine bE_ ?_;refine ec_ ?_;refine bE_ ?_;refine qd_ (fun _:Bool=>True) (fun b=>[(12,.bool b)]) ?_ (fun bb _=>?_)
 ·repeat'(first|refine bm_ ?_|(refine aS_ (fun h=>?_) (fun h=>?_)<;>try(exact absurd h (by decide)))|refine cr_ (fun h=>?_) (fun h=>?_))
  ·exact⟨(Int.tmod k 16==0),trivial,by exact QV_ [] [0,1]⟩
  ·exact⟨(Int.tmod k 16==1),trivial,by exact QV_ [] [0,1]⟩
  ·exact⟨(Int.tmod k 16==2),trivial,by exact QV_ [] [0,1]⟩
 (try simp only[ao_,ar_,List.set_cons_zero,List.set_cons_succ])
 refine aS_ (fun h=>?_) (fun h=>?_)
 ·refine bm_ ?_
  refine rd_ ⟨1,bR_,jw_,sF_,fw_,fV_,0,0⟩ ⟨1,bR_,vA_,rJ_,rK_,fV_,0,0⟩ (by first|rfl|exact evd) (by first|rfl|((try simp only[go_sem,Nat.reduceAdd,Nat.reduceSub,Nat.reduceMul,Nat.reduceLT,Nat.reduceLeDiff,Nat.reduceEqDiff,reduceIte,Int.reduceToNat,Int.reduceLT,Int.reduceLE,Int.reduceEq,Int.reduceNeg,reduceCtorEq,Int.reduceBEq,Int.reduceBNe]);all_goals rfl)) (yu_ pa pg pt) (gu_ rfl rfl ex_ ey_ ez_ rfl rfl rfl) (qS_ tj_ qh_ qj_ qk_ u0 (by decide) (by decide))
 refine bE_ ?_;refine qd_ (fun _:Bool=>True) (fun b=>[(17,.bool b)]) ?_ (fun bb _=>?_)
 ·repeat'(first|refine bm_ ?_|(refine aS_ (fun h=>?_) (fun h=>?_)<;>try(exact absurd h (by decide)))|refine cr_ (fun h=>?_) (fun h=>?_))
  ·exact⟨(Int.tmod k 16==3),trivial,by exact QV_ [] [0,1]⟩
  ·exact⟨(Int.tmod k 16==4),trivial,by exact QV_ [] [0,1]⟩
  ·exact⟨(Int.tmod k 16==5),trivial,by exact QV_ [] [0,1]⟩
  ·exact⟨(Int.tmod k 16==6),trivial,by exact QV_ [] [0,1]⟩
  ·exact⟨(Int.tmod k 16==7),trivial,by exact QV_ [] [0,1]⟩
 (try simp only[ao_,ar_,List.set_cons_zero,List.set_cons_succ])
 refine aS_ (fun h=>?_) (fun h=>?_)
 ·refine bm_ ?_;refine bu_ cb ?_;refine bm_ ?_
  refine rd_ ⟨2,b,jw_,sF_,fw_,fV_,0,0⟩ ⟨2,b,vA_,rJ_,rK_,fV_,0,0⟩ (by first|rfl|exact evd) (by first|rfl|((try simp only[go_sem,Nat.reduceAdd,Nat.reduceSub,Nat.reduceMul,Nat.reduceLT,Nat.reduceLeDiff,Nat.reduceEqDiff,reduceIte,Int.reduceToNat,Int.reduceLT,Int.reduceLE,Int.reduceEq,Int.reduceNeg,reduceCtorEq,Int.reduceBEq,Int.reduceBNe]);all_goals rfl)) (yu_ pa pg pt) (gu_ rfl rfl ex_ ey_ ez_ rfl rfl rfl) (qS_ hb qh_ qj_ qk_ u0 (by decide) (by decide))
 refine bE_ ?_;refine qd_ (fun _:Bool=>True) (fun b=>[(29,.bool b)]) ?_ (fun bb _=>?_)
 ·repeat'(first|refine bm_ ?_|(refine aS_ (fun h=>?_) (fun h=>?_)<;>try(exact absurd h (by decide)))|refine cr_ (fun h=>?_) (fun h=>?_))
  ·exact⟨(Int.tmod k 16==8),trivial,by exact QV_ [] [0,1]⟩
  ·exact⟨(Int.tmod k 16==9),trivial,by exact QV_ [] [0,1]⟩
  ·exact⟨(Int.tmod k 16==10),trivial,by exact QV_ [] [0,1]⟩
 (try simp only[ao_,ar_,List.set_cons_zero,List.set_cons_succ])
 refine aS_ (fun h=>?_) (fun h=>?_)
 ·refine bm_ ?_;refine bu_ ca ?_;refine bm_ ?_
  refine rd_ ⟨3,bR_,a.a,sF_,fw_,fV_,0,0⟩ ⟨3,bR_,a,rJ_,rK_,fV_,0,0⟩ (by first|rfl|exact evd) (by first|rfl|((try simp only[go_sem,Nat.reduceAdd,Nat.reduceSub,Nat.reduceMul,Nat.reduceLT,Nat.reduceLeDiff,Nat.reduceEqDiff,reduceIte,Int.reduceToNat,Int.reduceLT,Int.reduceLE,Int.reduceEq,Int.reduceNeg,reduceCtorEq,Int.reduceBEq,Int.reduceBNe]);all_goals rfl)) (yu_ a.pul pg pt) (gu_ rfl rfl (WkC.refl _) ey_ ez_ rfl rfl rfl) (qS_ tj_ ha qj_ qk_ u0 (by decide) (by decide))
 repeat'(first|refine bm_ ?_|(refine aS_ (fun h=>?_) (fun h=>?_)<;>try(exact absurd h (by decide)))|refine cr_ (fun h=>?_) (fun h=>?_))
 ·refine bu_ cg ?_;refine bm_ ?_
  refine rd_ ⟨4,bR_,jw_,g.a,fw_,fV_,0,0⟩ ⟨4,bR_,vA_,g,rK_,fV_,0,0⟩ (by first|rfl|exact evd) (by first|rfl|((try simp only[go_sem,Nat.reduceAdd,Nat.reduceSub,Nat.reduceMul,Nat.reduceLT,Nat.reduceLeDiff,Nat.reduceEqDiff,reduceIte,Int.reduceToNat,Int.reduceLT,Int.reduceLE,Int.reduceEq,Int.reduceNeg,reduceCtorEq,Int.reduceBEq,Int.reduceBNe]);all_goals rfl)) (yu_ pa g.pul pt) (gu_ rfl rfl ex_ (WkC.refl _) ez_ rfl rfl rfl) (qS_ tj_ qh_ hg qk_ u0 (by decide) (by decide))
 ·refine bu_ ct ?_;refine bm_ ?_
  refine rd_ ⟨5,bR_,jw_,sF_,t.a,fV_,0,0⟩ ⟨5,bR_,vA_,rJ_,t,fV_,0,0⟩ (by first|rfl|exact evd) (by first|rfl|((try simp only[go_sem,Nat.reduceAdd,Nat.reduceSub,Nat.reduceMul,Nat.reduceLT,Nat.reduceLeDiff,Nat.reduceEqDiff,reduceIte,Int.reduceToNat,Int.reduceLT,Int.reduceLE,Int.reduceEq,Int.reduceNeg,reduceCtorEq,Int.reduceBEq,Int.reduceBNe]);all_goals rfl)) (yu_ pa pg t.pul) (gu_ rfl rfl ex_ ey_ (WkC.refl _) rfl rfl rfl) (qS_ tj_ qh_ qj_ ht u0 (by decide) (by decide))
 ·refine bu_ cv ?_;refine bm_ ?_
  refine rd_ ⟨6,bR_,jw_,sF_,fw_,v,0,0⟩ ⟨6,bR_,vA_,rJ_,rK_,v,0,0⟩ (by first|rfl|exact evd) (by first|rfl|((try simp only[go_sem,Nat.reduceAdd,Nat.reduceSub,Nat.reduceMul,Nat.reduceLT,Nat.reduceLeDiff,Nat.reduceEqDiff,reduceIte,Int.reduceToNat,Int.reduceLT,Int.reduceLE,Int.reduceEq,Int.reduceNeg,reduceCtorEq,Int.reduceBEq,Int.reduceBNe]);all_goals rfl)) (yu_ pa pg pt) (gu_ rfl rfl ex_ ey_ ez_ rfl rfl rfl) (qS_ tj_ qh_ qj_ qk_ hv.tag (by decide) (by decide))
theorem aR_.new{c:bt_}(h:OX_ c):aR_ (ea_ c) 0:=by
 refine⟨h,⟨fun k h1 h2=>?_,Nat.zero_lt_one,by show (-1:Int)<0;decide⟩,?_,by simp[ea_],by show 1≤13;decide,fun n hn=>?_,Nat.zero_le _,fun b hb=>absurd hb (by simp[ea_]),Nat.zero_le _,fun b hb=>absurd hb (by simp[ea_]),by show 1≤4;decide,fun t ht=>?_,Nat.le_refl _,u0,u0,u0,by decide⟩
 ·have:k<1:=h2;omega
 ·exact mD_ (k:=0) Nat.zero_lt_one rfl
 ·have:n=⟨wO_ c.gen,-1,1⟩:=by simpa[ea_]using hn
  subst this;exact⟨u0,u0,u0,u0,u0⟩
 ·have:t=⟨⟨0,c.gen⟩,c.bals⟩:=by simpa[ea_]using ht
  subst this;exact h.b1
theorem Hq_{c:bt_}(h:OW_ c):dW_ (oj_ c).1 0:=by
 unfold oj_;rw[if_pos h.new];exact dW_.emit ⟨aR_.new h.r,Nat.le_refl _,fun r hr=>absurd hr (by simp),Nat.zero_le _,(⟨by decide,by decide⟩:U64 1)⟩
def iv_(f:aI_×Nat×Int×Int→VOp)(l:List Int)(s0:aI_):Nat→aI_×List VOp
 |0=>(s0,[])
 |i+1=>((qe_ (iv_ f l s0 i).1 (f ((iv_ f l s0 i).1,i,((10+i:Nat):Int),if i=0 then 0 else atN l (18+i)))).1,(iv_ f l s0 i).2++[f ((iv_ f l s0 i).1,i,((10+i:Nat):Int),if i=0 then 0 else atN l (18+i))])
structure QA_(c:bt_)(ops:List VOp)(s:aI_):Prop where
 c:OW_ c
 len:ops.length≤24
 ops:∀x∈ops,OpG x
 s:dW_ s 24
theorem LY_(l:List Int):∃ (c:bt_) (ops:List VOp) (s:aI_),QA_ c ops s∧PC Tryz.prog 37 [.sl 1 false (aq_ .i64 l)] (.tup [.agg (bf_ c.a),.sl 446 false (rows VOp.c ops),.agg (aD_ s.a)]):=by
 obtain⟨c,hc,cc⟩:=xJ_ l
 have hop:∀y:aI_×Nat×Int×Int,∃x:VOp,dW_ y.1 y.2.1→0≤y.2.2.2→OpG x∧PC Tryz.prog 104 [.agg (aD_ y.1.a),.int .i64 y.2.2.1,.int .i64 y.2.2.2] (.agg (bq_ x.a)):=fun y=>by
  by_cases h1:dW_ y.1 y.2.1
  ·by_cases h2:0≤y.2.2.2
   ·obtain⟨x,hx⟩:=Kr_ y.1 y.2.1 h1 h1.sto.cfg.tt y.2.2.1 y.2.2.2 h2;exact⟨x,fun _ _=>hx⟩
   ·exact⟨default,fun _ h=>absurd h h2⟩
  ·exact⟨default,fun h=>absurd h h1⟩
 obtain⟨f,hf⟩:=Classical.axiomOfChoice hop;have h0:=Hq_ hc;have cb:=DY_ c (by have:=hc.r.b1;omega) fun _=>(aR_.new hc.r).r
 generalize oj_ c=B at *;obtain⟨s0,B2,B3⟩:=B;dsimp only at h0 cb
 have hI:∀i,i≤24→dW_ (iv_ f l s0 i).1 i∧(iv_ f l s0 i).2.length=i∧∀x∈(iv_ f l s0 i).2,OpG x:=by
  intro i;induction i with
  |zero=>exact fun _=>⟨h0,rfl,fun x hx=>by cases hx⟩
  | succ i ih =>
    intro hi;obtain⟨h1,h2,h3⟩:=ih (by omega);have hk:0≤(if i=0 then 0 else atN l (18+i)):=by split;exact Int.le_refl _;exact(fB_ l (18+i) (by omega)).1
    have hx:=(hf ((iv_ f l s0 i).1,i,((10+i:Nat):Int),if i=0 then 0 else atN l (18+i)) h1 hk).1;refine⟨h1.step (by omega) hx.r,?_,fun x hm=>?_⟩
    ·show ((iv_ f l s0 i).2++[_]).length=i+1
     rw[List.length_append,h2];rfl
    ·rcases List.mem_append.1 hm with h|h
     ·exact h3 x h
     ·rw[List.mem_singleton]at h;subst h;exact hx
 obtain⟨r16,h16,b16⟩:=bQ_ (n:=25) (fB_ l 16 (by decide)).1 (by decide);have t16:Int.tmod (atN l 16) 25=(r16:Int):=h16;have a16:PC Tryz.prog 103 [.sl 1 false (aq_ .i64 l),.int .i64 16] (.int .i64 (atN l 16)):=dm_ l false 16 (by decide);have a17:PC Tryz.prog 103 [.sl 1 false (aq_ .i64 l),.int .i64 17] (.int .i64 (atN l 17)):=dm_ l false 17 (by decide)
 obtain⟨N,hN,hN1,hN2⟩:∃N:Nat,N≤24∧(decide (0<Int.tmod (atN l 17) 4)=true→N=24)∧(decide (0<Int.tmod (atN l 17) 4)=false→N=r16):=by
  by_cases hd:decide (0<Int.tmod (atN l 17) 4)=true
  ·exact⟨24,by decide,fun _=>rfl,fun h=>by rw[hd]at h;cases h⟩
  ·exact⟨r16,by omega,fun h=>absurd h hd,fun _=>rfl⟩
 obtain⟨i1,i2,i3⟩:=hI N hN;refine⟨c,(iv_ f l s0 N).2,(iv_ f l s0 N).1,⟨hc,by omega,i3,i1.up (by omega) (by decide)⟩,PC.fact 14 Ew_ (by simp) puA puA ?_⟩;unfold tn_;refine bd ?_;clear i1 i2 i3;try refine aa_ ?_
 refine Qy_ cc ?_
 refine Qy_ cb ?_
 refine ah_ a16 ?_;repeat(first|refine aa_ ?_|simp only[go_sem,t16])
 refine Qy_ a17 ?_
 refine mR_ (fun _=>[(10,.int .i64 N)]) (fun _=>[.var (bf_ ih_),.var (aD_ dG_),.var (bf_ c.a),.var (aD_ s0.a)]) (fun hT=>?_) (fun hF=>?_) ?_
 ·rw[hN1 hT];try refine aa_ ?_
  exact QV_ [] [0,1,2,3]
 ·rw[hN2 hF];try refine aa_ ?_
  exact QV_ [] [0,1,2,3]
 clear hN1 hN2 a16 a17 t16 h16;try refine aa_ ?_
 refine cP_ 9 446 ?_;simp only[go_sem];refine am_ (fun i:Nat=>[(11,.int .i64 i),(9,.hs 446 4 0 (iv_ f l s0 i).2.length),(12,.dead),(13,.dead)]) (fun i=>[.var (bf_ ih_),.var (aD_ dG_),.var (bf_ c.a),.var (aD_ (iv_ f l s0 i).1.a),.vec 446 (rows VOp.c (iv_ f l s0 i).2)]) (fun i=>N-i) (fun i=>i≤N) 0 (Nat.zero_le _) ?_ ?_
 ·show GC _ _ _ ⟨_,hl_ [(11,.int .i64 0),(9,.hs 446 4 0 0),(12,.dead),(13,.dead)] _,[]⟩ [.var (bf_ ih_),.var (aD_ dG_),.var (bf_ c.a),.var (aD_ s0.a),.vec 446 []]
  exact QV_ [] [0,1,2,3,4]
 intro i hi;obtain⟨hA,hl,_⟩:=hI i (by omega);by_cases h1:i<N
 ·have e1:decide ((i:Int)<(N:Int))=true:=decide_eq_true (by omega)
  have hw:=ae_ h1 (by omega);have hw1:IntKind.i64.wrap (18+(i:Int))=((18+i:Nat):Int):=by rw[aF_ (by omega) (by omega)];omega
  have hw2:IntKind.i64.wrap (10+(i:Int))=((10+i:Nat):Int):=by rw[aF_ (by omega) (by omega)];omega
  have aa:=dm_ l false (18+i) (by omega);have hk:0≤(if i=0 then 0 else atN l (18+i)):=by split;exact Int.le_refl _;exact(fB_ l (18+i) (by omega)).1
  obtain⟨hx,co⟩:=hf ((iv_ f l s0 i).1,i,((10+i:Nat):Int),if i=0 then 0 else atN l (18+i)) hA hk;have hr:iv_ f l s0 (i+1)=((qe_ (iv_ f l s0 i).1 (f ((iv_ f l s0 i).1,i,((10+i:Nat):Int),if i=0 then 0 else atN l (18+i)))).1,(iv_ f l s0 i).2++[f ((iv_ f l s0 i).1,i,((10+i:Nat):Int),if i=0 then 0 else atN l (18+i))]):=rfl;have hK1:i=0→(if i=0 then 0 else atN l (18+i))=0:=fun h=>if_pos h
  have hK2:i≠0→(if i=0 then 0 else atN l (18+i))=atN l (18+i):=fun h=>if_neg h
  dsimp only at co;generalize (if i=0 then 0 else atN l (18+i))=K at *;generalize f ((iv_ f l s0 i).1,i,((10+i:Nat):Int),K)=x at *;clear hI;generalize iv_ f l s0 i=p at *;obtain⟨s1,o1⟩:=p;dsimp only at hA hl co hr ⊢;have cs:=Jy_ s1 i hA (by omega) x hx.r hx.u;generalize qe_ s1 x=T at *;obtain⟨T1,T2,T3⟩:=T;dsimp only at cs hr ⊢;have hsn:rows VOp.c o1++[bq_ x.a]=rows VOp.c (o1++[x]):=bP_ VOp.c o1 x;(try simp only[ao_,ar_,List.set_cons_zero,List.set_cons_succ])
  repeat(first|refine aa_ ?_|simp only[go_sem,e1])
  refine ac_ ?_;repeat(first|refine aa_ ?_|simp only[go_sem,hw1])
  refine Qy_ aa ?_
  refine mR_ (fun _=>[(12,.int .i64 K)]) (fun _=>[.var (bf_ ih_),.var (aD_ dG_),.var (bf_ c.a),.var (aD_ s1.a),.vec 446 (rows VOp.c o1)]) (fun hT=>?_) (fun hF=>?_) ?_
  ·rw[hK1 (by rw[beq_iff_eq]at hT;omega)];try refine aa_ ?_
   exact QV_ [] [0,1,2,3,4]
  ·rw[hK2 (by rw[beq_eq_false_iff_ne]at hF;omega)];try refine aa_ ?_
   exact QV_ [] [0,1,2,3,4]
  (try simp only[ao_,ar_,List.set_cons_zero,List.set_cons_succ])
  repeat(first|refine aa_ ?_|simp only[go_sem,hw2])
  refine ah_ co ?_;repeat(first|refine aa_ ?_|simp only[go_sem,hsn])
  refine ah_ cs ?_;repeat(first|refine aa_ ?_|simp only[go_sem,hw])
  refine⟨i+1,h1,by omega,?_⟩;rw[hr];exact QV_ [] [0,1,2,3,6]
 ·have hiN:i=N:=by omega
  subst hiN;have e1:decide ((i:Int)<(i:Int))=false:=decide_eq_false (by omega);clear hI;generalize iv_ f l s0 i=p at *;obtain⟨s1,o1⟩:=p;dsimp only at hl ⊢;have ht:List.take o1.length (rows VOp.c o1)=rows VOp.c o1:=List.take_of_length_le (by simp);(try simp only[ao_,ar_,List.set_cons_zero,List.set_cons_succ])
  repeat(first|refine aa_ ?_|simp only[go_sem,e1])
  refine PG_ ?_
  refine⟨_,(by first|rfl|exact evd),.inl ?_⟩;(try simp only[go_sem,Nat.reduceAdd,Nat.reduceSub,Nat.reduceMul,Nat.reduceLT,Nat.reduceLeDiff,Nat.reduceEqDiff,reduceIte,Int.reduceToNat,Int.reduceLT,Int.reduceLE,Int.reduceEq,Int.reduceNeg,reduceCtorEq,Int.reduceBEq,Int.reduceBNe,ht])
  all_goals rfl
theorem FN_(l:List Int):∃s:aI_,dW_ s 24∧PC Tryz.prog 10 [.sl 1 false (aq_ .i64 l)] (.agg (aD_ s.a)):=by
 obtain⟨c,ops,s,h,cr⟩:=LY_ l;refine⟨s,h.s,PC.fact 7 zD_ (by simp) puA puA ?_⟩;unfold pb_;refine bd ?_;try refine aa_ ?_
 refine Qy_ cr ?_
 exact af_
end Go.Proofs.YtkgimpdgncakjaaGreat
