/-
 My texts Me, Mf, Mg, joined.
-/
import Derived.Test.YtkgimpdgncakjaaU3
import Derived.Test.YtkgimpdgncakjaaW3
import Derived.Test.YtkgimpdgncakjaaU1
namespace Go.Proofs.Ytkgimpdgncakjaa
open Go Go.FH Go.RowKit
set_option linter.unusedVariables false
set_option linter.unusedSimpArgs false
set_option maxRecDepth 8000
set_option maxHeartbeats 4000000
structure EL_(c:aX_):Prop where
 r:DS_ c
 new:hg_ c=0
 bu:∀x∈c.bals,0≤x∧x<40
theorem ov_{l:List Int}(h:∀x∈l,0≤x∧x<40)(hl:l.length≤6):∀n,n≤l.length→(dB_ l n).2=0∧0≤(dB_ l n).1∧(dB_ l n).1≤40*n
 |0,_=>⟨rfl,Int.le_refl _,by show (0:Int)≤_;omega⟩
 | n + 1, hn => by
   obtain⟨h1,h2,h3⟩:=ov_ h hl n (by omega);have hs:dB_ l (n+1)=lS_ (dB_ l n).1 (l.getD n 0):=by show (if (dB_ l n).2≠0 then dB_ l n else _)=_;rw[if_neg (by simp[h1])]
   have hx:=h _ (dy_ 0 (show n<l.length by omega));rw[hs];unfold lS_;have hw:IntKind.u64.wrap ((dB_ l n).1+l.getD n 0)=(dB_ l n).1+l.getD n 0:=aW_ (by omega) (by omega);have hw2:IntKind.u64.wrap (18446744073709551615-l.getD n 0)=18446744073709551615-l.getD n 0:=aW_ (by omega) (by omega);split
   ·rename_i hh;first|(rw[hw2]at hh;omega)|omega
   ·dsimp only;rw[hw];exact⟨rfl,by omega,by omega⟩
theorem Ct_{c:aX_}(h1:1≤c.spe)(h2:c.spe≤64)(h3:c.boost≤100)(h4:c.bals.length≤6)(n1:1≤c.lim.node)(n2:c.lim.node≤4096)(o1:0≤c.lim.orph)(o2:c.lim.orph≤64)(e1:0≤c.lim.early)(e2:c.lim.early≤256)(t1:1≤c.lim.table)(t2:c.lim.table≤64)
 (r1:0≤c.lim.retry) (r2:c.lim.retry≤256) (b1:1≤c.lim.backoff) (b2:c.lim.backoff≤1048576) (hg:c.gen≠rt0) (hb:∀x∈c.bals,0≤x∧x<40):hg_ c=0:=by
 have w:∀ {n lo hi:Int},lo≤n→n≤hi→wit n lo hi=true:=fun h1 h2=>by unfold wit;rw[decide_eq_true h1,decide_eq_true h2];rfl
 have hs:=ov_ hb h4 c.bals.length (Nat.le_refl _)
 have hv:dD_ ⟨⟨0,c.gen⟩,c.bals⟩ c.bals.length=0:=by
  unfold dD_ mx_;dsimp only;rw[if_neg (by simp),if_neg];rintro (h|h)
  ·exact h hs.1
  ·omega
 unfold hg_;rw[if_neg (by omega),if_neg (by omega),if_neg (by omega),if_neg (by omega),w n1 n2,w o1 o2,w e1 e2,w t1 t2,w r1 r2,if_neg (by simp),if_neg (by simp),if_neg (by simp),if_neg (by simp),if_neg (by simp),if_neg (by omega),if_neg (by omega),if_neg hg,hv]
def mS_(l:List Int)(n:Nat):List Int:=(List.range n).map fun i=>IntKind.u64.wrap (Int.tmod (atN l (10+i)) 40)
theorem sO_(l:List Int)(n:Nat):(mS_ l n).length=n:=by simp[mS_]
theorem BY_(l:List Int)(n:Nat)(hn:n≤100):∀x∈mS_ l n,0≤x∧x<40:=fun x hx=>by
 unfold mS_ at hx;obtain⟨v,hv,rfl⟩:=List.mem_map.1 hx;rw[List.mem_range]at hv;obtain⟨r,h,h'⟩:=dc_ (n:=40) (fz_ l (10+v) (by omega)).1 (by decide);have h2:Int.tmod (atN l (10+v)) 40=(r:Int):=h;rw[h2,aW_ (by omega) (by omega)];omega
theorem Ea_(l:List Int)(n:Nat):mS_ l (n+1)=mS_ l n++[IntKind.u64.wrap (Int.tmod (atN l (10+n)) 40)]:=by simp[mS_,List.range_succ]
theorem Cd_(x:Cfg)(v:AV):(aU_ x).set 44 v=aU_ { x with bals:=v }:=by
 simp only[aU_,List.set_append,aS_,aq_,ad_,List.length_cons,Nat.reduceSub,Nat.reduceLT,if_false,List.set_cons_succ,List.set_cons_zero]
theorem Cc_(x:Cfg):(aU_ x).getD 44 .dead=x.bals:=by
 simp only[aU_,List.getD_eq_getElem?_getD,List.getElem?_append,aS_,aq_,ad_,List.length_cons,Nat.reduceSub,Nat.reduceLT,if_false,List.getElem?_cons_succ,List.getElem?_cons_zero,Option.getD_some]
section
variable{fr:Fr}{σ:St}{rs:List dd_}{G:aX_→Prop}{l:List AV}{a:Lim}{b c:Int}{d:Wd}{e:Rt}{f:List Int}
end
theorem Bk_{α:Type}{P:Program}{nt:Nat}{G:α→Prop}{f:FuncId}{rs:List dd_}{ac:ah_}{args:List AV}{A:α→AV}{S:α→St}(nv:Nat)(hf:aK_ P f=some (nt,rs,ac))(ha:args.length≤nt)
 (h:Sm G fun r=>Tri P nt 0 ac (sE_ rs 0 (S r) (A r)) ⟨nv,args++List.replicate (nv-args.length) .dead,[]⟩ []):Sm G fun r=>ao_ P f args [] (A r) (S r):=by
 obtain⟨r,h1,h2⟩:=h;exact⟨r,h1,ao_.fact nv hf ha h2 (by simp)⟩
theorem sP_(l:List Int):Sm EL_ fun c=>ao_ Try.prog 9 [.sl 1 false (au_ .i64 l)] [] (.agg (aU_ { c.a with bals:=.hs 1 0 0 c.bals.length })) [.vec 1 (au_ .u64 c.bals)]:=by
 refine Bk_ 5 pl_ (by simp) ?_;unfold jp_;refine bd ?_;obtain⟨r0,h0,b0⟩:=dc_ (n:=8) (fz_ l 0 (by decide)).1 (by decide);have t0:Int.tmod (atN l 0) 8=(r0:Int):=h0;have a0:PC Try.prog 25 [.sl 1 false (au_ .i64 l),.int .i64 0] (.int .i64 (atN l 0)):=cS_ l false 0 (by decide);obtain⟨r1,h1,b1⟩:=dc_ (n:=4) (fz_ l 1 (by decide)).1 (by decide);have t1:Int.tmod (atN l 1) 4=(r1:Int):=h1;have a1:PC Try.prog 25 [.sl 1 false (au_ .i64 l),.int .i64 1] (.int .i64 (atN l 1)):=cS_ l false 1 (by decide);obtain⟨r2,h2,b2⟩:=dc_ (n:=4) (fz_ l 2 (by decide)).1 (by decide);have t2:Int.tmod (atN l 2) 4=(r2:Int):=h2;have a2:PC Try.prog 25 [.sl 1 false (au_ .i64 l),.int .i64 2] (.int .i64 (atN l 2)):=cS_ l false 2 (by decide);obtain⟨r3,h3,b3⟩:=dc_ (n:=4) (fz_ l 3 (by decide)).1 (by decide);have t3:Int.tmod (atN l 3) 4=(r3:Int):=h3;have a3:PC Try.prog 25 [.sl 1 false (au_ .i64 l),.int .i64 3] (.int .i64 (atN l 3)):=cS_ l false 3 (by decide);obtain⟨r4,h4,b4⟩:=dc_ (n:=4) (fz_ l 4 (by decide)).1 (by decide);have t4:Int.tmod (atN l 4) 4=(r4:Int):=h4;have a4:PC Try.prog 25 [.sl 1 false (au_ .i64 l),.int .i64 4] (.int .i64 (atN l 4)):=cS_ l false 4 (by decide);obtain⟨r5,h5,b5⟩:=dc_ (n:=5) (fz_ l 5 (by decide)).1 (by decide);have t5:Int.tmod (atN l 5) 5=(r5:Int):=h5;have a5:PC Try.prog 25 [.sl 1 false (au_ .i64 l),.int .i64 5] (.int .i64 (atN l 5)):=cS_ l false 5 (by decide);obtain⟨r6,h6,b6⟩:=dc_ (n:=4) (fz_ l 6 (by decide)).1 (by decide);have t6:Int.tmod (atN l 6) 4=(r6:Int):=h6;have a6:PC Try.prog 25 [.sl 1 false (au_ .i64 l),.int .i64 6] (.int .i64 (atN l 6)):=cS_ l false 6 (by decide);obtain⟨r7,h7,b7⟩:=dc_ (n:=3) (fz_ l 7 (by decide)).1 (by decide);have t7:Int.tmod (atN l 7) 3=(r7:Int):=h7;have a7:PC Try.prog 25 [.sl 1 false (au_ .i64 l),.int .i64 7] (.int .i64 (atN l 7)):=cS_ l false 7 (by decide);obtain⟨r8,h8,b8⟩:=dc_ (n:=2) (fz_ l 8 (by decide)).1 (by decide);have t8:Int.tmod (atN l 8) 2=(r8:Int):=h8;have a8:PC Try.prog 25 [.sl 1 false (au_ .i64 l),.int .i64 8] (.int .i64 (atN l 8)):=cS_ l false 8 (by decide);obtain⟨r9,h9,b9⟩:=dc_ (n:=5) (fz_ l 9 (by decide)).1 (by decide);have t9:Int.tmod (atN l 9) 5=(r9:Int):=h9;have a9:PC Try.prog 25 [.sl 1 false (au_ .i64 l),.int .i64 9] (.int .i64 (atN l 9)):=cS_ l false 9 (by decide)
 obtain⟨bo,hbo,hbo0,hbo1⟩:∃bo:Int,([[.int .i64 0],[.int .i64 40],[.int .i64 100]]:List (List AV)).getD r7 []=[.int .i64 bo]∧0≤bo∧bo≤100:=by
  match r7,b7 with
  |0,_=>exact⟨0,rfl,by decide,by decide⟩
  |1,_=>exact⟨40,rfl,by decide,by decide⟩
  |2,_=>exact⟨100,rfl,by decide,by decide⟩
 have sw0:∀ (w:Wd) (x:Int),spl (wdc w) 0 [.int .u64 x]=wdc (w.set 0 x):=fun w x=>sj_ w (by decide) x
 have sw1:∀ (w:Wd) (x:Int),spl (wdc w) 1 [.int .u64 x]=wdc (w.set 1 x):=fun w x=>sj_ w (by decide) x
 have sw2:∀ (w:Wd) (x:Int),spl (wdc w) 2 [.int .u64 x]=wdc (w.set 2 x):=fun w x=>sj_ w (by decide) x
 refine wa_ ?_;refine Bm_ ?_;refine wa_ ?_;refine Bm_ ?_;refine cg_ (a0) ?_;repeat(first|refine jB_ ?_|simp only[go_sem,t0,hbo,sw0,sw1,sw2])
 refine cg_ (a1) ?_;repeat(first|refine jB_ ?_|simp only[go_sem,t1,hbo,sw0,sw1,sw2])
 refine cg_ (a2) ?_;repeat(first|refine jB_ ?_|simp only[go_sem,t2,hbo,sw0,sw1,sw2])
 refine cg_ (a3) ?_;repeat(first|refine jB_ ?_|simp only[go_sem,t3,hbo,sw0,sw1,sw2])
 refine cg_ (a4) ?_;repeat(first|refine jB_ ?_|simp only[go_sem,t4,hbo,sw0,sw1,sw2])
 refine cg_ (a5) ?_;repeat(first|refine jB_ ?_|simp only[go_sem,t5,hbo,sw0,sw1,sw2])
 refine cg_ (a6) ?_;repeat(first|refine jB_ ?_|simp only[go_sem,t6,hbo,sw0,sw1,sw2])
 refine cg_ (a7) ?_;repeat(first|refine jB_ ?_|simp only[go_sem,t7,hbo,sw0,sw1,sw2])
 refine cg_ (a8) ?_;repeat(first|refine jB_ ?_|simp only[go_sem,t8,hbo,sw0,sw1,sw2])
 refine cg_ (zE_ 1) ?_;refine jB_ ?_
 refine Fy_ (fr2:=⟨5,[.sl 1 false (au_ .i64 l),.dead,.ptr 0 0,.ptr 1 0,.dead],[]⟩) (σ2:=[.var (aU_ mZ_),.var (aU_ ⟨⟨IntKind.i64.wrap (6+r0),r1,r2,IntKind.i64.wrap (1+r3),r4,IntKind.u64.wrap (IntKind.i64.wrap (1+r5))⟩,IntKind.u64.wrap (IntKind.i64.wrap (1+r6)),IntKind.u64.wrap bo,((wd0.set 0 100).set 1 0).set 2 (IntKind.u64.wrap r8),ju_ 1,.sl 0 true []⟩)]) (by exact GH_ [] [0,11]) ?_;have hN:IntKind.i64.wrap (6+(r0:Int))≤13:=by rw[be_ (by omega) (by omega)];omega
 have hN1:1≤IntKind.i64.wrap (6+(r0:Int)):=by rw[be_ (by omega) (by omega)];omega
 have hT1:1≤IntKind.i64.wrap (1+(r3:Int)):=by rw[be_ (by omega) (by omega)];omega
 have hB:IntKind.u64.wrap (IntKind.i64.wrap (1+(r5:Int)))=1+r5:=by rw[be_ (by omega) (by omega),aW_ (by omega) (by omega)]
 have hP:IntKind.u64.wrap bo≤100:=by rw[aW_ (by omega) (by omega)];exact hbo1
 have hG:ju_ 1≠rt0:=by decide
 have hT:IntKind.i64.wrap (1+(r3:Int))≤4:=by rw[be_ (by omega) (by omega)];omega
 have hS:IntKind.u64.wrap (IntKind.i64.wrap (1+(r6:Int)))=1+r6:=by rw[be_ (by omega) (by omega),aW_ (by omega) (by omega)]
 have hW:WdG (((wd0.set 0 100).set 1 0).set 2 (IntKind.u64.wrap r8)):=((FG_.set _ ⟨by decide,by decide⟩).set _ ⟨by decide,by decide⟩).set _ (gM_ _);rw[hS];generalize IntKind.i64.wrap (6+(r0:Int))=cN at *;generalize IntKind.i64.wrap (1+(r3:Int))=cT at *;generalize IntKind.u64.wrap (IntKind.i64.wrap (1+(r5:Int)))=cB at *;generalize IntKind.u64.wrap bo=cP at *;generalize ((wd0.set 0 100).set 1 0).set 2 (IntKind.u64.wrap r8)=cW at *;have hn9:IntKind.i64.wrap (2+(r9:Int))=((2+r9:Nat):Int):=by rw[be_ (by omega) (by omega)];omega
 refine wa_ ?_;refine Bn_ (fun L:List Int=>L.length=2+r9∧∀x∈L,0≤x∧x<40) (fun _=>[]) (fun L=>[.var (aU_ mZ_),.var (aU_ ⟨⟨cN,r1,r2,cT,r4,cB⟩,1+r6,cP,cW,ju_ 1,.hs 1 2 0 L.length⟩),.vec 1 (au_ .u64 L)]) ?_ (fun L hL=>?_)
 ·refine Bl_ (mS_ l (2+r9)) ⟨sO_ _ _,BY_ _ _ (by omega)⟩ ?_
  generalize hM:2+r9=M at *;try refine aa_ ?_
  refine oz_ 1 44 1 ?_ (by rfl) (by exact Cc_ _);simp only[go_sem,Cd_];refine aE_ (fun i:Nat=>[(4,.int .i64 i)]) (fun i=>[.var (aU_ mZ_),.var (aU_ ⟨⟨cN,r1,r2,cT,r4,cB⟩,1+r6,cP,cW,ju_ 1,.hs 1 2 0 (mS_ l i).length⟩),.vec 1 (au_ .u64 (mS_ l i))]) (fun i=>M-i) (fun i=>i≤M) 0 (Nat.zero_le _) ?_ ?_
  ·rw[show mS_ l 0=[]from rfl];exact GH_ [] [0,1,2]
  intro i hi;have hlen:=sO_ l i;by_cases h1:i<M
  ·have e1:decide ((i:Int)<(M:Int))=true:=decide_eq_true (by omega);have hw:=ai_ h1 (by omega);have hw2:IntKind.i64.wrap (10+(i:Int))=((10+i:Nat):Int):=by rw[be_ (by omega) (by omega)];omega
   have hs:=Ea_ l i;have aa:=cS_ l false (10+i) (by omega);try refine aa_ ?_
   refine aA_ a9 ?_;repeat(first|refine aa_ ?_|simp only[go_sem,t9,hn9,e1])
   refine ab_ ?_;repeat(first|refine aa_ ?_|simp only[go_sem,hw2])
   refine co_ (aa) ?_;repeat(first|refine aa_ ?_|simp only[go_sem,hw])
   refine⟨i+1,h1,by omega,?_⟩;rw[hs];exact GH_ [] [0,1,4]
  ·obtain rfl:i=M:=by omega
   have e1:decide ((i:Int)<(i:Int))=false:=decide_eq_false (by omega);try refine aa_ ?_
   refine aA_ a9 ?_;repeat(first|refine aa_ ?_|simp only[go_sem,t9,hn9,e1])
   refine EA_ ?_
   exact GH_ [] [0,1,2]
 (try simp only[om_])
 refine jA_ ?_;obtain⟨hL1,hL2⟩:=hL;refine Bl_ (⟨⟨cN,r1,r2,cT,r4,cB⟩,1+r6,cP,cW,ju_ 1,L⟩:aX_) ?_ ?_;rotate_left
 ·exact Gt_ [] [2]
 refine⟨⟨?_,?_,?_,?_,?_,?_,?_,?_,?_,hW,CF_ (n:=1) (by decide) (by decide)⟩,Ct_ ?_ ?_ ?_ ?_ ?_ ?_ ?_ ?_ ?_ ?_ ?_ ?_ ?_ ?_ ?_ ?_ hG hL2,hL2⟩<;>dsimp only<;>omega
theorem xl_(l:List Int):Sm EL_ fun c=>PC Try.prog 9 [.sl 1 false (au_ .i64 l)] (.agg (aU_ c.a)):=by
 obtain⟨c,hc,h⟩:=sP_ l;refine⟨c,hc,h.pc puA puA ?_⟩;(try simp only[go_sem,Nat.reduceAdd,Nat.reduceSub,Nat.reduceMul,Nat.reduceLT,Nat.reduceLeDiff,Nat.reduceEqDiff,reduceIte,Int.reduceToNat,Int.reduceLT,Int.reduceLE,Int.reduceEq,Int.reduceNeg,reduceCtorEq,Int.reduceBEq,Int.reduceBNe])
 rfl
section
variable{fr:Fr}{σ:St}{rs:List dd_}{G:cn_→Prop}{l:List AV}{a1 a2 b1 b2:Int}{r1 r2:Rt}{m1 m2:List Int}
end
theorem u0:U64 0:=⟨by decide,by decide⟩
theorem aH_.new{c:aX_}(h:DS_ c):aH_ (cv_ c) 0:=by
 refine⟨h,⟨fun k h1 h2=>?_,Nat.zero_lt_one,by show (-1:Int)<0;decide⟩,?_,by simp[cv_],by show 1≤13;decide,fun n hn=>?_,Nat.zero_le _,fun b hb=>absurd hb (by simp[cv_]),Nat.zero_le _,fun b hb=>absurd hb (by simp[cv_]),by show 1≤4;decide,fun t ht=>?_,Nat.le_refl _,u0,u0,⟨u0,fun _=>by show (0:Int)≤_;decide⟩,by decide⟩
 ·have:k<1:=h2;omega
 ·exact iE_ (k:=0) Nat.zero_lt_one rfl
 ·have:n=⟨pr_ c.gen,-1,1⟩:=by simpa[cv_]using hn
  subst this;exact⟨u0,u0,u0,u0,u0,fun _=>h.gn⟩
 ·have:t=⟨⟨0,c.gen⟩,c.bals⟩:=by simpa[cv_]using ht
  subst this;exact h.b1
end Go.Proofs.Ytkgimpdgncakjaa
