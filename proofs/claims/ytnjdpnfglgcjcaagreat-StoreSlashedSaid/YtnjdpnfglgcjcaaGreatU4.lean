/-
 My texts Me, Mf, Mg, joined.
-/
import Derived.Test.YtnjdpnfglgcjcaaGreatU3
import Derived.Test.YtnjdpnfglgcjcaaGreatW3
import Derived.Test.YtnjdpnfglgcjcaaGreatU1
set_option linter.unusedVariables false
set_option linter.unusedSimpArgs false
set_option maxRecDepth 8000
set_option maxHeartbeats 4000000
namespace Go.Proofs.YtnjdpnfglgcjcaaGreat
open Go Go.FH Go.RowKit
structure PW(c:cU):Prop where
 r:abf c
 new:iH c=0
 bu:∀x∈c.bals,0<=x/\x<40
theorem Gl{l:List Int}(h:∀x∈l,0<=x/\x<40)(hl:l.length<=6):∀n,n<=l.length->(jr l n).2=0/\0<=(jr l n).1/\(jr l n).1<=40*n
 |0,_=>⟨rfl,Int.le_refl _,by show (0:Int)<=_;omega⟩
 | n + 1, hn => by
   obtain⟨h1,h2,h3⟩:=Gl h hl n (by omega);have hs:jr l (n+1)=Ci (jr l n).1 (l.getD n 0):=by show (if (jr l n).2≠0 then jr l n else _)=_;rw[if_neg (by simp[h1])]
   have hx:=h _ (cG 0 (show n<l.length by omega));rw[hs];unfold Ci;have hw:IntKind.u64.wrap ((jr l n).1+l.getD n 0)=(jr l n).1+l.getD n 0:=aU (by omega) (by omega);have hw2:IntKind.u64.wrap (18446744073709551615-l.getD n 0)=18446744073709551615-l.getD n 0:=aU (by omega) (by omega);split
   ·rename_i hh;first|(rw[hw2]at hh;omega)|omega
   ·dsimp only;rw[hw];exact⟨rfl,by omega,by omega⟩
theorem ZU{c:cU}(h1:1<=c.spe)(h2:c.spe<=64)(h3:c.boost<=100)(h4:c.bals.length<=6)(n1:1<=c.lim.node)(n2:c.lim.node<=4096)(o1:0<=c.lim.orph)(o2:c.lim.orph<=64)(e1:0<=c.lim.early)(e2:c.lim.early<=256)(t1:1<=c.lim.table)(t2:c.lim.table<=64)
 (r1:0<=c.lim.retry) (r2:c.lim.retry<=256) (b1:1<=c.lim.backoff) (b2:c.lim.backoff<=1048576) (hg:c.gen≠rt0) (hb:∀x∈c.bals,0<=x/\x<40):iH c=0:=by
 have w:∀ {n lo hi:Int},lo<=n->n<=hi->wit n lo hi=true:=fun h1 h2=>by unfold wit;rw[ak h1,ak h2];rfl
 have hs:=Gl hb h4 c.bals.length (Nat.le_refl _)
 have hv:fJ ⟨⟨0,c.gen⟩,c.bals⟩ c.bals.length=0:=by
  unfold fJ xK;dsimp only;rw[if_neg (by simp),if_neg];rintro (h|h)
  ·exact h hs.1
  ·omega
 unfold iH;rw[if_neg (by omega),if_neg (by omega),if_neg (by omega),if_neg (by omega),w n1 n2,w o1 o2,w e1 e2,w t1 t2,w r1 r2,if_neg (by simp),if_neg (by simp),if_neg (by simp),if_neg (by simp),if_neg (by simp),if_neg (by omega),if_neg (by omega),if_neg hg,hv]
def DL(l:List Int)(n:Nat):List Int:=(List.range n).map fun i=>IntKind.u64.wrap (Int.tmod (atN l (10+i)) 40)
theorem NA(l:List Int)(n:Nat):(DL l n).length=n:=by simp[DL]
theorem Zp(l:List Int)(n:Nat)(hn:n<=100):∀x∈DL l n,0<=x/\x<40:=fun x hx=>by
 unfold DL at hx;obtain⟨v,hv,rfl⟩:=List.mem_map.1 hx;rw[List.mem_range]at hv;obtain⟨r,h,h'⟩:=dN (n:=40) (j4 l (10+v) (by omega)).1 (by decide);have h2:Int.tmod (atN l (10+v)) 40=(r:Int):=h;rw[h2,aU (by omega) (by omega)];omega
theorem abu(l:List Int)(n:Nat):DL l (n+1)=DL l n++[IntKind.u64.wrap (Int.tmod (atN l (10+n)) 40)]:=by simp[DL,List.range_succ]
theorem Zx(x:Cfg)(v:AV):(cD x).set 44 v=cD { x with bals:=v }:=by
 simp only[cD,List.set_append,cY,aY,aq,List.length_cons,Nat.reduceSub,Nat.reduceLT,if_false,List.set_cons_succ,List.set_cons_zero]
theorem Zw(x:Cfg):(cD x).getD 44 .dead=x.bals:=by
 simp only[cD,List.getD_eq_getElem?_getD,List.getElem?_append,cY,aY,aq,List.length_cons,Nat.reduceSub,Nat.reduceLT,if_false,List.getElem?_cons_succ,List.getElem?_cons_zero,Option.getD_some]
section
variable{fr:Fr}{σ:St}{rs:List gO}{G:cU->Prop}{l:List AV}{a:Lim}{b c:Int}{d:Wd}{e:Rt}{f:List Int}
end
theorem YL{α:Type}{P:Program}{nt:Nat}{G:α->Prop}{f:FuncId}{rs:List gO}{ac:ab}{args:List AV}{A:α->AV}{S:α->St}(nv:Nat)(hf:aJ P f=some (nt,rs,ac))(ha:args.length<=nt)
 (h:Sm G fun r=>Tri P nt 0 ac (Ni rs 0 (S r) (A r)) ⟨nv,args++List.replicate (nv-args.length) .dead,[]⟩ []):Sm G fun r=>aI P f args [] (A r) (S r):=by
 obtain⟨r,h1,h2⟩:=h;exact⟨r,h1,aI.fact nv hf ha h2 (by simp)⟩
theorem WT(l:List Int):Sm PW fun c=>aI Tryz.prog 79 [.sl 1 false (ax .i64 l)] [] (.agg (cD { c.a with bals:=.hs 1 0 0 c.bals.length })) [.vec 1 (ax .u64 c.bals)]:=by
 refine YL 5 Hc (by simp) ?_;unfold vl;refine bd ?_;obtain⟨r0,h0,b0⟩:=dN (n:=8) (j4 l 0 (by decide)).1 (by decide);have t0:Int.tmod (atN l 0) 8=(r0:Int):=h0;have a0:PC Tryz.prog 153 [.sl 1 false (ax .i64 l),.int .i64 0] (.int .i64 (atN l 0)):=fN l false 0 (by decide);obtain⟨r1,h1,b1⟩:=dN (n:=4) (j4 l 1 (by decide)).1 (by decide);have t1:Int.tmod (atN l 1) 4=(r1:Int):=h1;have a1:PC Tryz.prog 153 [.sl 1 false (ax .i64 l),.int .i64 1] (.int .i64 (atN l 1)):=fN l false 1 (by decide);obtain⟨r2,h2,b2⟩:=dN (n:=4) (j4 l 2 (by decide)).1 (by decide);have t2:Int.tmod (atN l 2) 4=(r2:Int):=h2;have a2:PC Tryz.prog 153 [.sl 1 false (ax .i64 l),.int .i64 2] (.int .i64 (atN l 2)):=fN l false 2 (by decide);obtain⟨r3,h3,b3⟩:=dN (n:=4) (j4 l 3 (by decide)).1 (by decide);have t3:Int.tmod (atN l 3) 4=(r3:Int):=h3;have a3:PC Tryz.prog 153 [.sl 1 false (ax .i64 l),.int .i64 3] (.int .i64 (atN l 3)):=fN l false 3 (by decide);obtain⟨r4,h4,b4⟩:=dN (n:=4) (j4 l 4 (by decide)).1 (by decide);have t4:Int.tmod (atN l 4) 4=(r4:Int):=h4;have a4:PC Tryz.prog 153 [.sl 1 false (ax .i64 l),.int .i64 4] (.int .i64 (atN l 4)):=fN l false 4 (by decide);obtain⟨r5,h5,b5⟩:=dN (n:=5) (j4 l 5 (by decide)).1 (by decide);have t5:Int.tmod (atN l 5) 5=(r5:Int):=h5;have a5:PC Tryz.prog 153 [.sl 1 false (ax .i64 l),.int .i64 5] (.int .i64 (atN l 5)):=fN l false 5 (by decide);obtain⟨r6,h6,b6⟩:=dN (n:=4) (j4 l 6 (by decide)).1 (by decide);have t6:Int.tmod (atN l 6) 4=(r6:Int):=h6;have a6:PC Tryz.prog 153 [.sl 1 false (ax .i64 l),.int .i64 6] (.int .i64 (atN l 6)):=fN l false 6 (by decide);obtain⟨r7,h7,b7⟩:=dN (n:=3) (j4 l 7 (by decide)).1 (by decide);have t7:Int.tmod (atN l 7) 3=(r7:Int):=h7;have a7:PC Tryz.prog 153 [.sl 1 false (ax .i64 l),.int .i64 7] (.int .i64 (atN l 7)):=fN l false 7 (by decide);obtain⟨r8,h8,b8⟩:=dN (n:=2) (j4 l 8 (by decide)).1 (by decide);have t8:Int.tmod (atN l 8) 2=(r8:Int):=h8;have a8:PC Tryz.prog 153 [.sl 1 false (ax .i64 l),.int .i64 8] (.int .i64 (atN l 8)):=fN l false 8 (by decide);obtain⟨r9,h9,b9⟩:=dN (n:=5) (j4 l 9 (by decide)).1 (by decide);have t9:Int.tmod (atN l 9) 5=(r9:Int):=h9;have a9:PC Tryz.prog 153 [.sl 1 false (ax .i64 l),.int .i64 9] (.int .i64 (atN l 9)):=fN l false 9 (by decide)
 obtain⟨bo,hbo,hbo0,hbo1⟩:∃bo:Int,([[.int .i64 0],[.int .i64 40],[.int .i64 100]]:List (List AV)).getD r7 []=[.int .i64 bo]/\0<=bo/\bo<=100:=by
  match r7,b7 with
  |0,_=>exact⟨0,rfl,by decide,by decide⟩
  |1,_=>exact⟨40,rfl,by decide,by decide⟩
  |2,_=>exact⟨100,rfl,by decide,by decide⟩
 have sw0:∀ (w:Wd) (x:Int),spl (wdc w) 0 [.int .u64 x]=wdc (w.set 0 x):=fun w x=>oZ w (by decide) x
 have sw1:∀ (w:Wd) (x:Int),spl (wdc w) 1 [.int .u64 x]=wdc (w.set 1 x):=fun w x=>oZ w (by decide) x
 have sw2:∀ (w:Wd) (x:Int),spl (wdc w) 2 [.int .u64 x]=wdc (w.set 2 x):=fun w x=>oZ w (by decide) x
 refine dz ?_;refine fX ?_;refine dz ?_;refine fX ?_;refine d6 (a0) ?_;repeat(first|refine kQ ?_|simp only[go_sem,t0,hbo,sw0,sw1,sw2])
 refine d6 (a1) ?_;repeat(first|refine kQ ?_|simp only[go_sem,t1,hbo,sw0,sw1,sw2])
 refine d6 (a2) ?_;repeat(first|refine kQ ?_|simp only[go_sem,t2,hbo,sw0,sw1,sw2])
 refine d6 (a3) ?_;repeat(first|refine kQ ?_|simp only[go_sem,t3,hbo,sw0,sw1,sw2])
 refine d6 (a4) ?_;repeat(first|refine kQ ?_|simp only[go_sem,t4,hbo,sw0,sw1,sw2])
 refine d6 (a5) ?_;repeat(first|refine kQ ?_|simp only[go_sem,t5,hbo,sw0,sw1,sw2])
 refine d6 (a6) ?_;repeat(first|refine kQ ?_|simp only[go_sem,t6,hbo,sw0,sw1,sw2])
 refine d6 (a7) ?_;repeat(first|refine kQ ?_|simp only[go_sem,t7,hbo,sw0,sw1,sw2])
 refine d6 (a8) ?_;repeat(first|refine kQ ?_|simp only[go_sem,t8,hbo,sw0,sw1,sw2])
 refine d6 (ie 1) ?_;refine kQ ?_
 refine acw (fr2:=⟨5,[.sl 1 false (ax .i64 l),.dead,.ptr 0 0,.ptr 1 0,.dead],[]⟩) (σ2:=[.var (cD qD),.var (cD ⟨⟨IntKind.i64.wrap (6+r0),r1,r2,IntKind.i64.wrap (1+r3),r4,IntKind.u64.wrap (IntKind.i64.wrap (1+r5))⟩,IntKind.u64.wrap (IntKind.i64.wrap (1+r6)),IntKind.u64.wrap bo,((wd0.set 0 100).set 1 0).set 2 (IntKind.u64.wrap r8),wa 1,.sl 0 true []⟩)]) (by exact adk [] [0,11]) ?_;have hN:IntKind.i64.wrap (6+(r0:Int))<=13:=by rw[aK (by omega) (by omega)];omega
 have hN1:1<=IntKind.i64.wrap (6+(r0:Int)):=by rw[aK (by omega) (by omega)];omega
 have hT1:1<=IntKind.i64.wrap (1+(r3:Int)):=by rw[aK (by omega) (by omega)];omega
 have hB:IntKind.u64.wrap (IntKind.i64.wrap (1+(r5:Int)))=1+r5:=by rw[aK (by omega) (by omega),aU (by omega) (by omega)]
 have hP:IntKind.u64.wrap bo<=100:=by rw[aU (by omega) (by omega)];exact hbo1
 have hG:wa 1≠rt0:=by decide
 have hT:IntKind.i64.wrap (1+(r3:Int))<=4:=by rw[aK (by omega) (by omega)];omega
 have hS:IntKind.u64.wrap (IntKind.i64.wrap (1+(r6:Int)))=1+r6:=by rw[aK (by omega) (by omega),aU (by omega) (by omega)]
 have hW:WdG (((wd0.set 0 100).set 1 0).set 2 (IntKind.u64.wrap r8)):=((Ch.set _ ⟨by decide,by decide⟩).set _ ⟨by decide,by decide⟩).set _ (cH _);rw[hS];generalize IntKind.i64.wrap (6+(r0:Int))=cN at *;generalize IntKind.i64.wrap (1+(r3:Int))=cT at *;generalize IntKind.u64.wrap (IntKind.i64.wrap (1+(r5:Int)))=cB at *;generalize IntKind.u64.wrap bo=cP at *;generalize ((wd0.set 0 100).set 1 0).set 2 (IntKind.u64.wrap r8)=cW at *;have hn9:IntKind.i64.wrap (2+(r9:Int))=((2+r9:Nat):Int):=by rw[aK (by omega) (by omega)];omega
 refine dz ?_;refine F8 (fun L:List Int=>L.length=2+r9/\∀x∈L,0<=x/\x<40) (fun _=>[]) (fun L=>[.var (cD qD),.var (cD ⟨⟨cN,r1,r2,cT,r4,cB⟩,1+r6,cP,cW,wa 1,.hs 1 2 0 L.length⟩),.vec 1 (ax .u64 L)]) ?_ (fun L hL=>?_)
 ·refine Tz (DL l (2+r9)) ⟨NA _ _,Zp _ _ (by omega)⟩ ?_
  generalize hM:2+r9=M at *;refine gon ?_;refine oe 1 44 1 ?_ (by rfl) (by exact Zw _);simp only[go_sem,Zx];refine ay (fun i:Nat=>[(4,.int .i64 i)]) (fun i=>[.var (cD qD),.var (cD ⟨⟨cN,r1,r2,cT,r4,cB⟩,1+r6,cP,cW,wa 1,.hs 1 2 0 (DL l i).length⟩),.vec 1 (ax .u64 (DL l i))]) (fun i=>M-i) (fun i=>i<=M) 0 (Nat.zero_le _) ?_ ?_
  ·rw[show DL l 0=[]from rfl];exact adk [] [0,1,2]
  intro i hi;have hlen:=NA l i;by_cases h1:i<M
  ·have e1:decide ((i:Int)<(M:Int))=true:=ak (by omega);have hw:=ah h1 (by omega);have hw2:IntKind.i64.wrap (10+(i:Int))=((10+i:Nat):Int):=by rw[aK (by omega) (by omega)];omega
   have hs:=abu l i;have aa:=fN l false (10+i) (by omega);refine gon ?_;refine ai a9 ?_;refine vX t9 hn9 e1 ?_;refine ap hw2 ?_;refine aC (aa) ?_;refine ap hw ?_;refine⟨i+1,h1,by omega,?_⟩;rw[hs];exact adk [] [0,1,4]
  ·obtain rfl:i=M:=by omega
   have e1:decide ((i:Int)<(i:Int))=false:=au (by omega);refine gon ?_;refine ai a9 ?_;refine xt t9 hn9 e1 ?_;exact adk [] [0,1,2]
 (try simp only[cV])
 refine cQ ?_;obtain⟨hL1,hL2⟩:=hL;refine Tz (⟨⟨cN,r1,r2,cT,r4,cB⟩,1+r6,cP,cW,wa 1,L⟩:cU) ?_ ?_;rotate_left
 ·exact adb [] [2]
 refine⟨⟨?_,?_,?_,?_,?_,?_,?_,?_,?_,hW,Tq (n:=1) (by decide) (by decide)⟩,ZU ?_ ?_ ?_ ?_ ?_ ?_ ?_ ?_ ?_ ?_ ?_ ?_ ?_ ?_ ?_ ?_ hG hL2,hL2⟩<;>dsimp only<;>omega
theorem IB(l:List Int):Sm PW fun c=>PC Tryz.prog 79 [.sl 1 false (ax .i64 l)] (.agg (cD c.a)):=by
 obtain⟨c,hc,h⟩:=WT l;refine⟨c,hc,h.pc puA puA ?_⟩;(try simp only[go_sem,Nat.reduceAdd,Nat.reduceSub,Nat.reduceMul,Nat.reduceLT,Nat.reduceLeDiff,Nat.reduceEqDiff,reduceIte,Int.reduceToNat,Int.reduceLT,Int.reduceLE,Int.reduceEq,Int.reduceNeg,reduceCtorEq,Int.reduceBEq,Int.reduceBNe])
 rfl
structure abj(x:eR):Prop where
 a1:U64 x.fst.src
 a2:U64 x.fst.tgt
 b1:U64 x.snd.src
 b2:U64 x.snd.tgt
 l1:x.fst.vals.length<=10
 l2:x.snd.vals.length<=10
section
variable{fr:Fr}{σ:St}{rs:List gO}{G:eR->Prop}{l:List AV}{a1 a2 b1 b2:Int}{r1 r2:Rt}{m1 m2:List Int}
theorem aah(hl:dQ fr σ rs=some l)(hv:fz σ (List.range σ.length) (gm l)=.agg (dq ⟨⟨a1,a2,r1,.sl 1 false (ax .i64 m1)⟩,⟨b1,b2,r2,.sl 1 false (ax .i64 m2)⟩⟩))(hg:G ⟨⟨a1,a2,r1,m1⟩,⟨b1,b2,r2,m2⟩⟩):Sm G fun x=>PQ rs (.agg (dq x.a)) .ret fr σ:=⟨_,hg,l,hl,.inl hv⟩
end
theorem tZ(n:Nat)(k:Int)(hn:n<=10):Sm abj fun x=>PC Tryz.prog 35 [.int .i64 n,.int .i64 k] (.agg (dq x.a)):=by
 have S1:=JZ n k (by omega);have S2:=JZ n (fH .i64 k 6) (by omega);have l1:=JY n k;have l2:=JY n (fH .i64 k 6);generalize JX n k=A at *;generalize JX n (fH .i64 k 6)=B at *;have u1:U64 1:=⟨by decide,by decide⟩;have u2:U64 2:=⟨by decide,by decide⟩;have u4:U64 4:=⟨by decide,by decide⟩;have u5:U64 5:=⟨by decide,by decide⟩;have u6:U64 6:=⟨by decide,by decide⟩;refine lu 6 Cr (by simp) puA (fun r _=>puA) ?_;unfold qY;refine bd ?_;refine dz ?_;refine fX ?_;refine dz ?_;refine fX ?_;refine dg (ie 2) ?_;refine kQ ?_;refine dg (S1) ?_;refine kQ ?_;refine dg (ie 2) ?_;refine kQ ?_;refine dg (S2) ?_;refine kQ ?_;repeat'(first|refine cQ ?_|(refine bB (fun h=>?_) (fun h=>?_)<;>try(exact absurd h (by decide)))|refine eA (fun h=>?_) (fun h=>?_))
 all_goals try(refine dg (ie _) ?_;repeat'(first|refine cQ ?_|(refine bB (fun h=>?_) (fun h=>?_)<;>try(exact absurd h (by decide)))|refine eA (fun h=>?_) (fun h=>?_)))
 all_goals(refine aah (by first|rfl|exact evd) (by first|rfl|exact evd) ?_)
 all_goals(refine⟨?_,?_,?_,?_,?_,?_⟩<;>(try dsimp only)<;>first|assumption|omega)
structure OpG(x:VOp):Prop where
 r:OpR x
 u:OpU (toV x)
 diff:WdG x.blk.diff
 pdiff:WdG x.blk.pdiff
 k1:1<=x.kind
 k6:x.kind<=6
def Gv:aW:=⟨0,rt0,cp0,[]⟩
def TN:eZ:=⟨0,0,rt0,[]⟩
def Cf:eR:=⟨TN,TN⟩
def Cg:aH:=⟨cp0,[]⟩
theorem AC{k:Int}{b:Blk}{a:aW}{g:eR}{t:aH}{v:Vdt}(hb:zE b)(ha:abe a)(hg:abj g)(ht:abk t)(hv:U64 v.tag)(h1:1<=k)(h6:k<=6):OpG ⟨k,b,a,g,t,v,0,0⟩:=
 ⟨⟨hb.w,ha.len,hg.l1,hg.l2,ht.len⟩,⟨hb.u,ha.slot,ha.ep,Nat.le_trans ha.len (by decide),⟨hg.a1,hg.a2,rfl,Nat.le_trans hg.l1 (by decide)⟩,⟨hg.b1,hg.b2,rfl,Nat.le_trans hg.l2 (by decide)⟩,⟨ht.ep,rfl,ht.bals,Nat.le_trans ht.len (by decide)⟩,hv⟩,hb.diff,hb.pdiff,h1,h6⟩
theorem u0:U64 0:=⟨by decide,by decide⟩
theorem DM:zE dO:=⟨u0,u0,u0,u0,u0,Ch,Ch,by decide⟩
theorem zB:abe Gv:=⟨u0,u0,by simp[Gv]⟩
theorem zC:abj Cf:=⟨u0,u0,u0,u0,by simp[Cf,TN],by simp[Cf,TN]⟩
theorem zD:abk Cg:=⟨u0,by simp[Cg],by simp[Cg]⟩
theorem AR{fr:Fr}{σ:St}{rs:List gO}{G:VOp->Prop}{l:List AV}(y:SOp)(x:VOp)(hl:dQ fr σ rs=some l)(hv:fz σ (List.range σ.length) (gm l)=.agg (dp y))(hp:PuL (dp y))(hw:WkC (dp y) (dp x.a))(hg:G x):Sm G fun x=>PQ rs (.agg (dp x.a)) .ret fr σ:=
 ⟨x,hg,l,hl,.inr ⟨_,hv,hp,Wk.agg hw⟩⟩
theorem JE{k w p:Int}{b:Blk}{a:Att}{g:Slg}{t:Tab}{v:Vdt}(ha:PuL (bZ a))(hg:PuL (dq g))(ht:PuL (bE t)):PuL (dp ⟨k,b,a,g,t,v,w,p⟩):=by
 refine(i6 _).2 ?_;have h1:=(hZ _).1 ha;have h2:=(ia _).1 hg;have h3:=(gB _).1 ht;exact⟨h1,h2,h3⟩
theorem WW(s:aX)(i:Nat)(h:fM s i)(httd:WdG s.sto.cfg.ttd)(n k:Int)(hk:0<=k)(hn0:0<=n)(hn1:n<=99)(h24:i<=24):Sm OpG fun x=>PC Tryz.prog 24 [.agg (bk s.a),.int .i64 n,.int .i64 k] (.agg (dp x.a)):=by
 obtain⟨b,hb,cb⟩:=IA s.sto i h.sto httd n (fH .i64 k 4) (mU 4 hk) hn0 hn1 h24;obtain⟨a,ha,ca⟩:=zI s.sto i h.sto (fH .i64 k 4) (mU 4 hk);obtain⟨g,hg,cg⟩:=tZ s.sto.cfg.bals.length (fH .i64 k 4) (by have:=h.sto.cfg.b1;omega);obtain⟨t,ht,ct⟩:=zL s.sto i h.sto (fH .i64 k 4) (mU 4 hk);obtain⟨v,hv,cv⟩:=Ul s i h (fH .i64 k 4) (mU 4 hk);have pa:PuL (bZ GG):=(hZ _).2 trivial;have pg:PuL (dq HV):=(ia _).2 ⟨trivial,trivial⟩;have pt:PuL (bE zw):=(gB _).2 trivial;refine lu 48 UG (by simp) puA (fun r _=>puA) ?_;unfold ID;refine bd ?_;refine dz ?_;refine fX ?_;refine dz ?_;refine fX ?_;refine dz ?_;refine dz ?_;refine fX ?_;refine dz ?_;refine zq (fun _:Bool=>True) (fun b=>[(12,.bool b)]) ?_ (fun bb _=>?_)
 ·repeat'(first|refine cQ ?_|(refine bB (fun h=>?_) (fun h=>?_)<;>try(exact absurd h (by decide)))|refine eA (fun h=>?_) (fun h=>?_))
  ·exact⟨(Int.tmod k 16==0),trivial,by exact adk [] [0,1]⟩
  ·exact⟨(Int.tmod k 16==1),trivial,by exact adk [] [0,1]⟩
  ·exact⟨(Int.tmod k 16==2),trivial,by exact adk [] [0,1]⟩
 (try simp only[db,cV,List.set_cons_zero,List.set_cons_succ])
 refine bB (fun h=>?_) (fun h=>?_)
 ·refine cQ ?_;refine AR ⟨1,dO,GG,HV,zw,lk,0,0⟩ ⟨1,dO,Gv,Cf,Cg,lk,0,0⟩ (by first|rfl|exact evd) (by first|rfl|exact evd) (JE pa pg pt) (lm rfl rfl iz iA iB rfl rfl rfl) (AC DM zB zC zD u0 (by decide) (by decide))
 refine dz ?_;refine zq (fun _:Bool=>True) (fun b=>[(17,.bool b)]) ?_ (fun bb _=>?_)
 ·repeat'(first|refine cQ ?_|(refine bB (fun h=>?_) (fun h=>?_)<;>try(exact absurd h (by decide)))|refine eA (fun h=>?_) (fun h=>?_))
  ·exact⟨(Int.tmod k 16==3),trivial,by exact adk [] [0,1]⟩
  ·exact⟨(Int.tmod k 16==4),trivial,by exact adk [] [0,1]⟩
  ·exact⟨(Int.tmod k 16==5),trivial,by exact adk [] [0,1]⟩
  ·exact⟨(Int.tmod k 16==6),trivial,by exact adk [] [0,1]⟩
  ·exact⟨(Int.tmod k 16==7),trivial,by exact adk [] [0,1]⟩
 (try simp only[db,cV,List.set_cons_zero,List.set_cons_succ])
 refine bB (fun h=>?_) (fun h=>?_)
 ·refine cQ ?_;refine dg cb ?_;refine cQ ?_;refine AR ⟨2,b,GG,HV,zw,lk,0,0⟩ ⟨2,b,Gv,Cf,Cg,lk,0,0⟩ (by first|rfl|exact evd) (by first|rfl|exact evd) (JE pa pg pt) (lm rfl rfl iz iA iB rfl rfl rfl) (AC hb zB zC zD u0 (by decide) (by decide))
 refine dz ?_;refine zq (fun _:Bool=>True) (fun b=>[(29,.bool b)]) ?_ (fun bb _=>?_)
 ·repeat'(first|refine cQ ?_|(refine bB (fun h=>?_) (fun h=>?_)<;>try(exact absurd h (by decide)))|refine eA (fun h=>?_) (fun h=>?_))
  ·exact⟨(Int.tmod k 16==8),trivial,by exact adk [] [0,1]⟩
  ·exact⟨(Int.tmod k 16==9),trivial,by exact adk [] [0,1]⟩
  ·exact⟨(Int.tmod k 16==10),trivial,by exact adk [] [0,1]⟩
 (try simp only[db,cV,List.set_cons_zero,List.set_cons_succ])
 refine bB (fun h=>?_) (fun h=>?_)
 ·refine cQ ?_;refine dg ca ?_;refine cQ ?_;refine AR ⟨3,dO,a.a,HV,zw,lk,0,0⟩ ⟨3,dO,a,Cf,Cg,lk,0,0⟩ (by first|rfl|exact evd) (by first|rfl|exact evd) (JE a.pul pg pt) (lm rfl rfl (WkC.refl _) iA iB rfl rfl rfl) (AC DM ha zC zD u0 (by decide) (by decide))
 repeat'(first|refine cQ ?_|(refine bB (fun h=>?_) (fun h=>?_)<;>try(exact absurd h (by decide)))|refine eA (fun h=>?_) (fun h=>?_))
 ·refine dg cg ?_;refine cQ ?_;refine AR ⟨4,dO,GG,g.a,zw,lk,0,0⟩ ⟨4,dO,Gv,g,Cg,lk,0,0⟩ (by first|rfl|exact evd) (by first|rfl|exact evd) (JE pa g.pul pt) (lm rfl rfl iz (WkC.refl _) iB rfl rfl rfl) (AC DM zB hg zD u0 (by decide) (by decide))
 ·refine dg ct ?_;refine cQ ?_;refine AR ⟨5,dO,GG,HV,t.a,lk,0,0⟩ ⟨5,dO,Gv,Cf,t,lk,0,0⟩ (by first|rfl|exact evd) (by first|rfl|exact evd) (JE pa pg t.pul) (lm rfl rfl iz iA (WkC.refl _) rfl rfl rfl) (AC DM zB zC ht u0 (by decide) (by decide))
 ·refine dg cv ?_;refine cQ ?_;refine AR ⟨6,dO,GG,HV,zw,v,0,0⟩ ⟨6,dO,Gv,Cf,Cg,v,0,0⟩ (by first|rfl|exact evd) (by first|rfl|exact evd) (JE pa pg pt) (lm rfl rfl iz iA iB rfl rfl rfl) (AC DM zB zC zD hv.tag (by decide) (by decide))
theorem bi.new{c:cU}(h:abf c):bi (fm c) 0:=by
 refine⟨h,⟨fun k h1 h2=>?_,Nat.zero_lt_one,by show (-1:Int)<0;decide⟩,?_,by simp[fm],by show 1<=13;decide,fun n hn=>?_,Nat.zero_le _,fun b hb=>absurd hb (by simp[fm]),Nat.zero_le _,fun b hb=>absurd hb (by simp[fm]),by show 1<=4;decide,fun t ht=>?_,Nat.le_refl _,u0,u0,⟨u0,fun _=>by show (0:Int)<=_;decide⟩,by decide⟩
 ·have:k<1:=h2;omega
 ·exact jL (k:=0) Nat.zero_lt_one rfl
 ·have:n=⟨HH c.gen,-1,1⟩:=by simpa[fm]using hn
  subst this;exact⟨u0,u0,u0,u0,u0,fun _=>h.gn⟩
 ·have:t=⟨⟨0,c.gen⟩,c.bals⟩:=by simpa[fm]using ht
  subst this;exact h.b1
theorem T9{c:cU}(h:PW c):fM (mh c).1 0:=by
 unfold mh;rw[if_pos h.new];exact fM.emit ⟨bi.new h.r,Nat.le_refl _,fun r hr=>absurd hr (by simp),Nat.zero_le _,(⟨by decide,by decide⟩:U64 1)⟩
def mW(f:aX×Nat×Int×Int->VOp)(l:List Int)(s0:aX):Nat->aX×List VOp
 |0=>(s0,[])
 |i+1=>((kR (mW f l s0 i).1 (f ((mW f l s0 i).1,i,((10+i:Nat):Int),if i=0 then 0 else atN l (18+i)))).1,(mW f l s0 i).2++[f ((mW f l s0 i).1,i,((10+i:Nat):Int),if i=0 then 0 else atN l (18+i))])
structure acY(c:cU)(ops:List VOp)(s:aX):Prop where
 c:PW c
 len:ops.length<=24
 ops:∀x∈ops,OpG x
 s:fM s 24
theorem Yy(P:Nat->aX->Prop)(hP0:∀c,PW c->P 0 (mh c).1)(hPs:∀s i x,fM s i->i<24->P i s->OpG x->P (i+1) (kR s x).1)(l:List Int):∃ (c:cU) (ops:List VOp) (s:aX),(acY c ops s/\∃i,i<=24/\P i s)/\PC Tryz.prog 55 [.sl 1 false (ax .i64 l)] (.tup [.agg (cD c.a),.sl 446 false (rows VOp.c ops),.agg (bk s.a)]):=by
 obtain⟨c,hc,cc⟩:=IB l
 have hop:∀y:aX×Nat×Int×Int,∃x:VOp,fM y.1 y.2.1->0<=y.2.2.2->0<=y.2.2.1/\y.2.2.1<=99/\y.2.1<=24->OpG x/\PC Tryz.prog 24 [.agg (bk y.1.a),.int .i64 y.2.2.1,.int .i64 y.2.2.2] (.agg (dp x.a)):=fun y=>by
  by_cases h1:fM y.1 y.2.1
  ·by_cases h2:0<=y.2.2.2
   ·by_cases h3:0<=y.2.2.1/\y.2.2.1<=99/\y.2.1<=24
    ·obtain⟨x,hx⟩:=WW y.1 y.2.1 h1 h1.sto.cfg.tt y.2.2.1 y.2.2.2 h2 h3.1 h3.2.1 h3.2.2;exact⟨x,fun _ _ _=>hx⟩
    ·exact⟨default,fun _ _ h=>absurd h h3⟩
   ·exact⟨default,fun _ h=>absurd h h2⟩
  ·exact⟨default,fun h=>absurd h h1⟩
 obtain⟨f,hf⟩:=Classical.axiomOfChoice hop;have h0:=T9 hc;have p0:=hP0 c hc;have cb:=P5 c (by have:=hc.r.b1;omega) fun _=>(bi.new hc.r).r
 generalize mh c=B at *;obtain⟨s0,B2,B3⟩:=B;dsimp only at h0 cb p0
 have hI:∀i,i<=24->(fM (mW f l s0 i).1 i/\P i (mW f l s0 i).1)/\(mW f l s0 i).2.length=i/\∀x∈(mW f l s0 i).2,OpG x:=by
  intro i;induction i with
  |zero=>exact fun _=>⟨⟨h0,p0⟩,rfl,fun x hx=>by cases hx⟩
  | succ i ih =>
    intro hi;obtain⟨⟨h1,hp1⟩,h2,h3⟩:=ih (by omega);have hk:0<=(if i=0 then 0 else atN l (18+i)):=by split;exact Int.le_refl _;exact(j4 l (18+i) (by omega)).1
    have hx:=(hf ((mW f l s0 i).1,i,((10+i:Nat):Int),if i=0 then 0 else atN l (18+i)) h1 hk (by dsimp only;omega)).1;refine⟨⟨h1.step (by omega) hx.r,hPs _ i _ h1 (by omega) hp1 hx⟩,?_,fun x hm=>?_⟩
    ·show ((mW f l s0 i).2++[_]).length=i+1
     rw[List.length_append,h2];rfl
    ·rcases List.mem_append.1 hm with h|h
     ·exact h3 x h
     ·rw[List.mem_singleton]at h;subst h;exact hx
 obtain⟨r16,h16,b16⟩:=dN (n:=25) (j4 l 16 (by decide)).1 (by decide);have t16:Int.tmod (atN l 16) 25=(r16:Int):=h16;have a16:PC Tryz.prog 153 [.sl 1 false (ax .i64 l),.int .i64 16] (.int .i64 (atN l 16)):=fN l false 16 (by decide);have a17:PC Tryz.prog 153 [.sl 1 false (ax .i64 l),.int .i64 17] (.int .i64 (atN l 17)):=fN l false 17 (by decide)
 obtain⟨N,hN,hN1,hN2⟩:∃N:Nat,N<=24/\(decide (0<Int.tmod (atN l 17) 4)=true->N=24)/\(decide (0<Int.tmod (atN l 17) 4)=false->N=r16):=by
  by_cases hd:decide (0<Int.tmod (atN l 17) 4)=true
  ·exact⟨24,by decide,fun _=>rfl,fun h=>by rw[hd]at h;cases h⟩
  ·exact⟨r16,by omega,fun h=>absurd h hd,fun _=>rfl⟩
 obtain⟨⟨i1,ip⟩,i2,i3⟩:=hI N hN;refine⟨c,(mW f l s0 N).2,(mW f l s0 N).1,⟨⟨hc,by omega,i3,i1.up (by omega) (by decide)⟩,N,hN,ip⟩,PC.fact 14 QJ (by simp) puA puA ?_⟩;unfold DP;refine bd ?_;clear i1 i2 i3 ip p0 hP0 hPs;refine gon ?_;refine acT cc ?_;refine acT cb ?_;refine ai a16 ?_;refine ap t16 ?_;refine acT a17 ?_;refine uz (fun _=>[(10,.int .i64 N)]) (fun _=>[.var (cD qD),.var (bk rR),.var (cD c.a),.var (bk s0.a)]) (fun hT=>?_) (fun hF=>?_) ?_
 ·rw[hN1 hT];refine gon ?_;exact adk [] [0,1,2,3]
 ·rw[hN2 hF];refine gon ?_;exact adk [] [0,1,2,3]
 clear hN1 hN2 a16 a17 t16 h16;refine gon ?_;refine eY 9 446 ?_;simp only[go_sem];refine ay (fun i:Nat=>[(11,.int .i64 i),(9,.hs 446 4 0 (mW f l s0 i).2.length),(12,.dead),(13,.dead)]) (fun i=>[.var (cD qD),.var (bk rR),.var (cD c.a),.var (bk (mW f l s0 i).1.a),.vec 446 (rows VOp.c (mW f l s0 i).2)]) (fun i=>N-i) (fun i=>i<=N) 0 (Nat.zero_le _) ?_ ?_
 ·show GC _ _ _ ⟨_,jU [(11,.int .i64 0),(9,.hs 446 4 0 0),(12,.dead),(13,.dead)] _,[]⟩ [.var (cD qD),.var (bk rR),.var (cD c.a),.var (bk s0.a),.vec 446 []]
  exact adk [] [0,1,2,3,4]
 intro i hi;obtain⟨⟨hA,_⟩,hl,_⟩:=hI i (by omega);by_cases h1:i<N
 ·have e1:decide ((i:Int)<(N:Int))=true:=ak (by omega)
  have hw:=ah h1 (by omega);have hw1:IntKind.i64.wrap (18+(i:Int))=((18+i:Nat):Int):=by rw[aK (by omega) (by omega)];omega
  have hw2:IntKind.i64.wrap (10+(i:Int))=((10+i:Nat):Int):=by rw[aK (by omega) (by omega)];omega
  have aa:=fN l false (18+i) (by omega);have hk:0<=(if i=0 then 0 else atN l (18+i)):=by split;exact Int.le_refl _;exact(j4 l (18+i) (by omega)).1
  obtain⟨hx,co⟩:=hf ((mW f l s0 i).1,i,((10+i:Nat):Int),if i=0 then 0 else atN l (18+i)) hA hk (by dsimp only;omega);have hr:mW f l s0 (i+1)=((kR (mW f l s0 i).1 (f ((mW f l s0 i).1,i,((10+i:Nat):Int),if i=0 then 0 else atN l (18+i)))).1,(mW f l s0 i).2++[f ((mW f l s0 i).1,i,((10+i:Nat):Int),if i=0 then 0 else atN l (18+i))]):=rfl;have hK1:i=0->(if i=0 then 0 else atN l (18+i))=0:=fun h=>if_pos h
  have hK2:i≠0->(if i=0 then 0 else atN l (18+i))=atN l (18+i):=fun h=>if_neg h
  dsimp only at co;generalize (if i=0 then 0 else atN l (18+i))=K at *;generalize f ((mW f l s0 i).1,i,((10+i:Nat):Int),K)=x at *;clear hI;generalize mW f l s0 i=p at *;obtain⟨s1,o1⟩:=p;dsimp only at hA hl co hr ⊢;have cs:=Wc s1 i hA (by omega) x hx.r hx.u;generalize kR s1 x=T at *;obtain⟨T1,T2,T3⟩:=T;dsimp only at cs hr ⊢;have hsn:rows VOp.c o1++[dp x.a]=rows VOp.c (o1++[x]):=da VOp.c o1 x;(try simp only[db,cV,List.set_cons_zero,List.set_cons_succ])
  refine bg e1 ?_;refine ap hw1 ?_;refine acT aa ?_;refine uz (fun _=>[(12,.int .i64 K)]) (fun _=>[.var (cD qD),.var (bk rR),.var (cD c.a),.var (bk s1.a),.vec 446 (rows VOp.c o1)]) (fun hT=>?_) (fun hF=>?_) ?_
  ·rw[hK1 (by rw[beq_iff_eq]at hT;omega)];refine gon ?_;exact adk [] [0,1,2,3,4]
  ·rw[hK2 (by rw[beq_eq_false_iff_ne]at hF;omega)];refine gon ?_;exact adk [] [0,1,2,3,4]
  (try simp only[db,cV,List.set_cons_zero,List.set_cons_succ])
  refine ap hw2 ?_;refine ai co ?_;refine ap hsn ?_;refine ai cs ?_;refine ap hw ?_;refine⟨i+1,h1,by omega,?_⟩;rw[hr];exact adk [] [0,1,2,3,6]
 ·have hiN:i=N:=by omega
  subst hiN;have e1:decide ((i:Int)<(i:Int))=false:=au (by omega);clear hI;generalize mW f l s0 i=p at *;obtain⟨s1,o1⟩:=p;dsimp only at hl ⊢;have ht:List.take o1.length (rows VOp.c o1)=rows VOp.c o1:=List.take_of_length_le (by simp);(try simp only[db,cV,List.set_cons_zero,List.set_cons_succ])
  refine aD e1 ?_;refine⟨_,(by first|rfl|exact evd),.inl ?_⟩;exact nN ht
theorem Cc(P:Nat->aX->Prop)(hP0:∀c,PW c->P 0 (mh c).1)(hPs:∀s i x,fM s i->i<24->P i s->OpG x->P (i+1) (kR s x).1)(l:List Int):∃s:aX,(fM s 24/\∃i,i<=24/\P i s)/\PC Tryz.prog 15 [.sl 1 false (ax .i64 l)] (.agg (bk s.a)):=by
 obtain⟨c,ops,s,⟨h,hp⟩,cr⟩:=Yy P hP0 hPs l;refine⟨s,⟨h.s,hp⟩,PC.fact 7 K7 (by simp) puA puA ?_⟩;unfold ya;refine bd ?_;refine gon ?_;refine acT cr ?_;exact af
theorem state_walk'(P:aX->Prop)(hP0:∀c,PW c->P (mh c).1)(hPs:∀s i x,fM s i->P s->OpG x->P (kR s x).1)(l:List Int):∃s:aX,(fM s 24/\P s)/\PC Tryz.prog 15 [.sl 1 false (ax .i64 l)] (.agg (bk s.a)):=by
 obtain⟨s,⟨h,i,_,hp⟩,c⟩:=Cc (fun _=>P) hP0 (fun s i x h1 _ h2 h3=>hPs s i x h1 h2 h3) l;exact⟨s,⟨h,hp⟩,c⟩
end Go.Proofs.YtnjdpnfglgcjcaaGreat
