/- Joined. -/
import Derived.Test.YtnjdpnfglgcjcaaGreatU3
import Derived.Test.YtnjdpnfglgcjcaaGreatW3
import Derived.Test.YtnjdpnfglgcjcaaGreatU1
set_option linter.unusedVariables false
set_option linter.unusedSimpArgs false
set_option maxRecDepth 8000
set_option maxHeartbeats 4000000
namespace Go.Proofs.YtnjdpnfglgcjcaaGreat
open Go Go.FH Go.RowKit
structure Qp(c:cU):Prop where
 r:afI c
 new:ib c=0
 bu:∀x∈c.bals,0<=x/\x<40
 bo:0<=c.boost
theorem Jo{l:List Int}(h:∀x∈l,0<=x/\x<40)(hl:l.length<=6):∀n,n<=l.length->(jr l n).2=0/\0<=(jr l n).1/\(jr l n).1<=40*n
 |0,_=>⟨rfl,amr _,by show (0:Int)<=_;omega⟩
 | n + 1, hn => by
   obtain⟨h1,h2,h3⟩:=Jo h hl n (by omega);have hs:jr l (n+1)=FA (jr l n).1 (l.getD n 0):=by show (if (jr l n).2≠0 then jr l n else _)=_;rw[al5 (by simp[h1])]
   have hx:=h _ (bK 0 (show n<l.length by omega));rw[hs];unfold FA;have hw:IntKind.u64.wrap ((jr l n).1+l.getD n 0)=(jr l n).1+l.getD n 0:=aN (by omega) (by omega);have hw2:IntKind.u64.wrap (18446744073709551615-l.getD n 0)=18446744073709551615-l.getD n 0:=aN (by omega) (by omega);split
   ·rename_i hh;first|(rw[hw2]at hh;omega)|omega
   ·dsimp only;rw[hw];exact⟨rfl,by omega,by omega⟩
theorem ad4{c:cU}(h1:1<=c.spe)(h2:c.spe<=64)(h3:c.boost<=100)(h4:c.bals.length<=6)(n1:1<=c.lim.node)(n2:c.lim.node<=4096)(o1:0<=c.lim.orph)(o2:c.lim.orph<=64)(e1:0<=c.lim.early)(e2:c.lim.early<=256)(t1:1<=c.lim.table)(t2:c.lim.table<=64)
 (r1:0<=c.lim.retry) (r2:c.lim.retry<=256) (b1:1<=c.lim.backoff) (b2:c.lim.backoff<=1048576) (hg:c.gen≠rt0) (hb:∀x∈c.bals,0<=x/\x<40):ib c=0:=by
 have w:∀ {n lo hi:Int},lo<=n->n<=hi->wit n lo hi=true:=fun h1 h2=>by unfold wit;rw[au h1,au h2];rfl
 have hs:=Jo hb h4 c.bals.length (amb _)
 have hv:gh ⟨⟨0,c.gen⟩,c.bals⟩ c.bals.length=0:=by
  unfold gh EI;dsimp only;rw[al5 (by simp),al5];rintro (h|h)
  ·exact h hs.1
  ·omega
 unfold ib;rw[al5 (by omega),al5 (by omega),al5 (by omega),al5 (by omega),w n1 n2,w o1 o2,w e1 e2,w t1 t2,w r1 r2,al5 (by simp),al5 (by simp),al5 (by simp),al5 (by simp),al5 (by simp),al5 (by omega),al5 (by omega),al5 hg,hv]
def GY(l:List Int)(n:Nat):List Int:=(List.range n).map fun i=>IntKind.u64.wrap (Int.tmod (atN l (10+i)) 40)
theorem QG(l:List Int)(n:Nat):(GY l n).length=n:=by simp[GY]
theorem adv(l:List Int)(n:Nat)(hn:n<=100):∀x∈GY l n,0<=x/\x<40:=fun x hx=>by
 unfold GY at hx;obtain⟨v,hv,rfl⟩:=amV.1 hx;rw[List.mem_range]at hv;obtain⟨r,h,h'⟩:=dF (n:=40) (kf l (10+v) (by omega)).1 (by decide);have h2:Int.tmod (atN l (10+v)) 40=(r:Int):=h;rw[h2,aN (by omega) (by omega)];omega
theorem afW(l:List Int)(n:Nat):GY l (n+1)=GY l n++[IntKind.u64.wrap (Int.tmod (atN l (10+n)) 40)]:=by simp[GY,ake]
theorem VK(x:Cfg)(v:AV):(bW x).set 44 v=bW { x with bals:=v }:=by
 simp only[bW,akf,cS,bq,ak,al8,Nat.reduceSub,Nat.reduceLT,amj,amy,amx]
theorem VJ(x:Cfg):(bW x).getD 44 .dead=x.bals:=by
 simp only[bW,alt,aj2,cS,bq,ak,al8,Nat.reduceSub,Nat.reduceLT,amj,ajB,amQ,amT]
section
variable{fr:Fr}{σ:St}{rs:List gN}{G:cU->Prop}{l:List AV}{a:Lim}{b c:Int}{d:Wd}{e:Rt}{f:List Int}
end
theorem acG{α:Type}{P:Program}{nt:Nat}{G:α->Prop}{f:FuncId}{rs:List gN}{ac:ab}{args:List AV}{A:α->AV}{S:α->St}(nv:Nat)(hf:aJ P f=some (nt,rs,ac))(ha:args.length<=nt)
 (h:Sm G fun r=>Tri P nt 0 ac (Qq rs 0 (S r) (A r)) ⟨nv,args++List.replicate (nv-args.length) .dead,[]⟩ []):Sm G fun r=>ay P f args [] (A r) (S r):=by
 obtain⟨r,h1,h2⟩:=h;exact⟨r,h1,ay.fact nv hf ha h2 (by simp)⟩
theorem aaA(l:List Int):Sm Qp fun c=>ay Tryz.prog 79 [.sl 1 false (aH .i64 l)] [] (.agg (bW { c.a with bals:=.hs 1 0 0 c.bals.length })) [.vec 1 (aH .u64 c.bals)]:=by
 refine acG 5 J4 (by simp) ?_;unfold yG;refine bd ?_;obtain⟨r0,h0,b0⟩:=dF (n:=8) (kf l 0 (by decide)).1 (by decide);have t0:Int.tmod (atN l 0) 8=(r0:Int):=h0;have a0:PC Tryz.prog 153 [.sl 1 false (aH .i64 l),.int .i64 0] (.int .i64 (atN l 0)):=fL l false 0 (by decide);obtain⟨r1,h1,b1⟩:=dF (n:=4) (kf l 1 (by decide)).1 (by decide);have t1:Int.tmod (atN l 1) 4=(r1:Int):=h1;have a1:PC Tryz.prog 153 [.sl 1 false (aH .i64 l),.int .i64 1] (.int .i64 (atN l 1)):=fL l false 1 (by decide);obtain⟨r2,h2,b2⟩:=dF (n:=4) (kf l 2 (by decide)).1 (by decide);have t2:Int.tmod (atN l 2) 4=(r2:Int):=h2;have a2:PC Tryz.prog 153 [.sl 1 false (aH .i64 l),.int .i64 2] (.int .i64 (atN l 2)):=fL l false 2 (by decide);obtain⟨r3,h3,b3⟩:=dF (n:=4) (kf l 3 (by decide)).1 (by decide);have t3:Int.tmod (atN l 3) 4=(r3:Int):=h3;have a3:PC Tryz.prog 153 [.sl 1 false (aH .i64 l),.int .i64 3] (.int .i64 (atN l 3)):=fL l false 3 (by decide);obtain⟨r4,h4,b4⟩:=dF (n:=4) (kf l 4 (by decide)).1 (by decide);have t4:Int.tmod (atN l 4) 4=(r4:Int):=h4;have a4:PC Tryz.prog 153 [.sl 1 false (aH .i64 l),.int .i64 4] (.int .i64 (atN l 4)):=fL l false 4 (by decide);obtain⟨r5,h5,b5⟩:=dF (n:=5) (kf l 5 (by decide)).1 (by decide);have t5:Int.tmod (atN l 5) 5=(r5:Int):=h5;have a5:PC Tryz.prog 153 [.sl 1 false (aH .i64 l),.int .i64 5] (.int .i64 (atN l 5)):=fL l false 5 (by decide);obtain⟨r6,h6,b6⟩:=dF (n:=4) (kf l 6 (by decide)).1 (by decide);have t6:Int.tmod (atN l 6) 4=(r6:Int):=h6;have a6:PC Tryz.prog 153 [.sl 1 false (aH .i64 l),.int .i64 6] (.int .i64 (atN l 6)):=fL l false 6 (by decide);obtain⟨r7,h7,b7⟩:=dF (n:=3) (kf l 7 (by decide)).1 (by decide);have t7:Int.tmod (atN l 7) 3=(r7:Int):=h7;have a7:PC Tryz.prog 153 [.sl 1 false (aH .i64 l),.int .i64 7] (.int .i64 (atN l 7)):=fL l false 7 (by decide);obtain⟨r8,h8,b8⟩:=dF (n:=2) (kf l 8 (by decide)).1 (by decide);have t8:Int.tmod (atN l 8) 2=(r8:Int):=h8;have a8:PC Tryz.prog 153 [.sl 1 false (aH .i64 l),.int .i64 8] (.int .i64 (atN l 8)):=fL l false 8 (by decide);obtain⟨r9,h9,b9⟩:=dF (n:=5) (kf l 9 (by decide)).1 (by decide);have t9:Int.tmod (atN l 9) 5=(r9:Int):=h9;have a9:PC Tryz.prog 153 [.sl 1 false (aH .i64 l),.int .i64 9] (.int .i64 (atN l 9)):=fL l false 9 (by decide)
 obtain⟨bo,hbo,hbo0,hbo1⟩:∃bo:Int,([[.int .i64 0],[.int .i64 40],[.int .i64 100]]:List (List AV)).getD r7 []=[.int .i64 bo]/\0<=bo/\bo<=100:=by
  match r7,b7 with
  |0,_=>exact⟨0,rfl,by decide,by decide⟩
  |1,_=>exact⟨40,rfl,by decide,by decide⟩
  |2,_=>exact⟨100,rfl,by decide,by decide⟩
 have sw0:∀ (w:Wd) (x:Int),spl (wdc w) 0 [.int .u64 x]=wdc (w.set 0 x):=fun w x=>oI w (by decide) x
 have sw1:∀ (w:Wd) (x:Int),spl (wdc w) 1 [.int .u64 x]=wdc (w.set 1 x):=fun w x=>oI w (by decide) x
 have sw2:∀ (w:Wd) (x:Int),spl (wdc w) 2 [.int .u64 x]=wdc (w.set 2 x):=fun w x=>oI w (by decide) x
 refine dv ?_;refine gU ?_;refine dv ?_;refine gU ?_;refine dZ (a0) ?_;repeat(first|refine lz ?_|simp only[go_sem,t0,hbo,sw0,sw1,sw2])
 refine dZ (a1) ?_;repeat(first|refine lz ?_|simp only[go_sem,t1,hbo,sw0,sw1,sw2])
 refine dZ (a2) ?_;repeat(first|refine lz ?_|simp only[go_sem,t2,hbo,sw0,sw1,sw2])
 refine dZ (a3) ?_;repeat(first|refine lz ?_|simp only[go_sem,t3,hbo,sw0,sw1,sw2])
 refine dZ (a4) ?_;repeat(first|refine lz ?_|simp only[go_sem,t4,hbo,sw0,sw1,sw2])
 refine dZ (a5) ?_;repeat(first|refine lz ?_|simp only[go_sem,t5,hbo,sw0,sw1,sw2])
 refine dZ (a6) ?_;repeat(first|refine lz ?_|simp only[go_sem,t6,hbo,sw0,sw1,sw2])
 refine dZ (a7) ?_;repeat(first|refine lz ?_|simp only[go_sem,t7,hbo,sw0,sw1,sw2])
 refine dZ (a8) ?_;repeat(first|refine lz ?_|simp only[go_sem,t8,hbo,sw0,sw1,sw2])
 refine dZ (ig 1) ?_;refine lz ?_
 refine ahh (fr2:=⟨5,[.sl 1 false (aH .i64 l),.dead,.ptr 0 0,.ptr 1 0,.dead],[]⟩) (σ2:=[.var (bW ui),.var (bW ⟨⟨IntKind.i64.wrap (6+r0),r1,r2,IntKind.i64.wrap (1+r3),r4,IntKind.u64.wrap (IntKind.i64.wrap (1+r5))⟩,IntKind.u64.wrap (IntKind.i64.wrap (1+r6)),IntKind.u64.wrap bo,((wd0.set 0 100).set 1 0).set 2 (IntKind.u64.wrap r8),zk 1,.sl 0 true []⟩)]) (by exact ais [] [0,11]) ?_;have hN:IntKind.i64.wrap (6+(r0:Int))<=13:=by rw[aL (by omega) (by omega)];omega
 have hN1:1<=IntKind.i64.wrap (6+(r0:Int)):=by rw[aL (by omega) (by omega)];omega
 have hT1:1<=IntKind.i64.wrap (1+(r3:Int)):=by rw[aL (by omega) (by omega)];omega
 have hB:IntKind.u64.wrap (IntKind.i64.wrap (1+(r5:Int)))=1+r5:=by rw[aL (by omega) (by omega),aN (by omega) (by omega)]
 have hP:IntKind.u64.wrap bo<=100:=by rw[aN (by omega) (by omega)];exact hbo1
 have hG:zk 1≠rt0:=by decide
 have hT:IntKind.i64.wrap (1+(r3:Int))<=4:=by rw[aL (by omega) (by omega)];omega
 have hS:IntKind.u64.wrap (IntKind.i64.wrap (1+(r6:Int)))=1+r6:=by rw[aL (by omega) (by omega),aN (by omega) (by omega)]
 have hW:WdG (((wd0.set 0 100).set 1 0).set 2 (IntKind.u64.wrap r8)):=((xx.set _ ⟨by decide,by decide⟩).set _ ⟨by decide,by decide⟩).set _ (cO _);rw[hS];generalize IntKind.i64.wrap (6+(r0:Int))=cN at *;generalize IntKind.i64.wrap (1+(r3:Int))=cT at *;generalize IntKind.u64.wrap (IntKind.i64.wrap (1+(r5:Int)))=cB at *;have hcP:0<=IntKind.u64.wrap bo:=(cO bo).lo;generalize IntKind.u64.wrap bo=cP at *;generalize ((wd0.set 0 100).set 1 0).set 2 (IntKind.u64.wrap r8)=cW at *;have hn9:IntKind.i64.wrap (2+(r9:Int))=((2+r9:Nat):Int):=by rw[aL (by omega) (by omega)];omega
 refine dv ?_;refine I6 (fun L:List Int=>L.length=2+r9/\∀x∈L,0<=x/\x<40) (fun _=>[]) (fun L=>[.var (bW ui),.var (bW ⟨⟨cN,r1,r2,cT,r4,cB⟩,1+r6,cP,cW,zk 1,.hs 1 2 0 L.length⟩),.vec 1 (aH .u64 L)]) ?_ (fun L hL=>?_)
 ·refine W3 (GY l (2+r9)) ⟨QG _ _,adv _ _ (by omega)⟩ ?_
  generalize hM:2+r9=M at *;refine gon ?_;refine pS 1 44 1 ?_ (by rfl) (by exact VJ _);simp only[go_sem,VK];refine az (fun i:Nat=>[(4,.int .i64 i)]) (fun i=>[.var (bW ui),.var (bW ⟨⟨cN,r1,r2,cT,r4,cB⟩,1+r6,cP,cW,zk 1,.hs 1 2 0 (GY l i).length⟩),.vec 1 (aH .u64 (GY l i))]) (fun i=>M-i) (fun i=>i<=M) 0 (amc _) ?_ ?_
  ·rw[show GY l 0=[]from rfl];exact ais [] [0,1,2]
  intro i hi;have hlen:=QG l i;by_cases h1:i<M
  ·have e1:decide ((i:Int)<(M:Int))=true:=au (by omega);have hw:=af h1 (by omega);have hw2:IntKind.i64.wrap (10+(i:Int))=((10+i:Nat):Int):=by rw[aL (by omega) (by omega)];omega
   have hs:=afW l i;have aa:=fL l false (10+i) (by omega);refine gon ?_;refine am a9 ?_;refine HV t9 hn9 e1 ?_;refine ah hw2 ?_;refine aK (aa) ?_;refine ah hw ?_;refine⟨i+1,h1,by omega,?_⟩;rw[hs];exact ais [] [0,1,4]
  ·obtain rfl:i=M:=by omega
   have e1:decide ((i:Int)<(i:Int))=false:=aA (by omega);refine gon ?_;refine am a9 ?_;refine wg t9 hn9 e1 ?_;exact ais [] [0,1,2]
 (try simp only[dr])
 refine cM ?_;obtain⟨hL1,hL2⟩:=hL;refine W3 (⟨⟨cN,r1,r2,cT,r4,cB⟩,1+r6,cP,cW,zk 1,L⟩:cU) ?_ ?_;rotate_left
 ·exact ahY [] [2]
 refine⟨⟨?_,?_,?_,?_,?_,?_,?_,?_,?_,hW,WV (n:=1) (by decide) (by decide)⟩,ad4 ?_ ?_ ?_ ?_ ?_ ?_ ?_ ?_ ?_ ?_ ?_ ?_ ?_ ?_ ?_ ?_ hG hL2,hL2,?_⟩<;>dsimp only<;>omega
theorem L9(l:List Int):Sm Qp fun c=>PC Tryz.prog 79 [.sl 1 false (aH .i64 l)] (.agg (bW c.a)):=by
 obtain⟨c,hc,h⟩:=aaA l;refine⟨c,hc,h.pc puA puA ?_⟩;(try simp only[go_sem,Nat.reduceAdd,Nat.reduceSub,Nat.reduceMul,Nat.reduceLT,Nat.reduceLeDiff,Nat.reduceEqDiff,reduceIte,Int.reduceToNat,Int.reduceLT,Int.reduceLE,Int.reduceEq,Int.reduceNeg,reduceCtorEq,Int.reduceBEq,Int.reduceBNe])
 rfl
structure ai2(x:fe):Prop where
 a1:U64 x.fst.src
 a2:U64 x.fst.tgt
 b1:U64 x.snd.src
 b2:U64 x.snd.tgt
 l1:x.fst.vals.length<=10
 l2:x.snd.vals.length<=10
section
variable{fr:Fr}{σ:St}{rs:List gN}{G:fe->Prop}{l:List AV}{a1 a2 b1 b2:Int}{r1 r2:Rt}{m1 m2:List Int}
theorem aiP(hl:dH fr σ rs=some l)(hv:fz σ (List.range σ.length) (gk l)=.agg (d7 ⟨⟨a1,a2,r1,.sl 1 false (aH .i64 m1)⟩,⟨b1,b2,r2,.sl 1 false (aH .i64 m2)⟩⟩))(hg:G ⟨⟨a1,a2,r1,m1⟩,⟨b1,b2,r2,m2⟩⟩):Sm G fun x=>PQ rs (.agg (d7 x.a)) .ret fr σ:=⟨_,hg,l,hl,.inl hv⟩
end
theorem aeh(n:Nat)(k:Int)(hn:n<=10):Sm ai2 fun x=>PC Tryz.prog 35 [.int .i64 n,.int .i64 k] (.agg (d7 x.a)):=by
 have S1:=Xy n k (by omega);have S2:=Xy n (fJ .i64 k 6) (by omega);have l1:=Xw n k;have l2:=Xw n (fJ .i64 k 6);generalize Xk n k=A at *;generalize Xk n (fJ .i64 k 6)=B at *;have u1:U64 1:=⟨by decide,by decide⟩;have u2:U64 2:=⟨by decide,by decide⟩;have u4:U64 4:=⟨by decide,by decide⟩;have u5:U64 5:=⟨by decide,by decide⟩;have u6:U64 6:=⟨by decide,by decide⟩;refine md 6 Rw (by simp) puA (fun r _=>puA) ?_;unfold IX;refine bd ?_;refine dv ?_;refine gU ?_;refine dv ?_;refine gU ?_;refine db (ig 2) ?_;refine lz ?_;refine db (S1) ?_;refine lz ?_;refine db (ig 2) ?_;refine lz ?_;refine db (S2) ?_;refine lz ?_;repeat'(first|refine cM ?_|(refine bR (fun h=>?_) (fun h=>?_)<;>try(exact absurd h (by decide)))|refine eo (fun h=>?_) (fun h=>?_))
 all_goals try(refine db (ig _) ?_;repeat'(first|refine cM ?_|(refine bR (fun h=>?_) (fun h=>?_)<;>try(exact absurd h (by decide)))|refine eo (fun h=>?_) (fun h=>?_)))
 all_goals(refine aiP (by first|rfl|exact evd) (by first|rfl|exact evd) ?_)
 all_goals(refine⟨?_,?_,?_,?_,?_,?_⟩<;>(try dsimp only)<;>first|assumption|omega)
structure OpG(x:VOp):Prop where
 r:OpR x
 u:OpU (toV x)
 diff:WdG x.blk.diff
 pdiff:WdG x.blk.pdiff
 k1:1<=x.kind
 k6:x.kind<=6
def Uv:bp:=⟨0,rt0,cp0,[]⟩
def ad9:fc:=⟨0,0,rt0,[]⟩
def Rn:fe:=⟨ad9,ad9⟩
def Rr:aW:=⟨cp0,[]⟩
theorem P2{k:Int}{b:Blk}{a:bp}{g:fe}{t:aW}{v:Vdt}(hb:Di b)(ha:ai1 a)(hg:ai2 g)(ht:ai3 t)(hv:U64 v.tag)(h1:1<=k)(h6:k<=6):OpG ⟨k,b,a,g,t,v,0,0⟩:=
 ⟨⟨hb.w,⟨ha.len,ha.slot,ha.ep⟩,hg.l1,hg.l2,ht.len,ht.ep⟩,⟨hb.u,ha.slot,ha.ep,ams ha.len (by decide),⟨hg.a1,hg.a2,rfl,ams hg.l1 (by decide)⟩,⟨hg.b1,hg.b2,rfl,ams hg.l2 (by decide)⟩,⟨ht.ep,rfl,ht.bals,ams ht.len (by decide)⟩,hv⟩,hb.diff,hb.pdiff,h1,h6⟩
theorem u0:U64 0:=⟨by decide,by decide⟩
theorem S7:Di cw:=⟨u0,u0,u0,u0,u0,xx,xx,by decide⟩
theorem Pp:ai1 Uv:=⟨u0,u0,by simp[Uv]⟩
theorem Pq:ai2 Rn:=⟨u0,u0,u0,u0,by simp[Rn,ad9],by simp[Rn,ad9]⟩
theorem Pr:ai3 Rr:=⟨u0,by simp[Rr],by simp[Rr]⟩
theorem QE{fr:Fr}{σ:St}{rs:List gN}{G:VOp->Prop}{l:List AV}(y:SOp)(x:VOp)(hl:dH fr σ rs=some l)(hv:fz σ (List.range σ.length) (gk l)=.agg (dj y))(hp:PuL (dj y))(hw:WkC (dj y) (dj x.a))(hg:G x):Sm G fun x=>PQ rs (.agg (dj x.a)) .ret fr σ:=
 ⟨x,hg,l,hl,.inr ⟨_,hv,hp,Wk.agg hw⟩⟩
theorem W8{k w p:Int}{b:Blk}{a:Att}{g:Slg}{t:Tab}{v:Vdt}(ha:PuL (cy a))(hg:PuL (d7 g))(ht:PuL (bS t)):PuL (dj ⟨k,b,a,g,t,v,w,p⟩):=by
 refine(jd _).2 ?_;have h1:=(fB _).1 ha;have h2:=(j7 _).1 hg;have h3:=(eP _).1 ht;exact⟨h1,h2,h3⟩
theorem Z0(s:aI)(i:Nat)(h:fQ s i)(httd:WdG s.sto.cfg.ttd)(n k:Int)(hk:0<=k)(hn0:0<=n)(hn1:n<=99)(h24:i<=24):Sm OpG fun x=>PC Tryz.prog 24 [.agg (aV s.a),.int .i64 n,.int .i64 k] (.agg (dj x.a)):=by
 obtain⟨b,hb,cb⟩:=aed s.sto i h.sto httd n (fJ .i64 k 4) (FO 4 hk) hn0 hn1 h24;obtain⟨a,ha,ca⟩:=aec s.sto i h.sto (fJ .i64 k 4) (FO 4 hk);obtain⟨g,hg,cg⟩:=aeh s.sto.cfg.bals.length (fJ .i64 k 4) (by have:=h.sto.cfg.b1;omega);obtain⟨t,ht,ct⟩:=aek s.sto i h.sto (fJ .i64 k 4) (FO 4 hk);obtain⟨v,hv,cv⟩:=aen s i h (fJ .i64 k 4) (FO 4 hk);have pa:PuL (cy Do):=(fB _).2 trivial;have pg:PuL (d7 KY):=(j7 _).2 ⟨trivial,trivial⟩;have pt:PuL (bS yp):=(eP _).2 trivial;refine md 48 afb (by simp) puA (fun r _=>puA) ?_;unfold V0;refine bd ?_;refine dv ?_;refine gU ?_;refine dv ?_;refine gU ?_;refine dv ?_;refine dv ?_;refine gU ?_;refine dv ?_;refine Pm (fun _:Bool=>True) (fun b=>[(12,.bool b)]) ?_ (fun bb _=>?_)
 ·repeat'(first|refine cM ?_|(refine bR (fun h=>?_) (fun h=>?_)<;>try(exact absurd h (by decide)))|refine eo (fun h=>?_) (fun h=>?_))
  ·exact⟨(Int.tmod k 16==0),trivial,by exact ais [] [0,1]⟩
  ·exact⟨(Int.tmod k 16==1),trivial,by exact ais [] [0,1]⟩
  ·exact⟨(Int.tmod k 16==2),trivial,by exact ais [] [0,1]⟩
 (try simp only[dE,dr,amx,amy])
 refine bR (fun h=>?_) (fun h=>?_)
 ·refine cM ?_;refine QE ⟨1,cw,Do,KY,yp,lZ,0,0⟩ ⟨1,cw,Uv,Rn,Rr,lZ,0,0⟩ (by first|rfl|exact evd) (by first|rfl|exact evd) (W8 pa pg pt) (Fe rfl rfl CT C0 C6 rfl rfl rfl) (P2 S7 Pp Pq Pr u0 (by decide) (by decide))
 refine dv ?_;refine Pm (fun _:Bool=>True) (fun b=>[(17,.bool b)]) ?_ (fun bb _=>?_)
 ·repeat'(first|refine cM ?_|(refine bR (fun h=>?_) (fun h=>?_)<;>try(exact absurd h (by decide)))|refine eo (fun h=>?_) (fun h=>?_))
  ·exact⟨(Int.tmod k 16==3),trivial,by exact ais [] [0,1]⟩
  ·exact⟨(Int.tmod k 16==4),trivial,by exact ais [] [0,1]⟩
  ·exact⟨(Int.tmod k 16==5),trivial,by exact ais [] [0,1]⟩
  ·exact⟨(Int.tmod k 16==6),trivial,by exact ais [] [0,1]⟩
  ·exact⟨(Int.tmod k 16==7),trivial,by exact ais [] [0,1]⟩
 (try simp only[dE,dr,amx,amy])
 refine bR (fun h=>?_) (fun h=>?_)
 ·refine cM ?_;refine db cb ?_;refine cM ?_;refine QE ⟨2,b,Do,KY,yp,lZ,0,0⟩ ⟨2,b,Uv,Rn,Rr,lZ,0,0⟩ (by first|rfl|exact evd) (by first|rfl|exact evd) (W8 pa pg pt) (Fe rfl rfl CT C0 C6 rfl rfl rfl) (P2 hb Pp Pq Pr u0 (by decide) (by decide))
 refine dv ?_;refine Pm (fun _:Bool=>True) (fun b=>[(29,.bool b)]) ?_ (fun bb _=>?_)
 ·repeat'(first|refine cM ?_|(refine bR (fun h=>?_) (fun h=>?_)<;>try(exact absurd h (by decide)))|refine eo (fun h=>?_) (fun h=>?_))
  ·exact⟨(Int.tmod k 16==8),trivial,by exact ais [] [0,1]⟩
  ·exact⟨(Int.tmod k 16==9),trivial,by exact ais [] [0,1]⟩
  ·exact⟨(Int.tmod k 16==10),trivial,by exact ais [] [0,1]⟩
 (try simp only[dE,dr,amx,amy])
 refine bR (fun h=>?_) (fun h=>?_)
 ·refine cM ?_;refine db ca ?_;refine cM ?_;refine QE ⟨3,cw,a.a,KY,yp,lZ,0,0⟩ ⟨3,cw,a,Rn,Rr,lZ,0,0⟩ (by first|rfl|exact evd) (by first|rfl|exact evd) (W8 a.pul pg pt) (Fe rfl rfl (WkC.refl _) C0 C6 rfl rfl rfl) (P2 S7 ha Pq Pr u0 (by decide) (by decide))
 repeat'(first|refine cM ?_|(refine bR (fun h=>?_) (fun h=>?_)<;>try(exact absurd h (by decide)))|refine eo (fun h=>?_) (fun h=>?_))
 ·refine db cg ?_;refine cM ?_;refine QE ⟨4,cw,Do,g.a,yp,lZ,0,0⟩ ⟨4,cw,Uv,g,Rr,lZ,0,0⟩ (by first|rfl|exact evd) (by first|rfl|exact evd) (W8 pa g.pul pt) (Fe rfl rfl CT (WkC.refl _) C6 rfl rfl rfl) (P2 S7 Pp hg Pr u0 (by decide) (by decide))
 ·refine db ct ?_;refine cM ?_;refine QE ⟨5,cw,Do,KY,t.a,lZ,0,0⟩ ⟨5,cw,Uv,Rn,t,lZ,0,0⟩ (by first|rfl|exact evd) (by first|rfl|exact evd) (W8 pa pg t.pul) (Fe rfl rfl CT C0 (WkC.refl _) rfl rfl rfl) (P2 S7 Pp Pq ht u0 (by decide) (by decide))
 ·refine db cv ?_;refine cM ?_;refine QE ⟨6,cw,Do,KY,yp,v,0,0⟩ ⟨6,cw,Uv,Rn,Rr,v,0,0⟩ (by first|rfl|exact evd) (by first|rfl|exact evd) (W8 pa pg pt) (Fe rfl rfl CT C0 C6 rfl rfl rfl) (P2 S7 Pp Pq Pr hv.tag (by decide) (by decide))
theorem bP.new{c:cU}(h:afI c):bP (kO c) 0:=by
 refine⟨h,⟨fun k h1 h2=>?_,alj,by show (-1:Int)<0;decide⟩,?_,by simp[kO],by show 1<=13;decide,fun n hn=>?_,amc _,fun b hb=>absurd hb (by simp[kO]),amc _,fun b hb=>absurd hb (by simp[kO]),by show 1<=4;decide,fun t ht=>?_,amb _,u0,u0,⟨u0,fun _=>by show (0:Int)<=_;decide⟩,by decide,fun v hv=>?_⟩
 ·have:k<1:=h2;omega
 ·exact lH (k:=0) alj rfl
 ·have:n=⟨adM c.gen,-1,1⟩:=by simpa[kO]using hn
  subst this;exact⟨u0,u0,u0,u0,u0,fun _=>h.gn,xx,xx⟩
 ·have:t=⟨⟨0,c.gen⟩,c.bals⟩:=by simpa[kO]using ht
  subst this;exact⟨h.b1,u0⟩
 ·rw[akX hv];exact u0
theorem Mh{c:cU}(h:Qp c):fQ (iW c).1 0:=by
 unfold iW;rw[al7 h.new];exact fQ.emit ⟨bP.new h.r,amb _,fun r hr=>absurd hr (by simp),amc _,(⟨by decide,by decide⟩:U64 1)⟩
def FQ(f:aI×Nat×Int×Int->VOp)(l:List Int)(s0:aI):Nat->aI×List VOp
 |0=>(s0,[])
 |i+1=>((CL (FQ f l s0 i).1 (f ((FQ f l s0 i).1,i,((10+i:Nat):Int),if i=0 then 0 else atN l (18+i)))).1,(FQ f l s0 i).2++[f ((FQ f l s0 i).1,i,((10+i:Nat):Int),if i=0 then 0 else atN l (18+i))])
structure ajl(c:cU)(ops:List VOp)(s:aI):Prop where
 c:Qp c
 len:ops.length<=24
 ops:∀x∈ops,OpG x
 s:fQ s 24
theorem ahQ(P:Nat->aI->Prop)(hP0:∀c,Qp c->P 0 (iW c).1)(hPs:∀s i x,fQ s i->i<24->P i s->OpG x->P (i+1) (CL s x).1)(l:List Int):∃ (c:cU) (ops:List VOp) (s:aI),(ajl c ops s/\∃i,i<=24/\P i s)/\PC Tryz.prog 55 [.sl 1 false (aH .i64 l)] (.tup [.agg (bW c.a),.sl 446 false (rows VOp.c ops),.agg (aV s.a)]):=by
 obtain⟨c,hc,cc⟩:=L9 l
 have hop:∀y:aI×Nat×Int×Int,∃x:VOp,fQ y.1 y.2.1->0<=y.2.2.2->0<=y.2.2.1/\y.2.2.1<=99/\y.2.1<=24->OpG x/\PC Tryz.prog 24 [.agg (aV y.1.a),.int .i64 y.2.2.1,.int .i64 y.2.2.2] (.agg (dj x.a)):=fun y=>by
  by_cases h1:fQ y.1 y.2.1
  ·by_cases h2:0<=y.2.2.2
   ·by_cases h3:0<=y.2.2.1/\y.2.2.1<=99/\y.2.1<=24
    ·obtain⟨x,hx⟩:=Z0 y.1 y.2.1 h1 h1.sto.cfg.tt y.2.2.1 y.2.2.2 h2 h3.1 h3.2.1 h3.2.2;exact⟨x,fun _ _ _=>hx⟩
    ·exact⟨default,fun _ _ h=>absurd h h3⟩
   ·exact⟨default,fun _ h=>absurd h h2⟩
  ·exact⟨default,fun h=>absurd h h1⟩
 obtain⟨f,hf⟩:=Classical.axiomOfChoice hop;have h0:=Mh hc;have p0:=hP0 c hc;have cb:=GZ c (by have:=hc.r.b1;omega) fun _=>(bP.new hc.r).r
 generalize iW c=B at *;obtain⟨s0,B2,B3⟩:=B;dsimp only at h0 cb p0
 have hI:∀i,i<=24->(fQ (FQ f l s0 i).1 i/\P i (FQ f l s0 i).1)/\(FQ f l s0 i).2.length=i/\∀x∈(FQ f l s0 i).2,OpG x:=by
  intro i;induction i with
  |zero=>exact fun _=>⟨⟨h0,p0⟩,rfl,fun x hx=>by cases hx⟩
  | succ i ih =>
    intro hi;obtain⟨⟨h1,hp1⟩,h2,h3⟩:=ih (by omega);have hk:0<=(if i=0 then 0 else atN l (18+i)):=by split;exact amr _;exact(kf l (18+i) (by omega)).1
    have hx:=(hf ((FQ f l s0 i).1,i,((10+i:Nat):Int),if i=0 then 0 else atN l (18+i)) h1 hk (by dsimp only;omega)).1;refine⟨⟨h1.step (by omega) hx.r,hPs _ i _ h1 (by omega) hp1 hx⟩,?_,fun x hm=>?_⟩
    ·show ((FQ f l s0 i).2++[_]).length=i+1
     rw[akC,h2];rfl
    ·rcases amm.1 hm with h|h
     ·exact h3 x h
     ·rw[amn]at h;subst h;exact hx
 obtain⟨r16,h16,b16⟩:=dF (n:=25) (kf l 16 (by decide)).1 (by decide);have t16:Int.tmod (atN l 16) 25=(r16:Int):=h16;have a16:PC Tryz.prog 153 [.sl 1 false (aH .i64 l),.int .i64 16] (.int .i64 (atN l 16)):=fL l false 16 (by decide);have a17:PC Tryz.prog 153 [.sl 1 false (aH .i64 l),.int .i64 17] (.int .i64 (atN l 17)):=fL l false 17 (by decide)
 obtain⟨N,hN,hN1,hN2⟩:∃N:Nat,N<=24/\(decide (0<Int.tmod (atN l 17) 4)=true->N=24)/\(decide (0<Int.tmod (atN l 17) 4)=false->N=r16):=by
  by_cases hd:decide (0<Int.tmod (atN l 17) 4)=true
  ·exact⟨24,by decide,fun _=>rfl,fun h=>by rw[hd]at h;cases h⟩
  ·exact⟨r16,by omega,fun h=>absurd h hd,fun _=>rfl⟩
 obtain⟨⟨i1,ip⟩,i2,i3⟩:=hI N hN;refine⟨c,(FQ f l s0 N).2,(FQ f l s0 N).1,⟨⟨hc,by omega,i3,i1.up (by omega) (by decide)⟩,N,hN,ip⟩,PC.fact 14 aco (by simp) puA puA ?_⟩;unfold To;refine bd ?_;clear i1 i2 i3 ip p0 hP0 hPs;refine gon ?_;refine ahG cc ?_;refine ahG cb ?_;refine am a16 ?_;refine ah t16 ?_;refine ahG a17 ?_;refine xT (fun _=>[(10,.int .i64 N)]) (fun _=>[.var (bW ui),.var (aV rD),.var (bW c.a),.var (aV s0.a)]) (fun hT=>?_) (fun hF=>?_) ?_
 ·rw[hN1 hT];refine gon ?_;exact ais [] [0,1,2,3]
 ·rw[hN2 hF];refine gon ?_;exact ais [] [0,1,2,3]
 clear hN1 hN2 a16 a17 t16 h16;refine gon ?_;refine jx 9 446 ?_;simp only[go_sem];refine az (fun i:Nat=>[(11,.int .i64 i),(9,.hs 446 4 0 (FQ f l s0 i).2.length),(12,.dead),(13,.dead)]) (fun i=>[.var (bW ui),.var (aV rD),.var (bW c.a),.var (aV (FQ f l s0 i).1.a),.vec 446 (rows VOp.c (FQ f l s0 i).2)]) (fun i=>N-i) (fun i=>i<=N) 0 (amc _) ?_ ?_
 ·show GC _ _ _ ⟨_,jc [(11,.int .i64 0),(9,.hs 446 4 0 0),(12,.dead),(13,.dead)] _,[]⟩ [.var (bW ui),.var (aV rD),.var (bW c.a),.var (aV s0.a),.vec 446 []]
  exact ais [] [0,1,2,3,4]
 intro i hi;obtain⟨⟨hA,_⟩,hl,_⟩:=hI i (by omega);by_cases h1:i<N
 ·have e1:decide ((i:Int)<(N:Int))=true:=au (by omega)
  have hw:=af h1 (by omega);have hw1:IntKind.i64.wrap (18+(i:Int))=((18+i:Nat):Int):=by rw[aL (by omega) (by omega)];omega
  have hw2:IntKind.i64.wrap (10+(i:Int))=((10+i:Nat):Int):=by rw[aL (by omega) (by omega)];omega
  have aa:=fL l false (18+i) (by omega);have hk:0<=(if i=0 then 0 else atN l (18+i)):=by split;exact amr _;exact(kf l (18+i) (by omega)).1
  obtain⟨hx,co⟩:=hf ((FQ f l s0 i).1,i,((10+i:Nat):Int),if i=0 then 0 else atN l (18+i)) hA hk (by dsimp only;omega);have hr:FQ f l s0 (i+1)=((CL (FQ f l s0 i).1 (f ((FQ f l s0 i).1,i,((10+i:Nat):Int),if i=0 then 0 else atN l (18+i)))).1,(FQ f l s0 i).2++[f ((FQ f l s0 i).1,i,((10+i:Nat):Int),if i=0 then 0 else atN l (18+i))]):=rfl;have hK1:i=0->(if i=0 then 0 else atN l (18+i))=0:=fun h=>al7 h
  have hK2:i≠0->(if i=0 then 0 else atN l (18+i))=atN l (18+i):=fun h=>al5 h
  dsimp only at co;generalize (if i=0 then 0 else atN l (18+i))=K at *;generalize f ((FQ f l s0 i).1,i,((10+i:Nat):Int),K)=x at *;clear hI;generalize FQ f l s0 i=p at *;obtain⟨s1,o1⟩:=p;dsimp only at hA hl co hr ⊢;have cs:=XA s1 i hA (by omega) x hx.r hx.u;generalize CL s1 x=T at *;obtain⟨T1,T2,T3⟩:=T;dsimp only at cs hr ⊢;have hsn:rows VOp.c o1++[dj x.a]=rows VOp.c (o1++[x]):=cR VOp.c o1 x;(try simp only[dE,dr,amx,amy])
  refine bw e1 ?_;refine ah hw1 ?_;refine ahG aa ?_;refine xT (fun _=>[(12,.int .i64 K)]) (fun _=>[.var (bW ui),.var (aV rD),.var (bW c.a),.var (aV s1.a),.vec 446 (rows VOp.c o1)]) (fun hT=>?_) (fun hF=>?_) ?_
  ·rw[hK1 (by rw[am0]at hT;omega)];refine gon ?_;exact ais [] [0,1,2,3,4]
  ·rw[hK2 (by rw[ajL]at hF;omega)];refine gon ?_;exact ais [] [0,1,2,3,4]
  (try simp only[dE,dr,amx,amy])
  refine ah hw2 ?_;refine am co ?_;refine ah hsn ?_;refine am cs ?_;refine ah hw ?_;refine⟨i+1,h1,by omega,?_⟩;rw[hr];exact ais [] [0,1,2,3,6]
 ·have hiN:i=N:=by omega
  subst hiN;have e1:decide ((i:Int)<(i:Int))=false:=aA (by omega);clear hI;generalize FQ f l s0 i=p at *;obtain⟨s1,o1⟩:=p;dsimp only at hl ⊢;have ht:List.take o1.length (rows VOp.c o1)=rows VOp.c o1:=amf (by simp);(try simp only[dE,dr,amx,amy])
  refine aF e1 ?_;refine⟨_,(by first|rfl|exact evd),.inl ?_⟩;exact uZ ht
theorem abq(P:Nat->aI->Prop)(hP0:∀c,Qp c->P 0 (iW c).1)(hPs:∀s i x,fQ s i->i<24->P i s->OpG x->P (i+1) (CL s x).1)(l:List Int):∃s:aI,(fQ s 24/\∃i,i<=24/\P i s)/\PC Tryz.prog 15 [.sl 1 false (aH .i64 l)] (.agg (aV s.a)):=by
 obtain⟨c,ops,s,⟨h,hp⟩,cr⟩:=ahQ P hP0 hPs l;refine⟨s,⟨h.s,hp⟩,PC.fact 7 XX (by simp) puA puA ?_⟩;unfold NA;refine bd ?_;refine gon ?_;refine ahG cr ?_;exact ai
end Go.Proofs.YtnjdpnfglgcjcaaGreat
