/- Joined. -/
import Derived.Test.YtflhnmleodkjiaaGreatV7
import Derived.Test.YtflhnmleodkjiaaGreatW3
import Derived.Test.YtflhnmleodkjiaaGreatW6
import Derived.Test.YtflhnmleodkjiaaGreatU1
set_option linter.unusedVariables false
set_option linter.unusedSimpArgs false
set_option maxRecDepth 8000
set_option maxHeartbeats 4000000
namespace Go.Proofs.YtflhnmleodkjiaaGreat
open Go Go.FH Go.RowKit
def atN(l:List Int)(i:Nat):Int:=
 if l.length=0 then lI .i64 i 65535 else IntKind.i64.wrap (lI .i64 (l.getD (i%l.length) 0) 16777215+((i / l.length:Nat):Int))
theorem ry(l:List Int)(i:Nat)(hi:i<=1000):0<=atN l i/\atN l i<=16778215:=by
 unfold atN;split
 ·obtain⟨r,h1,h2⟩:=Ci (i:Int) 65535 (by decide) (by decide);rw[h1];omega
 ·obtain⟨r,h1,h2⟩:=Ci (l.getD (i%l.length) 0) 16777215 (by decide) (by decide);have h3:i / l.length<=i:=Nat.div_le_self _ _;rw[h1];generalize i / l.length=q at *;rw[aL (by omega) (by omega)];omega
theorem fL(l:List Int)(c:Bool)(i:Nat)(hi:i<=1000):PC Tryz.prog 71 [.sl 1 c (aH .i64 l),.int .i64 i] (.int .i64 (atN l i)):=by
 refine pfn 5 afa ?_;unfold Mj;refine bd ?_;unfold atN;by_cases h0:l.length=0
 ·have e0:((l.length:Int)==0)=true:=by simp[h0]
  rw[al7 h0];refine aM e0 ?_;exact ai
 ·have e0:((l.length:Int)==0)=false:=by simp;intro h;exact h0 (by simp[h])
  have e1:Int.tmod (i:Int) (l.length:Int)=((i%l.length:Nat):Int):=(Int.ofNat_tmod i l.length).symm;have e2:Int.tdiv (i:Int) (l.length:Int)=((i / l.length:Nat):Int):=(Int.ofNat_tdiv i l.length).symm;have hm:i%l.length<l.length:=alZ _ (by omega);have hd:i / l.length<=i:=Nat.div_le_self _ _;have hgd:=gdn (k:=.i64) hm;rw[al5 h0];refine bJ e0 ?_;generalize i%l.length=m at *;generalize i / l.length=q at *;have e3:IntKind.i64.wrap (q:Int)=(q:Int):=aL (by omega) (by omega);refine pz e1 e2 hgd e3 ?_;exact ai
theorem xx:WdG wd0:=fun n hn=>by
 have:n=0:=by simpa[wd0]using hn
 subst this;decide
theorem WdG.set{w:Wd}(h:WdG w)(j:Nat){x:Int}(hx:U64 x):WdG (w.set j x):=fun n hn=>by
 rcases List.mem_or_eq_of_mem_set hn with h1|rfl
 ·exact h n h1
 ·exact⟨hx.lo,hx.hi⟩
structure Di(b:Blk):Prop where
 slot:U64 b.slot
 just:U64 b.just.ep
 fin:U64 b.fin.ep
 j:U64 b.pul.j.ep
 f:U64 b.pul.f.ep
 diff:WdG b.diff
 pdiff:WdG b.pdiff
 rt:b.root≠Y1
theorem WV{n:Int}(h0:0<=n)(h1:n<=99):zk n≠Y1:=by
 intro h;have h2:(zk n).1.getD 0 0=Y1.1.getD 0 0:=by rw[h]
 have h3:(zk n).1.getD 0 0=LM n:=rfl;rw[h3]at h2;have h4:Y1.1.getD 0 0=LM 100:=rfl;rw[h4]at h2;have h5:=vQ n;rw[h2,<-vQ 100,show IntKind.u8.wrap 100=100 from rfl,show IntKind.u8.wrap n=n from by rw[IntKind.wrap_u8];omega]at h5;omega
theorem dF{k:Int}{n:Nat}(hk:0<=k)(hn:0<n):∃p:Nat,Int.tmod k (n:Int)=p/\p<n:=by
 obtain⟨m,rfl⟩:=ajO hk;exact⟨m%n,(Int.ofNat_tmod m n).symm,alZ _ hn⟩
structure Qp(c:cU):Prop where
 r:afI c
 new:ib c=0
 bu:∀x∈c.bals,0<=x/\x<40
 bo:0<=c.boost
theorem Jo{l:List Int}(h:∀x∈l,0<=x/\x<40)(hl:l.length<=6):∀n,n<=l.length->(jr l n).2=0/\0<=(jr l n).1/\(jr l n).1<=40*n
 |0,_=>⟨rfl,amr _,by show (0:Int)<=_;omega⟩
 | n + 1, hn => by
   obtain⟨h1,h2,h3⟩:=Jo h hl n (by omega);have hs:jr l (n+1)=FA (jr l n).1 (l.getD n 0):=by show (if (jr l n).2≠0 then jr l n else _)=_;rw[al5 (by simp[h1])]
   have hx:=h _ (bK 0 (show n<l.length by omega));rw[hs];unfold FA;have hw:IntKind.u64.wrap ((jr l n).1+l.getD n 0)=(jr l n).1+l.getD n 0:=aN (by omega) (by omega);have hw2:IntKind.u64.wrap (18446744073709551615-l.getD n 0)=18446744073709551615-l.getD n 0:=aN (by omega) (by omega);split
   ·rename_i hh;first|(rw[hw2]at hh;omega)|omega
   ·dsimp only;rw[hw];exact⟨rfl,by omega,by omega⟩
theorem ad4{c:cU}(h1:1<=c.spe)(h2:c.spe<=64)(h3:c.boost<=100)(h4:c.bals.length<=6)(n1:1<=c.lim.node)(n2:c.lim.node<=4096)(o1:0<=c.lim.orph)(o2:c.lim.orph<=64)(e1:0<=c.lim.early)(e2:c.lim.early<=256)(t1:1<=c.lim.table)(t2:c.lim.table<=64)
 (r1:0<=c.lim.retry) (r2:c.lim.retry<=256) (b1:1<=c.lim.backoff) (b2:c.lim.backoff<=1048576) (hg:c.gen≠rt0) (hb:∀x∈c.bals,0<=x/\x<40):ib c=0:=by
 have w:∀ {n lo hi:Int},lo<=n->n<=hi->wit n lo hi=true:=fun h1 h2=>by unfold wit;rw[au h1,au h2];rfl
 have hs:=Jo hb h4 c.bals.length (amb _)
 have hv:gh ⟨⟨0,c.gen⟩,c.bals⟩ c.bals.length=0:=by
  unfold gh EI;dsimp only;rw[al5 (by simp),al5];rintro (h|h)
  ·exact h hs.1
  ·omega
 unfold ib;rw[al5 (by omega),al5 (by omega),al5 (by omega),al5 (by omega),w n1 n2,w o1 o2,w e1 e2,w t1 t2,w r1 r2,al5 (by simp),al5 (by simp),al5 (by simp),al5 (by simp),al5 (by simp),al5 (by omega),al5 (by omega),al5 hg,hv]
def GY(l:List Int)(n:Nat):List Int:=(List.range n).map fun i=>IntKind.u64.wrap (Int.tmod (atN l (10+i)) 40)
theorem QG(l:List Int)(n:Nat):(GY l n).length=n:=by simp[GY]
theorem adv(l:List Int)(n:Nat)(hn:n<=100):∀x∈GY l n,0<=x/\x<40:=fun x hx=>by
 unfold GY at hx;obtain⟨v,hv,rfl⟩:=amV.1 hx;rw[List.mem_range]at hv;obtain⟨r,h,h'⟩:=dF (n:=40) (ry l (10+v) (by omega)).1 (by decide);have h2:Int.tmod (atN l (10+v)) 40=(r:Int):=h;rw[h2,aN (by omega) (by omega)];omega
theorem afW(l:List Int)(n:Nat):GY l (n+1)=GY l n++[IntKind.u64.wrap (Int.tmod (atN l (10+n)) 40)]:=by simp[GY,ake]
theorem VK(x:Cfg)(v:AV):(bW x).set 44 v=bW { x with bals:=v }:=by
 simp only[bW,akf,cS,bq,ak,al8,Nat.reduceSub,Nat.reduceLT,amj,amy,amx]
theorem VJ(x:Cfg):(bW x).getD 44 .dead=x.bals:=by
 simp only[bW,alt,aj2,cS,bq,ak,al8,Nat.reduceSub,Nat.reduceLT,amj,ajB,amQ,amT]
section
variable{fr:Fr}{σ:St}{rs:List gN}{G:cU->Prop}{l:List AV}{a:Lim}{b c:Int}{d:Wd}{e:Rt}{f:List Int}
end
theorem acG{α:Type}{P:Program}{nt:Nat}{G:α->Prop}{f:FuncId}{rs:List gN}{ac:ab}{args:List AV}{A:α->AV}{S:α->St}(nv:Nat)(hf:aJ P f=some (nt,rs,ac))(ha:args.length<=nt)
 (h:Sm G fun r=>Tri P nt 0 ac (Qq rs 0 (S r) (A r)) ⟨nv,args++List.replicate (nv-args.length) .dead,[]⟩ []):Sm G fun r=>ay P f args [] (A r) (S r):=by
 obtain⟨r,h1,h2⟩:=h;exact⟨r,h1,ay.fact nv hf ha h2 (by simp)⟩
theorem aaA(l:List Int):Sm Qp fun c=>ay Tryz.prog 26 [.sl 1 false (aH .i64 l)] [] (.agg (bW { c.a with bals:=.hs 1 0 0 c.bals.length })) [.vec 1 (aH .u64 c.bals)]:=by
 refine acG 5 J4 (by simp) ?_;unfold yG;refine bd ?_;obtain⟨r0,h0,b0⟩:=dF (n:=8) (ry l 0 (by decide)).1 (by decide);have t0:Int.tmod (atN l 0) 8=(r0:Int):=h0;have a0:PC Tryz.prog 71 [.sl 1 false (aH .i64 l),.int .i64 0] (.int .i64 (atN l 0)):=fL l false 0 (by decide);obtain⟨r1,h1,b1⟩:=dF (n:=4) (ry l 1 (by decide)).1 (by decide);have t1:Int.tmod (atN l 1) 4=(r1:Int):=h1;have a1:PC Tryz.prog 71 [.sl 1 false (aH .i64 l),.int .i64 1] (.int .i64 (atN l 1)):=fL l false 1 (by decide);obtain⟨r2,h2,b2⟩:=dF (n:=4) (ry l 2 (by decide)).1 (by decide);have t2:Int.tmod (atN l 2) 4=(r2:Int):=h2;have a2:PC Tryz.prog 71 [.sl 1 false (aH .i64 l),.int .i64 2] (.int .i64 (atN l 2)):=fL l false 2 (by decide);obtain⟨r3,h3,b3⟩:=dF (n:=4) (ry l 3 (by decide)).1 (by decide);have t3:Int.tmod (atN l 3) 4=(r3:Int):=h3;have a3:PC Tryz.prog 71 [.sl 1 false (aH .i64 l),.int .i64 3] (.int .i64 (atN l 3)):=fL l false 3 (by decide);obtain⟨r4,h4,b4⟩:=dF (n:=4) (ry l 4 (by decide)).1 (by decide);have t4:Int.tmod (atN l 4) 4=(r4:Int):=h4;have a4:PC Tryz.prog 71 [.sl 1 false (aH .i64 l),.int .i64 4] (.int .i64 (atN l 4)):=fL l false 4 (by decide);obtain⟨r5,h5,b5⟩:=dF (n:=5) (ry l 5 (by decide)).1 (by decide);have t5:Int.tmod (atN l 5) 5=(r5:Int):=h5;have a5:PC Tryz.prog 71 [.sl 1 false (aH .i64 l),.int .i64 5] (.int .i64 (atN l 5)):=fL l false 5 (by decide);obtain⟨r6,h6,b6⟩:=dF (n:=4) (ry l 6 (by decide)).1 (by decide);have t6:Int.tmod (atN l 6) 4=(r6:Int):=h6;have a6:PC Tryz.prog 71 [.sl 1 false (aH .i64 l),.int .i64 6] (.int .i64 (atN l 6)):=fL l false 6 (by decide);obtain⟨r7,h7,b7⟩:=dF (n:=3) (ry l 7 (by decide)).1 (by decide);have t7:Int.tmod (atN l 7) 3=(r7:Int):=h7;have a7:PC Tryz.prog 71 [.sl 1 false (aH .i64 l),.int .i64 7] (.int .i64 (atN l 7)):=fL l false 7 (by decide);obtain⟨r8,h8,b8⟩:=dF (n:=2) (ry l 8 (by decide)).1 (by decide);have t8:Int.tmod (atN l 8) 2=(r8:Int):=h8;have a8:PC Tryz.prog 71 [.sl 1 false (aH .i64 l),.int .i64 8] (.int .i64 (atN l 8)):=fL l false 8 (by decide);obtain⟨r9,h9,b9⟩:=dF (n:=5) (ry l 9 (by decide)).1 (by decide);have t9:Int.tmod (atN l 9) 5=(r9:Int):=h9;have a9:PC Tryz.prog 71 [.sl 1 false (aH .i64 l),.int .i64 9] (.int .i64 (atN l 9)):=fL l false 9 (by decide)
 obtain⟨bo,hbo,hbo0,hbo1⟩:∃bo:Int,([[.int .i64 0],[.int .i64 40],[.int .i64 100]]:List (List AV)).getD r7 []=[.int .i64 bo]/\0<=bo/\bo<=100:=by
  match r7,b7 with
  |0,_=>exact⟨0,rfl,by decide,by decide⟩
  |1,_=>exact⟨40,rfl,by decide,by decide⟩
  |2,_=>exact⟨100,rfl,by decide,by decide⟩
 have sw0:∀ (w:Wd) (x:Int),spl (wdc w) 0 [.int .u64 x]=wdc (w.set 0 x):=fun w x=>oI w (by decide) x
 have sw1:∀ (w:Wd) (x:Int),spl (wdc w) 1 [.int .u64 x]=wdc (w.set 1 x):=fun w x=>oI w (by decide) x
 have sw2:∀ (w:Wd) (x:Int),spl (wdc w) 2 [.int .u64 x]=wdc (w.set 2 x):=fun w x=>oI w (by decide) x
 refine dv ?_;refine gU ?_;refine dv ?_;refine gU ?_;refine dZ (a0) ?_;repeat(first|refine lz ?_|simp only[go_sem,t0,hbo,sw0,sw1,sw2])
 refine dZ (a1) ?_;repeat(first|refine lz ?_|simp only[go_sem,t1,hbo,sw0,sw1,sw2])
 refine dZ (a2) ?_;repeat(first|refine lz ?_|simp only[go_sem,t2,hbo,sw0,sw1,sw2])
 refine dZ (a3) ?_;repeat(first|refine lz ?_|simp only[go_sem,t3,hbo,sw0,sw1,sw2])
 refine dZ (a4) ?_;repeat(first|refine lz ?_|simp only[go_sem,t4,hbo,sw0,sw1,sw2])
 refine dZ (a5) ?_;repeat(first|refine lz ?_|simp only[go_sem,t5,hbo,sw0,sw1,sw2])
 refine dZ (a6) ?_;repeat(first|refine lz ?_|simp only[go_sem,t6,hbo,sw0,sw1,sw2])
 refine dZ (a7) ?_;repeat(first|refine lz ?_|simp only[go_sem,t7,hbo,sw0,sw1,sw2])
 refine dZ (a8) ?_;repeat(first|refine lz ?_|simp only[go_sem,t8,hbo,sw0,sw1,sw2])
 refine dZ (ig 1) ?_;refine lz ?_
 refine ahh (fr2:=⟨5,[.sl 1 false (aH .i64 l),.dead,.ptr 0 0,.ptr 1 0,.dead],[]⟩) (σ2:=[.var (bW ui),.var (bW ⟨⟨IntKind.i64.wrap (6+r0),r1,r2,IntKind.i64.wrap (1+r3),r4,IntKind.u64.wrap (IntKind.i64.wrap (1+r5))⟩,IntKind.u64.wrap (IntKind.i64.wrap (1+r6)),IntKind.u64.wrap bo,((wd0.set 0 100).set 1 0).set 2 (IntKind.u64.wrap r8),zk 1,.sl 0 true []⟩)]) (by exact ais [] [0,11]) ?_;have hN:IntKind.i64.wrap (6+(r0:Int))<=13:=by rw[aL (by omega) (by omega)];omega
 have hN1:1<=IntKind.i64.wrap (6+(r0:Int)):=by rw[aL (by omega) (by omega)];omega
 have hT1:1<=IntKind.i64.wrap (1+(r3:Int)):=by rw[aL (by omega) (by omega)];omega
 have hB:IntKind.u64.wrap (IntKind.i64.wrap (1+(r5:Int)))=1+r5:=by rw[aL (by omega) (by omega),aN (by omega) (by omega)]
 have hP:IntKind.u64.wrap bo<=100:=by rw[aN (by omega) (by omega)];exact hbo1
 have hG:zk 1≠rt0:=by decide
 have hT:IntKind.i64.wrap (1+(r3:Int))<=4:=by rw[aL (by omega) (by omega)];omega
 have hS:IntKind.u64.wrap (IntKind.i64.wrap (1+(r6:Int)))=1+r6:=by rw[aL (by omega) (by omega),aN (by omega) (by omega)]
 have hW:WdG (((wd0.set 0 100).set 1 0).set 2 (IntKind.u64.wrap r8)):=((xx.set _ ⟨by decide,by decide⟩).set _ ⟨by decide,by decide⟩).set _ (cO _);rw[hS];generalize IntKind.i64.wrap (6+(r0:Int))=cN at *;generalize IntKind.i64.wrap (1+(r3:Int))=cT at *;generalize IntKind.u64.wrap (IntKind.i64.wrap (1+(r5:Int)))=cB at *;have hcP:0<=IntKind.u64.wrap bo:=(cO bo).lo;generalize IntKind.u64.wrap bo=cP at *;generalize ((wd0.set 0 100).set 1 0).set 2 (IntKind.u64.wrap r8)=cW at *;have hn9:IntKind.i64.wrap (2+(r9:Int))=((2+r9:Nat):Int):=by rw[aL (by omega) (by omega)];omega
 refine dv ?_;refine I6 (fun L:List Int=>L.length=2+r9/\∀x∈L,0<=x/\x<40) (fun _=>[]) (fun L=>[.var (bW ui),.var (bW ⟨⟨cN,r1,r2,cT,r4,cB⟩,1+r6,cP,cW,zk 1,.hs 1 2 0 L.length⟩),.vec 1 (aH .u64 L)]) ?_ (fun L hL=>?_)
 ·refine W3 (GY l (2+r9)) ⟨QG _ _,adv _ _ (by omega)⟩ ?_
  generalize hM:2+r9=M at *;refine gon ?_;refine pS 1 44 1 ?_ (by rfl) (by exact VJ _);simp only[go_sem,VK];refine az (fun i:Nat=>[(4,.int .i64 i)]) (fun i=>[.var (bW ui),.var (bW ⟨⟨cN,r1,r2,cT,r4,cB⟩,1+r6,cP,cW,zk 1,.hs 1 2 0 (GY l i).length⟩),.vec 1 (aH .u64 (GY l i))]) (fun i=>M-i) (fun i=>i<=M) 0 (amc _) ?_ ?_
  ·rw[show GY l 0=[]from rfl];exact ais [] [0,1,2]
  intro i hi;have hlen:=QG l i;by_cases h1:i<M
  ·have e1:decide ((i:Int)<(M:Int))=true:=au (by omega);have hw:=af h1 (by omega);have hw2:IntKind.i64.wrap (10+(i:Int))=((10+i:Nat):Int):=by rw[aL (by omega) (by omega)];omega
   have hs:=afW l i;have aa:=fL l false (10+i) (by omega);refine gon ?_;refine am a9 ?_;refine HV t9 hn9 e1 ?_;refine ah hw2 ?_;refine aK (aa) ?_;refine ah hw ?_;refine⟨i+1,h1,by omega,?_⟩;rw[hs];exact ais [] [0,1,4]
  ·obtain rfl:i=M:=by omega
   have e1:decide ((i:Int)<(i:Int))=false:=aA (by omega);refine gon ?_;refine am a9 ?_;refine wg t9 hn9 e1 ?_;exact ais [] [0,1,2]
 (try simp only[dr])
 refine cM ?_;obtain⟨hL1,hL2⟩:=hL;refine W3 (⟨⟨cN,r1,r2,cT,r4,cB⟩,1+r6,cP,cW,zk 1,L⟩:cU) ?_ ?_;rotate_left
 ·exact ahY [] [2]
 refine⟨⟨?_,?_,?_,?_,?_,?_,?_,?_,?_,hW,WV (n:=1) (by decide) (by decide)⟩,ad4 ?_ ?_ ?_ ?_ ?_ ?_ ?_ ?_ ?_ ?_ ?_ ?_ ?_ ?_ ?_ ?_ hG hL2,hL2,?_⟩<;>dsimp only<;>omega
theorem L9(l:List Int):Sm Qp fun c=>PC Tryz.prog 26 [.sl 1 false (aH .i64 l)] (.agg (bW c.a)):=by
 obtain⟨c,hc,h⟩:=aaA l;refine⟨c,hc,h.pc puA puA ?_⟩;(try simp only[go_sem,Nat.reduceAdd,Nat.reduceSub,Nat.reduceMul,Nat.reduceLT,Nat.reduceLeDiff,Nat.reduceEqDiff,reduceIte,Int.reduceToNat,Int.reduceLT,Int.reduceLE,Int.reduceEq,Int.reduceNeg,reduceCtorEq,Int.reduceBEq,Int.reduceBNe])
 rfl
structure ai2(x:fe):Prop where
 a1:U64 x.fst.src
 a2:U64 x.fst.tgt
 b1:U64 x.snd.src
 b2:U64 x.snd.tgt
 l1:x.fst.vals.length<=10
 l2:x.snd.vals.length<=10
section
variable{fr:Fr}{σ:St}{rs:List gN}{G:fe->Prop}{l:List AV}{a1 a2 b1 b2:Int}{r1 r2:Rt}{m1 m2:List Int}
end
structure OpG(x:VOp):Prop where
 r:OpR x
 u:OpU (toV x)
 diff:WdG x.blk.diff
 pdiff:WdG x.blk.pdiff
 k1:1<=x.kind
 k6:x.kind<=6
theorem u0:U64 0:=⟨by decide,by decide⟩
theorem bP.new{c:cU}(h:afI c):bP (kO c) 0:=by
 refine⟨h,⟨fun k h1 h2=>?_,alj,by show (-1:Int)<0;decide⟩,?_,by simp[kO],by show 1<=13;decide,fun n hn=>?_,amc _,fun b hb=>absurd hb (by simp[kO]),amc _,fun b hb=>absurd hb (by simp[kO]),by show 1<=4;decide,fun t ht=>?_,amb _,u0,u0,⟨u0,fun _=>by show (0:Int)<=_;decide⟩,by decide,fun v hv=>?_⟩
 ·have:k<1:=h2;omega
 ·exact lH (k:=0) alj rfl
 ·have:n=⟨adM c.gen,-1,1⟩:=by simpa[kO]using hn
  subst this;exact⟨u0,u0,u0,u0,u0,fun _=>h.gn,xx,xx⟩
 ·have:t=⟨⟨0,c.gen⟩,c.bals⟩:=by simpa[kO]using ht
  subst this;exact⟨h.b1,u0⟩
 ·rw[akX hv];exact u0
theorem Mh{c:cU}(h:Qp c):fQ (iW c).1 0:=by
 unfold iW;rw[al7 h.new];exact fQ.emit ⟨bP.new h.r,amb _,fun r hr=>absurd hr (by simp),amc _,(⟨by decide,by decide⟩:U64 1)⟩
end Go.Proofs.YtflhnmleodkjiaaGreat
