/- Joined. -/
import Derived.Test.YtmpddimhleianaaGreatE5
import Derived.Test.YtmpddimhleianaaGreatE2
import Derived.Test.YtmpddimhleianaaGreatW3
import Derived.Test.YtmpddimhleianaaGreatChecked
import Derived.KernelRfl
import Derived.Test.YtmpddimhleianaaGreatE6
import Derived.Test.YtmpddimhleianaaGreatT6
import Derived.Test.YtmpddimhleianaaGreatO7
import Derived.Test.YtmpddimhleianaaGreatW7
import Derived.Test.YtmpddimhleianaaGreatV2
import Derived.Test.YtmpddimhleianaaGreatE4
set_option linter.unusedVariables false
set_option linter.unusedSimpArgs false
set_option maxRecDepth 8000
set_option maxHeartbeats 4000000
namespace Go.Proofs.YtmpddimhleianaaGreat
open Go Go.FH Go.RowKit
attribute [go_sem] mY oz
theorem TL{l:List VOp}{i:Nat}(h:i<l.length):(rows VOp.c l).getD i []=dj (opA l i).a:=aS (f:=VOp.c) Tx h
theorem Po(l m:List Cmd):rows AZ l++rows AZ m=rows AZ (l++m):=vT AZ l m
def oF(s:aI)(C:List Cmd)(k:Nat):cn:=.var (aV s.a++[.hs 96 k 0 C.length])
theorem Qm(s:aI)(l:List VOp)(cl:Bool)(C:List Cmd)(h0:0<l.length)(hl:l.length<=2097152)(hC:C.length+l.length<=2097152)
 (hs:∀k,k<l.length->PC Tryz.prog 20 [.agg (aV (eM s l k).1.a),.agg (dj (opA l k).a)] (.tup [.agg (aV (kl (eM s l k).1 (opA l k)).1.a),.sl 96 false (rows AZ (kl (eM s l k).1 (opA l k)).2.1),.int .i64 (kl (eM s l k).1 (opA l k)).2.2])):
 ay Tryz.prog 24 [.ptr 0 0,.sl 446 cl (rows VOp.c l)] [oF s C 1,.vec 96 (rows AZ C)] (.sl 1 false (aH .i64 (xf s l).2.1)) [oF (xf s l).1 (C++(xf s l).2.2) 2,.gone,.vec 96 (rows AZ (C++(xf s l).2.2))]:=by
 refine dS 14 ?_;have hln:=Er s l;have hcm:=Ep s l;have hz:eM s l 0=(s,[],[]):=rfl;unfold xf oF;refine nx fun _=>?_
 refine jx 5 1 ?_;simp only[go_sem]
 refine az (fun i=>[(13,.int .i64 (i:Nat)),(5,match i with|0=>.hs 1 2 0 0|i+1=>.hs 1 3 0 (eM s l (i+1)).2.1.length),(7,.dead),(8,.dead),(9,.dead),(10,.dead)]) (fun i=>match i with
  |0=>[.var (aV s.a++[.hs 96 1 0 C.length]),.vec 96 (rows AZ C),.vec 1 []]
  |i+1=>[.var (aV (eM s l (i+1)).1.a++[.hs 96 2 0 (C++(eM s l (i+1)).2.2).length]),.gone,.vec 96 (rows AZ (C++(eM s l (i+1)).2.2)),.vec 1 (aH .i64 (eM s l (i+1)).2.1)]) (fun i=>l.length-i) (fun i=>i<=l.length) 0 (amc _) ?_ ?_
 ·exact aw
 intro i hi;by_cases h1:i<l.length
 ·have c1:=hs i h1
  have hp:=xg s l i;have hn1:=hln i;have hc1:=hcm i;have hgd:=TL h1;have hw:=af h1 WL;have h2:(i:Int)<l.length:=WL
  clear hs hln hcm;have ht:=qD (eM s l i).1 (opA l i);generalize kl (eM s l i).1 (opA l i)=T at *;obtain⟨T1,T2,T3⟩:=T;dsimp only at hp ht c1;cases i with
  | zero =>
    rw[hz]at *;clear hz;have ha:rows AZ C++rows AZ T2=rows AZ (C++T2):=Po C T2;have h3:(0:Int)<(l.length:Int):=WL
    have hq:IntKind.i64.wrap 1=1:=WN
    have hr:[[AV.int .i64 T3]]=aH .i64 [T3]:=rfl;refine nx fun _=>?_
    refine⟨1,h1,WL,?_⟩;exact gcJ [0,1,6,7]
  | succ i =>
    obtain⟨⟨p1,p2,p3⟩,hq⟩:∃p,eM s l (i+1)=p:=⟨_,rfl⟩
    rw[hq]at hp hn1 hc1 c1;dsimp only at hp hn1 hc1 c1;have ha:rows AZ (C++p3)++rows AZ T2=rows AZ (C++(p3++T2)):=by rw[Po,amd]
    have hla:C.length+p3.length+T2.length=C.length+(p3.length+T2.length):=WL
    refine nx fun _=>?_
    refine⟨i+1+1,h1,WL,?_⟩;exact gcJ [0,1,7,8]
 ·obtain⟨n,hn⟩:∃n,l.length=n+1:=⟨l.length-1,WL⟩
  obtain rfl:i=n+1:=WL
  clear hs hz;rw[hn];have hln:=hln (n+1);clear hcm;obtain⟨⟨p1,p2,p3⟩,hq⟩:∃p,eM s l (n+1)=p:=⟨_,rfl⟩
  rw[hq]at hln;dsimp only at hln;have h2:¬ ((n+1:Nat):Int)<((n+1:Nat):Int):=WL
  have hle:n+1<=p2.length:=WL
  have htk:List.take (n+1) (aH .i64 p2)=aH .i64 p2:=xO WL;refine nx fun _=>?_
  exact bA [3] [0,1,2] _ WM (by first|rfl|exact evd) WM rfl WM WM evd (by simp only[go_sem,hle,htk,amO,Nat.reduceAdd,Nat.reduceSub,Nat.reduceLT,Nat.reduceLeDiff,Nat.reduceEqDiff,reduceIte])
theorem Py(s:aI)(h:CpA s)(C:List Cmd):ay Tryz.prog 27 [.ptr 0 0] [oF s C 1,.vec 96 (rows AZ C)] (.agg (aV s.a)) [oF s C 1,.vec 96 (rows AZ C)]:=by
 refine dS 3 ?_;have c1:=pC s h;unfold oF;exact aw
theorem Q6(l:List Cmd)(hl:l.length<=2097152):ay Tryz.prog 59 [.hs 96 0 0 l.length] [.vec 96 (rows AZ l)] (.sl 96 false (rows AZ l)) [.vec 96 (rows AZ l)]:=by
 refine dS 3 ?_;have ht:List.take l.length (rows AZ l)=rows AZ l:=amf WM;refine nx fun _=>?_
 refine fun b hb=>?_
 cases b with
 | true =>
   have h0:l=[]:=by simpa using hb rfl
   subst h0;refine bT ?_;refine tp (qN ?_);refine ue ?_;refine jx 2 96 ?_;simp only[go_sem];refine nx fun _=>?_
   exact ahY [1] [0]
 | false =>
   refine nx fun _=>?_
   exact bA [1] [0] _ WM (by first|rfl|exact evd) WM rfl WM WM evd (by simp only[go_sem,ht,amb,amO,Nat.reduceAdd,Nat.reduceSub,Nat.reduceLT,Nat.reduceLeDiff,Nat.reduceEqDiff,reduceIte])
theorem Pw(s:aI)(C:List Cmd)(hC:C.length<=2097152):ay Tryz.prog 28 [.ptr 0 0] [oF s C 1,.vec 96 (rows AZ C)] (.sl 96 false (rows AZ C)) [oF s C 1,.vec 96 (rows AZ C)]:=by
 refine dS 3 ?_;have c1:=Q6 C hC;unfold oF;refine nx fun _=>?_
 refine oce [1] c1 ?_;exact aw
theorem Px(s:aI)(h:HdR s.sto)(C:List Cmd):ay Tryz.prog 29 [.ptr 0 0] [oF s C 1,.vec 96 (rows AZ C)] (.agg (rtc (nod s.sto.nodes (HY s.sto).toNat).blk.root)) [oF s C 1,.vec 96 (rows AZ C)]:=by
 refine dS 3 ?_;have c1:=o8 s.sto h;have hh:=Rx h.tr (nk s.sto) (Il s.sto) (s.sto.nodes.length+1) (aj s.sto.nodes s.sto.j.rt) (fM s.sto.nodes s.sto.j.rt).2;have hh2:0<=HY s.sto/\HY s.sto<s.sto.nodes.length:=by have:=h.jr;unfold HY;omega
 clear hh;generalize HY s.sto=x at *;obtain⟨k,rfl⟩:=ajO hh2.1;have hk1:k<s.sto.nodes.length:=WL
 rw[amw];unfold oF;exact aw
def opT:VOp:=⟨1,cw,xo,uU,uX,lZ,0,0⟩
def opQ:VOp:=⟨6,cw,xo,uU,uX,⟨9,1,rt0⟩,0,0⟩
theorem Tc:OpG opT:=uq vE tI tJ tK u0 WN WN
theorem Tb:OpG opQ:=uq vE tI tJ tK ⟨WN,WN⟩ WN WN
theorem Tu:vOp (toV opT)=0:=by
 have h:(fld (toV opT)).2=0:=by unfold fld;simp[toV,opT]
 unfold vOp;rw[al5 (by simp[toV,opT]),al5 (fun e=>e h),al7];rw[Ll];rfl
theorem Tp:vOp (toV opQ)=0:=by
 have h:(fld (toV opQ)).2=0:=by unfold fld;simp[toV,opQ,uC]
 unfold vOp;rw[al5 (by simp[toV,opQ]),al5 (fun e=>e h),al7];rw[Ll];rfl
def tkS(c:cU):aI:=⟨tk c,[],[],1,true,⟨c.gen,c.gen,c.gen⟩,false,false⟩
theorem Qc{c:cU}(t:List Nod)(h:t=[⟨adM c.gen,-1,1⟩]):aj t c.gen=0:=by
 subst h;have h1:0<=aj [⟨adM c.gen,-1,1⟩] c.gen:=lH (k:=0) alj rfl;have h2:aj [⟨adM c.gen,-1,1⟩] c.gen<((1:Nat):Int):=(fM [⟨adM c.gen,-1,1⟩] c.gen).2;omega
theorem sZ{s:ap}{c:cU}(hn:s.nodes=[⟨adM c.gen,-1,1⟩])(hj:s.j=⟨0,c.gen⟩)(hf:s.f=⟨0,c.gen⟩)(ht:dU s.nodes):X3 s=⟨c.gen,c.gen,c.gen⟩:=by
 have f0:=Qc s.nodes hn;have hh:=Rx ht (nk s) (Il s) (s.nodes.length+1) (aj s.nodes s.j.rt) (fM s.nodes s.j.rt).2
 have h0:HY s=0:=by
  unfold HY;have e:s.nodes.length=1:=by rw[hn];rfl
  rw[hj]at hh ⊢;dsimp only at hh ⊢;rw[f0,e]at hh ⊢;omega
 have hs:WX s=c.gen:=by
  unfold WX;rw[hj];dsimp only;rw[f0,hn,al7 ⟨amr _,rfl⟩]
 unfold X3;rw[h0,hs,hf,hn];rfl
theorem DJ{c:cU}(hc:Qp c):iW c=(⟨kO c,[],[],1,true,⟨c.gen,c.gen,c.gen⟩,false,false⟩,[⟨c.gen,c.gen,c.gen⟩],0):=by
 have hC:=sZ (s:=kO c) (c:=c) rfl rfl rfl (bP.new hc.r).tree;unfold iW io;rw[al7 hc.new,hC];simp
theorem SO{c:cU}(hc:Qp c):kl (iW c).1 opT=(tkS c,[],0):=by
 have hI:=bP.new hc.r;have hI2:bP (tk c) 0:=by have:=hI.tick (by rw[rS]);rwa [rS]at this
 have hC:=sZ (s:=tk c) (c:=c) rfl rfl rfl hI2.tree;rw[DJ hc]
 have hp:ia ⟨kO c,[],[],1,true,⟨c.gen,c.gen,c.gen⟩,false,false⟩ opT=(tkS c,0):=by
  unfold ia;rw[al7 (show opT.kind=1 from rfl)];show (if (gp (kO c)).2=0 then _ else _)=_
  rw[rS,al7 rfl];rfl
 unfold kl;rw[al5 WM,Tu,al5 WM,hp,al5 (show ¬ (0:Int)=21 by decide),al5 WM];unfold io;rw[al7 ⟨rfl,by show _=X3 (tk c);rw[hC];rfl⟩]
theorem SN(c:cU):kl (tkS c) opQ=(tkS c,[],23):=by
 have hp:ia (tkS c) opQ=(tkS c,23):=by
  unfold ia;rw[al5 WN,al5 WN,al5 WN,al5 WN,al5 WN,al7 (show opQ.kind=6 from rfl)];rfl
 unfold kl;rw[al5 (by simp[tkS]),Tp,al5 WM,hp,al5 (show ¬ (23:Int)=21 by decide),al7 (show (23:Int)≠0 by decide)]
theorem RY{c:cU}(hc:Qp c):xf (iW c).1 [opT,opQ]=(tkS c,[0,23],[]):=by
 have e0:eM (iW c).1 [opT,opQ] 0=((iW c).1,[],[]):=rfl;have a0:opA [opT,opQ] 0=opT:=rfl;have a1:opA [opT,opQ] 1=opQ:=rfl;have e1:eM (iW c).1 [opT,opQ] 1=(tkS c,[0],[]):=by rw[xg,e0,a0];dsimp only;rw[SO hc];rfl
 show eM (iW c).1 [opT,opQ] 2=_
 rw[xg,e1,a1];dsimp only;rw[SN];rfl
theorem th{P:Program}{f:FuncId}{args args':List AV}{σ σ':St}{r:AV}(h:ay P f args σ r σ')(hw:WkL args' args):ay P f args' σ r σ':=⟨h.1,h.2.1,fun X loc w vs hr hv=>h.2.2 X loc w vs hr (hw.rls hv)⟩
def qY(c:cU):Cmd:=⟨c.gen,c.gen,c.gen⟩
theorem Hk{c:cU}(hc:Qp c)(hE:ay Tryz.prog 43 [.agg (aV (aI.a ⟨kO c,[],[],1,false,fS,false,false⟩))] [] (.tup [.agg (aV (iW c).1.a),.hs 96 0 0 1]) [.vec 96 (rows AZ [qY c])]):
 ay Tryz.prog 13 [.agg (bW c.a)] [] (.tup [.agg (aV (iW c).1.a),.hs 96 0 0 1,.int .i64 0]) [.vec 96 (rows AZ [qY c])]:=by
 have hb:=hc.r.b1;have c1:=Aa c WL (fun x hx=>by have:=hc.bu x hx;omega);have hn:O0 c=(kO c,0):=by unfold O0;rw[al7 hc.new]
 rw[hn]at c1;generalize (iW c).1=B at *;generalize kO c=S at *
 have hw:Wk (.agg (aV ⟨S.a,.sl 0 true [],.sl 0 true [],1,false,fS,false,false⟩)) (.agg (aV (aI.a ⟨S,[],[],1,false,fS,false,false⟩))):=by
  refine Wk.agg ?_;unfold aI.a aV;dsimp only;exact(WkC.refl _).app (.cons (Wk.empty _ _ _) (fun h=>h) (.cons (Wk.empty _ _ _) (fun h=>h) (WkC.refl _)))
 have c2:=th (args':=[.agg (aV ⟨S.a,.sl 0 true [],.sl 0 true [],1,false,fS,false,false⟩)]) hE ⟨hw,trivial⟩;clear hE hn hw;refine dS 5 ?_;refine nx fun _=>?_
 refine oce [] c2 ?_;refine nx fun _=>?_
 exact ahY [] [2]
theorem M9{c:cU}(hc:Qp c)(hB:ay Tryz.prog 13 [.agg (bW c.a)] [] (.tup [.agg (aV (iW c).1.a),.hs 96 0 0 1,.int .i64 0]) [.vec 96 (rows AZ [qY c])]):
 ay Tryz.prog 23 [.agg (bW c.a)] [] (.tup [.ptr 0 0,.int .i64 0]) [oF (iW c).1 [qY c] 1,.vec 96 (rows AZ [qY c])]:=by
 generalize (iW c).1=s at *;have hsp:∀a:List AV,spl a 0 (aV s.a)=aV s.a++a.drop 252:=fun a=>by simp[spl,wq]
 unfold oF;refine dS 20 ?_;refine nx fun _=>?_
 refine oce [] hB ?_;refine nx fun _=>?_
 exact ahY [] [3,1]
theorem Bt(hB:∀c:cU,Qp c->ay Tryz.prog 13 [.agg (bW c.a)] [] (.tup [.agg (aV (iW c).1.a),.hs 96 0 0 1,.int .i64 0]) [.vec 96 (rows AZ [qY c])]):PC Tryz.prog 17 [] (.bool true):=by
 obtain⟨c,hc,cc⟩:=L9 [];have hg:=HU hc
 have hT:∀x∈[opT,opQ],OpG x:=fun x hx=>by
  rcases ajo.1 hx with rfl|hx
  ·exact Tc
  ·rw[amn.1 hx];exact Tb
 have hs:=fun k (hk:k < [opT,opQ].length)=>rQ (hg.ply hT k WL (by have:k<2:=hk;omega)) (by have:k<2:=hk;omega) (hT _ (KG hk))
 have c1:=M9 hc (hB c hc);have c2:=th (args':=[.ptr 0 0,.sl 446 true [dj ⟨1,cw,Do,KY,yp,lZ,0,0⟩,dj ⟨6,cw,Do,KY,yp,⟨9,1,rt0⟩,0,0⟩]]) (Qm (iW c).1 [opT,opQ] false [qY c] WN WN (by show 1+2<=2097152;decide) hs) ⟨Wk.refl _,Wk.sl ⟨lw rfl rfl jI jJ jL rfl rfl rfl,lw rfl rfl jI jJ jL rfl rfl rfl,trivial⟩,trivial⟩;have hg2:=hg.play hT WN;rw[RY hc]at c2 hg2;dsimp only at c2 hg2;have c3:=Py (tkS c) hg2.cp [qY c];have c4:=Px (tkS c) hg2.hd [qY c]
 have hr:(nod (tkS c).sto.nodes (HY (tkS c).sto).toNat).blk.root=zk 1:=by
  have:=ajG Cmd.head (sZ (s:=tk c) (c:=c) rfl rfl rfl hg2.a.sto.tree);rw[<-hc.g1];exact this
 rw[hr]at c4;have hw:(tkS c).sto.now=1:=rfl;have c5:=Pw (tkS c) [qY c] (by show 1<=2097152;decide);have c6:=ig 1;clear hB hs hg2 hg;unfold oF at *;refine ae 4 ?_;refine nx fun _=>?_
 refine pG cc ⟨Wk.empty _ _ _,trivial⟩ ⟨trivial,trivial⟩ ?_;refine nx fun _=>?_
 refine oce [] c1 ?_;refine nx fun _=>?_
 refine oce [0,1] c2 ?_;refine nx fun _=>?_
 refine oce [0,2] c3 ?_;refine nx fun _=>?_
 refine oce [0,2] c4 ?_;refine nx fun _=>?_
 refine oce [0,2] c5 ?_;exact aw
theorem Rj(σ:St)(S:aI)(m:Nat):fz σ [] (.tup [.agg (aV S.a),.hs 96 3 0 m])=ren (rn [3] 4) (.tup [.agg (aV S.a),.hs 96 0 0 m]):=by exact evd
theorem N2(s:aI)(h:CpA s)(hs:s.sent=false)(cc:PC Tryz.prog 87 [.agg (aE s.sto.a)] (.agg (AZ (X3 s.sto)))):ay Tryz.prog 43 [.agg (aV s.a)] [] (.tup [.agg (aV (io s).1.a),.hs 96 0 0 1]) [.vec 96 (rows AZ (io s).2)]:=by
 have c1:=pC s h;have hz:=fun σ:St=>Rj σ ⟨s.sto,s.reqs,s.rets,s.tag,true,X3 s.sto,s.over,s.halt⟩ 1
 unfold io;generalize X3 s.sto=C at *;have hp:PuL (aV ⟨s.sto.a,.sl 35 false (rows aP s.reqs),.sl 35 false (rows aP s.rets),s.tag,true,C,s.over,s.halt⟩):=aI.pul ⟨s.sto,s.reqs,s.rets,s.tag,true,C,s.over,s.halt⟩;rw[al5 (by simp[hs])];refine afn 5 lc ?_;unfold fk;refine bd ?_;refine nx fun _=>?_
 refine bA [] [3] _ WM (by first|rfl|exact evd) WM rfl WM WM evd ?_;exact hz _
theorem Qi{c:cU}(hc:Qp c):ay Tryz.prog 13 [.agg (bW c.a)] [] (.tup [.agg (aV (iW c).1.a),.hs 96 0 0 1,.int .i64 0]) [.vec 96 (rows AZ [qY c])]:=by
 have hb:=hc.r.b1;have hI:=bP.new hc.r;have hB:qP (kO c):=⟨fun t ht=>by rw[amn.1 ht];exact fun x hx=>by have:=hc.bu x hx;omega,fun x hx=>by have:=hc.bu x hx;omega⟩;have hd:HdR (kO c):=(StV.new hc.new).hd (by show 1<=_;omega) (by show c.bals.length<=_;omega) (by show 0<=_;omega) hc.bo hB (by show 1<=_;omega);have e:=N2 ⟨kO c,[],[],1,false,fS,false,false⟩ ⟨hI.cp,amc _,amc _⟩ rfl (zY (kO c) hd (o8 (kO c) hd));have b:=DJ hc;have hC:=sZ (s:=kO c) (c:=c) rfl rfl rfl (bP.new hc.r).tree
 have he:io ⟨kO c,[],[],1,false,fS,false,false⟩=((iW c).1,[qY c]):=by
  rw[b];unfold io;rw[hC];simp[qY]
 rw[he]at e;exact Hk hc e
theorem sM:PC Tryz.prog 17 [] (.bool true):=Bt fun c hc=>Qi hc
end Go.Proofs.YtmpddimhleianaaGreat
