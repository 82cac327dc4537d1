/- Joined. -/
import Derived.Test.YtmpddimhleianaaGreatE5v
import Derived.Test.YtmpddimhleianaaGreatE2v
import Derived.Test.YtmpddimhleianaaGreatR1v
import Derived.Test.YtmpddimhleianaaGreatE6v
import Derived.Test.YtmpddimhleianaaGreatT6v
import Derived.Test.YtmpddimhleianaaGreatO7v
import Derived.Test.YtmpddimhleianaaGreatW7v
import Derived.Test.YtmpddimhleianaaGreatV2v
import Derived.Test.YtmpddimhleianaaGreatE4v
set_option linter.unusedVariables false
set_option linter.unusedSimpArgs false
set_option maxRecDepth 8000
set_option maxHeartbeats 4000000
namespace Go.Proofs.YtmpddimhleianaaGreat
open Go Go.FH Go.RowKit
attribute [go_sem] kZ lV
theorem abH{l:List VOp}{i:Nat}(h:i<l.length):(rows VOp.c l).getD i []=cG (opA l i).a:=aK (f:=VOp.c) aa7 h
theorem LU(l m:List Cmd):rows bH l++rows bH m=rows bH (l++m):=xj bH l m
def qp(s:al)(C:List Cmd)(k:Nat):bZ:=.var (aG s.a++[.hs 96 k 0 C.length])
theorem Kr(s:al)(l:List VOp)(cl:Bool)(C:List Cmd)(h0:0<l.length)(hl:l.length<=2097152)(hC:C.length+l.length<=2097152)
 (hs:∀k,k<l.length->PC Tryz.prog 20 [.agg (aG (lk s l k).1.a),.agg (cG (opA l k).a)] (.tup [.agg (aG (bV (lk s l k).1 (opA l k)).1.a),.sl 96 false (rows bH (bV (lk s l k).1 (opA l k)).2.1),.int .i64 (bV (lk s l k).1 (opA l k)).2.2])):
 aJ Tryz.prog 24 [.ptr 0 0,.sl 446 cl (rows VOp.c l)] [qp s C 1,.vec 96 (rows bH C)] (.sl 1 false (ah .i64 (rf s l).2.1)) [qp (rf s l).1 (C++(rf s l).2.2) 2,.gone,.vec 96 (rows bH (C++(rf s l).2.2))]:=by
 refine cZ 14 ?_;have hln:=Ky s l;have hcm:=Kx s l;have hz:lk s l 0=(s,[],[]):=rfl;unfold rf qp;refine nx fun _=>?_
 refine dT 5 1 ?_;simp only[go_sem]
 refine aE (fun i=>[(13,.int .i64 (i:Nat)),(5,match i with|0=>.hs 1 2 0 0|i+1=>.hs 1 3 0 (lk s l (i+1)).2.1.length),(7,.dead),(8,.dead),(9,.dead),(10,.dead)]) (fun i=>match i with
  |0=>[.var (aG s.a++[.hs 96 1 0 C.length]),.vec 96 (rows bH C),.vec 1 []]
  |i+1=>[.var (aG (lk s l (i+1)).1.a++[.hs 96 2 0 (C++(lk s l (i+1)).2.2).length]),.gone,.vec 96 (rows bH (C++(lk s l (i+1)).2.2)),.vec 1 (ah .i64 (lk s l (i+1)).2.1)]) (fun i=>l.length-i) (fun i=>i<=l.length) 0 (afK _) ?_ ?_
 ·exact aw
 intro i hi;by_cases h1:i<l.length
 ·have c1:=hs i h1
  have hp:=CM s l i;have hn1:=hln i;have hc1:=hcm i;have hgd:=abH h1;have hw:=ae h1 af0;have h2:(i:Int)<l.length:=af0
  clear hs hln hcm;have ht:=xu (lk s l i).1 (opA l i);generalize bV (lk s l i).1 (opA l i)=T at *;obtain⟨T1,T2,T3⟩:=T;dsimp only at hp ht c1;cases i with
  | zero =>
    rw[hz]at *;clear hz;have ha:rows bH C++rows bH T2=rows bH (C++T2):=LU C T2;have h3:(0:Int)<(l.length:Int):=af0
    have hq:IntKind.i64.wrap 1=1:=af2
    have hr:[[AV.int .i64 T3]]=ah .i64 [T3]:=rfl;refine nx fun _=>?_
    refine⟨1,h1,af0,?_⟩;exact gcJ [0,1,6,7]
  | succ i =>
    obtain⟨⟨p1,p2,p3⟩,hq⟩:∃p,lk s l (i+1)=p:=⟨_,rfl⟩
    rw[hq]at hp hn1 hc1 c1;dsimp only at hp hn1 hc1 c1;have ha:rows bH (C++p3)++rows bH T2=rows bH (C++(p3++T2)):=by rw[LU,afZ]
    have hla:C.length+p3.length+T2.length=C.length+(p3.length+T2.length):=af0
    refine nx fun _=>?_
    refine⟨i+1+1,h1,af0,?_⟩;exact gcJ [0,1,7,8]
 ·obtain⟨n,hn⟩:∃n,l.length=n+1:=⟨l.length-1,af0⟩
  obtain rfl:i=n+1:=af0
  clear hs hz;rw[hn];have hln:=hln (n+1);clear hcm;obtain⟨⟨p1,p2,p3⟩,hq⟩:∃p,lk s l (n+1)=p:=⟨_,rfl⟩
  rw[hq]at hln;dsimp only at hln;have h2:¬ ((n+1:Nat):Int)<((n+1:Nat):Int):=af0
  have hle:n+1<=p2.length:=af0
  have htk:List.take (n+1) (ah .i64 p2)=ah .i64 p2:=Dq af0;refine nx fun _=>?_
  exact bp [3] [0,1,2] _ af1 (by first|rfl|exact evd) af1 rfl af1 af1 evd (by simp only[go_sem,hle,htk,acC,Nat.reduceAdd,Nat.reduceSub,Nat.reduceLT,Nat.reduceLeDiff,Nat.reduceEqDiff,reduceIte])
theorem JB(s:al)(h:CpA s)(C:List Cmd):aJ Tryz.prog 27 [.ptr 0 0] [qp s C 1,.vec 96 (rows bH C)] (.agg (aG s.a)) [qp s C 1,.vec 96 (rows bH C)]:=by
 refine cZ 3 ?_;have c1:=sY s h;unfold qp;exact aw
theorem WU(l:List Cmd)(hl:l.length<=2097152):aJ Tryz.prog 59 [.hs 96 0 0 l.length] [.vec 96 (rows bH l)] (.sl 96 false (rows bH l)) [.vec 96 (rows bH l)]:=by
 refine cZ 3 ?_;have ht:List.take l.length (rows bH l)=rows bH l:=afD af1;refine nx fun _=>?_
 refine fun b hb=>?_
 cases b with
 | true =>
   have h0:l=[]:=by simpa using hb rfl
   subst h0;refine bT ?_;refine fR (fQ ?_);refine zg ?_;refine dT 2 96 ?_;simp only[go_sem];refine nx fun _=>?_
   exact abF [1] [0]
 | false =>
   refine nx fun _=>?_
   exact bp [1] [0] _ af1 (by first|rfl|exact evd) af1 rfl af1 af1 evd (by simp only[go_sem,ht,afE,acC,Nat.reduceAdd,Nat.reduceSub,Nat.reduceLT,Nat.reduceLeDiff,Nat.reduceEqDiff,reduceIte])
theorem Jz(s:al)(C:List Cmd)(hC:C.length<=2097152):aJ Tryz.prog 28 [.ptr 0 0] [qp s C 1,.vec 96 (rows bH C)] (.sl 96 false (rows bH C)) [qp s C 1,.vec 96 (rows bH C)]:=by
 refine cZ 3 ?_;have c1:=WU C hC;unfold qp;refine nx fun _=>?_
 refine oce [1] c1 ?_;exact aw
theorem Tt(s:al)(h:HdR s.sto)(C:List Cmd):aJ Tryz.prog 29 [.ptr 0 0] [qp s C 1,.vec 96 (rows bH C)] (.agg (rtc (nod s.sto.nodes (gC s.sto).toNat).blk.root)) [qp s C 1,.vec 96 (rows bH C)]:=by
 refine cZ 3 ?_;have c1:=u9 s.sto h;have hh:=pM h.tr (du s.sto) (iK s.sto) (s.sto.nodes.length+1) (ab s.sto.nodes s.sto.j.rt) (dl s.sto.nodes s.sto.j.rt).2;have hh2:0<=gC s.sto/\gC s.sto<s.sto.nodes.length:=by have:=h.jr;unfold gC;omega
 clear hh;generalize gC s.sto=x at *;obtain⟨k,rfl⟩:=afF hh2.1;have hk1:k<s.sto.nodes.length:=af0
 rw[afH];unfold qp;exact aw
def opT:VOp:=⟨1,dx,sU,rh,ri,jn,0,0⟩
def opQ:VOp:=⟨6,dx,sU,rh,ri,⟨9,1,rt0⟩,0,0⟩
theorem aaS:OpG opT:=qG rJ oW oX oY u0 af2 af2
theorem aaR:OpG opQ:=qG rJ oW oX oY ⟨af2,af2⟩ af2 af2
theorem aa6:vOp (toV opT)=0:=by
 have h:(fld (toV opT)).2=0:=by unfold fld;simp[toV,opT]
 unfold vOp;rw[afx (by simp[toV,opT]),afx (fun e=>e h),afA];rw[Af];rfl
theorem aa5:vOp (toV opQ)=0:=by
 have h:(fld (toV opQ)).2=0:=by unfold fld;simp[toV,opQ,rx]
 unfold vOp;rw[afx (by simp[toV,opQ]),afx (fun e=>e h),afA];rw[Af];rfl
def tkS(c:cI):al:=⟨tk c,[],[],1,true,⟨c.gen,c.gen,c.gen⟩,false,false⟩
theorem UY{c:cI}(t:List Nod)(h:t=[⟨xV c.gen,-1,1⟩]):ab t c.gen=0:=by
 subst h;have h1:0<=ab [⟨xV c.gen,-1,1⟩] c.gen:=j5 (k:=0) aeI rfl;have h2:ab [⟨xV c.gen,-1,1⟩] c.gen<((1:Nat):Int):=(dl [⟨xV c.gen,-1,1⟩] c.gen).2;omega
theorem Al{s:af}{c:cI}(hn:s.nodes=[⟨xV c.gen,-1,1⟩])(hj:s.j=⟨0,c.gen⟩)(hf:s.f=⟨0,c.gen⟩)(ht:bk s.nodes):ro s=⟨c.gen,c.gen,c.gen⟩:=by
 have f0:=UY s.nodes hn;have hh:=pM ht (du s) (iK s) (s.nodes.length+1) (ab s.nodes s.j.rt) (dl s.nodes s.j.rt).2
 have h0:gC s=0:=by
  unfold gC;have e:s.nodes.length=1:=by rw[hn];rfl
  rw[hj]at hh ⊢;dsimp only at hh ⊢;rw[f0,e]at hh ⊢;omega
 have hs:xl s=c.gen:=by
  unfold xl;rw[hj];dsimp only;rw[f0,hn,afA ⟨afT _,rfl⟩]
 unfold ro;rw[h0,hs,hf,hn];rfl
theorem xH{c:cI}(hc:uL c):eh c=(⟨eG c,[],[],1,true,⟨c.gen,c.gen,c.gen⟩,false,false⟩,[⟨c.gen,c.gen,c.gen⟩],0):=by
 have hC:=Al (s:=eG c) (c:=c) rfl rfl rfl (bi.new hc.r).tree;unfold eh dC;rw[afA hc.new,hC];simp
theorem Z6{c:cI}(hc:uL c):bV (eh c).1 opT=(tkS c,[],0):=by
 have hI:=bi.new hc.r;have hI2:bi (tk c) 0:=by have:=hI.tick (by rw[yD]);rwa [yD]at this
 have hC:=Al (s:=tk c) (c:=c) rfl rfl rfl hI2.tree;rw[xH hc]
 have hp:de ⟨eG c,[],[],1,true,⟨c.gen,c.gen,c.gen⟩,false,false⟩ opT=(tkS c,0):=by
  unfold de;rw[afA (show opT.kind=1 from rfl)];show (if (dF (eG c)).2=0 then _ else _)=_
  rw[yD,afA rfl];rfl
 unfold bV;rw[afx af1,aa6,afx af1,hp,afx (show ¬ (0:Int)=21 by decide),afx af1];unfold dC;rw[afA ⟨rfl,by show _=ro (tk c);rw[hC];rfl⟩]
theorem Z5(c:cI):bV (tkS c) opQ=(tkS c,[],23):=by
 have hp:de (tkS c) opQ=(tkS c,23):=by
  unfold de;rw[afx af2,afx af2,afx af2,afx af2,afx af2,afA (show opQ.kind=6 from rfl)];rfl
 unfold bV;rw[afx (by simp[tkS]),aa5,afx af1,hp,afx (show ¬ (23:Int)=21 by decide),afA (show (23:Int)≠0 by decide)]
theorem XR{c:cI}(hc:uL c):rf (eh c).1 [opT,opQ]=(tkS c,[0,23],[]):=by
 have e0:lk (eh c).1 [opT,opQ] 0=((eh c).1,[],[]):=rfl;have a0:opA [opT,opQ] 0=opT:=rfl;have a1:opA [opT,opQ] 1=opQ:=rfl;have e1:lk (eh c).1 [opT,opQ] 1=(tkS c,[0],[]):=by rw[CM,e0,a0];dsimp only;rw[Z6 hc];rfl
 show lk (eh c).1 [opT,opQ] 2=_
 rw[CM,e1,a1];dsimp only;rw[Z5];rfl
theorem AK{P:Program}{f:FuncId}{args args':List AV}{σ σ':St}{r:AV}(h:aJ P f args σ r σ')(hw:WkL args' args):aJ P f args' σ r σ':=⟨h.1,h.2.1,fun X loc w vs hr hv=>h.2.2 X loc w vs hr (hw.rls hv)⟩
def xU(c:cI):Cmd:=⟨c.gen,c.gen,c.gen⟩
theorem MP{c:cI}(hc:uL c)(hE:aJ Tryz.prog 43 [.agg (aG (al.a ⟨eG c,[],[],1,false,jB,false,false⟩))] [] (.tup [.agg (aG (eh c).1.a),.hs 96 0 0 1]) [.vec 96 (rows bH [xU c])]):
 aJ Tryz.prog 13 [.agg (cV c.a)] [] (.tup [.agg (aG (eh c).1.a),.hs 96 0 0 1,.int .i64 0]) [.vec 96 (rows bH [xU c])]:=by
 have hb:=hc.r.b1;have c1:=Q7 c af0 (fun x hx=>by have:=hc.bu x hx;omega);have hn:wu c=(eG c,0):=by unfold wu;rw[afA hc.new]
 rw[hn]at c1;generalize (eh c).1=B at *;generalize eG c=S at *
 have hw:Wk (.agg (aG ⟨S.a,.sl 0 true [],.sl 0 true [],1,false,jB,false,false⟩)) (.agg (aG (al.a ⟨S,[],[],1,false,jB,false,false⟩))):=by
  refine Wk.agg ?_;unfold al.a aG;dsimp only;exact(WkC.refl _).app (.cons (Wk.empty _ _ _) (fun h=>h) (.cons (Wk.empty _ _ _) (fun h=>h) (WkC.refl _)))
 have c2:=AK (args':=[.agg (aG ⟨S.a,.sl 0 true [],.sl 0 true [],1,false,jB,false,false⟩)]) hE ⟨hw,trivial⟩;clear hE hn hw;refine cZ 5 ?_;refine nx fun _=>?_
 refine oce [] c2 ?_;refine nx fun _=>?_
 exact abF [] [2]
theorem Qa{c:cI}(hc:uL c)(hB:aJ Tryz.prog 13 [.agg (cV c.a)] [] (.tup [.agg (aG (eh c).1.a),.hs 96 0 0 1,.int .i64 0]) [.vec 96 (rows bH [xU c])]):
 aJ Tryz.prog 23 [.agg (cV c.a)] [] (.tup [.ptr 0 0,.int .i64 0]) [qp (eh c).1 [xU c] 1,.vec 96 (rows bH [xU c])]:=by
 generalize (eh c).1=s at *;have hsp:∀a:List AV,spl a 0 (aG s.a)=aG s.a++a.drop 252:=fun a=>by simp[spl,iW]
 unfold qp;refine cZ 20 ?_;refine nx fun _=>?_
 refine oce [] hB ?_;refine nx fun _=>?_
 exact abF [] [3,1]
theorem G9(hB:∀c:cI,uL c->aJ Tryz.prog 13 [.agg (cV c.a)] [] (.tup [.agg (aG (eh c).1.a),.hs 96 0 0 1,.int .i64 0]) [.vec 96 (rows bH [xU c])]):PC Tryz.prog 17 [] (.bool true):=by
 obtain⟨c,hc,cc⟩:=Fh [];have hg:=uX hc
 have hT:∀x∈[opT,opQ],OpG x:=fun x hx=>by
  rcases acW.1 hx with rfl|hx
  ·exact aaS
  ·rw[afN.1 hx];exact aaR
 have hs:=fun k (hk:k < [opT,opQ].length)=>tD (hg.ply hT k af0 (by have:k<2:=hk;omega)) (by have:k<2:=hk;omega) (hT _ (OH hk))
 have c1:=Qa hc (hB c hc);have c2:=AK (args':=[.ptr 0 0,.sl 446 true [cG ⟨1,dx,qj,qL,ot,jn,0,0⟩,cG ⟨6,dx,qj,qL,ot,⟨9,1,rt0⟩,0,0⟩]]) (Kr (eh c).1 [opT,opQ] false [xU c] af2 af2 (by show 1+2<=2097152;decide) hs) ⟨Wk.refl _,Wk.sl ⟨jv rfl rfl gw gz gA rfl rfl rfl,jv rfl rfl gw gz gA rfl rfl rfl,trivial⟩,trivial⟩;have hg2:=hg.play hT af2;rw[XR hc]at c2 hg2;dsimp only at c2 hg2;have c3:=JB (tkS c) hg2.cp [xU c];have c4:=Tt (tkS c) hg2.hd [xU c]
 have hr:(nod (tkS c).sto.nodes (gC (tkS c).sto).toNat).blk.root=lz 1:=by
  have:=acM Cmd.head (Al (s:=tk c) (c:=c) rfl rfl rfl hg2.a.sto.tree);rw[<-hc.g1];exact this
 rw[hr]at c4;have hw:(tkS c).sto.now=1:=rfl;have c5:=Jz (tkS c) [xU c] (by show 1<=2097152;decide);have c6:=gM 1;clear hB hs hg2 hg;unfold qp at *;refine aQ 4 ?_;refine nx fun _=>?_
 refine CD cc ⟨Wk.empty _ _ _,trivial⟩ ⟨trivial,trivial⟩ ?_;refine nx fun _=>?_
 refine oce [] c1 ?_;refine nx fun _=>?_
 refine oce [0,1] c2 ?_;refine nx fun _=>?_
 refine oce [0,2] c3 ?_;refine nx fun _=>?_
 refine oce [0,2] c4 ?_;refine nx fun _=>?_
 refine oce [0,2] c5 ?_;exact aw
theorem Xd(σ:St)(S:al)(m:Nat):fz σ [] (.tup [.agg (aG S.a),.hs 96 3 0 m])=ren (rn [3] 4) (.tup [.agg (aG S.a),.hs 96 0 0 m]):=by exact evd
theorem QZ(s:al)(h:CpA s)(hs:s.sent=false)(cc:PC Tryz.prog 87 [.agg (ak s.sto.a)] (.agg (bH (ro s.sto)))):aJ Tryz.prog 43 [.agg (aG s.a)] [] (.tup [.agg (aG (dC s).1.a),.hs 96 0 0 1]) [.vec 96 (rows bH (dC s).2)]:=by
 have c1:=sY s h;have hz:=fun σ:St=>Xd σ ⟨s.sto,s.reqs,s.rets,s.tag,true,ro s.sto,s.over,s.halt⟩ 1
 unfold dC;generalize ro s.sto=C at *;have hp:PuL (aG ⟨s.sto.a,.sl 35 false (rows ay s.reqs),.sl 35 false (rows ay s.rets),s.tag,true,C,s.over,s.halt⟩):=al.pul ⟨s.sto,s.reqs,s.rets,s.tag,true,C,s.over,s.halt⟩;rw[afx (by simp[hs])];refine afn 5 qZ ?_;unfold mH;refine bd ?_;refine nx fun _=>?_
 refine bp [] [3] _ af1 (by first|rfl|exact evd) af1 rfl af1 af1 evd ?_;exact hz _
theorem Ve{c:cI}(hc:uL c):aJ Tryz.prog 13 [.agg (cV c.a)] [] (.tup [.agg (aG (eh c).1.a),.hs 96 0 0 1,.int .i64 0]) [.vec 96 (rows bH [xU c])]:=by
 have hb:=hc.r.b1;have hI:=bi.new hc.r;have hB:o0 (eG c):=⟨fun t ht=>by rw[afN.1 ht];exact fun x hx=>by have:=hc.bu x hx;omega,fun x hx=>by have:=hc.bu x hx;omega⟩;have hd:HdR (eG c):=(StV.new hc.new).hd (by show 1<=_;omega) (by show c.bals.length<=_;omega) (by show 0<=_;omega) hc.bo hB (by show 1<=_;omega);have e:=QZ ⟨eG c,[],[],1,false,jB,false,false⟩ ⟨hI.cp,afK _,afK _⟩ rfl (Gg (eG c) hd (u9 (eG c) hd));have b:=xH hc;have hC:=Al (s:=eG c) (c:=c) rfl rfl rfl (bi.new hc.r).tree
 have he:dC ⟨eG c,[],[],1,false,jB,false,false⟩=((eh c).1,[xU c]):=by
  rw[b];unfold dC;rw[hC];simp[xU]
 rw[he]at e;exact MP hc e
theorem G8:PC Tryz.prog 17 [] (.bool true):=G9 fun c hc=>Ve hc
end Go.Proofs.YtmpddimhleianaaGreat
