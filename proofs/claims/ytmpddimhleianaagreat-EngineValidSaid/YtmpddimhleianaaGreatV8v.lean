/- Joined. -/
import Derived.Test.YtmpddimhleianaaGreatV7v
set_option linter.unusedVariables false
set_option linter.unusedSimpArgs false
set_option maxRecDepth 8000
set_option maxHeartbeats 4000000
namespace Go.Proofs.YtmpddimhleianaaGreat
open Go Go.FH Go.RowKit
theorem nu(s:af)(h:StR s):PC Tryz.prog 210 [.agg (ak s.a)] (.int .i64 (bW s)):=by
 refine aQ 4 ?_;have hb:=h.bo;obtain⟨R,hR⟩:∃R,R=bW s:=⟨_,rfl⟩
 rw[<-hR];unfold bW cm at hR;refine gon ?_;refine aE (fun i:Nat=>[(3,.int .i64 i)]) (fun _=>[.var (ak s.a)]) (fun i=>s.orph.length-i) (fun i=>i<=s.orph.length/\R=ng (gl (fun i=>decide (0<=ab s.nodes (cU s.orph i).parent)) (s.orph.length-i) i)) 0 ⟨afK _,hR⟩ ?_ ?_
 ·exact abS [] [0]
 clear hR;rintro i ⟨hi,hn⟩;refine fM ?_;by_cases h1:i<s.orph.length
 ·have e1:=inT h1
  have hw:=ae h1 af0;have hgd:(rows au s.orph).getD i []=au (cU s.orph i):=aK (f:=au) dx h1;have c1:=cj s.nodes (cU s.orph i).parent h.bn;refine bO e1 ?_;refine aA hgd ?_;refine aP (c1) ?_;refine gon ?_;by_cases q:0<=ab s.nodes (cU s.orph i).parent
  ·have e2:=ax q;rw[jP h1 e2]at hn;subst hn;refine aW e2 ?_;exact aj
  ·have e2:=aD q;rw[jt h1 e2]at hn;refine da e2 ?_;refine aA hw ?_;refine⟨i+1,⟨h1,hn⟩,af0,?_⟩;exact abS [] [0]
 ·obtain rfl:i=s.orph.length:=af0
  have e1:=inF (s.orph.length);rw[lK]at hn;subst hn;refine aS e1 ?_;exact aj
theorem FU(s:af)(b:Blk)(h:StR s)(h1:StR (bQ s (eZ s.nodes b (cC b)).1)):PC Tryz.prog 209 [.agg (ak s.a),.agg (au b)] (.agg (ak (gE s b).a)):=by
 refine aQ 5 ?_;have c1:=NH b;have c2:=Qq s.nodes b (cC b) h.bn;have c3:=Dw (bQ s (eZ s.nodes b (cC b)).1) b.just b.fin h1;have h2:=h1.upd b.just b.fin
 have hI:gE s b=if dg (dw (bQ s (eZ s.nodes b (cC b)).1) b.just b.fin) b.slot<dg (dw (bQ s (eZ s.nodes b (cC b)).1) b.just b.fin) (dw (bQ s (eZ s.nodes b (cC b)).1) b.just b.fin).now
  then dw (dw (bQ s (eZ s.nodes b (cC b)).1) b.just b.fin) b.pul.j b.pul.f else dw (bQ s (eZ s.nodes b (cC b)).1) b.just b.fin:=rfl
 rw[hI];clear hI;unfold bQ at c3;generalize cC b=st at *;generalize eZ s.nodes b st=T at *;obtain⟨T1,T2⟩:=T;show Tri _ _ _ _ (PQ _ (.agg (ak (af.a (if dg (dw (bQ s T1) b.just b.fin) b.slot<dg (dw (bQ s T1) b.just b.fin) (dw (bQ s T1) b.just b.fin).now then dw (dw (bQ s T1) b.just b.fin) b.pul.j b.pul.f else dw (bQ s T1) b.just b.fin))))) _ _
 change StR (dw (bQ s T1) b.just b.fin)at h2
 change PC _ _ _ (.agg (ak (dw (bQ s T1) b.just b.fin).a))at c3
 generalize dw (bQ s T1) b.just b.fin=S2 at *;have c4:=gY S2 b.slot h2.spe;have c5:=gY S2 S2.now h2.spe;have c6:=Dw S2 b.pul.j b.pul.f h2;refine gon ?_;refine aP (c1) ?_;refine gon ?_;refine aP (c2) ?_;refine gon ?_;refine abl c3 ?_;refine aP (c4) ?_;refine gon ?_;refine aP (c5) ?_;refine gon ?_;by_cases q:dg S2 b.slot<dg S2 S2.now
 ·have e1:=ax q;rw[afA q];refine aW e1 ?_;refine abl c6 ?_;exact aj
 ·have e1:=aD q;rw[afx q];refine aS e1 ?_;exact aj
theorem FS(s:af)(b:Blk):(gE s b).orph.length<=s.orph.length:=by
 unfold gE;have h1:=(mD (bQ s (eZ s.nodes b (cC b)).1) b.just b.fin).1;have h2:=(mD (dw (bQ s (eZ s.nodes b (cC b)).1) b.just b.fin) b.pul.j b.pul.f).1;have h3:(bQ s (eZ s.nodes b (cC b)).1).orph.length=s.orph.length:=rfl;split<;>omega
theorem qN{p:af×List Rt}(h0:0<=bW p.1):(waitR p).1.orph.length+1<=p.1.orph.length:=by
 have h1:=oA p.1;have h2:=GR p.1.orph (i:=(bW p.1).toNat) af0;have h3:=FS (withO p.1 (takeO p.1.orph (bW p.1).toNat)) (cU p.1.orph (bW p.1).toNat);have h4:(withO p.1 (takeO p.1.orph (bW p.1).toNat)).orph.length=(takeO p.1.orph (bW p.1).toNat).length:=rfl;unfold waitR;split
 ·show (gE _ _).orph.length+1<=_;omega
 ·show (takeO p.1.orph (bW p.1).toNat).length+1<=_;omega
theorem Lt:∀ (f g:Nat) (p:af×List Rt),p.1.orph.length<f->p.1.orph.length<g->waitG f p=waitG g p
 |0,_,_,h,_=>by omega
 |_,0,_,_,h=>by omega
 | f + 1, g + 1, p, h1, h2 => by
   unfold waitG;split
   ·rfl
   ·rename_i hw;have:=qN (p:=p) af0;exact Lt f g (waitR p) af0 af0
theorem DB{p:af×List Rt}(h0:0<=bW p.1):waitG (p.1.orph.length+1) p=waitG ((waitR p).1.orph.length+1) (waitR p):=by
 have h1:=qN h0;conv=>lhs;unfold waitG
 rw[afx af0];exact Lt _ _ _ af0 af0
theorem Jn(s:af)(b:Blk)(h:StR s):aJ Tryz.prog 208 [.agg (ak { s.a with orph:=.hs 238 0 0 s.orph.length }),.agg (au b)] [.vec 238 (rows au s.orph)] (.int .i64 (bG s b)) [.vec 238 (rows au s.orph)]:=by
 refine aJ.lend rfl ?_;have ht:List.take s.orph.length (rows au s.orph)=rows au s.orph:=afD af1;(try simp only[go_sem,ht,afG,afM,acV,adl])
 exact yQ s b h
theorem IY(s:af)(h:StR s):aJ Tryz.prog 210 [.agg (ak { s.a with orph:=.hs 238 0 0 s.orph.length })] [.vec 238 (rows au s.orph)] (.int .i64 (bW s)) [.vec 238 (rows au s.orph)]:=by
 refine aJ.lend rfl ?_;have ht:List.take s.orph.length (rows au s.orph)=rows au s.orph:=afD af1;(try simp only[go_sem,ht,afG,afM,acV,adl])
 exact nu s h
theorem Mo(s:af)(b:Blk)(h:StR s)(h1:StR (bQ s (eZ s.nodes b (cC b)).1)):aJ Tryz.prog 209 [.agg (ak { s.a with orph:=.hs 238 0 0 s.orph.length }),.agg (au b)] [.vec 238 (rows au s.orph)] (.agg (ak (gE s b).a)) [.gone]:=by
 have ht:List.take s.orph.length (rows au s.orph)=rows au s.orph:=afD af1
 have:=aJ.give (σ:=[.vec 238 (rows au s.orph)]) (args:=[.agg (ak { s.a with orph:=.hs 238 0 0 s.orph.length }),.agg (au b)]) (r:=_) (by
  (try simp only[go_sem,ht,afG,afM,acV,adl])
  exact FU s b h h1)
 exact this
def Vt(b:Blk)(p:af×List Rt)(o:Bool):St:=if o then [.var (ak p.1.a),.var (au b),.var (ak i6),.vec 32 (rows rtc p.2)]else [.var (ak p.1.a),.var (au b),.var (ak i6)]
def Vu(p:af×List Rt)(o:Bool):AV:=if o then .hs 32 3 0 p.2.length else .sl 32 true (rows rtc p.2)
theorem WJ(S:af)(m:Nat)(hS:bi S m)(b:Blk)(hbu:jL m b)(hlo:S.orph.length<=3)(R:af×List Rt)(hR0:R=waitG (S.orph.length+1) (S,[b.root])):
 Tri Tryz.prog 108 0 (ck.tl 7) (PQ [.cell 4 true 150,.tmp 5,.tmp 6] (.tup [.agg (ak R.1.a),.sl 32 false (rows rtc R.2),.int .i64 0])) ⟨12,[.dead,.dead,.ptr 0 0,.ptr 1 0,.ptr 2 0,.dead,.dead,.dead,.dead,.dead,.dead,.dead],[]⟩ [.var (ak S.a),.var (au b),.var (ak i6)]:=by
 unfold ck;refine bd ?_;simp only[am.tl];have c0:=nu S hS.r;refine gon ?_;refine abl c0 ?_
 refine aE (fun x:(af×List Rt)×Bool=>[(9,Vu x.1 x.2),(10,.int .i64 (bW x.1.1)),(11,.dead)]) (fun x=>Vt b x.1 x.2) (fun x=>x.1.1.orph.length)
  (fun x=>bi x.1.1 m/\R=waitG (x.1.1.orph.length+1) x.1/\x.1.2.length+x.1.1.orph.length<=10) ((S,[b.root]),false) ⟨hS,hR0,by simp only[afG,afM];omega⟩ ?_ ?_
 ·show GC _ _ _ ⟨_,fq [(9,.sl 32 true [rtc b.root]),(10,.int .i64 (bW S)),(11,.dead)] _,[]⟩ [.var (ak S.a),.var (au b),.var (ak i6)]
  exact abS [] [0,1,2]
 clear hR0 c0;rintro⟨⟨S1,L⟩,o⟩ ⟨hi,hR,hl⟩;dsimp only at hi hR hl ⊢;have hwb:=oA S1;by_cases hw:bW S1<0
 ·have hR':R=(S1,L):=by rw[hR];unfold waitG;rw[afA hw]
  subst hR';clear hR;generalize bW S1=W at *;have e1:decide (W ≥ 0)=false:=aD af0;have e2:decide (0<=W)=false:=aD af0;have ht:List.take L.length (rows rtc L)=rows rtc L:=afD af1;cases o with
  | true =>
    show Tri _ _ _ _ _ ⟨_,fq [(9,.hs 32 3 0 L.length),(10,_),(11,.dead)] _,[]⟩ [.var (ak S1.a),.var (au b),.var (ak i6),.vec 32 (rows rtc L)]
    (try simp only[dS,dE,act,acx])
    refine pi e1 e2 ?_;refine⟨_,(by first|rfl|exact evd),.inl ?_⟩;exact uv ht
  | false =>
    show Tri _ _ _ _ _ ⟨_,fq [(9,.sl 32 true (rows rtc L)),(10,_),(11,.dead)] _,[]⟩ [.var (ak S1.a),.var (au b),.var (ak i6)]
    (try simp only[dS,dE,act,acx])
    refine pi e1 e2 ?_;refine⟨_,(by first|rfl|exact evd),.inr ⟨.tup [.agg (ak S1.a),.sl 32 true (rows rtc L),.int .i64 0],?_,⟨S1.pul,gh L,trivial,trivial⟩,Wk.tup ⟨Wk.refl _,Wk.open_ _ _ _,Wk.refl _,trivial⟩⟩⟩;(try simp only[go_sem,Nat.reduceAdd,Nat.reduceSub,Nat.reduceMul,Nat.reduceLT,Nat.reduceLeDiff,Nat.reduceEqDiff,reduceIte,Int.reduceToNat,Int.reduceLT,Int.reduceLE,Int.reduceEq,Int.reduceNeg,reduceCtorEq,Int.reduceBEq,Int.reduceBNe])
    all_goals rfl
 ·have hst:=DB (p:=(S1,L)) (show 0<=bW S1 by omega)
  dsimp only at hst;rw[hst]at hR;clear hst;have hro:=qN (p:=(S1,L)) (by show 0<=bW S1;omega);have hI:bi (waitR (S1,L)).1 m:=bi.waitR hi (by show 0<=bW S1;omega);have hwr:waitR (S1,L)=if bG (withO S1 (takeO S1.orph (bW S1).toNat)) (cU S1.orph (bW S1).toNat)=0 then (gE (withO S1 (takeO S1.orph (bW S1).toNat)) (cU S1.orph (bW S1).toNat),L++[(cU S1.orph (bW S1).toNat).root])else (withO S1 (takeO S1.orph (bW S1).toNat),L):=rfl
  obtain⟨u,hu⟩:=afF (show 0<=bW S1 by omega);rw[hu]at hwr hwb ⊢;rw[afH]at hwr;have hul:u<S1.orph.length:=af0
  have h2:=hi.takeO u;have hbo:=hi.uo _ (cR dx hul);have hgd:(rows au S1.orph).getD u []=au (cU S1.orph u):=aK (f:=au) dx hul;change jL m (cU S1.orph u)at hbo
  generalize cU S1.orph u=ob at *;have e2:decide (0<=(u:Int))=true:=ax af0;have hw1:IntKind.i64.wrap ((u:Int)+1)=((u+1:Nat):Int):=ar af0 af0;have ht1:List.take u (rows au S1.orph)=rows au (S1.orph.take u):=pZ _ _ _;have ht2:List.drop (u+1) (rows au S1.orph)=rows au (S1.orph.drop (u+1)):=yx _ _ _;have ht3:rows au (S1.orph.take u)++rows au (S1.orph.drop (u+1))=rows au (takeO S1.orph u):=xj _ _ _;have ht4:(S1.orph.take u).length+(S1.orph.drop (u+1)).length=(takeO S1.orph u).length:=by unfold takeO;rw[afB]
  have ht5:List.take (S1.orph.length-(u+1)) (rows au (S1.orph.drop (u+1)))=rows au (S1.orph.drop (u+1)):=afD af1;have hlo:(takeO S1.orph u).length<=3:=h2.oo;have hoo:=hi.oo;have c1:=Jn (withO S1 (takeO S1.orph u)) ob h2.r;have c2:=fun hc=>Mo (withO S1 (takeO S1.orph u)) ob h2.r (h2.insN hc hbo).r
  have c3:=IY (withO S1 (takeO S1.orph u)) h2.r;unfold withO at c1 c2 c3;dsimp only at c1 c2 c3;have ht6:List.take (takeO S1.orph u).length (rows au (takeO S1.orph u))=rows au (takeO S1.orph u):=afD af1;have hsn:rows rtc L++[rtc ob.root]=rows rtc (L++[ob.root]):=dn rtc L ob.root;have hT0:takeO S1.orph u=takeO S1.orph u:=rfl;cases o with
  | true =>
    show Tri _ _ _ _ _ ⟨_,fq [(9,.hs 32 3 0 L.length),(10,_),(11,.dead)] _,[]⟩ [.var (ak S1.a),.var (au b),.var (ak i6),.vec 32 (rows rtc L)]
    (try simp only[dS,dE,act,acx])
    refine bO e2 ?_;refine lx hgd hw1 ht1 ht2 ht3 ht4 ht5 ?_;refine ocg [6] c1 ?_;by_cases hc:bG (withO S1 (takeO S1.orph u)) ob=0
    ·have e3:(bG (withO S1 (takeO S1.orph u)) ob==0)=true:=by simp[hc]
     rw[afA hc]at hwr;rw[hwr]at hR hro hI;dsimp only at hR hro hI;have c4:=c2 hc;have c5:=nu _ hI.r;unfold withO at e3;change aJ _ _ _ _ (.agg (ak (gE (withO S1 (takeO S1.orph u)) ob).a)) _ at c4
     generalize gE (withO S1 (takeO S1.orph u)) ob=S3 at *;refine aW e3 ?_;refine oce [6] c4 ?_;refine aA hsn ?_;refine abl c5 ?_;refine⟨((S3,L++[ob.root]),true),⟨hI,hR,by simp only[afB,afG,afM];omega⟩,by dsimp only;omega,?_⟩;(try simp only[Vu,Vt,aco,acq,afP,withO])
     exact abS [] [0,1,2,7]
    ·have e3:(bG (withO S1 (takeO S1.orph u)) ob==0)=false:=by simp[hc]
     rw[afx hc]at hwr;rw[hwr]at hR hro hI;dsimp only at hR hro hI;unfold withO at e3;refine aS e3 ?_;refine ocg [6] c3 ?_;refine⟨((withO S1 (takeO S1.orph u),L),true),⟨hI,hR,by dsimp only;omega⟩,by dsimp only;omega,?_⟩;(try simp only[Vu,Vt,aco,acq,afP,withO])
     refine GC.mk' [6] [0,1,2,3] af1 rfl af1 af1 (by(try simp only[go_sem,Nat.reduceAdd,Nat.reduceSub,Nat.reduceMul,Nat.reduceLT,Nat.reduceLeDiff,Nat.reduceEqDiff,reduceIte,Int.reduceToNat,Int.reduceLT,Int.reduceLE,Int.reduceEq,Int.reduceNeg,reduceCtorEq,Int.reduceBEq,Int.reduceBNe,ht6]);all_goals first|rfl|exact⟨rfl,rfl⟩) (by(try simp only[go_sem,Nat.reduceAdd,Nat.reduceSub,Nat.reduceMul,Nat.reduceLT,Nat.reduceLeDiff,Nat.reduceEqDiff,reduceIte,Int.reduceToNat,Int.reduceLT,Int.reduceLE,Int.reduceEq,Int.reduceNeg,reduceCtorEq,Int.reduceBEq,Int.reduceBNe,ht6]);all_goals rfl)
  | false =>
    show Tri _ _ _ _ _ ⟨_,fq [(9,.sl 32 true (rows rtc L)),(10,_),(11,.dead)] _,[]⟩ [.var (ak S1.a),.var (au b),.var (ak i6)]
    (try simp only[dS,dE,act,acx])
    refine bO e2 ?_;refine lx hgd hw1 ht1 ht2 ht3 ht4 ht5 ?_;refine ocg [5] c1 ?_;by_cases hc:bG (withO S1 (takeO S1.orph u)) ob=0
    ·have e3:(bG (withO S1 (takeO S1.orph u)) ob==0)=true:=by simp[hc]
     rw[afA hc]at hwr;rw[hwr]at hR hro hI;dsimp only at hR hro hI;have c4:=c2 hc;have c5:=nu _ hI.r;unfold withO at e3;change aJ _ _ _ _ (.agg (ak (gE (withO S1 (takeO S1.orph u)) ob).a)) _ at c4
     generalize gE (withO S1 (takeO S1.orph u)) ob=S3 at *;refine aW e3 ?_;refine oce [5] c4 ?_;refine aA hsn ?_;refine abl c5 ?_;refine⟨((S3,L++[ob.root]),true),⟨hI,hR,by simp only[afB,afG,afM];omega⟩,by dsimp only;omega,?_⟩;(try simp only[Vu,Vt,aco,acq,afP,withO])
     exact abS [] [0,1,2,6]
    ·have e3:(bG (withO S1 (takeO S1.orph u)) ob==0)=false:=by simp[hc]
     rw[afx hc]at hwr;rw[hwr]at hR hro hI;dsimp only at hR hro hI;unfold withO at e3;refine aS e3 ?_;refine ocg [5] c3 ?_;refine⟨((withO S1 (takeO S1.orph u),L),false),⟨hI,hR,by dsimp only;omega⟩,by dsimp only;omega,?_⟩;(try simp only[Vu,Vt,aco,acq,afP,withO])
     refine GC.mk' [5] [0,1,2] af1 rfl af1 af1 (by(try simp only[go_sem,Nat.reduceAdd,Nat.reduceSub,Nat.reduceMul,Nat.reduceLT,Nat.reduceLeDiff,Nat.reduceEqDiff,reduceIte,Int.reduceToNat,Int.reduceLT,Int.reduceLE,Int.reduceEq,Int.reduceNeg,reduceCtorEq,Int.reduceBEq,Int.reduceBNe,ht6]);all_goals first|rfl|exact⟨rfl,rfl⟩) (by(try simp only[go_sem,Nat.reduceAdd,Nat.reduceSub,Nat.reduceMul,Nat.reduceLT,Nat.reduceLeDiff,Nat.reduceEqDiff,reduceIte,Int.reduceToNat,Int.reduceLT,Int.reduceLE,Int.reduceEq,Int.reduceNeg,reduceCtorEq,Int.reduceBEq,Int.reduceBNe,ht6]);all_goals rfl)
theorem An{fr:Fr}{σ:St}{rs:List fS}{l:List AV}{n:Int}(hl:dy fr σ rs=some l)(hv:fz σ (List.range σ.length) (fJ l)=.tup [.agg (ak i6),.sl 0 true [],.int .i64 n]):PQ rs (.tup [.agg (ak kj.a),.sl 32 false (rows rtc []),.int .i64 n]) .ret fr σ:=
 ⟨l,hl,.inr ⟨_,hv,(by simp[PuL,Pu,fU,i6,ak,fy,kv,dH,jK,gG,rl,cV,cp0]),Wk.tup ⟨IZ,Wk.empty _ _ _,Wk.refl _,trivial⟩⟩⟩
theorem LM(s:af)(m:Nat)(h:bi s m)(b:Blk)(hb:jL m b):PC Tryz.prog 117 [.agg (ak s.a),.agg (au b)] (.tup [.agg (ak (bR s b).1.a),.sl 32 false (rows rtc (bR s b).2.1),.int .i64 (bR s b).2.2]):=by
 have tl:=WJ;refine PC.fact 12 Ef af1 puA ⟨(bR s b).1.pul,gh _,trivial,trivial⟩ ?_;have hc:ck=.seq ck.hd (.seq (ck.tl 1).hd (.seq (ck.tl 2).hd (.seq (ck.tl 3).hd (.seq (ck.tl 4).hd (.seq (ck.tl 5).hd (.seq (ck.tl 6).hd (ck.tl 7))))))):=rfl;rw[hc];clear hc;generalize ck.tl 7=cT at *;unfold ck;refine bd ?_;simp only[am.tl,am.hd];have c1:=yQ s b h.r;have hoo:=h.oo;unfold bR;by_cases q1:bG s b=10
 ·rw[afA q1]
  rw[q1]at c1;have hlo:=h.cfg.lo;by_cases q2:s.cfg.lim.orph<=s.orph.length
  ·have e1:decide ((s.orph.length:Int) ≥ s.cfg.lim.orph)=true:=ax q2;have e2:decide (s.cfg.lim.orph<=(s.orph.length:Int))=true:=ax q2;rw[afA q2];refine gon ?_;refine ap c1 ?_;refine kT ?_;refine dV e1 e2 ?_;exact An (by first|rfl|exact evd) (by first|rfl|exact evd)
  ·have e1:decide ((s.orph.length:Int) ≥ s.cfg.lim.orph)=false:=aD q2;have e2:decide (s.cfg.lim.orph<=(s.orph.length:Int))=false:=aD q2;have hsn:rows au s.orph++[au (noT b)]=rows au (s.orph++[noT b]):=dn au s.orph (noT b);have ht:∀l:List Blk,List.take l.length (rows au l)=rows au l:=fun l=>afD af1
   have ht2:List.take (s.orph.length+1) (rows au (s.orph++[noT b]))=rows au (s.orph++[noT b]):=afD af1;have hno:au { pul:=b.pul,slot:=b.slot,root:=b.root,parent:=b.parent,payload:=b.payload,diff:=b.diff,pdiff:=b.pdiff,just:=b.just,fin:=b.fin,timely:=false }=au (noT b):=rfl;rw[afx q2];refine gon ?_;refine ap c1 ?_;refine kT ?_;refine iJ e1 e2 ?_;refine eS hno hsn ht ?_;refine⟨_,(by first|rfl|exact evd),.inr ⟨.tup [.agg (ak (withO s (s.orph++[noT b])).a),.sl 0 true [],.int .i64 0],?_,⟨(withO s (s.orph++[noT b])).pul,trivial,trivial,trivial⟩,Wk.tup ⟨Wk.refl _,Wk.empty _ _ _,Wk.refl _,trivial⟩⟩⟩;exact uv ht2
 rw[afx q1];have n1:(bG s b==10)=false:=by simp[q1]
 by_cases q2:bG s b=0
 case neg=>
  rw[afA q2];have e1:(bG s b != 0)=true:=by simp[q2]
  generalize bG s b=E at *;refine gon ?_;refine ap c1 ?_;refine da n1 ?_;refine aW e1 ?_;exact An (by first|rfl|exact evd) (by first|rfl|exact evd)
 rw[afx (by simp[q2])];have hI:=h.insN q2 hb;have hins:=h.ins q2 hb;have c2:=FU s b h.r hI.r;have hor:=FS s b;rw[q2]at c1;clear n1 q1 q2 hI;have hBI:blockI s b=if b.timely=true/\b.slot=s.now/\s.boost=rt0 then withB (gE s b) b.root else gE s b:=rfl
 obtain⟨B,hB,hBI2⟩:∃B:Bool,(B=true↔(b.timely=true/\b.slot=s.now/\s.boost=rt0))/\blockI s b=if B=true then withB (gE s b) b.root else gE s b:=by
  by_cases q:b.timely=true/\b.slot=s.now/\s.boost=rt0
  ·exact⟨true,by simp[q],by rw[hBI,afA q,afA rfl]⟩
  ·exact⟨false,by simp[q],by rw[hBI,afx q,afx af1]⟩
 rw[hBI2];clear hBI hBI2;generalize gE s b=S at *
 have key:∀ (ts:List (Nat×AV)),Tri Tryz.prog 108 0 (.seq ((ck.tl 5).hd) (.seq (ck.tl 6).hd cT)) (PQ [.cell 4 true 150,.tmp 5,.tmp 6] (.tup [.agg (ak (waitG ((if B=true then withB S b.root else S).orph.length+1) ((if B=true then withB S b.root else S),[b.root])).1.a),.sl 32 false (rows rtc (waitG ((if B=true then withB S b.root else S).orph.length+1) ((if B=true then withB S b.root else S),[b.root])).2),.int .i64 0]))
  ⟨12,[.agg (ak s.a),.agg (au b),.ptr 0 0,.ptr 1 0,.ptr 2 0,.sl 0 true [],.int .i64 0,.int .i64 0,.bool B,.dead,.dead,.dead],ts⟩ [.var (ak s.a),.var (au b),.var (ak i6)]:=by
  intro ts;unfold ck;refine bd ?_;simp only[am.tl,am.hd];refine gon ?_;refine abl c2 ?_;cases B with
  | true =>
    have t2:=tl (withB S b.root) m (hins.withB _) b hb (by show S.orph.length<=3;omega) _ rfl;refine aac ?_;(try simp only[aco])
    refine fN ?_ t2;unfold withB;exact abS [] [0,1,2]
  | false =>
    have t2:=tl S m hins b hb af0 _ rfl;refine aab ?_;(try simp only[afP,acq])
    refine fN ?_ t2;exact abS [] [0,1,2]
 unfold ck at key;dsimp only[nfO,Int.reduceOfNat,Int.reduceNegSucc,wA,wB,wC,wD,wE,wF,wG,wH,wI,wJ,wK,wL,wM,wN,wO,wP,wQ,wR,wS,wT,wU,wV,wW,wX,wY,wZ,om,oo,on,omg,og,ong,ci,cu,cb,cf,fA,lA,lF,bI,bC,sO,eX,lN,iX,kA,kB,kC,sR,cN]at key;simp only[am.tl,am.hd]at key;clear tl c2 hins hor;refine gon ?_;refine ap c1 ?_;refine bY ?_;refine aI ?_;refine jQ ?_;refine fR ?_;cases h1:b.timely with
 | false =>
   obtain rfl:B=false:=by rw[<-acE,hB,h1];simp
   repeat(first|refine jQ ?_|simp only[go_sem,h1])
   exact key _
 | true =>
   by_cases h2:b.slot=s.now
   ·have e2:(b.slot==s.now)=true:=by simp[h2]
    by_cases h3:s.boost=rt0
    ·have e3:=ax h3;obtain rfl:B=true:=hB.2 ⟨h1,h2,h3⟩;repeat(first|refine jQ ?_|simp only[go_sem,h1,e2,e3])
     exact key _
    ·have e3:=aD h3;obtain rfl:B=false:=by rw[<-acE,hB];exact fun h=>h3 h.2.2
     repeat(first|refine jQ ?_|simp only[go_sem,h1,e2,e3])
     exact key _
   ·have e2:(b.slot==s.now)=false:=by simp[h2]
    obtain rfl:B=false:=by rw[<-acE,hB];exact fun h=>h2 h.2.1
    repeat(first|refine jQ ?_|simp only[go_sem,h1,e2])
    exact key _
theorem Jl{s:af}{a:aX}(h:(ei s a).2=0):∀j∈a.vals,0<=j/\j<s.cfg.bals.length:=fun j hjm=>by
 have hv:cM a.vals s.cfg.bals.length=0:=by
  unfold ei at h;split at h
  ·rename_i h1;exact absurd h h1
  ·rename_i h1;simpa using h1
 obtain⟨u,hm,rfl⟩:=acp hjm;have:=(ie hv).2 u hm;rw[afy,afz hm,ac7]at this;omega
theorem SY(s:af)(m:Nat)(h:bi s m)(a:aX)(ha:a.vals.length<=2097152):PC Tryz.prog 119 [.agg (ak s.a),.agg (cK a.a)] (.tup [.agg (ak (kH s a).1.a),.int .i64 (kH s a).2]):=by
 refine aQ 9 ?_;have c1:=yP s a h.r ha;have c2:=fun(hz:(ei s a).2=0)=>Jk s a h.r ha (fun j hj=>by have:=Jl hz j hj;have:=h.ll;omega)
 have haa:=h.aa;unfold kH;generalize hC:ei s a=C at *;obtain⟨C1,C2⟩:=C;dsimp only at c1 c2 ⊢;by_cases q1:C2=0
 case neg=>
  have e1:(C2 != 0)=true:=by simp[q1]
  rw[afA q1];refine gon ?_;refine ap c1 ?_;refine aW e1 ?_;exact iG (by first|rfl|exact evd) (by first|rfl|exact evd)
 subst q1;rw[afx af1];cases C1 with
 | false =>
   have c3:=c2 rfl;refine gon ?_;refine ap c1 ?_;refine bY ?_;refine aac ?_;refine abl c3 ?_;(try simp only[aco])
   exact aj
 | true =>
   rw[afx af1];by_cases q2:s.cfg.lim.early<=s.early.length
   ·have e2:decide (s.cfg.lim.early<=(s.early.length:Int))=true:=ax q2;have e3:decide ((s.early.length:Int) ≥ s.cfg.lim.early)=true:=ax q2;rw[afA q2];refine gon ?_;refine ap c1 ?_;refine bY ?_;refine aI ?_;refine dV e2 e3 ?_;exact iG (by first|rfl|exact evd) (by first|rfl|exact evd)
   ·have e2:decide (s.cfg.lim.early<=(s.early.length:Int))=false:=aD q2;have e3:decide ((s.early.length:Int) ≥ s.cfg.lim.early)=false:=aD q2;have hsn:rows aX.c s.early++[cK a.a]=rows aX.c (s.early++[a]):=dn aX.c s.early a;have ht:List.take (s.early.length+1) (rows aX.c (s.early++[a]))=rows aX.c (s.early++[a]):=afD af1;have ht2:List.take s.early.length (rows aX.c s.early)=rows aX.c s.early:=afD af1;have ht3:List.take a.vals.length (ah .i64 a.vals)=ah .i64 a.vals:=afD af1;rw[afx q2];refine gon ?_;refine ap c1 ?_;refine bY ?_;refine aI ?_;refine iJ e2 e3 ?_;refine jQ ?_;refine fR ?_;repeat(first|refine jQ ?_|simp only[go_sem,ht2])
    refine fN (fr2:=⟨9,[.dead,.dead,.ptr 0 0,.ptr 1 0,.ptr 2 0,.int .i64 0,.dead,.dead,.dead],[]⟩) (σ2:=[.var (ak s.a),.var (cK a.a),.var (ak i6)]) (GC.mk' [3] [0,1,2] af1 rfl af1 af1 (by(try simp only[go_sem,Nat.reduceAdd,Nat.reduceSub,Nat.reduceMul,Nat.reduceLT,Nat.reduceLeDiff,Nat.reduceEqDiff,reduceIte,Int.reduceToNat,Int.reduceLT,Int.reduceLE,Int.reduceEq,Int.reduceNeg,reduceCtorEq,Int.reduceBEq,Int.reduceBNe,ht3]);all_goals first|rfl|exact⟨rfl,rfl⟩) (by(try simp only[go_sem,Nat.reduceAdd,Nat.reduceSub,Nat.reduceMul,Nat.reduceLT,Nat.reduceLeDiff,Nat.reduceEqDiff,reduceIte,Int.reduceToNat,Int.reduceLT,Int.reduceLE,Int.reduceEq,Int.reduceNeg,reduceCtorEq,Int.reduceBEq,Int.reduceBNe,ht3]);all_goals rfl)) ?_;refine bm hsn ht2 ?_;refine⟨_,(by first|rfl|exact evd),.inl ?_⟩;exact uv ht
theorem Vm(s:af)(m:Nat)(h:bi s m)(t:aB)(ht:t.bals.length<=2097152):PC Tryz.prog 121 [.agg (ak s.a),.agg (bE t.a)] (.tup [.agg (ak (iL s t).1.a),.int .i64 (iL s t).2]):=by
 refine aQ 9 ?_;have c0:=qc s;have c1:=tH t s.cfg.bals.length ht;have c2:=KI s.tabs t s.cfg.bals.length s.cfg.lim.table h.r.bt ht;unfold iL;generalize fY t s.cfg.bals.length=V at *;generalize ib s.tabs t s.cfg.bals.length s.cfg.lim.table=T at *;obtain⟨T1,T2⟩:=T;dsimp only at c2 ⊢;by_cases q1:V=0
 case neg=>
  have e1:(V != 0)=true:=by simp[q1]
  rw[afA q1];refine gon ?_;refine aP (c0) ?_;refine gon ?_;refine aP (c1) ?_;refine aW e1 ?_;exact iG (by first|rfl|exact evd) (by first|rfl|exact evd)
 subst q1;rw[afx af1];by_cases q2:t.cp.ep<s.j.ep
 ·have e2:=ax q2;rw[afA q2];refine gon ?_;refine aP (c0) ?_;refine gon ?_;refine aP (c1) ?_;refine d6 ?_;refine aW e2 ?_;exact iG (by first|rfl|exact evd) (by first|rfl|exact evd)
 have e2:=aD q2;rw[afx q2];by_cases q3:T2=0
 case neg=>
  have e3:(T2 != 0)=true:=by simp[q3]
  rw[afA q3];refine gon ?_;refine aP (c0) ?_;refine gon ?_;refine aP (c1) ?_;refine d6 ?_;refine aS e2 ?_;refine aP (c0) ?_;refine gon ?_;refine aP (c2) ?_;refine aW e3 ?_;exact iG (by first|rfl|exact evd) (by first|rfl|exact evd)
 subst q3;rw[afx af1];refine gon ?_;refine aP (c0) ?_;refine gon ?_;refine aP (c1) ?_;refine d6 ?_;refine aS e2 ?_;refine aP (c0) ?_;refine gon ?_;refine aP (c2) ?_;refine bY ?_;exact aj
theorem NF(s:af)(m:Nat)(h:bi s m)(x:gi)(h1:x.fst.vals.length<=100)(h2:x.snd.vals.length<=100):PC Tryz.prog 120 [.agg (ak s.a),.agg (dU x.a)] (.tup [.agg (ak (d7 s x).1.a),.int .i64 (d7 s x).2]):=by
 refine aQ 9 ?_;have c0:=qc s;have c1:=KQ x.a x.fst.vals x.snd.vals false false s.cfg.bals.length rfl rfl h1 h2;have c2:=CR x.a x.fst.vals x.snd.vals false false rfl rfl h1 h2;have hcl:(gk x.fst.vals x.snd.vals x.fst.vals.length).length<=x.fst.vals.length:=rS _ _ _;have hqq:=h.qq;have hii:=h.ii;have c3:=KF s.eqv (gk x.fst.vals x.snd.vals x.fst.vals.length) af0;unfold d7;generalize evE x.a x.fst.vals x.snd.vals s.cfg.bals.length=V at *;generalize gk x.fst.vals x.snd.vals x.fst.vals.length=C at *;generalize ym s.eqv C=U at *;generalize IntKind.i64.wrap ((U.length:Int)-s.eqv.length)=N at *;by_cases q1:V=0
 case neg=>
  have e1:(V != 0)=true:=by simp[q1]
  rw[afA q1];refine gon ?_;refine aP (c0) ?_;refine gon ?_;refine aP (c1) ?_;refine aW e1 ?_;exact iG (by first|rfl|exact evd) (by first|rfl|exact evd)
 subst q1;rw[afx af1];by_cases q2:N=0
 ·have e2:(N==0)=true:=by simp[q2]
  rw[afA q2];refine gon ?_;refine aP (c0) ?_;refine gon ?_;refine aP (c1) ?_;refine bY ?_;refine aP (c2) ?_;refine gon ?_;refine aP (c3) ?_;refine aW e2 ?_;exact iG (by first|rfl|exact evd) (by first|rfl|exact evd)
 ·have e2:(N==0)=false:=by simp[q2]
  rw[afx q2];refine gon ?_;refine aP (c0) ?_;refine gon ?_;refine aP (c1) ?_;refine bY ?_;refine aP (c2) ?_;refine gon ?_;refine aP (c3) ?_;refine aS e2 ?_;exact aj
end Go.Proofs.YtmpddimhleianaaGreat
