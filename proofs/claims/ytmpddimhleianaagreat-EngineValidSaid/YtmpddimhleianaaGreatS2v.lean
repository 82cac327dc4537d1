/- Joined. -/
import Derived.Test.YtmpddimhleianaaGreatS1v
set_option linter.unusedVariables false
set_option linter.unusedSimpArgs false
set_option maxRecDepth 8000
set_option maxHeartbeats 4000000
namespace Go.Proofs.YtmpddimhleianaaGreat
open Go Go.FH Go.RowKit
def Vs(s0:af)(b:Blk)(p:af×List Rt)(z:List Blk)(o:Bool):St:=if o then [.var (ak s0.a),.var (au b),.var (ak { p.1.a with orph:=.hs 238 3 0 p.1.orph.length }),.vec 238 (rows au (p.1.orph++z)),.vec 32 (rows rtc p.2)]
 else [.var (ak s0.a),.var (au b),.var (ak { p.1.a with orph:=.hs 238 3 0 p.1.orph.length }),.vec 238 (rows au (p.1.orph++z))]
def Vv(p:af×List Rt)(o:Bool):AV:=if o then .hs 32 4 0 p.2.length else .sl 32 true (rows rtc p.2)
theorem Vf(s0:af)(S:af)(z0:List Blk)(m:Nat)(hS:bi S m)(b:Blk)(hlo:S.orph.length<=3)(R:af×List Rt)(hR0:R=waitG (S.orph.length+1) (S,[b.root])):
 Tri Tryz.prog 103 0 (cA.tl 6) (PQ [.cell 4 true 150,.tmp 5,.tmp 6] (.tup [.agg (ak R.1.a),.sl 32 false (rows rtc R.2),.int .i64 0])) ⟨22,[.dead,.dead,.ptr 0 0,.ptr 1 0,.ptr 2 0,.dead,.dead,.dead,.dead,.dead,.dead,.dead,.dead,.dead,.dead,.dead,.dead,.dead,.dead,.dead,.dead,.dead],[]⟩ [.var (ak s0.a),.var (au b),.var (ak { S.a with orph:=.hs 238 3 0 S.orph.length }),.vec 238 (rows au (S.orph++z0))]:=by
 unfold cA;refine bd ?_;simp only[am.tl];refine gon ?_
 refine aE (fun x:((af×List Rt)×Bool)×List Blk=>[(5,Vv x.1.1 x.1.2),(6,.dead),(7,.dead),(8,.dead),(9,.dead),(10,.dead)]) (fun x=>Vs s0 b x.1.1 x.2 x.1.2) (fun x=>x.1.1.1.orph.length)
  (fun x=>bi x.1.1.1 m/\R=waitG (x.1.1.1.orph.length+1) x.1.1/\x.1.1.2.length+x.1.1.1.orph.length<=10) (((S,[b.root]),false),z0) ⟨hS,hR0,by simp only[afG,afM];omega⟩ ?_ ?_
 ·show GC _ _ _ ⟨_,fq [(5,.sl 32 true [rtc b.root]),(6,.dead),(7,.dead),(8,.dead),(9,.dead),(10,.dead)] _,[]⟩ [.var (ak s0.a),.var (au b),.var (ak { S.a with orph:=.hs 238 3 0 S.orph.length }),.vec 238 (rows au (S.orph++z0))]
  exact abS [] [0,1,2,3]
 clear hR0;rintro⟨⟨⟨S1,L⟩,o⟩,z⟩ ⟨hi,hR,hl⟩;dsimp only at hi hR hl ⊢;have hwb:=oA S1;have c0:=Nr S1 hi.r.bn hi.r.bo z;by_cases hw:bW S1<0
 ·have hR':R=(S1,L):=by rw[hR];unfold waitG;rw[afA hw]
  subst hR';clear hR;generalize bW S1=W at *;have e1:=ax hw;have ht:List.take L.length (rows rtc L)=rows rtc L:=afD af1;cases o with
  | true =>
    show Tri _ _ _ _ _ ⟨_,fq [(5,.hs 32 4 0 L.length),(6,.dead),(7,.dead),(8,.dead),(9,.dead),(10,.dead)] _,[]⟩ [.var (ak s0.a),.var (au b),.var (ak { S1.a with orph:=.hs 238 3 0 S1.orph.length }),.vec 238 (rows au (S1.orph++z)),.vec 32 (rows rtc L)]
    (try simp only[dS,dE,act,acx])
    refine gon ?_;refine oce [2,3] c0 ?_;refine aW e1 ?_;refine⟨_,(by first|rfl|exact evd),.inl ?_⟩;exact uv ht
  | false =>
    show Tri _ _ _ _ _ ⟨_,fq [(5,.sl 32 true (rows rtc L)),(6,.dead),(7,.dead),(8,.dead),(9,.dead),(10,.dead)] _,[]⟩ [.var (ak s0.a),.var (au b),.var (ak { S1.a with orph:=.hs 238 3 0 S1.orph.length }),.vec 238 (rows au (S1.orph++z))]
    (try simp only[dS,dE,act,acx])
    refine gon ?_;refine oce [2,3] c0 ?_;refine aW e1 ?_;refine⟨_,(by first|rfl|exact evd),.inr ⟨.tup [.agg (ak S1.a),.sl 32 true (rows rtc L),.int .i64 0],?_,⟨S1.pul,gh L,trivial,trivial⟩,Wk.tup ⟨Wk.refl _,Wk.open_ _ _ _,Wk.refl _,trivial⟩⟩⟩;(try simp only[go_sem,Nat.reduceAdd,Nat.reduceSub,Nat.reduceMul,Nat.reduceLT,Nat.reduceLeDiff,Nat.reduceEqDiff,reduceIte,Int.reduceToNat,Int.reduceLT,Int.reduceLE,Int.reduceEq,Int.reduceNeg,reduceCtorEq,Int.reduceBEq,Int.reduceBNe])
    rfl
 ·have hst:=DB (p:=(S1,L)) (show 0<=bW S1 by omega)
  dsimp only at hst;rw[hst]at hR;clear hst;have hro:=qN (p:=(S1,L)) (by show 0<=bW S1;omega);have hI:bi (waitR (S1,L)).1 m:=bi.waitR hi (by show 0<=bW S1;omega);have hwr:waitR (S1,L)=if bG (withO S1 (takeO S1.orph (bW S1).toNat)) (cU S1.orph (bW S1).toNat)=0 then (gE (withO S1 (takeO S1.orph (bW S1).toNat)) (cU S1.orph (bW S1).toNat),L++[(cU S1.orph (bW S1).toNat).root])else (withO S1 (takeO S1.orph (bW S1).toNat),L):=rfl
  have e1:=aD hw;obtain⟨u,hu⟩:=afF (show 0<=bW S1 by omega);rw[hu]at hwr hwb c0 e1;rw[afH]at hwr;have hul:u<S1.orph.length:=af0
  have h2:=hi.takeO u;have hbo:=hi.uo _ (cR dx hul);have hxl:u<(S1.orph++z).length:=by simp;omega
  have hgd:(rows au (S1.orph++z)).getD u []=au (cU S1.orph u):=by
   unfold cU;rw[aK (f:=au) dx hxl,afy,afU hul,<-afy]
  change jL m (cU S1.orph u)at hbo
  generalize cU S1.orph u=ob at *;have hub:decide ((u:Int)<((S1.orph.length:Nat):Int))=true:=ax af0;have hw1:IntKind.i64.wrap ((u:Int)+1)=((u+1:Nat):Int):=ar (by have:=hi.oo;omega) (by have:=hi.oo;omega);have hoo:=hi.oo;obtain⟨z2,_,cd⟩:=HX S1.orph z u hul;have c1:=HW (withO S1 (takeO S1.orph u)) m h2 ob hbo z2;have c2:=fun hc=>wz (withO S1 (takeO S1.orph u)) m h2 ob hbo hc
  have hsn:rows rtc L++[rtc ob.root]=rows rtc (L++[ob.root]):=dn rtc L ob.root;unfold withO at c1;dsimp only at c1;have hWa:∀l:List Blk,(ak { S1.a with orph:=.sl 238 false (rows au l) })=ak (withO S1 l).a:=fun l=>rfl
  cases o with
  | true =>
    show Tri _ _ _ _ _ ⟨_,fq [(5,.hs 32 4 0 L.length),(6,.dead),(7,.dead),(8,.dead),(9,.dead),(10,.dead)] _,[]⟩ [.var (ak s0.a),.var (au b),.var (ak { S1.a with orph:=.hs 238 3 0 S1.orph.length }),.vec 238 (rows au (S1.orph++z)),.vec 32 (rows rtc L)]
    (try simp only[dS,dE,act,acx])
    refine gon ?_;refine oce [2,3] c0 ?_;refine da e1 ?_;refine fk hgd hxl hub hw1 ?_;refine oce [3] cd ?_;refine aA hw1 ?_;refine oce [6] c1 ?_;by_cases hc:bG (withO S1 (takeO S1.orph u)) ob=0
    ·have e3:(bG (withO S1 (takeO S1.orph u)) ob==0)=true:=by simp[hc]
     rw[afA hc]at hwr;rw[hwr]at hR hro hI;dsimp only at hR hro hI;obtain⟨z3,c4⟩:=c2 hc;unfold withO at e3;generalize gE (withO S1 (takeO S1.orph u)) ob=S3 at *;unfold y8 at c4;refine bO e3 ?_;refine Dt [6] ?_;simp only[evZ,BO];refine evg ?_
     refine gon ?_;refine oce [] c4 ?_;refine aA hsn ?_;refine⟨(((S3,L++[ob.root]),true),z3),⟨hI,hR,by simp only[afB,afG,afM];omega⟩,by dsimp only;omega,?_⟩;(try simp only[Vv,Vs,aco,acq,afP])
     exact abS [] [0,1,2,7,8]
    ·have e3:(bG (withO S1 (takeO S1.orph u)) ob==0)=false:=by simp[hc]
     rw[afx hc]at hwr;rw[hwr]at hR hro hI;dsimp only at hR hro hI;unfold withO at e3;refine aS e3 ?_;refine⟨(((withO S1 (takeO S1.orph u),L),true),z2),⟨hI,hR,by dsimp only;omega⟩,by dsimp only;omega,?_⟩;(try simp only[Vv,Vs,aco,acq,afP,withO])
     exact abS [] [0,1,2,6,4]
  | false =>
    show Tri _ _ _ _ _ ⟨_,fq [(5,.sl 32 true (rows rtc L)),(6,.dead),(7,.dead),(8,.dead),(9,.dead),(10,.dead)] _,[]⟩ [.var (ak s0.a),.var (au b),.var (ak { S1.a with orph:=.hs 238 3 0 S1.orph.length }),.vec 238 (rows au (S1.orph++z))]
    (try simp only[dS,dE,act,acx])
    refine gon ?_;refine oce [2,3] c0 ?_;refine da e1 ?_;refine fk hgd hxl hub hw1 ?_;refine oce [3] cd ?_;refine aA hw1 ?_;refine oce [5] c1 ?_;by_cases hc:bG (withO S1 (takeO S1.orph u)) ob=0
    ·have e3:(bG (withO S1 (takeO S1.orph u)) ob==0)=true:=by simp[hc]
     rw[afA hc]at hwr;rw[hwr]at hR hro hI;dsimp only at hR hro hI;obtain⟨z3,c4⟩:=c2 hc;unfold withO at e3;generalize gE (withO S1 (takeO S1.orph u)) ob=S3 at *;unfold y8 at c4;refine bO e3 ?_;refine Dt [5] ?_;simp only[evZ,BO];refine evg ?_
     refine gon ?_;refine oce [] c4 ?_;refine aA hsn ?_;refine⟨(((S3,L++[ob.root]),true),z3),⟨hI,hR,by simp only[afB,afG,afM];omega⟩,by dsimp only;omega,?_⟩;(try simp only[Vv,Vs,aco,acq,afP])
     exact abS [] [0,1,2,6,7]
    ·have e3:(bG (withO S1 (takeO S1.orph u)) ob==0)=false:=by simp[hc]
     rw[afx hc]at hwr;rw[hwr]at hR hro hI;dsimp only at hR hro hI;unfold withO at e3;refine aS e3 ?_;refine⟨(((withO S1 (takeO S1.orph u),L),false),z2),⟨hI,hR,by dsimp only;omega⟩,by dsimp only;omega,?_⟩;(try simp only[Vv,Vs,aco,acq,afP,withO])
     exact abS [] [0,1,2,5]
theorem Kn(s:af)(m:Nat)(h:bi s m)(b:Blk)(hb:jL m b):PC Tryz.prog 106 [.agg (ak s.a),.agg (au b)] (.tup [.agg (ak (bR s b).1.a),.sl 32 false (rows rtc (bR s b).2.1),.int .i64 (bR s b).2.2]):=by
 have tl:=Vf s;refine PC.fact 22 Em af1 puA ⟨(bR s b).1.pul,gh _,trivial,trivial⟩ ?_;have hc:cA=.seq cA.hd (.seq (cA.tl 1).hd (.seq (cA.tl 2).hd (.seq (cA.tl 3).hd (.seq (cA.tl 4).hd (.seq (cA.tl 5).hd (cA.tl 6)))))):=rfl;rw[hc];clear hc;generalize cA.tl 6=cT at *;unfold cA;refine bd ?_;simp only[am.tl,am.hd];have c0:=Hx s h.cp;have c0o:=lH s h.cp;unfold Ki at c0o;have c1:=wy s m h b hb;have hoo:=h.oo;unfold bR;by_cases q1:bG s b=10
 ·rw[afA q1]
  rw[q1]at c1;have hlo:=h.cfg.lo;have ge:decide ((s.orph.length:Int) ≥ s.cfg.lim.orph)=decide (s.cfg.lim.orph<=(s.orph.length:Int)):=rfl;by_cases q2:s.cfg.lim.orph<=s.orph.length
  ·have e2:decide (s.cfg.lim.orph<=(s.orph.length:Int))=true:=ax q2;rw[afA q2];refine gon ?_;refine abl c0 ?_;refine ap c1 ?_;refine bY ?_;refine aq ?_;refine dV ge e2 ?_;exact An (by first|rfl|exact evd) (by first|rfl|exact evd)
  ·have e2:decide (s.cfg.lim.orph<=(s.orph.length:Int))=false:=aD q2;have hsn:rows au s.orph++[au (noT b)]=rows au (s.orph++[noT b]):=dn au s.orph (noT b);have ht2:List.take (s.orph.length+1) (rows au (s.orph++[noT b]))=rows au (s.orph++[noT b]):=afD af1;have hno:au { pul:=b.pul,slot:=b.slot,root:=b.root,parent:=b.parent,payload:=b.payload,diff:=b.diff,pdiff:=b.pdiff,just:=b.just,fin:=b.fin,timely:=false }=au (noT b):=rfl;rw[afx q2];refine gon ?_;refine ocg [] c0o ?_;refine ap c1 ?_;refine bY ?_;refine aq ?_;refine iJ ge e2 ?_;refine bm hno hsn ?_;refine⟨_,(by first|rfl|exact evd),.inr ⟨.tup [.agg (ak (withO s (s.orph++[noT b])).a),.sl 0 true [],.int .i64 0],?_,⟨(withO s (s.orph++[noT b])).pul,trivial,trivial,trivial⟩,Wk.tup ⟨Wk.refl _,Wk.empty _ _ _,Wk.refl _,trivial⟩⟩⟩;exact uv ht2
 rw[afx q1];have n1:(bG s b==10)=false:=by simp[q1]
 by_cases q2:bG s b=0
 case neg=>
  rw[afA q2];have e1:(bG s b==0)=false:=by simp[q2]
  generalize bG s b=E at *;refine gon ?_;refine abl c0 ?_;refine ap c1 ?_;refine da e1 ?_;refine aS n1 ?_;exact An (by first|rfl|exact evd) (by first|rfl|exact evd)
 rw[afx (by simp[q2])];have hins:=h.ins q2 hb;obtain⟨z,c2⟩:=wz s m h b hb q2;rw[q2]at c1;have hBI:blockI s b=if b.timely=true/\b.slot=s.now/\s.boost=rt0 then withB (gE s b) b.root else gE s b:=rfl
 obtain⟨B,hB,hBI2⟩:∃B:Bool,(B=true↔(b.timely=true/\b.slot=s.now/\s.boost=rt0))/\blockI s b=if B=true then withB (gE s b) b.root else gE s b:=by
  by_cases q:b.timely=true/\b.slot=s.now/\s.boost=rt0
  ·exact⟨true,by simp[q],by rw[hBI,afA q,afA rfl]⟩
  ·exact⟨false,by simp[q],by rw[hBI,afx q,afx af1]⟩
 rw[hBI2];clear hBI hBI2 n1 q1 q2;generalize gE s b=S at *;have hSo:=hins.oo
 have key:∀ (ts:List (Nat×AV)),Tri Tryz.prog 103 0 (.seq ((cA.tl 4).hd) (.seq (cA.tl 5).hd cT)) (PQ [.cell 4 true 150,.tmp 5,.tmp 6] (.tup [.agg (ak (waitG ((if B=true then withB S b.root else S).orph.length+1) ((if B=true then withB S b.root else S),[b.root])).1.a),.sl 32 false (rows rtc (waitG ((if B=true then withB S b.root else S).orph.length+1) ((if B=true then withB S b.root else S),[b.root])).2),.int .i64 0]))
  ⟨22,[.agg (ak s.a),.agg (au b),.ptr 0 0,.ptr 1 0,.ptr 2 0,.sl 0 true [],.int .i64 0,.int .i64 0,.bool B,.dead,.dead,.dead,.dead,.dead,.dead,.dead,.dead,.dead,.dead,.bool true,.dead,.dead],ts⟩ [.var (ak s.a),.var (au b),.var (ak s.a)]:=by
  intro ts;unfold cA;refine bd ?_;simp only[am.tl,am.hd];unfold y8 at c2;refine gon ?_;refine ocg [] c2 ?_;cases B with
  | true =>
    have t2:=tl (withB S b.root) z m (hins.withB _) b (by show S.orph.length<=3;omega) _ rfl;refine aac ?_;(try simp only[aco])
    refine fN ?_ t2;unfold withB;exact abS [] [0,1,2,3]
  | false =>
    have t2:=tl S z m hins b af0 _ rfl;refine aab ?_;(try simp only[afP,acq])
    refine fN ?_ t2;exact abS [] [0,1,2,3]
 unfold cA at key;dsimp only[nfO,Int.reduceOfNat,Int.reduceNegSucc,wA,wB,wC,wD,wE,wF,wG,wH,wI,wJ,wK,wL,wM,wN,wO,wP,wQ,wR,wS,wT,wU,wV,wW,wX,wY,wZ,om,oo,on,omg,og,ong,ci,cu,cb,cf,fA,lA,lF,bI,bC,sO,eX,lN,iX,kA,kB,kC,sR,cN]at key;simp only[am.tl,am.hd]at key;clear tl c2 hins;have c3:=gP s.boost;refine gon ?_;refine abl c0 ?_;refine ap c1 ?_;refine kT ?_;refine jQ ?_;refine fR ?_;cases h1:b.timely with
 | false =>
   obtain rfl:B=false:=by rw[<-acE,hB,h1];simp
   repeat(first|refine jQ ?_|simp only[go_sem,h1])
   have k2:=key [];(try simp only[afP,acq,aco]at k2)
   refine fN ?_ k2;exact abS [] [0,1,2]
 | true =>
   by_cases h2:b.slot=s.now
   ·have e2:(b.slot==s.now)=true:=by simp[h2]
    by_cases h3:s.boost=rt0
    ·have e3:=ax h3;obtain rfl:B=true:=hB.2 ⟨h1,h2,h3⟩;rw[e3]at c3;repeat(first|refine jQ ?_|simp only[go_sem,h1,e2])
     refine ap c3 ?_;refine jQ ?_;have k2:=key [];(try simp only[afP,acq,aco]at k2)
     refine fN ?_ k2;exact abS [] [0,1,2]
    ·have e3:=aD h3;obtain rfl:B=false:=by rw[<-acE,hB];exact fun h=>h3 h.2.2
     rw[e3]at c3;repeat(first|refine jQ ?_|simp only[go_sem,h1,e2])
     refine ap c3 ?_;refine jQ ?_;have k2:=key [];(try simp only[afP,acq,aco]at k2)
     refine fN ?_ k2;exact abS [] [0,1,2]
   ·have e2:(b.slot==s.now)=false:=by simp[h2]
    obtain rfl:B=false:=by rw[<-acE,hB];exact fun h=>h2 h.2.1
    repeat(first|refine jQ ?_|simp only[go_sem,h1,e2])
    have k2:=key [];(try simp only[afP,acq,aco]at k2)
    refine fN ?_ k2;exact abS [] [0,1,2]
end Go.Proofs.YtmpddimhleianaaGreat
