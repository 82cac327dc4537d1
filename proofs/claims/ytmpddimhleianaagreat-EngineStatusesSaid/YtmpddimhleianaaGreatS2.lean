/- Joined. -/
import Derived.Test.YtmpddimhleianaaGreatS1
set_option linter.unusedVariables false
set_option linter.unusedSimpArgs false
set_option maxRecDepth 8000
set_option maxHeartbeats 4000000
namespace Go.Proofs.YtmpddimhleianaaGreat
open Go Go.FH Go.RowKit
def Qr(s0:ap)(b:Blk)(p:ap×List Rt)(z:List Blk)(o:Bool):St:=if o then [.var (aE s0.a),.var (aO b),.var (aE { p.1.a with orph:=.hs 238 3 0 p.1.orph.length }),.vec 238 (rows aO (p.1.orph++z)),.vec 32 (rows rtc p.2)]
 else [.var (aE s0.a),.var (aO b),.var (aE { p.1.a with orph:=.hs 238 3 0 p.1.orph.length }),.vec 238 (rows aO (p.1.orph++z))]
def Qs(p:ap×List Rt)(o:Bool):AV:=if o then .hs 32 4 0 p.2.length else .sl 32 true (rows rtc p.2)
theorem Qj(s0:ap)(S:ap)(z0:List Blk)(m:Nat)(hS:bP S m)(b:Blk)(hlo:S.orph.length<=3)(R:ap×List Rt)(hR0:R=waitG (S.orph.length+1) (S,[b.root])):
 Tri Tryz.prog 103 0 (bU.tl 6) (PQ [.cell 4 true 150,.tmp 5,.tmp 6] (.tup [.agg (aE R.1.a),.sl 32 false (rows rtc R.2),.int .i64 0])) ⟨22,[.dead,.dead,.ptr 0 0,.ptr 1 0,.ptr 2 0,.dead,.dead,.dead,.dead,.dead,.dead,.dead,.dead,.dead,.dead,.dead,.dead,.dead,.dead,.dead,.dead,.dead],[]⟩ [.var (aE s0.a),.var (aO b),.var (aE { S.a with orph:=.hs 238 3 0 S.orph.length }),.vec 238 (rows aO (S.orph++z0))]:=by
 unfold bU;refine bd ?_;simp only[ab.tl];refine gon ?_
 refine az (fun x:((ap×List Rt)×Bool)×List Blk=>[(5,Qs x.1.1 x.1.2),(6,.dead),(7,.dead),(8,.dead),(9,.dead),(10,.dead)]) (fun x=>Qr s0 b x.1.1 x.2 x.1.2) (fun x=>x.1.1.1.orph.length)
  (fun x=>bP x.1.1.1 m/\R=waitG (x.1.1.1.orph.length+1) x.1.1/\x.1.1.2.length+x.1.1.1.orph.length<=10) (((S,[b.root]),false),z0) ⟨hS,hR0,by simp only[al8,ama];omega⟩ ?_ ?_
 ·show GC _ _ _ ⟨_,jc [(5,.sl 32 true [rtc b.root]),(6,.dead),(7,.dead),(8,.dead),(9,.dead),(10,.dead)] _,[]⟩ [.var (aE s0.a),.var (aO b),.var (aE { S.a with orph:=.hs 238 3 0 S.orph.length }),.vec 238 (rows aO (S.orph++z0))]
  exact ais [] [0,1,2,3]
 clear hR0;rintro⟨⟨⟨S1,L⟩,o⟩,z⟩ ⟨hi,hR,hl⟩;dsimp only at hi hR hl ⊢;have hwb:=i6 S1;have c0:=Jk S1 hi.r.bn hi.r.bo z;by_cases hw:cY S1<0
 ·have hR':R=(S1,L):=by rw[hR];unfold waitG;rw[al7 hw]
  subst hR';clear hR;generalize cY S1=W at *;have e1:=au hw;have ht:List.take L.length (rows rtc L)=rows rtc L:=amf WM;cases o with
  | true =>
    show Tri _ _ _ _ _ ⟨_,jc [(5,.hs 32 4 0 L.length),(6,.dead),(7,.dead),(8,.dead),(9,.dead),(10,.dead)] _,[]⟩ [.var (aE s0.a),.var (aO b),.var (aE { S1.a with orph:=.hs 238 3 0 S1.orph.length }),.vec 238 (rows aO (S1.orph++z)),.vec 32 (rows rtc L)]
    (try simp only[dE,dr,amx,amy])
    refine gon ?_;refine oce [2,3] c0 ?_;refine aM e1 ?_;refine⟨_,(by first|rfl|exact evd),.inl ?_⟩;exact uZ ht
  | false =>
    show Tri _ _ _ _ _ ⟨_,jc [(5,.sl 32 true (rows rtc L)),(6,.dead),(7,.dead),(8,.dead),(9,.dead),(10,.dead)] _,[]⟩ [.var (aE s0.a),.var (aO b),.var (aE { S1.a with orph:=.hs 238 3 0 S1.orph.length }),.vec 238 (rows aO (S1.orph++z))]
    (try simp only[dE,dr,amx,amy])
    refine gon ?_;refine oce [2,3] c0 ?_;refine aM e1 ?_;refine⟨_,(by first|rfl|exact evd),.inr ⟨.tup [.agg (aE S1.a),.sl 32 true (rows rtc L),.int .i64 0],?_,⟨S1.pul,jF L,trivial,trivial⟩,Wk.tup ⟨Wk.refl _,Wk.open_ _ _ _,Wk.refl _,trivial⟩⟩⟩;(try simp only[go_sem,Nat.reduceAdd,Nat.reduceSub,Nat.reduceMul,Nat.reduceLT,Nat.reduceLeDiff,Nat.reduceEqDiff,reduceIte,Int.reduceToNat,Int.reduceLT,Int.reduceLE,Int.reduceEq,Int.reduceNeg,reduceCtorEq,Int.reduceBEq,Int.reduceBNe])
    rfl
 ·have hst:=EX (p:=(S1,L)) (show 0<=cY S1 by omega)
  dsimp only at hst;rw[hst]at hR;clear hst;have hro:=rp (p:=(S1,L)) (by show 0<=cY S1;omega);have hI:bP (waitR (S1,L)).1 m:=bP.waitR hi (by show 0<=cY S1;omega);have hwr:waitR (S1,L)=if de (withO S1 (takeO S1.orph (cY S1).toNat)) (dn S1.orph (cY S1).toNat)=0 then (kL (withO S1 (takeO S1.orph (cY S1).toNat)) (dn S1.orph (cY S1).toNat),L++[(dn S1.orph (cY S1).toNat).root])else (withO S1 (takeO S1.orph (cY S1).toNat),L):=rfl
  have e1:=aA hw;obtain⟨u,hu⟩:=ajO (show 0<=cY S1 by omega);rw[hu]at hwr hwb c0 e1;rw[amw]at hwr;have hul:u<S1.orph.length:=WL
  have h2:=hi.takeO u;have hbo:=hi.uo _ (bK cw hul);have hxl:u<(S1.orph++z).length:=by simp;omega
  have hgd:(rows aO (S1.orph++z)).getD u []=aO (dn S1.orph u):=by
   unfold dn;rw[aS (f:=aO) cw hxl,alt,amH hul,<-alt]
  change np m (dn S1.orph u)at hbo
  generalize dn S1.orph u=ob at *;have hub:decide ((u:Int)<((S1.orph.length:Nat):Int))=true:=au WL;have hw1:IntKind.i64.wrap ((u:Int)+1)=((u+1:Nat):Int):=aL (by have:=hi.oo;omega) (by have:=hi.oo;omega);have hoo:=hi.oo;obtain⟨z2,_,cd⟩:=Cd S1.orph z u hul;have c1:=BX (withO S1 (takeO S1.orph u)) m h2 ob hbo z2;have c2:=fun hc=>qc (withO S1 (takeO S1.orph u)) m h2 ob hbo hc
  have hsn:rows rtc L++[rtc ob.root]=rows rtc (L++[ob.root]):=cR rtc L ob.root;unfold withO at c1;dsimp only at c1;have hWa:∀l:List Blk,(aE { S1.a with orph:=.sl 238 false (rows aO l) })=aE (withO S1 l).a:=fun l=>rfl
  cases o with
  | true =>
    show Tri _ _ _ _ _ ⟨_,jc [(5,.hs 32 4 0 L.length),(6,.dead),(7,.dead),(8,.dead),(9,.dead),(10,.dead)] _,[]⟩ [.var (aE s0.a),.var (aO b),.var (aE { S1.a with orph:=.hs 238 3 0 S1.orph.length }),.vec 238 (rows aO (S1.orph++z)),.vec 32 (rows rtc L)]
    (try simp only[dE,dr,amx,amy])
    refine gon ?_;refine oce [2,3] c0 ?_;refine bJ e1 ?_;refine pz hgd hxl hub hw1 ?_;refine oce [3] cd ?_;refine ah hw1 ?_;refine oce [6] c1 ?_;by_cases hc:de (withO S1 (takeO S1.orph u)) ob=0
    ·have e3:(de (withO S1 (takeO S1.orph u)) ob==0)=true:=by simp[hc]
     rw[al7 hc]at hwr;rw[hwr]at hR hro hI;dsimp only at hR hro hI;obtain⟨z3,c4⟩:=c2 hc;unfold withO at e3;generalize kL (withO S1 (takeO S1.orph u)) ob=S3 at *;unfold lh at c4;refine bw e3 ?_;refine EK [6] ?_;simp only[evZ,F7];refine evg ?_
     refine gon ?_;refine oce [] c4 ?_;refine ah hsn ?_;refine⟨(((S3,L++[ob.root]),true),z3),⟨hI,hR,by simp only[akC,al8,ama];omega⟩,by dsimp only;omega,?_⟩;(try simp only[Qs,Qr,amt,amj,ame])
     exact ais [] [0,1,2,7,8]
    ·have e3:(de (withO S1 (takeO S1.orph u)) ob==0)=false:=by simp[hc]
     rw[al5 hc]at hwr;rw[hwr]at hR hro hI;dsimp only at hR hro hI;unfold withO at e3;refine aF e3 ?_;refine⟨(((withO S1 (takeO S1.orph u),L),true),z2),⟨hI,hR,by dsimp only;omega⟩,by dsimp only;omega,?_⟩;(try simp only[Qs,Qr,amt,amj,ame,withO])
     exact ais [] [0,1,2,6,4]
  | false =>
    show Tri _ _ _ _ _ ⟨_,jc [(5,.sl 32 true (rows rtc L)),(6,.dead),(7,.dead),(8,.dead),(9,.dead),(10,.dead)] _,[]⟩ [.var (aE s0.a),.var (aO b),.var (aE { S1.a with orph:=.hs 238 3 0 S1.orph.length }),.vec 238 (rows aO (S1.orph++z))]
    (try simp only[dE,dr,amx,amy])
    refine gon ?_;refine oce [2,3] c0 ?_;refine bJ e1 ?_;refine pz hgd hxl hub hw1 ?_;refine oce [3] cd ?_;refine ah hw1 ?_;refine oce [5] c1 ?_;by_cases hc:de (withO S1 (takeO S1.orph u)) ob=0
    ·have e3:(de (withO S1 (takeO S1.orph u)) ob==0)=true:=by simp[hc]
     rw[al7 hc]at hwr;rw[hwr]at hR hro hI;dsimp only at hR hro hI;obtain⟨z3,c4⟩:=c2 hc;unfold withO at e3;generalize kL (withO S1 (takeO S1.orph u)) ob=S3 at *;unfold lh at c4;refine bw e3 ?_;refine EK [5] ?_;simp only[evZ,F7];refine evg ?_
     refine gon ?_;refine oce [] c4 ?_;refine ah hsn ?_;refine⟨(((S3,L++[ob.root]),true),z3),⟨hI,hR,by simp only[akC,al8,ama];omega⟩,by dsimp only;omega,?_⟩;(try simp only[Qs,Qr,amt,amj,ame])
     exact ais [] [0,1,2,6,7]
    ·have e3:(de (withO S1 (takeO S1.orph u)) ob==0)=false:=by simp[hc]
     rw[al5 hc]at hwr;rw[hwr]at hR hro hI;dsimp only at hR hro hI;unfold withO at e3;refine aF e3 ?_;refine⟨(((withO S1 (takeO S1.orph u),L),false),z2),⟨hI,hR,by dsimp only;omega⟩,by dsimp only;omega,?_⟩;(try simp only[Qs,Qr,amt,amj,ame,withO])
     exact ais [] [0,1,2,5]
theorem D9(s:ap)(m:Nat)(h:bP s m)(b:Blk)(hb:np m b):PC Tryz.prog 106 [.agg (aE s.a),.agg (aO b)] (.tup [.agg (aE (di s b).1.a),.sl 32 false (rows rtc (di s b).2.1),.int .i64 (di s b).2.2]):=by
 have tl:=Qj s;refine PC.fact 22 KE WM puA ⟨(di s b).1.pul,jF _,trivial,trivial⟩ ?_;have hc:bU=.seq bU.hd (.seq (bU.tl 1).hd (.seq (bU.tl 2).hd (.seq (bU.tl 3).hd (.seq (bU.tl 4).hd (.seq (bU.tl 5).hd (bU.tl 6)))))):=rfl;rw[hc];clear hc;generalize bU.tl 6=cT at *;unfold bU;refine bd ?_;simp only[ab.tl,ab.hd];have c0:=Bu s h.cp;have c0o:=el s h.cp;unfold BO at c0o;have c1:=qa s m h b hb;have hoo:=h.oo;unfold di;by_cases q1:de s b=10
 ·rw[al7 q1]
  rw[q1]at c1;have hlo:=h.cfg.lo;have ge:decide ((s.orph.length:Int) ≥ s.cfg.lim.orph)=decide (s.cfg.lim.orph<=(s.orph.length:Int)):=rfl;by_cases q2:s.cfg.lim.orph<=s.orph.length
  ·have e2:decide (s.cfg.lim.orph<=(s.orph.length:Int))=true:=au q2;rw[al7 q2];refine gon ?_;refine ahG c0 ?_;refine am c1 ?_;refine bk ?_;refine ax ?_;refine cH ge e2 ?_;exact Fa (by first|rfl|exact evd) (by first|rfl|exact evd)
  ·have e2:decide (s.cfg.lim.orph<=(s.orph.length:Int))=false:=aA q2;have hsn:rows aO s.orph++[aO (noT b)]=rows aO (s.orph++[noT b]):=cR aO s.orph (noT b);have ht2:List.take (s.orph.length+1) (rows aO (s.orph++[noT b]))=rows aO (s.orph++[noT b]):=amf WM;have hno:aO { pul:=b.pul,slot:=b.slot,root:=b.root,parent:=b.parent,payload:=b.payload,diff:=b.diff,pdiff:=b.pdiff,just:=b.just,fin:=b.fin,timely:=false }=aO (noT b):=rfl;rw[al5 q2];refine gon ?_;refine ocg [] c0o ?_;refine am c1 ?_;refine bk ?_;refine ax ?_;refine fp ge e2 ?_;refine aZ hno hsn ?_;refine⟨_,(by first|rfl|exact evd),.inr ⟨.tup [.agg (aE (withO s (s.orph++[noT b])).a),.sl 0 true [],.int .i64 0],?_,⟨(withO s (s.orph++[noT b])).pul,trivial,trivial,trivial⟩,Wk.tup ⟨Wk.refl _,Wk.empty _ _ _,Wk.refl _,trivial⟩⟩⟩;exact uZ ht2
 rw[al5 q1];have n1:(de s b==10)=false:=by simp[q1]
 by_cases q2:de s b=0
 case neg=>
  rw[al7 q2];have e1:(de s b==0)=false:=by simp[q2]
  generalize de s b=E at *;refine gon ?_;refine ahG c0 ?_;refine am c1 ?_;refine bJ e1 ?_;refine aF n1 ?_;exact Fa (by first|rfl|exact evd) (by first|rfl|exact evd)
 rw[al5 (by simp[q2])];have hins:=h.ins q2 hb;obtain⟨z,c2⟩:=qc s m h b hb q2;rw[q2]at c1;have hBI:blockI s b=if b.timely=true/\b.slot=s.now/\s.boost=rt0 then withB (kL s b) b.root else kL s b:=rfl
 obtain⟨B,hB,hBI2⟩:∃B:Bool,(B=true↔(b.timely=true/\b.slot=s.now/\s.boost=rt0))/\blockI s b=if B=true then withB (kL s b) b.root else kL s b:=by
  by_cases q:b.timely=true/\b.slot=s.now/\s.boost=rt0
  ·exact⟨true,by simp[q],by rw[hBI,al7 q,al7 rfl]⟩
  ·exact⟨false,by simp[q],by rw[hBI,al5 q,al5 WM]⟩
 rw[hBI2];clear hBI hBI2 n1 q1 q2;generalize kL s b=S at *;have hSo:=hins.oo
 have key:∀ (ts:List (Nat×AV)),Tri Tryz.prog 103 0 (.seq ((bU.tl 4).hd) (.seq (bU.tl 5).hd cT)) (PQ [.cell 4 true 150,.tmp 5,.tmp 6] (.tup [.agg (aE (waitG ((if B=true then withB S b.root else S).orph.length+1) ((if B=true then withB S b.root else S),[b.root])).1.a),.sl 32 false (rows rtc (waitG ((if B=true then withB S b.root else S).orph.length+1) ((if B=true then withB S b.root else S),[b.root])).2),.int .i64 0]))
  ⟨22,[.agg (aE s.a),.agg (aO b),.ptr 0 0,.ptr 1 0,.ptr 2 0,.sl 0 true [],.int .i64 0,.int .i64 0,.bool B,.dead,.dead,.dead,.dead,.dead,.dead,.dead,.dead,.dead,.dead,.bool true,.dead,.dead],ts⟩ [.var (aE s.a),.var (aO b),.var (aE s.a)]:=by
  intro ts;unfold bU;refine bd ?_;simp only[ab.tl,ab.hd];unfold lh at c2;refine gon ?_;refine ocg [] c2 ?_;cases B with
  | true =>
    have t2:=tl (withB S b.root) z m (hins.withB _) b (by show S.orph.length<=3;omega) _ rfl;refine agF ?_;(try simp only[amt])
    refine eg ?_ t2;unfold withB;exact ais [] [0,1,2,3]
  | false =>
    have t2:=tl S z m hins b WL _ rfl;refine agE ?_;(try simp only[ame,amj])
    refine eg ?_ t2;exact ais [] [0,1,2,3]
 unfold bU at key;dsimp only[nfO,Int.reduceOfNat,Int.reduceNegSucc,wA,wB,wC,wD,wE,wF,wG,wH,wI,wJ,wK,wL,wM,wN,wO,wP,wQ,wR,wS,wT,wU,wV,wW,wX,wY,wZ,om,oo,on,omg,og,ong,ci,cu,cb,cf,fA,lA,lF,bI,bC,sO,eX,lN,iX,kA,kB,kC,sR,cN]at key;simp only[ab.tl,ab.hd]at key;clear tl c2 hins;have c3:=H1 s.boost;refine gon ?_;refine ahG c0 ?_;refine am c1 ?_;refine Ff ?_;refine qU ?_;refine tp ?_;cases h1:b.timely with
 | false =>
   obtain rfl:B=false:=by rw[<-amZ,hB,h1];simp
   repeat(first|refine qU ?_|simp only[go_sem,h1])
   have k2:=key [];(try simp only[ame,amj,amt]at k2)
   refine eg ?_ k2;exact ais [] [0,1,2]
 | true =>
   by_cases h2:b.slot=s.now
   ·have e2:(b.slot==s.now)=true:=by simp[h2]
    by_cases h3:s.boost=rt0
    ·have e3:=au h3;obtain rfl:B=true:=hB.2 ⟨h1,h2,h3⟩;rw[e3]at c3;repeat(first|refine qU ?_|simp only[go_sem,h1,e2])
     refine am c3 ?_;refine qU ?_;have k2:=key [];(try simp only[ame,amj,amt]at k2)
     refine eg ?_ k2;exact ais [] [0,1,2]
    ·have e3:=aA h3;obtain rfl:B=false:=by rw[<-amZ,hB];exact fun h=>h3 h.2.2
     rw[e3]at c3;repeat(first|refine qU ?_|simp only[go_sem,h1,e2])
     refine am c3 ?_;refine qU ?_;have k2:=key [];(try simp only[ame,amj,amt]at k2)
     refine eg ?_ k2;exact ais [] [0,1,2]
   ·have e2:(b.slot==s.now)=false:=by simp[h2]
    obtain rfl:B=false:=by rw[<-amZ,hB];exact fun h=>h2 h.2.1
    repeat(first|refine qU ?_|simp only[go_sem,h1,e2])
    have k2:=key [];(try simp only[ame,amj,amt]at k2)
    refine eg ?_ k2;exact ais [] [0,1,2]
end Go.Proofs.YtmpddimhleianaaGreat
