/- Joined. -/
import Derived.Test.YtflhnmleodkjiaaGreatV7
import Derived.Test.YtflhnmleodkjiaaGreatW6
set_option linter.unusedVariables false
set_option linter.unusedSimpArgs false
set_option maxRecDepth 8000
set_option maxHeartbeats 4000000
namespace Go.Proofs.YtflhnmleodkjiaaGreat
open Go Go.FH Go.RowKit
theorem CX(x:Sta)(v:AV):(aV x).set 151 v=aV { x with rets:=v }:=by
 simp only[aV,akf,zM,al8,Nat.reduceSub,Nat.reduceLT,amj,amy,amx]
theorem CW(x:Sta):(aV x).getD 151 .dead=x.rets:=by
 simp only[aV,alt,aj2,zM,al8,Nat.reduceSub,Nat.reduceLT,amj,ajB,amQ,amT]
theorem lu(l:List Req):List.take l.length (rows aP l)=rows aP l:=amf (by simp)
theorem FU(s:aI)(h:StR s.sto)(r:Rt):PC Tryz.prog 285 [.agg (aV s.a),.agg (rtc r)] (.bool (Cz s.sto r)):=by
 refine pfn 6 xR ?_;unfold oM;refine bd ?_;have c1:=cC s.sto.nodes r h.bn;have b1:=fM s.sto.nodes r;unfold Cz;generalize aj s.sto.nodes r=I at *;refine gon ?_;refine am c1 ?_;by_cases q:0<=I
 ·have e1:=au q;have hg:=dy (t:=s.sto.nodes) (i:=I.toNat) (by omega);refine aZ e1 hg ?_;have e2:((nod s.sto.nodes I.toNat).status==0)=decide ((nod s.sto.nodes I.toNat).status=0):=by rw[ajZ];simp
  refine⟨_,(by first|rfl|exact evd),.inl ?_⟩;exact uZ e2
 ·have e1:=aA q;refine ah e1 ?_;exact ai
theorem adc:WkC (aE kU) (aE jX.a):=by
 unfold kU jX ap.a aE;dsimp only;refine WkC.app ?_ ?_
 ·unfold ui cU.a bW;dsimp only;exact(WkC.refl _).app (.same _ (.same _ ((WkC.refl _).app ((WkC.refl _).app (.one (Wk.empty _ _ _) fun h=>h)))))
 ·exact .cons (Wk.empty _ _ _) (fun h=>h) (.cons (Wk.empty _ _ _) (fun h=>h) ((WkC.refl _).app ((WkC.refl _).app (.cons (Wk.empty _ _ _) (fun h=>h) (.cons (Wk.empty _ _ _) (fun h=>h) (.cons (Wk.empty _ _ _) (fun h=>h) (.same _ ((WkC.refl _).app (.one (Wk.empty _ _ _) fun h=>h)))))))))
theorem C9:Wk (.agg (aV rD)) (.agg (aV Fx.a)):=by
 refine Wk.agg ?_;unfold rD Fx aI.a aV;dsimp only;exact adc.app (.cons (Wk.empty _ _ _) (fun h=>h) (.cons (Wk.empty _ _ _) (fun h=>h) (WkC.refl _)))
theorem uG:PuL (aV rD):=by simp[rD,aV,eJ,PuL,Pu,fy,kU,aE,mg,dI,ju,gV,ui,bW,cp0,rf]
theorem QF(t b:Int)(ht:t<=9223372036854775807):PC Tryz.prog 384 [.int .i64 t,.int .u64 b] (.int .u64 (vx t b)):=by
 refine pfn 7 HF ?_;unfold jM;refine bd ?_;unfold vx;by_cases h0:b=0
 ·subst h0;refine aX ?_;exact ai
 have e0:(b==0)=false:=by simp[h0]
 rw[al5 h0];obtain⟨R,hR⟩:∃R,R=qS b (t-1).toNat 1:=⟨_,rfl⟩
 rw[<-hR];refine aF e0 ?_;refine az (fun x:Nat×Int=>[(6,.int .i64 ((x.1:Int)+1)),(5,.int .u64 x.2)]) (fun _=>[]) (fun x=>(t-1).toNat-x.1) (fun x=>x.1<=(t-1).toNat/\R=qS b ((t-1).toNat-x.1) x.2) (0,1) ⟨amc _,hR⟩ ?_ ?_
 ·exact ais [] []
 clear hR;rintro⟨i,d⟩ ⟨hi,hn⟩;dsimp only at hi hn ⊢;(try simp only[dE,dr,amx,amy])
 by_cases h1:(i:Int)+1<t
 ·have e1:=au h1
  obtain⟨f,hf⟩:∃f,(t-1).toNat-i=f+1:=⟨(t-1).toNat-i-1,by omega⟩
  rw[hf]at hn;have hg:qS b (f+1) d=if IntKind.u64.wrap (b-d)<=d then b else qS b f (IntKind.u64.wrap (2*d)):=rfl
  rw[hg]at hn;have hw:IntKind.i64.wrap ((i:Int)+1+1)=((i+1:Nat):Int)+1:=by rw[aL (by omega) (by omega)];omega
  by_cases q:IntKind.u64.wrap (b-d)<=d
  ·have e2:=au q;rw[al7 q]at hn;subst hn;refine bw e1 ?_;refine aM e2 ?_;exact ai
  ·have e2:=aA q;rw[al5 q]at hn;refine bw e1 ?_;refine bJ e2 ?_;refine ah hw ?_;refine⟨(i+1,IntKind.u64.wrap (2*d)),⟨by dsimp only;omega,by rw[hn,show (t-1).toNat-(i+1)=f by omega]⟩,by dsimp only;omega,?_⟩;exact ais [] []
 ·have e1:=aA h1;rw[show (t-1).toNat-i=0 by omega]at hn;have hg:qS b 0 d=d:=rfl;rw[hg]at hn;subst hn;refine aF e1 ?_;exact ai
theorem XM(n:Int):IntKind.i64.wrap n<=9223372036854775807:=by rw[IntKind.wrap_i64];omega
theorem T7(s:aI)(L:List Req)(n:Nat)(hL:L.length=n+1)(hb:n<=2097152)(r0:Req):
 Tri Tryz.prog 117 0 (dl.tl 6) (PQ [.cell 4 true 252] (.agg (aV (gi s (nS L n)).a))) ⟨7,[.dead,.dead,.ptr 0 0,.ptr 1 0,.ptr 2 0,.hs 35 3 0 (n+1),.dead],[]⟩ [.var (aV s.a),.var (aP r0),.var (aV rD),.vec 35 (rows aP L)]:=by
 unfold dl;refine bd ?_;simp only[ab.tl];obtain⟨R,hR⟩:∃R,R=nS L n:=⟨_,rfl⟩
 rw[<-hR];have hw0:IntKind.i64.wrap (((n+1:Nat):Int)-1)=(n:Int):=by rw[aL (by omega) (by omega)];omega
 have hw0':IntKind.i64.wrap ((n:Int)+1-1)=(n:Int):=by rw[aL (by omega) (by omega)];omega
 refine aZ hw0 hw0' ?_;refine az (fun x:Nat×List Req=>[(6,.int .i64 x.1)]) (fun x=>[.var (aV s.a),.var (aP r0),.var (aV rD),.vec 35 (rows aP x.2)]) (fun x=>x.1) (fun x=>x.1<=n/\x.2.length=n+1/\R=nS x.2 x.1) (n,L) ⟨amb _,hL,hR⟩ ?_ ?_
 ·exact ais [] [0,1,2,3]
 clear hR;rintro⟨k,l⟩ ⟨hk,hl,hn⟩;dsimp only at hk hl hn ⊢;(try simp only[dE,dr,amx,amy])
 have ht:List.take (n+1) (rows aP l)=rows aP l:=amf (by simp[hl]);cases k with
 | zero =>
   have e0:decide ((0:Int)<((0:Nat):Int))=false:=by decide
   have hr:R=l:=hn;subst hr;refine aF e0 ?_;refine⟨_,(by first|rfl|exact evd),.inl ?_⟩;exact U5 ht hl
 | succ k =>
   have e0:decide ((0:Int)<((k+1:Nat):Int))=true:=au (by omega);have hw:IntKind.i64.wrap (((k+1:Nat):Int)-1)=(k:Int):=by rw[aL (by omega) (by omega)];omega
   have hg1:(rows aP l).getD (k+1) []=aP (bm l (k+1)):=aS (f:=aP) gT (by omega);have hg2:(rows aP l).getD k []=aP (bm l k):=aS (f:=aP) gT (by omega);have hsk:nS l (k+1)=if gC (bm l (k+1)) (bm l k)=true then nS ((l.set (k+1) (bm l k)).set k (bm l (k+1))) k else l:=rfl
   rw[hsk]at hn;have hset:∀ (m:List Req) (j:Nat) (x:Req),(rows aP m).set j (aP x)=rows aP (m.set j x):=fun m j x=>F2 aP m j x
   unfold gC at hn;generalize ha:bm l (k+1)=a at *;generalize hb2:bm l k=b at *;have hg3:(rows aP (l.set (k+1) b)).getD k []=aP ((l.set (k+1) b).getD k gT):=aS (f:=aP) gT (by simp;omega);have hlt1:k+1<n+1:=by omega
   have hlt2:k<n+1:=by omega
   by_cases q1:a.due<b.due
   ·have e1:=au q1;rw[e1,alp,al7 rfl]at hn;refine eV e0 hg1 hg2 hw e1 hl ?_;refine ax ?_;refine eV hg1 hg2 hg3 hw hl hset ?_;refine⟨(k,(l.set (k+1) b).set k a),⟨by dsimp only;omega,by simp[hl],hn⟩,by dsimp only;omega,?_⟩;exact ais [] [0,1,2,3]
   have e1:=aA q1;rw[e1,aj9]at hn;by_cases q2:a.due=b.due
   ·have e2:(a.due==b.due)=true:=by simp[q2]
    rw[au q2,am2]at hn;by_cases q3:a.tag<b.tag
    ·have e3:=au q3;rw[e3,al7 rfl]at hn;refine mP e0 hg1 hg2 hw e1 e2 e3 hl ?_;refine ax ?_;refine eV hg1 hg2 hg3 hw hl hset ?_;refine⟨(k,(l.set (k+1) b).set k a),⟨by dsimp only;omega,by simp[hl],hn⟩,by dsimp only;omega,?_⟩;exact ais [] [0,1,2,3]
    ·have e3:=aA q3;rw[e3,al5 (by simp)]at hn;subst hn;refine mP e0 hg1 hg2 hw e1 e2 e3 hl ?_;refine agE ?_;refine⟨_,(by first|rfl|exact evd),.inl ?_⟩;exact U5 ht hl
   ·have e2:(a.due==b.due)=false:=by simp[q2]
    rw[aA q2,ajq,al5 (by simp)]at hn;subst hn;refine jO e0 hg1 hg2 hw e1 e2 hl ?_;refine agE ?_;refine⟨_,(by first|rfl|exact evd),.inl ?_⟩;exact U5 ht hl
theorem Q4(s:aI)(r:Req)(h:StR s.sto)(hy:s.rets.length<=1000):PC Tryz.prog 296 [.agg (aV s.a),.agg (aP r)] (.agg (aV (lO s r).a)):=by
 have tl:=T7 s (s.rets++[jC s r]) s.rets.length (by simp) (by omega) (jC s r);refine pfn 7 H2 ?_;have hc:dl=.seq dl.hd (.seq (dl.tl 1).hd (.seq (dl.tl 2).hd (.seq (dl.tl 3).hd (.seq (dl.tl 4).hd (.seq (dl.tl 5).hd (dl.tl 6)))))):=rfl;rw[hc];clear hc;generalize dl.tl 6=cT at *;unfold dl;refine bd ?_;simp only[ab.tl,ab.hd];have c1:=FU s h r.block;have c2:=QF (IntKind.i64.wrap (r.tries+1)) s.sto.cfg.lim.backoff (XM _);unfold lO;generalize Cz s.sto r.block=B at *;cases B with
 | false =>
   rw[al7 rfl];refine gon ?_;refine am c1 ?_;refine aX ?_;exact ai
 | true =>
   rw[al5 (by simp)];by_cases q:s.sto.cfg.lim.retry<=s.rets.length
   ·have e1:decide (s.sto.cfg.lim.retry<=(s.rets.length:Int))=true:=au q;rw[al7 q];refine gon ?_;refine am c1 ?_;refine dQ ?_;refine aM e1 ?_;exact ai
   ·have e1:decide (s.sto.cfg.lim.retry<=(s.rets.length:Int))=false:=aA q;have hsn:rows aP s.rets++[aP (jC s r)]=rows aP (s.rets++[jC s r]):=cR aP s.rets _;have hlr:aP { tag:=r.tag,block:=r.block,tries:=IntKind.i64.wrap (r.tries+1),due:=IntKind.u64.wrap (s.sto.now+vx (IntKind.i64.wrap (r.tries+1)) s.sto.cfg.lim.backoff) }=aP (jC s r):=rfl;rw[al5 q];refine gon ?_;refine am c1 ?_;refine dQ ?_;refine aF e1 ?_;refine aK (c2) ?_;refine dC hlr hsn lu ?_;refine eg ?_ tl;exact ais [] [0,1,2,5]
theorem ZF(s:ap)(h:StR s):PC Tryz.prog 239 [.agg (aE s.a)] (.agg (rtc (WX s))):=by
 refine pfn 4 OQ ?_;unfold AX;refine bd ?_;have c1:=cC s.nodes s.j.rt h.bn;have b1:=fM s.nodes s.j.rt;unfold WX;generalize aj s.nodes s.j.rt=I at *;refine gon ?_;refine am c1 ?_;by_cases q:0<=I
 ·have e1:=au q
  have hg:=dy (t:=s.nodes) (i:=I.toNat) (by omega);by_cases q2:(nod s.nodes I.toNat).status=1
  ·have e2:((nod s.nodes I.toNat).status==1)=true:=by simp[q2]
   rw[al7 ⟨q,q2⟩];refine fI e1 hg e2 ?_;exact ai
  ·have e2:((nod s.nodes I.toNat).status==1)=false:=by simp[q2]
   rw[al5 (fun h=>q2 h.2)];refine wg e1 hg e2 ?_;exact ai
 ·have e1:=aA q;rw[al5 (fun h=>q h.1)];refine aF e1 ?_;exact ai
theorem abo{s:ap}(h:StR s):0<=HY s/\HY s<s.nodes.length:=by
 have h1:=fM s.nodes s.j.rt;have h2:=Rx h.tree (nk s) (Il s) (s.nodes.length+1) (aj s.nodes s.j.rt) (by omega);have h3:=h.jf;unfold HY;omega
theorem aaM(s:ap)(h:StR s):PC Tryz.prog 153 [.agg (aE s.a)] (.agg (AZ (X3 s))):=by
 refine pfn 3 FW ?_;unfold tM;refine bd ?_;have c1:=Yu s h;have c2:=ZF s h;have hb:=abo h;unfold X3;generalize HY s=I at *;generalize WX s=S at *;have hg:=dy (t:=s.nodes) (i:=I.toNat) (by omega);refine gon ?_;refine aK (c1) ?_;refine ah hg ?_;refine aK (c2) ?_;refine gon ?_;exact ai
theorem MB(s:aI)(h:StR s.sto):PC Tryz.prog 76 [.agg (aV s.a)] (.tup [.agg (aV (io s).1.a),.sl 96 false (rows AZ (io s).2)]):=by
 refine PC.fact 5 OO (by simp) puA ⟨aI.pul _,fm _,trivial⟩ ?_;have c1:=aaM s.sto h;unfold io;generalize X3 s.sto=C at *;by_cases q:s.sent=true/\s.last=C
 ·rw[al7 q];obtain⟨q1,q2⟩:=q;have e2:decide (s.last=C)=true:=au q2;unfold kz;refine bd ?_;refine gon ?_;refine am c1 ?_;refine cH q1 e2 ?_;refine⟨_,(by first|rfl|exact evd),.inr ⟨.tup [.agg (aV s.a),.sl 0 true []],?_,⟨aI.pul _,trivial,trivial⟩,Wk.tup ⟨Wk.refl _,Wk.empty _ _ _,trivial⟩⟩⟩;exact evd
 ·rw [al5 q]
  have key:∀b:Bool,s.sent=b->(b=true->decide (s.last=C)=false)->Tri Tryz.prog 23 0 kz (PQ [.cell 2 true 252,.tmp 3] (.tup [.agg (aV (aI.a ⟨s.sto,s.reqs,s.rets,s.tag,true,C,s.over,s.halt⟩)),.sl 96 false (rows AZ [C])])) ⟨5,[.agg (aV s.a),.dead,.dead,.dead,.dead],[]⟩ []:=by
   intro b h1 h2;cases b with
   | false =>
     unfold kz;dsimp only[nfO,Int.reduceOfNat,Int.reduceNegSucc,wA,wB,wC,wD,wE,wF,wG,wH,wI,wJ,wK,wL,wM,wN,wO,wP,wQ,wR,wS,wT,wU,wV,wW,wX,wY,wZ,om,oo,on,omg,og,ong,ci,cu,cb,cf,fA,lA,lF,bI,bC,sO,eX,lN,iX,kA,kB,kC,sR,cN];refine gon ?_;refine am c1 ?_;refine aF h1 ?_;refine⟨_,(by first|rfl|exact evd),.inr ⟨.tup [.agg (aV (aI.a ⟨s.sto,s.reqs,s.rets,s.tag,true,C,s.over,s.halt⟩)),.sl 96 true (rows AZ [C])],?_,⟨aI.pul _,fm _,trivial⟩,Wk.tup ⟨Wk.refl _,Wk.open_ _ _ _,trivial⟩⟩⟩;exact evd
   | true =>
     have e2:=h2 rfl;unfold kz;dsimp only[nfO,Int.reduceOfNat,Int.reduceNegSucc,wA,wB,wC,wD,wE,wF,wG,wH,wI,wJ,wK,wL,wM,wN,wO,wP,wQ,wR,wS,wT,wU,wV,wW,wX,wY,wZ,om,oo,on,omg,og,ong,ci,cu,cb,cf,fA,lA,lF,bI,bC,sO,eX,lN,iX,kA,kB,kC,sR,cN];refine gon ?_;refine am c1 ?_;refine fU h1 e2 ?_;refine⟨_,(by first|rfl|exact evd),.inr ⟨.tup [.agg (aV (aI.a ⟨s.sto,s.reqs,s.rets,s.tag,true,C,s.over,s.halt⟩)),.sl 96 true (rows AZ [C])],?_,⟨aI.pul _,fm _,trivial⟩,Wk.tup ⟨Wk.refl _,Wk.open_ _ _ _,trivial⟩⟩⟩;exact evd
  exact key s.sent rfl fun hb=>aA fun hl=>q ⟨hb,hl⟩
end Go.Proofs.YtflhnmleodkjiaaGreat
