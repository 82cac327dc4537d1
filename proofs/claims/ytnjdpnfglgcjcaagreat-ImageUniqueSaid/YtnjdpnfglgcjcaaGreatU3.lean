/- Joined. -/
import Derived.Test.YtnjdpnfglgcjcaaGreatU2
import Derived.Test.YtnjdpnfglgcjcaaGreatV7
set_option linter.unusedVariables false
set_option linter.unusedSimpArgs false
set_option maxRecDepth 8000
set_option maxHeartbeats 4000000
namespace Go.Proofs.YtnjdpnfglgcjcaaGreat
open Go Go.FH Go.RowKit
theorem aiR(n:Nat)(bits:Int)(hn:n<=2097152):agW Tryz.prog 31 0 (AW.tl 2).hd ⟨7,[.int .i64 n,.int .i64 bits,.dead,.dead,.sl 0 true [],.hs 1 0 0 0,.dead],[]⟩ [.vec 1 []]
 ⟨7,[.int .i64 n,.int .i64 bits,.dead,.dead,.sl 0 true [],.hs 1 0 0 (C8 bits n).length,.dead],[]⟩ [.vec 1 (aH .i64 (C8 bits n))]:=by
 refine Cf ?_;unfold AW;refine bd ?_;simp only[ab.tl,ab.hd];refine gon ?_;have hz:C8 bits 0=[]:=rfl;refine az (fun i:Nat=>[(6,.int .i64 i),(5,.hs 1 0 0 (C8 bits i).length)]) (fun i=>[.vec 1 (aH .i64 (C8 bits i))]) (fun i=>n-i) (fun i=>i<=n) 0 (amc _) ?_ ?_
 ·rw[hz];exact ais [] [0]
 intro i hi;have hlen:=KX bits i;refine dp ?_;by_cases h1:i<n
 ·have e1:=inT h1
  have hw:=af h1 (by omega);have hu:IntKind.u64.wrap (i:Int)=(i:Int):=aN (by omega) (by omega);have hs:=ad1 bits i;have hnum:∀l:List Int,aH .i64 l++[[.int .i64 (i:Int)]]=aH .i64 (l++[(i:Int)]):=fun l=>kP .i64 l [(i:Int)]
  cases hq:(lI .i64 (fJ .i64 bits i) 1==1)with
  | true =>
    rw[hq,al7 rfl]at hs;refine bw e1 ?_;refine mQ hu hq ?_;refine aZ hw hnum ?_;refine⟨i+1,h1,by omega,?_⟩;simp only[hs,akC,al8,ama,amO];exact ais [] [1]
  | false =>
    rw[hq,al5 (by simp)]at hs;refine bw e1 ?_;refine fp hu hq ?_;refine ah hw ?_;refine⟨i+1,h1,by omega,?_⟩;simp only[hs];exact ais [] [0]
 ·obtain rfl:i=n:=by omega
  have e1:decide ((i:Int)<(i:Int))=false:=aA (by omega);refine aF e1 ?_;exact ais [] [0]
theorem aio(n:Nat)(bits:Int)(h0:0<n)(hn:n<=2097152):(∃l:List Int,l.length<=n/\ay Tryz.prog 100 [.int .i64 n,.int .i64 bits] [] (.hs 1 0 0 l.length) [.vec 1 (aH .i64 l)]) \/
 PC Tryz.prog 100 [.int .i64 n,.int .i64 bits] (.sl 1 true (aH .i64 [0])):=by
 have hg:=aiR n bits hn;have hc:AW=.seq AW.hd (.seq (AW.tl 1).hd (.seq (AW.tl 2).hd (AW.tl 3))):=rfl;have e3:decide ((0:Int)<(n:Int))=true:=au (by omega);have hlen:=KX bits n;by_cases hq:C8 bits n=[]
 ·right
  refine PC.fact 7 Km (by simp) puA puA ?_;rw[hc];generalize (AW.tl 2).hd=L at *;unfold AW;refine bd ?_;simp only[ab.hd,ab.tl];rw[hq]at hg;refine gon ?_;refine jx 5 1 ?_;simp only[go_sem];refine hg _ _ _ ?_;refine aM e3 ?_;exact ai
 ·left
  have hp:0<(C8 bits n).length:=ajX.2 hq;refine⟨C8 bits n,hlen,ay.fact 7 Km (by simp) ?_ (by simp)⟩;rw[hc];generalize (AW.tl 2).hd=L at *;unfold AW;refine bd ?_;simp only[ab.hd,ab.tl];generalize C8 bits n=l at *;have e4:((l.length:Int)==0)=false:=by rw[<-amZ,am0];omega
  refine gon ?_;refine jx 5 1 ?_;simp only[go_sem];refine hg _ _ _ ?_;refine aF e4 ?_;exact ahY [] [0]
structure ai1(x:bp):Prop where
 slot:U64 x.slot
 ep:U64 x.target.ep
 len:x.vals.length<=10
section
variable{fr:Fr}{σ:St}{rs:List gN}{G:bp->Prop}{l:List AV}{a:Int}{b:Rt}{c:Cp}{d:List Int}
theorem adX(hl:dH fr σ rs=some l)(hv:fz σ (List.range σ.length) (gk l)=.agg (cy ⟨a,b,c,.sl 1 false (aH .i64 d)⟩))(hg:G ⟨a,b,c,d⟩):Sm G fun x=>PQ rs (.agg (cy x.a)) .ret fr σ:=⟨_,hg,l,hl,.inl hv⟩
theorem ain(hl:dH fr σ rs=some l)(hv:fz σ (List.range σ.length) (gk l)=.agg (cy ⟨a,b,c,.sl 1 true (aH .i64 d)⟩))(hg:G ⟨a,b,c,d⟩):Sm G fun x=>PQ rs (.agg (cy x.a)) .ret fr σ:=
 ⟨_,hg,l,hl,.inr ⟨_,hv,(fB _).2 (bE _ _),Wk.agg (WkC.same _ ((WkC.refl _).app ((WkC.refl _).app (WkC.one (Wk.open_ _ _ _) fun h=>h))))⟩⟩
end
theorem aec(s:ap)(i:Nat)(hi:bP s i)(k:Int)(hk:0<=k):Sm ai1 fun x=>PC Tryz.prog 45 [.agg (aE s.a),.int .i64 k] (.agg (cy x.a)):=by
 have hr:=hi.r;have hpos:=hi.tree.pos;have hb0:=hi.cfg.b0;have hb1:=hi.cfg.b1;have hnw:=hi.nw.1;have huf:=hi.uf;have hsp:=hi.cfg.s1;have hs0:=aio s.cfg.bals.length (fJ .i64 k 3) hb0 (by omega);obtain⟨p,hp,hp'⟩:=dF hk hpos;obtain⟨p4,hp4,hp4'⟩:=dF (FO 4 hk) hpos;have hg:=dy (t:=s.nodes) hp';have hg4:=dy (t:=s.nodes) hp4';rcases hs0 with⟨l,hl,cs⟩|cs
 ·refine md 7 GG (by simp) puA (fun r _=>puA) ?_
  unfold DS;refine bd ?_;repeat(first|refine cM ?_|simp only[go_sem,hp,hg])
  refine iR (fun r hr=>aQ [] cs (by simp) evd (bj.mk' (by simp) (by simp) evd) hr) ?_;repeat(first|refine lz ?_|simp only[go_sem,hg])
  generalize (nod s.nodes p).blk.root=r0 at *;refine dv ?_;refine DO U64 (fun x:Int=>cy ⟨x,r0,⟨0,rt0⟩,.hs 1 2 0 l.length⟩) 3 [] ?_ (fun x hx=>?_)
  ·repeat'(first|refine cM ?_|(refine bR (fun h=>?_) (fun h=>?_)<;>try(exact absurd h (by decide)))|refine eo (fun h=>?_) (fun h=>?_))
   all_goals(refine C7 (fun x:Int=>cy ⟨x,r0,⟨0,rt0⟩,.hs 1 2 0 l.length⟩) 3 rfl ?_ (by exact ais [] [0,1,2,3]);first|assumption|exact cO _)
  (try simp only[dr])
  refine cM ?_;generalize hE:IntKind.u64.wrap (Int.tdiv x s.cfg.spe)=E at *;have hE':U64 E:=hE▸cO _;have hc:=Ps (s:=s) (i:=(p:Int)) huf hE';have c1:=Ny s hr p E;generalize abW s p E=c at *;refine dZ c1 ?_;repeat'(first|refine cM ?_|simp only[go_sem,hg4,hp4,o7]|(refine bR (fun h=>?_) (fun h=>?_)<;>try(exact absurd h (by decide)))|refine eo (fun h=>?_) (fun h=>?_))
  all_goals try(refine db (ig _) ?_;refine cM ?_)
  all_goals(refine adX (by first|rfl|exact evd) (by first|rfl|exact evd) ?_)
  all_goals(constructor<;>(try dsimp only)<;>first|assumption|exact cO _|exact Ps huf (cO _)|(simp only[akC,al8,ama];omega)|omega)
 ·refine md 7 GG (by simp) puA (fun r _=>puA) ?_
  unfold DS;refine bd ?_;repeat(first|refine cM ?_|simp only[go_sem,hp,hg])
  refine dZ cs ?_;repeat(first|refine lz ?_|simp only[go_sem,hg])
  generalize (nod s.nodes p).blk.root=r0 at *;refine dv ?_;refine DO U64 (fun x:Int=>cy ⟨x,r0,⟨0,rt0⟩,.sl 1 true (aH .i64 [0])⟩) 3 [] ?_ (fun x hx=>?_)
  ·repeat'(first|refine cM ?_|(refine bR (fun h=>?_) (fun h=>?_)<;>try(exact absurd h (by decide)))|refine eo (fun h=>?_) (fun h=>?_))
   all_goals(refine C7 (fun x:Int=>cy ⟨x,r0,⟨0,rt0⟩,.sl 1 true (aH .i64 [0])⟩) 3 rfl ?_ (by exact ais [] [0,1,2,3]);first|assumption|exact cO _)
  (try simp only[dr])
  refine cM ?_;generalize hE:IntKind.u64.wrap (Int.tdiv x s.cfg.spe)=E at *;have hE':U64 E:=hE▸cO _;have hc:=Ps (s:=s) (i:=(p:Int)) huf hE';have c1:=Ny s hr p E;generalize abW s p E=c at *;refine dZ c1 ?_;repeat'(first|refine cM ?_|simp only[go_sem,hg4,hp4,o7]|(refine bR (fun h=>?_) (fun h=>?_)<;>try(exact absurd h (by decide)))|refine eo (fun h=>?_) (fun h=>?_))
  all_goals try(refine db (ig _) ?_;refine cM ?_)
  all_goals first|(refine ain (by first|rfl|exact evd) (by first|rfl|exact evd) ?_)|(refine adX (by first|rfl|exact evd) (by first|rfl|exact evd) ?_)
  all_goals(constructor<;>(try dsimp only)<;>first|assumption|exact cO _|exact Ps huf (cO _)|(simp only[akC,al8,ama];omega)|(simp;done)|omega)
structure ai3(x:aW):Prop where
 ep:U64 x.cp.ep
 len:x.bals.length<=10
 bals:∀n∈x.bals,U64 n
def S4(k:Int)(n:Nat):List Int:=(List.range n).map fun v=>IntKind.u64.wrap (Int.tmod (fJ .i64 k v) 50)
theorem ZX(k:Int)(n:Nat):(S4 k n).length=n:=by simp[S4]
theorem ai5(k:Int)(n:Nat):S4 k (n+1)=S4 k n++[IntKind.u64.wrap (Int.tmod (fJ .i64 k n) 50)]:=by simp[S4,ake]
theorem ai6(k:Int)(n:Nat):∀x∈S4 k n,U64 x:=fun x hx=>by
 unfold S4 at hx;obtain⟨v,_,rfl⟩:=amV.1 hx;exact cO _
theorem aiT(c:Cp)(u v:AV):(bS ⟨c,u⟩).set 33 v=bS ⟨c,v⟩:=by
 unfold bS;rw[akI 33 _ (by rw[aD];exact amb _),aD];rfl
theorem aiS(c:Cp)(u:AV):(bS ⟨c,u⟩).getD 33 .dead=u:=by
 unfold bS;rw[alt,amX (by rw[aD];exact amb _),aD];rfl
theorem ahF(k:IntKind)(l:List Int)(i:Nat)(x:Int):(aH k l).set i [.int k x]=aH k (l.set i x):=by simp[aH,List.map_set]
section
variable{fr:Fr}{σ:St}{rs:List gN}{G:aW->Prop}{l:List AV}{c:Cp}{d:List Int}
theorem aiQ(hl:dH fr σ rs=some l)(hv:fz σ (List.range σ.length) (gk l)=.agg (bS ⟨c,.sl 1 false (aH .u64 d)⟩))(hg:G ⟨c,d⟩):Sm G fun x=>PQ rs (.agg (bS x.a)) .ret fr σ:=⟨_,hg,l,hl,.inl hv⟩
end
theorem aek(s:ap)(i:Nat)(hi:bP s i)(k:Int)(hk:0<=k):Sm ai3 fun x=>PC Tryz.prog 46 [.agg (aE s.a),.int .i64 k] (.agg (bS x.a)):=by
 have hr:=hi.r;have hpos:=hi.tree.pos;have hb0:=hi.cfg.b0;have hb1:=hi.cfg.b1;have hnw:=hi.nw.1;have huf:=hi.uf;have hsp:=hi.cfg.s1;obtain⟨p,hp,hp'⟩:=dF hk hpos;have hg:=dy (t:=s.nodes) hp';have hu:=(hi.blk hp').j;generalize (nod s.nodes p)=up at *;refine md 8 X4 (by simp) puA (fun r _=>puA) ?_;unfold NB;refine bd ?_;refine dv ?_;refine gU ?_;refine dv ?_;repeat(first|refine gU ?_|simp only[go_sem,hp])
 refine dv ?_;repeat(first|refine gU ?_|simp only[go_sem,hg])
 refine dv ?_;refine DO (fun c:Cp=>U64 c.ep) (fun c:Cp=>bS ⟨c,.sl 0 true []⟩) 2 [] ?_ (fun c hc=>?_)
 ·repeat'(first|refine cM ?_|(refine bR (fun h=>?_) (fun h=>?_)<;>try(exact absurd h (by decide)))|refine eo (fun h=>?_) (fun h=>?_))
  ·refine dZ (Ny s hr p _) ?_;repeat'(first|refine cM ?_|(refine bR (fun h=>?_) (fun h=>?_)<;>try(exact absurd h (by decide)))|refine eo (fun h=>?_) (fun h=>?_))
   refine C7 (fun c:Cp=>bS ⟨c,.sl 0 true []⟩) 2 rfl ?_ (by exact ais [] [0,1,2]);exact Ps huf (cO _)
  ·refine C7 (fun c:Cp=>bS ⟨c,.sl 0 true []⟩) 2 rfl ?_ (by exact ais [] [0,1,2]);assumption
 (try simp only[dr])
 refine dv ?_;generalize hN:s.cfg.bals.length=N at *;refine I6 (fun l:List Int=>l.length=N/\∀n∈l,U64 n) (fun _=>[]) (fun l=>[.var (aE s.a),.var (bS ⟨⟨0,rt0⟩,.sl 0 true []⟩),.var (bS ⟨c,.hs 1 3 0 l.length⟩),.vec 1 (aH .u64 l)]) ?_ (fun l hl=>?_)
 ·refine W3 (S4 k N) ⟨ZX k N,ai6 k N⟩ ?_
  refine gon ?_;refine pS 2 33 1 ?_ (by rfl) (by exact aiS _ _);simp only[go_sem,aiT];refine az (fun i:Nat=>[(7,.int .i64 i)]) (fun i=>[.var (aE s.a),.var (bS ⟨⟨0,rt0⟩,.sl 0 true []⟩),.var (bS ⟨c,.hs 1 3 0 (S4 k i).length⟩),.vec 1 (aH .u64 (S4 k i))]) (fun i=>N-i) (fun i=>i<=N) 0 (amc _) ?_ ?_
  ·rw[show S4 k 0=[]from rfl];exact ais [] [0,1,2,3]
  intro i hi;have hlen:=ZX k i;by_cases h1:i<N
  ·have e1:decide ((i:Int)<(s.cfg.bals.length:Int))=true:=au (by omega);have hw:=af h1 (by omega);have hu:IntKind.u64.wrap (i:Int)=(i:Int):=aN (by omega) (by omega);have hs:=ai5 k i;refine bw e1 ?_;refine aZ hu hw ?_;refine⟨i+1,h1,by omega,?_⟩;rw[hs];exact ais [] [0,1,2,4]
  ·obtain rfl:i=N:=by omega
   have e1:decide ((i:Int)<(s.cfg.bals.length:Int))=false:=aA (by omega);refine aF e1 ?_;exact ais [] [0,1,2,3]
 obtain⟨hl1,hl2⟩:=hl;have hgd:=gdn (k:=.u64) (ns:=l) (i:=0) (by omega);repeat'(first|refine cM ?_|simp only[go_sem,ahF,hgd]|(refine bR (fun h=>?_) (fun h=>?_)<;>try(exact absurd h (by decide)))|refine eo (fun h=>?_) (fun h=>?_))
 all_goals(refine aiQ (by first|rfl|exact evd) (by first|rfl|exact evd) ?_)
 ·refine⟨hc,by simp only[akC,al8,ama];omega,fun n hn=>?_⟩;rcases amm.1 hn with h|h
  ·exact hl2 n h
  ·rw[amn]at h;subst h;exact⟨by decide,by decide⟩
 ·refine⟨hc,by simp only[akB];omega,fun n hn=>?_⟩;rcases akU hn with h|rfl
  ·exact hl2 n h
  ·exact⟨by decide,by decide⟩
 ·exact⟨hc,by dsimp only;omega,hl2⟩
structure ajm(v:Vdt):Prop where
 tag:U64 v.tag
 lo:1<=v.kind
 hi:v.kind<=4
theorem aen(s:aI)(i:Nat)(hi:fQ s i)(k:Int)(hk:0<=k):Sm ajm fun v=>PC Tryz.prog 85 [.agg (aV s.a),.int .i64 k] (.agg (ek v)):=by
 have hr:=hi.sto.r;have hpos:=hi.sto.tree.pos;have hrq:=hi.rq;have hii:=hi.sto.ii;have hut:=hi.ut;obtain⟨p,hp,hp'⟩:=dF hk hpos;have hg:=dy (t:=s.sto.nodes) hp';obtain⟨q,hq,hq'⟩:=dF (n:=6) (FO 4 hk) (by decide)
 obtain⟨kd,hkd,hk1,hk4⟩:∃kd:Int,([[.int .i64 1],[.int .i64 1],[.int .i64 2],[.int .i64 2],[.int .i64 3],[.int .i64 4]]:List (List AV)).getD q []=[.int .i64 kd]/\1<=kd/\kd<=4:=by
  match q,hq' with
  |0,_|1,_=>exact⟨1,rfl,by decide,by decide⟩
  |2,_|3,_=>exact⟨2,rfl,by decide,by decide⟩
  |4,_=>exact⟨3,rfl,by decide,by decide⟩
  |5,_=>exact⟨4,rfl,by decide,by decide⟩
 have hq6:Int.tmod (fJ .i64 k 4) 6=(q:Int):=hq;refine md 11 TJ (by simp) puA (fun r _=>puA) ?_;unfold JU;refine bd ?_;refine dv ?_;refine gU ?_;refine dv ?_;repeat(first|refine gU ?_|simp only[go_sem,hq6,hkd])
 refine dv ?_;repeat(first|refine gU ?_|simp only[go_sem,hp,hg])
 generalize (nod s.sto.nodes p).blk.root=r0 at *;generalize hT:IntKind.u64.wrap (k.tmod 9)=T at *;have hT':U64 T:=hT▸cO _;refine dv ?_;refine I6 (fun b:Int×Rt=>U64 b.1) (fun _=>[(7,.int .i64 s.reqs.length)]) (fun b=>[.var (aV s.a),.var (ek ⟨0,0,rt0⟩),.var (ek ⟨b.1,kd,rt0⟩),.var (rtc b.2)]) ?_ (fun b hb=>?_)
 ·by_cases hrl:0<s.reqs.length
  ·obtain⟨q1,h1,h1'⟩:=dF (FO 11 hk) hrl;have e1:decide ((0:Int)<(s.reqs.length:Int))=true:=au (by omega);have hg1:(rows aP s.reqs).getD q1 []=aP (bm s.reqs q1):=aS (f:=aP) gT h1';have hq1:=hut _ (pM h1');generalize bm s.reqs q1=R at *;repeat'(first|refine cM ?_|simp only[go_sem,e1,h1,hg1]|(refine bR (fun h=>?_) (fun h=>?_)<;>try(exact absurd h (by decide)))|refine eo (fun h=>?_) (fun h=>?_))
   ·exact⟨(R.tag,R.block),hq1,by exact ais [] [0,1,2,3]⟩
   all_goals exact⟨(T,r0),hT',by exact ais [] [0,1,2,3]⟩
  ·have e1:decide ((0:Int)<(s.reqs.length:Int))=false:=aA (by omega);repeat'(first|refine cM ?_|simp only[go_sem,e1]|(refine bR (fun h=>?_) (fun h=>?_)<;>try(exact absurd h (by decide)))|refine eo (fun h=>?_) (fun h=>?_))
   exact⟨(T,r0),hT',by exact ais [] [0,1,2,3]⟩
 obtain⟨T1,r1⟩:=b;simp only[dE,dr,amx,amy]at hb ⊢;refine cM ?_;refine db (cC s.sto.nodes r1 hr.bn) ?_;generalize aj s.sto.nodes r1=I;refine lz ?_;refine dv ?_;have cp:=sd s.sto.nodes hr.tree.ok hr.bn I;have hpm:=fun x hx=>gu (x:=x) hr.tree.ok (i:=I) hx
 have hpl:=pF hr.tree.ok I;have hbn:=hr.bn;generalize AI s.sto.nodes I=L at *;refine DO (fun _:Rt=>True) (fun r:Rt=>ek ⟨T1,kd,r⟩) 2 [] ?_ (fun r2 _=>?_)
 ·by_cases hrl:0<L.length
  ·obtain⟨q1,h1,h1'⟩:=dF (FO 16 hk) hrl;have e1:decide ((0:Int)<(L.length:Int))=true:=au (by omega);have hg1:=gdn (k:=.i64) h1';have hm:=hpm _ (bK 0 h1');obtain⟨u,hu⟩:=ajO hm.1;rw[hu]at hg1 hm;have hg2:=dy (t:=s.sto.nodes) (i:=u) (by omega);refine cM ?_;refine db cp ?_;repeat'(first|refine cM ?_|simp only[go_sem,e1,h1,hg1,hg2]|(refine bR (fun h=>?_) (fun h=>?_)<;>try(exact absurd h (by decide)))|refine eo (fun h=>?_) (fun h=>?_))
   all_goals refine C7 (fun r:Rt=>ek ⟨T1,kd,r⟩) 2 rfl trivial (by exact ais [] [0,1,2,3])
  ·have e1:decide ((0:Int)<(L.length:Int))=false:=aA (by omega);refine cM ?_;refine db cp ?_;repeat'(first|refine cM ?_|simp only[go_sem,e1]|(refine bR (fun h=>?_) (fun h=>?_)<;>try(exact absurd h (by decide)))|refine eo (fun h=>?_) (fun h=>?_))
   refine C7 (fun r:Rt=>ek ⟨T1,kd,r⟩) 2 rfl trivial (by exact ais [] [0,1,2,3])
 (try simp only[dr])
 repeat'(first|refine cM ?_|(refine bR (fun h=>?_) (fun h=>?_)<;>try(exact absurd h (by decide)))|refine eo (fun h=>?_) (fun h=>?_))
 ·refine db (ig _) ?_;refine cM ?_;refine I5 (by first|rfl|exact evd) (by first|rfl|exact evd) ?_;exact⟨hb,hk1,hk4⟩
 ·refine I5 (by first|rfl|exact evd) (by first|rfl|exact evd) ?_;exact⟨hb,hk1,hk4⟩
end Go.Proofs.YtnjdpnfglgcjcaaGreat
