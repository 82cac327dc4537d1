/-
 My texts Mc, Md, joined.
-/
import Derived.Test.YtnjdpnfglgcjcaaGreatU2
import Derived.Test.YtnjdpnfglgcjcaaGreatV7
set_option linter.unusedVariables false
set_option linter.unusedSimpArgs false
set_option maxRecDepth 8000
set_option maxHeartbeats 4000000
namespace Go.Proofs.YtnjdpnfglgcjcaaGreat
open Go Go.FH Go.RowKit
theorem aaK(n:Nat)(bits:Int)(hn:n<=1000000):ab9 Tryz.prog 31 0 (dW.tl 2).hd ⟨7,[.int .i64 n,.int .i64 bits,.dead,.dead,.sl 0 true [],.hs 1 0 0 0,.dead],[]⟩ [.vec 1 []]
 ⟨7,[.int .i64 n,.int .i64 bits,.dead,.dead,.sl 0 true [],.hs 1 0 0 (iR bits n).length,.dead],[]⟩ [.vec 1 (ax .i64 (iR bits n))]:=by
 refine Dp ?_;unfold dW;refine bd ?_;simp only[ab.tl,ab.hd];refine gon ?_;have hz:iR bits 0=[]:=rfl;refine ay (fun i:Nat=>[(6,.int .i64 i),(5,.hs 1 0 0 (iR bits i).length)]) (fun i=>[.vec 1 (ax .i64 (iR bits i))]) (fun i=>n-i) (fun i=>i<=n) 0 (Nat.zero_le _) ?_ ?_
 ·rw[hz];exact adk [] [0]
 intro i hi;have hlen:=ux bits i;refine dM ?_;by_cases h1:i<n
 ·have e1:=inT h1
  have hw:=ah h1 (by omega);have hu:IntKind.u64.wrap (i:Int)=(i:Int):=aU (by omega) (by omega);have hs:=TD bits i;have hnum:∀l:List Int,ax .i64 l++[[.int .i64 (i:Int)]]=ax .i64 (l++[(i:Int)]):=fun l=>jn .i64 l [(i:Int)]
  cases hq:(gr .i64 (fH .i64 bits i) 1==1)with
  | true =>
    rw[hq,if_pos rfl]at hs;refine bg e1 ?_;refine im hu hq ?_;refine aO hw hnum ?_;refine⟨i+1,h1,by omega,?_⟩;simp only[hs,List.length_append,List.length_cons,List.length_nil,Nat.zero_add];exact adk [] [1]
  | false =>
    rw[hq,if_neg (by simp)]at hs;refine bg e1 ?_;refine dD hu hq ?_;refine ap hw ?_;refine⟨i+1,h1,by omega,?_⟩;simp only[hs];exact adk [] [0]
 ·obtain rfl:i=n:=by omega
  have e1:decide ((i:Int)<(i:Int))=false:=au (by omega);refine aD e1 ?_;exact adk [] [0]
theorem YW(n:Nat)(bits:Int)(h0:0<n)(hn:n<=1000000):(∃l:List Int,l.length<=n/\aI Tryz.prog 100 [.int .i64 n,.int .i64 bits] [] (.hs 1 0 0 l.length) [.vec 1 (ax .i64 l)]) \/
 PC Tryz.prog 100 [.int .i64 n,.int .i64 bits] (.sl 1 true (ax .i64 [0])):=by
 have hg:=aaK n bits hn;have hc:dW=.seq dW.hd (.seq (dW.tl 1).hd (.seq (dW.tl 2).hd (dW.tl 3))):=rfl;have e3:decide ((0:Int)<(n:Int))=true:=ak (by omega);have hlen:=ux bits n;by_cases hq:iR bits n=[]
 ·right
  refine PC.fact 7 sS (by simp) puA puA ?_;rw[hc];generalize (dW.tl 2).hd=L at *;unfold dW;refine bd ?_;simp only[ab.hd,ab.tl];rw[hq]at hg;refine gon ?_;refine eY 5 1 ?_;simp only[go_sem];refine hg _ _ _ ?_;refine aE e3 ?_;exact af
 ·left
  have hp:0<(iR bits n).length:=List.length_pos_iff.2 hq;refine⟨iR bits n,hlen,aI.fact 7 sS (by simp) ?_ (by simp)⟩;rw[hc];generalize (dW.tl 2).hd=L at *;unfold dW;refine bd ?_;simp only[ab.hd,ab.tl];generalize iR bits n=l at *;have e4:((l.length:Int)==0)=false:=by rw[<-Bool.not_eq_true,beq_iff_eq];omega
  refine gon ?_;refine eY 5 1 ?_;simp only[go_sem];refine hg _ _ _ ?_;refine aD e4 ?_;exact adb [] [0]
structure abe(x:aW):Prop where
 slot:U64 x.slot
 ep:U64 x.target.ep
 len:x.vals.length<=10
section
variable{fr:Fr}{σ:St}{rs:List gO}{G:aW->Prop}{l:List AV}{a:Int}{b:Rt}{c:Cp}{d:List Int}
theorem Ty(hl:dQ fr σ rs=some l)(hv:fz σ (List.range σ.length) (gm l)=.agg (bZ ⟨a,b,c,.sl 1 false (ax .i64 d)⟩))(hg:G ⟨a,b,c,d⟩):Sm G fun x=>PQ rs (.agg (bZ x.a)) .ret fr σ:=⟨_,hg,l,hl,.inl hv⟩
theorem YM(hl:dQ fr σ rs=some l)(hv:fz σ (List.range σ.length) (gm l)=.agg (bZ ⟨a,b,c,.sl 1 true (ax .i64 d)⟩))(hg:G ⟨a,b,c,d⟩):Sm G fun x=>PQ rs (.agg (bZ x.a)) .ret fr σ:=
 ⟨_,hg,l,hl,.inr ⟨_,hv,(hZ _).2 (bj _ _),Wk.agg (WkC.same _ ((WkC.refl _).app ((WkC.refl _).app (WkC.one (Wk.open_ _ _ _) fun h=>h))))⟩⟩
end
theorem zI(s:am)(i:Nat)(hi:bi s i)(k:Int)(hk:0<=k):Sm abe fun x=>PC Tryz.prog 45 [.agg (aw s.a),.int .i64 k] (.agg (bZ x.a)):=by
 have hr:=hi.r;have hpos:=hi.tree.pos;have hb0:=hi.cfg.b0;have hb1:=hi.cfg.b1;have hnw:=hi.nw.1;have huf:=hi.uf;have hsp:=hi.cfg.s1;have hs0:=YW s.cfg.bals.length (fH .i64 k 3) hb0 (by omega);obtain⟨p,hp,hp'⟩:=dN hk hpos;obtain⟨p4,hp4,hp4'⟩:=dN (mU 4 hk) hpos;have hg:=dy (t:=s.nodes) hp';have hg4:=dy (t:=s.nodes) hp4';rcases hs0 with⟨l,hl,cs⟩|cs
 ·refine lu 7 nO (by simp) puA (fun r _=>puA) ?_
  unfold jy;refine bd ?_;repeat(first|refine cQ ?_|simp only[go_sem,hp,hg])
  refine iM (fun r hr=>cO [] cs (by simp) evd (dt.mk' (by simp) (by simp) evd) hr) ?_;repeat(first|refine kQ ?_|simp only[go_sem,hg])
  generalize (nod s.nodes p).blk.root=r0 at *;refine dz ?_;refine jq U64 (fun x:Int=>bZ ⟨x,r0,⟨0,rt0⟩,.hs 1 2 0 l.length⟩) 3 [] ?_ (fun x hx=>?_)
  ·repeat'(first|refine cQ ?_|(refine bB (fun h=>?_) (fun h=>?_)<;>try(exact absurd h (by decide)))|refine eA (fun h=>?_) (fun h=>?_))
   all_goals(refine iL (fun x:Int=>bZ ⟨x,r0,⟨0,rt0⟩,.hs 1 2 0 l.length⟩) 3 rfl ?_ (by exact adk [] [0,1,2,3]);first|assumption|exact cH _)
  (try simp only[cV])
  refine cQ ?_;generalize hE:IntKind.u64.wrap (Int.tdiv x s.cfg.spe)=E at *;have hE':U64 E:=hE▸cH _;have hc:=zN (s:=s) (i:=(p:Int)) huf hE';have c1:=xW s hr p E;generalize Qu s p E=c at *;refine d6 c1 ?_;repeat'(first|refine cQ ?_|simp only[go_sem,hg4,hp4,AB]|(refine bB (fun h=>?_) (fun h=>?_)<;>try(exact absurd h (by decide)))|refine eA (fun h=>?_) (fun h=>?_))
  all_goals try(refine dg (ie _) ?_;refine cQ ?_)
  all_goals(refine Ty (by first|rfl|exact evd) (by first|rfl|exact evd) ?_)
  all_goals(constructor<;>(try dsimp only)<;>first|assumption|exact cH _|exact zN huf (cH _)|(simp only[List.length_append,List.length_cons,List.length_nil];omega)|omega)
 ·refine lu 7 nO (by simp) puA (fun r _=>puA) ?_
  unfold jy;refine bd ?_;repeat(first|refine cQ ?_|simp only[go_sem,hp,hg])
  refine d6 cs ?_;repeat(first|refine kQ ?_|simp only[go_sem,hg])
  generalize (nod s.nodes p).blk.root=r0 at *;refine dz ?_;refine jq U64 (fun x:Int=>bZ ⟨x,r0,⟨0,rt0⟩,.sl 1 true (ax .i64 [0])⟩) 3 [] ?_ (fun x hx=>?_)
  ·repeat'(first|refine cQ ?_|(refine bB (fun h=>?_) (fun h=>?_)<;>try(exact absurd h (by decide)))|refine eA (fun h=>?_) (fun h=>?_))
   all_goals(refine iL (fun x:Int=>bZ ⟨x,r0,⟨0,rt0⟩,.sl 1 true (ax .i64 [0])⟩) 3 rfl ?_ (by exact adk [] [0,1,2,3]);first|assumption|exact cH _)
  (try simp only[cV])
  refine cQ ?_;generalize hE:IntKind.u64.wrap (Int.tdiv x s.cfg.spe)=E at *;have hE':U64 E:=hE▸cH _;have hc:=zN (s:=s) (i:=(p:Int)) huf hE';have c1:=xW s hr p E;generalize Qu s p E=c at *;refine d6 c1 ?_;repeat'(first|refine cQ ?_|simp only[go_sem,hg4,hp4,AB]|(refine bB (fun h=>?_) (fun h=>?_)<;>try(exact absurd h (by decide)))|refine eA (fun h=>?_) (fun h=>?_))
  all_goals try(refine dg (ie _) ?_;refine cQ ?_)
  all_goals first|(refine YM (by first|rfl|exact evd) (by first|rfl|exact evd) ?_)|(refine Ty (by first|rfl|exact evd) (by first|rfl|exact evd) ?_)
  all_goals(constructor<;>(try dsimp only)<;>first|assumption|exact cH _|exact zN huf (cH _)|(simp only[List.length_append,List.length_cons,List.length_nil];omega)|(simp;done)|omega)
structure abk(x:aH):Prop where
 ep:U64 x.cp.ep
 len:x.bals.length<=10
 bals:∀n∈x.bals,U64 n
def DK(k:Int)(n:Nat):List Int:=(List.range n).map fun v=>IntKind.u64.wrap (Int.tmod (fH .i64 k v) 50)
theorem Nz(k:Int)(n:Nat):(DK k n).length=n:=by simp[DK]
theorem abs(k:Int)(n:Nat):DK k (n+1)=DK k n++[IntKind.u64.wrap (Int.tmod (fH .i64 k n) 50)]:=by simp[DK,List.range_succ]
theorem abt(k:Int)(n:Nat):∀x∈DK k n,U64 x:=fun x hx=>by
 unfold DK at hx;obtain⟨v,_,rfl⟩:=List.mem_map.1 hx;exact cH _
theorem aaP(c:Cp)(u v:AV):(bE ⟨c,u⟩).set 33 v=bE ⟨c,v⟩:=by
 unfold bE;rw[List.set_append_right 33 _ (by rw[aG];exact Nat.le_refl _),aG];rfl
theorem aaO(c:Cp)(u:AV):(bE ⟨c,u⟩).getD 33 .dead=u:=by
 unfold bE;rw[List.getD_eq_getElem?_getD,List.getElem?_append_right (by rw[aG];exact Nat.le_refl _),aG];rfl
theorem X4(k:IntKind)(l:List Int)(i:Nat)(x:Int):(ax k l).set i [.int k x]=ax k (l.set i x):=by simp[ax,List.map_set]
section
variable{fr:Fr}{σ:St}{rs:List gO}{G:aH->Prop}{l:List AV}{c:Cp}{d:List Int}
theorem aai(hl:dQ fr σ rs=some l)(hv:fz σ (List.range σ.length) (gm l)=.agg (bE ⟨c,.sl 1 false (ax .u64 d)⟩))(hg:G ⟨c,d⟩):Sm G fun x=>PQ rs (.agg (bE x.a)) .ret fr σ:=⟨_,hg,l,hl,.inl hv⟩
end
theorem zL(s:am)(i:Nat)(hi:bi s i)(k:Int)(hk:0<=k):Sm abk fun x=>PC Tryz.prog 46 [.agg (aw s.a),.int .i64 k] (.agg (bE x.a)):=by
 have hr:=hi.r;have hpos:=hi.tree.pos;have hb0:=hi.cfg.b0;have hb1:=hi.cfg.b1;have hnw:=hi.nw.1;have huf:=hi.uf;have hsp:=hi.cfg.s1;obtain⟨p,hp,hp'⟩:=dN hk hpos;have hg:=dy (t:=s.nodes) hp';have hu:=(hi.blk hp').j;generalize (nod s.nodes p)=up at *;refine lu 8 K8 (by simp) puA (fun r _=>puA) ?_;unfold yb;refine bd ?_;refine dz ?_;refine fX ?_;refine dz ?_;repeat(first|refine fX ?_|simp only[go_sem,hp])
 refine dz ?_;repeat(first|refine fX ?_|simp only[go_sem,hg])
 refine dz ?_;refine jq (fun c:Cp=>U64 c.ep) (fun c:Cp=>bE ⟨c,.sl 0 true []⟩) 2 [] ?_ (fun c hc=>?_)
 ·repeat'(first|refine cQ ?_|(refine bB (fun h=>?_) (fun h=>?_)<;>try(exact absurd h (by decide)))|refine eA (fun h=>?_) (fun h=>?_))
  ·refine d6 (xW s hr p _) ?_;repeat'(first|refine cQ ?_|(refine bB (fun h=>?_) (fun h=>?_)<;>try(exact absurd h (by decide)))|refine eA (fun h=>?_) (fun h=>?_))
   refine iL (fun c:Cp=>bE ⟨c,.sl 0 true []⟩) 2 rfl ?_ (by exact adk [] [0,1,2]);exact zN huf (cH _)
  ·refine iL (fun c:Cp=>bE ⟨c,.sl 0 true []⟩) 2 rfl ?_ (by exact adk [] [0,1,2]);assumption
 (try simp only[cV])
 refine dz ?_;generalize hN:s.cfg.bals.length=N at *;refine F8 (fun l:List Int=>l.length=N/\∀n∈l,U64 n) (fun _=>[]) (fun l=>[.var (aw s.a),.var (bE ⟨⟨0,rt0⟩,.sl 0 true []⟩),.var (bE ⟨c,.hs 1 3 0 l.length⟩),.vec 1 (ax .u64 l)]) ?_ (fun l hl=>?_)
 ·refine Tz (DK k N) ⟨Nz k N,abt k N⟩ ?_
  refine gon ?_;refine oe 2 33 1 ?_ (by rfl) (by exact aaO _ _);simp only[go_sem,aaP];refine ay (fun i:Nat=>[(7,.int .i64 i)]) (fun i=>[.var (aw s.a),.var (bE ⟨⟨0,rt0⟩,.sl 0 true []⟩),.var (bE ⟨c,.hs 1 3 0 (DK k i).length⟩),.vec 1 (ax .u64 (DK k i))]) (fun i=>N-i) (fun i=>i<=N) 0 (Nat.zero_le _) ?_ ?_
  ·rw[show DK k 0=[]from rfl];exact adk [] [0,1,2,3]
  intro i hi;have hlen:=Nz k i;by_cases h1:i<N
  ·have e1:decide ((i:Int)<(s.cfg.bals.length:Int))=true:=ak (by omega);have hw:=ah h1 (by omega);have hu:IntKind.u64.wrap (i:Int)=(i:Int):=aU (by omega) (by omega);have hs:=abs k i;refine bg e1 ?_;refine aO hu hw ?_;refine⟨i+1,h1,by omega,?_⟩;rw[hs];exact adk [] [0,1,2,4]
  ·obtain rfl:i=N:=by omega
   have e1:decide ((i:Int)<(s.cfg.bals.length:Int))=false:=au (by omega);refine aD e1 ?_;exact adk [] [0,1,2,3]
 obtain⟨hl1,hl2⟩:=hl;have hgd:=gdn (k:=.u64) (ns:=l) (i:=0) (by omega);repeat'(first|refine cQ ?_|simp only[go_sem,X4,hgd]|(refine bB (fun h=>?_) (fun h=>?_)<;>try(exact absurd h (by decide)))|refine eA (fun h=>?_) (fun h=>?_))
 all_goals(refine aai (by first|rfl|exact evd) (by first|rfl|exact evd) ?_)
 ·refine⟨hc,by simp only[List.length_append,List.length_cons,List.length_nil];omega,fun n hn=>?_⟩;rcases List.mem_append.1 hn with h|h
  ·exact hl2 n h
  ·rw[List.mem_singleton]at h;subst h;exact⟨by decide,by decide⟩
 ·refine⟨hc,by simp only[List.length_set];omega,fun n hn=>?_⟩;rcases List.mem_or_eq_of_mem_set hn with h|rfl
  ·exact hl2 n h
  ·exact⟨by decide,by decide⟩
 ·exact⟨hc,by dsimp only;omega,hl2⟩
structure acZ(v:Vdt):Prop where
 tag:U64 v.tag
 lo:1<=v.kind
 hi:v.kind<=4
theorem Ul(s:aX)(i:Nat)(hi:fM s i)(k:Int)(hk:0<=k):Sm acZ fun v=>PC Tryz.prog 85 [.agg (bk s.a),.int .i64 k] (.agg (en v)):=by
 have hr:=hi.sto.r;have hpos:=hi.sto.tree.pos;have hrq:=hi.rq;have hii:=hi.sto.ii;have hut:=hi.ut;obtain⟨p,hp,hp'⟩:=dN hk hpos;have hg:=dy (t:=s.sto.nodes) hp';obtain⟨q,hq,hq'⟩:=dN (n:=6) (mU 4 hk) (by decide)
 obtain⟨kd,hkd,hk1,hk4⟩:∃kd:Int,([[.int .i64 1],[.int .i64 1],[.int .i64 2],[.int .i64 2],[.int .i64 3],[.int .i64 4]]:List (List AV)).getD q []=[.int .i64 kd]/\1<=kd/\kd<=4:=by
  match q,hq' with
  |0,_|1,_=>exact⟨1,rfl,by decide,by decide⟩
  |2,_|3,_=>exact⟨2,rfl,by decide,by decide⟩
  |4,_=>exact⟨3,rfl,by decide,by decide⟩
  |5,_=>exact⟨4,rfl,by decide,by decide⟩
 have hq6:Int.tmod (fH .i64 k 4) 6=(q:Int):=hq;refine lu 11 En (by simp) puA (fun r _=>puA) ?_;unfold sd;refine bd ?_;refine dz ?_;refine fX ?_;refine dz ?_;repeat(first|refine fX ?_|simp only[go_sem,hq6,hkd])
 refine dz ?_;repeat(first|refine fX ?_|simp only[go_sem,hp,hg])
 generalize (nod s.sto.nodes p).blk.root=r0 at *;generalize hT:IntKind.u64.wrap (k.tmod 9)=T at *;have hT':U64 T:=hT▸cH _;refine dz ?_;refine F8 (fun b:Int×Rt=>U64 b.1) (fun _=>[(7,.int .i64 s.reqs.length)]) (fun b=>[.var (bk s.a),.var (en ⟨0,0,rt0⟩),.var (en ⟨b.1,kd,rt0⟩),.var (rtc b.2)]) ?_ (fun b hb=>?_)
 ·by_cases hrl:0<s.reqs.length
  ·obtain⟨q1,h1,h1'⟩:=dN (mU 11 hk) hrl;have e1:decide ((0:Int)<(s.reqs.length:Int))=true:=ak (by omega);have hg1:(rows bp s.reqs).getD q1 []=bp (fI s.reqs q1):=aM (f:=bp) xC h1';have hq1:=hut _ (O5 h1');generalize fI s.reqs q1=R at *;repeat'(first|refine cQ ?_|simp only[go_sem,e1,h1,hg1]|(refine bB (fun h=>?_) (fun h=>?_)<;>try(exact absurd h (by decide)))|refine eA (fun h=>?_) (fun h=>?_))
   ·exact⟨(R.tag,R.block),hq1,by exact adk [] [0,1,2,3]⟩
   all_goals exact⟨(T,r0),hT',by exact adk [] [0,1,2,3]⟩
  ·have e1:decide ((0:Int)<(s.reqs.length:Int))=false:=au (by omega);repeat'(first|refine cQ ?_|simp only[go_sem,e1]|(refine bB (fun h=>?_) (fun h=>?_)<;>try(exact absurd h (by decide)))|refine eA (fun h=>?_) (fun h=>?_))
   exact⟨(T,r0),hT',by exact adk [] [0,1,2,3]⟩
 obtain⟨T1,r1⟩:=b;simp only[db,cV,List.set_cons_zero,List.set_cons_succ]at hb ⊢;refine cQ ?_;refine dg (cm s.sto.nodes r1 hr.bn) ?_;generalize aj s.sto.nodes r1=I;refine kQ ?_;refine dz ?_;have cp:=qk s.sto.nodes hr.tree.ok hr.bn I;have hpm:=fun x hx=>fD (x:=x) hr.tree.ok (i:=I) hx
 have hpl:=nX hr.tree.ok I;have hbn:=hr.bn;generalize bW s.sto.nodes I=L at *;refine jq (fun _:Rt=>True) (fun r:Rt=>en ⟨T1,kd,r⟩) 2 [] ?_ (fun r2 _=>?_)
 ·by_cases hrl:0<L.length
  ·obtain⟨q1,h1,h1'⟩:=dN (mU 16 hk) hrl;have e1:decide ((0:Int)<(L.length:Int))=true:=ak (by omega);have hg1:=gdn (k:=.i64) h1';have hm:=hpm _ (cG 0 h1');obtain⟨u,hu⟩:=Int.eq_ofNat_of_zero_le hm.1;rw[hu]at hg1 hm;have hg2:=dy (t:=s.sto.nodes) (i:=u) (by omega);refine cQ ?_;refine dg cp ?_;repeat'(first|refine cQ ?_|simp only[go_sem,e1,h1,hg1,hg2]|(refine bB (fun h=>?_) (fun h=>?_)<;>try(exact absurd h (by decide)))|refine eA (fun h=>?_) (fun h=>?_))
   all_goals refine iL (fun r:Rt=>en ⟨T1,kd,r⟩) 2 rfl trivial (by exact adk [] [0,1,2,3])
  ·have e1:decide ((0:Int)<(L.length:Int))=false:=au (by omega);refine cQ ?_;refine dg cp ?_;repeat'(first|refine cQ ?_|simp only[go_sem,e1]|(refine bB (fun h=>?_) (fun h=>?_)<;>try(exact absurd h (by decide)))|refine eA (fun h=>?_) (fun h=>?_))
   refine iL (fun r:Rt=>en ⟨T1,kd,r⟩) 2 rfl trivial (by exact adk [] [0,1,2,3])
 (try simp only[cV])
 repeat'(first|refine cQ ?_|(refine bB (fun h=>?_) (fun h=>?_)<;>try(exact absurd h (by decide)))|refine eA (fun h=>?_) (fun h=>?_))
 ·refine dg (ie _) ?_;refine cQ ?_;refine F7 (by first|rfl|exact evd) (by first|rfl|exact evd) ?_;exact⟨hb,hk1,hk4⟩
 ·refine F7 (by first|rfl|exact evd) (by first|rfl|exact evd) ?_;exact⟨hb,hk1,hk4⟩
end Go.Proofs.YtnjdpnfglgcjcaaGreat
