/-
 My texts Mc, Md, joined.
-/
import Derived.Test.YtkgimpdgncakjaaGreatU2
import Derived.Test.YtkgimpdgncakjaaGreatV7
namespace Go.Proofs.YtkgimpdgncakjaaGreat
open Go Go.FH Go.RowKit
set_option linter.unusedVariables false
set_option linter.unusedSimpArgs false
set_option maxRecDepth 8000
set_option maxHeartbeats 4000000
theorem PP_(n:Nat)(bits:Int)(hn:n≤1000000):Ru_ Tryz.prog 31 0 (cr_.tl 2).hd ⟨7,[.int .i64 n,.int .i64 bits,.dead,.dead,.sl 0 true [],.hs 1 0 0 0,.dead],[]⟩ [.vec 1 []]
 ⟨7,[.int .i64 n,.int .i64 bits,.dead,.dead,.sl 0 true [],.hs 1 0 0 (fa_ bits n).length,.dead],[]⟩ [.vec 1 (aq_ .i64 (fa_ bits n))]:=by
 refine tX_ ?_;unfold cr_;refine bd ?_;simp only[ad_.tl,ad_.hd];try refine aa_ ?_
 have hz:fa_ bits 0=[]:=rfl;refine an_ (fun i:Nat=>[(6,.int .i64 i),(5,.hs 1 0 0 (fa_ bits i).length)]) (fun i=>[.vec 1 (aq_ .i64 (fa_ bits i))]) (fun i=>n-i) (fun i=>i≤n) 0 (Nat.zero_le _) ?_ ?_
 ·rw[hz];exact SN_ [] [0]
 intro i hi;have hlen:=nE_ bits i;refine cJ_ ?_;by_cases h1:i<n
 ·have e1:=inT h1
  have hw:=ag_ h1 (by omega);have hu:IntKind.u64.wrap (i:Int)=(i:Int):=aH_ (by omega) (by omega);have hs:=It_ bits i;have hnum:∀l:List Int,aq_ .i64 l++[[.int .i64 (i:Int)]]=aq_ .i64 (l++[(i:Int)]):=fun l=>fr_ .i64 l [(i:Int)]
  cases hq:(du_ .i64 (dg_ .i64 bits i) 1==1)with
  | true =>
    rw[hq,if_pos rfl]at hs;repeat(first|refine aa_ ?_|simp only[go_sem,e1])
    refine ac_ ?_;repeat(first|refine aa_ ?_|simp only[go_sem,hu,hq])
    refine ac_ ?_;repeat(first|refine aa_ ?_|simp only[go_sem,hw,hnum])
    refine⟨i+1,h1,by omega,?_⟩;simp only[hs,List.length_append,List.length_cons,List.length_nil,Nat.zero_add];exact SN_ [] [1]
  | false =>
    rw[hq,if_neg (by simp)]at hs;repeat(first|refine aa_ ?_|simp only[go_sem,e1])
    refine ac_ ?_;repeat(first|refine aa_ ?_|simp only[go_sem,hu,hq])
    refine ab_ ?_;repeat(first|refine aa_ ?_|simp only[go_sem,hw])
    refine⟨i+1,h1,by omega,?_⟩;simp only[hs];exact SN_ [] [0]
 ·obtain rfl:i=n:=by omega
  have e1:decide ((i:Int)<(i:Int))=false:=decide_eq_false (by omega);repeat(first|refine aa_ ?_|simp only[go_sem,e1])
  refine Rh_ ?_
  exact SN_ [] [0]
theorem NR_(n:Nat)(bits:Int)(h0:0<n)(hn:n≤1000000):(∃l:List Int,l.length≤n∧ar_ Tryz.prog 65 [.int .i64 n,.int .i64 bits] [] (.hs 1 0 0 l.length) [.vec 1 (aq_ .i64 l)]) ∨
 PC Tryz.prog 65 [.int .i64 n,.int .i64 bits] (.sl 1 true (aq_ .i64 [0])):=by
 have hg:=PP_ n bits hn;have hc:cr_=.seq cr_.hd (.seq (cr_.tl 1).hd (.seq (cr_.tl 2).hd (cr_.tl 3))):=rfl;have e3:decide ((0:Int)<(n:Int))=true:=decide_eq_true (by omega);have hlen:=nE_ bits n;by_cases hq:fa_ bits n=[]
 ·right
  refine PC.fact 7 mA_ (by simp) puA puA ?_;rw[hc];generalize (cr_.tl 2).hd=L at *;unfold cr_;refine bd ?_;simp only[ad_.hd,ad_.tl];rw[hq]at hg;try refine aa_ ?_
  refine de_ 5 1 ?_;simp only[go_sem];refine hg _ _ _ ?_;repeat(first|refine aa_ ?_|simp only[go_sem,e3])
  refine Ri_ ?_
  exact ae_
 ·left
  have hp:0<(fa_ bits n).length:=List.length_pos_iff.2 hq;refine⟨fa_ bits n,hlen,ar_.fact 7 mA_ (by simp) ?_ (by simp)⟩;rw[hc];generalize (cr_.tl 2).hd=L at *;unfold cr_;refine bd ?_;simp only[ad_.hd,ad_.tl];generalize fa_ bits n=l at *;have e4:((l.length:Int)==0)=false:=by rw[←Bool.not_eq_true,beq_iff_eq];omega
  try refine aa_ ?_
  refine de_ 5 1 ?_;simp only[go_sem];refine hg _ _ _ ?_;repeat(first|refine aa_ ?_|simp only[go_sem,e4])
  refine Rh_ ?_
  exact SG_ [] [0]
structure Qt_(x:aD_):Prop where
 slot:U64 x.slot
 ep:U64 x.target.ep
 len:x.vals.length≤10
section
variable{fr:Fr}{σ:St}{rs:List eu_}{G:aD_→Prop}{l:List AV}{a:Int}{b:Rt}{c:Cp}{d:List Int}
theorem Io_(hl:cq_ fr σ rs=some l)(hv:fz σ (List.range σ.length) (eH_ l)=.agg (bl_ ⟨a,b,c,.sl 1 false (aq_ .i64 d)⟩))(hg:G ⟨a,b,c,d⟩):Sm G fun x=>PQ rs (.agg (bl_ x.a)) .ret fr σ:=⟨_,hg,l,hl,.inl hv⟩
theorem NH_(hl:cq_ fr σ rs=some l)(hv:fz σ (List.range σ.length) (eH_ l)=.agg (bl_ ⟨a,b,c,.sl 1 true (aq_ .i64 d)⟩))(hg:G ⟨a,b,c,d⟩):Sm G fun x=>PQ rs (.agg (bl_ x.a)) .ret fr σ:=
 ⟨_,hg,l,hl,.inr ⟨_,hv,(ex_ _).2 (aM_ _ _),Wk.agg (WkC.same _ ((WkC.refl _).app ((WkC.refl _).app (WkC.one (Wk.open_ _ _ _) fun h=>h))))⟩⟩
end
theorem yR_(s:ah_)(i:Nat)(hi:aK_ s i)(k:Int)(hk:0≤k):Sm Qt_ fun x=>PC Tryz.prog 18 [.agg (ak_ s.a),.int .i64 k] (.agg (bl_ x.a)):=by
 have hr:=hi.r;have hpos:=hi.tree.pos;have hb0:=hi.cfg.b0;have hb1:=hi.cfg.b1;have hnw:=hi.nw.1;have huf:=hi.uf;have hsp:=hi.cfg.s1;have hs0:=NR_ s.cfg.bals.length (dg_ .i64 k 3) hb0 (by omega);obtain⟨p,hp,hp'⟩:=ca_ hk hpos;obtain⟨p4,hp4,hp4'⟩:=ca_ (il_ 4 hk) hpos;have hg:=bR_ (t:=s.nodes) hp';have hg4:=bR_ (t:=s.nodes) hp4';rcases hs0 with⟨l,hl,cs⟩|cs
 ·refine gX_ 7 iN_ (by simp) puA (fun r _=>puA) ?_
  unfold fy_;refine bd ?_;repeat(first|refine bq_ ?_|simp only[go_sem,hp,hg])
  refine eV_ (fun r hr=>bs_ [] cs (by simp) evd (bT_.mk' (by simp) (by simp) evd) hr) ?_;repeat(first|refine gE_ ?_|simp only[go_sem,hg])
  generalize (nod s.nodes p).blk.root=r0 at *;refine bS_ ?_;refine fu_ U64 (fun x:Int=>bl_ ⟨x,r0,⟨0,rt0⟩,.hs 1 2 0 l.length⟩) 3 [] ?_ (fun x hx=>?_)
  ·repeat'(first|refine bq_ ?_|(refine aQ_ (fun h=>?_) (fun h=>?_)<;>try(exact absurd h (by decide)))|refine cK_ (fun h=>?_) (fun h=>?_))
   all_goals(refine eU_ (fun x:Int=>bl_ ⟨x,r0,⟨0,rt0⟩,.hs 1 2 0 l.length⟩) 3 rfl ?_ (by exact SN_ [] [0,1,2,3]);first|assumption|exact be_ _)
  (try simp only[bZ_])
  refine bq_ ?_;generalize hE:IntKind.u64.wrap (Int.tdiv x s.cfg.spe)=E at *;have hE':U64 E:=hE▸be_ _;have hc:=rt_ (s:=s) (i:=(p:Int)) huf hE';have c1:=pU_ s hr p E;generalize FI_ s p E=c at *;refine cu_ c1 ?_;repeat'(first|refine bq_ ?_|simp only[go_sem,hg4,hp4,rS_]|(refine aQ_ (fun h=>?_) (fun h=>?_)<;>try(exact absurd h (by decide)))|refine cK_ (fun h=>?_) (fun h=>?_))
  all_goals try(refine bz_ (dN_ _) ?_;refine bq_ ?_)
  all_goals(refine Io_ (by first|rfl|exact evd) (by first|rfl|((try simp only[go_sem,Nat.reduceAdd,Nat.reduceSub,Nat.reduceMul,Nat.reduceLT,Nat.reduceLeDiff,Nat.reduceEqDiff,reduceIte,Int.reduceToNat,Int.reduceLT,Int.reduceLE,Int.reduceEq,Int.reduceNeg,reduceCtorEq,Int.reduceBEq,Int.reduceBNe]);rfl)) ?_)
  all_goals(constructor<;>(try dsimp only)<;>first|assumption|exact be_ _|exact rt_ huf (be_ _)|(simp only[List.length_append,List.length_cons,List.length_nil];omega)|omega)
 ·refine gX_ 7 iN_ (by simp) puA (fun r _=>puA) ?_
  unfold fy_;refine bd ?_;repeat(first|refine bq_ ?_|simp only[go_sem,hp,hg])
  refine cu_ cs ?_;repeat(first|refine gE_ ?_|simp only[go_sem,hg])
  generalize (nod s.nodes p).blk.root=r0 at *;refine bS_ ?_;refine fu_ U64 (fun x:Int=>bl_ ⟨x,r0,⟨0,rt0⟩,.sl 1 true (aq_ .i64 [0])⟩) 3 [] ?_ (fun x hx=>?_)
  ·repeat'(first|refine bq_ ?_|(refine aQ_ (fun h=>?_) (fun h=>?_)<;>try(exact absurd h (by decide)))|refine cK_ (fun h=>?_) (fun h=>?_))
   all_goals(refine eU_ (fun x:Int=>bl_ ⟨x,r0,⟨0,rt0⟩,.sl 1 true (aq_ .i64 [0])⟩) 3 rfl ?_ (by exact SN_ [] [0,1,2,3]);first|assumption|exact be_ _)
  (try simp only[bZ_])
  refine bq_ ?_;generalize hE:IntKind.u64.wrap (Int.tdiv x s.cfg.spe)=E at *;have hE':U64 E:=hE▸be_ _;have hc:=rt_ (s:=s) (i:=(p:Int)) huf hE';have c1:=pU_ s hr p E;generalize FI_ s p E=c at *;refine cu_ c1 ?_;repeat'(first|refine bq_ ?_|simp only[go_sem,hg4,hp4,rS_]|(refine aQ_ (fun h=>?_) (fun h=>?_)<;>try(exact absurd h (by decide)))|refine cK_ (fun h=>?_) (fun h=>?_))
  all_goals try(refine bz_ (dN_ _) ?_;refine bq_ ?_)
  all_goals first|(refine NH_ (by first|rfl|exact evd) (by first|rfl|((try simp only[go_sem,Nat.reduceAdd,Nat.reduceSub,Nat.reduceMul,Nat.reduceLT,Nat.reduceLeDiff,Nat.reduceEqDiff,reduceIte,Int.reduceToNat,Int.reduceLT,Int.reduceLE,Int.reduceEq,Int.reduceNeg,reduceCtorEq,Int.reduceBEq,Int.reduceBNe]);rfl)) ?_)|(refine Io_ (by first|rfl|exact evd) (by first|rfl|((try simp only[go_sem,Nat.reduceAdd,Nat.reduceSub,Nat.reduceMul,Nat.reduceLT,Nat.reduceLeDiff,Nat.reduceEqDiff,reduceIte,Int.reduceToNat,Int.reduceLT,Int.reduceLE,Int.reduceEq,Int.reduceNeg,reduceCtorEq,Int.reduceBEq,Int.reduceBNe]);rfl)) ?_)
  all_goals(constructor<;>(try dsimp only)<;>first|assumption|exact be_ _|exact rt_ huf (be_ _)|(simp only[List.length_append,List.length_cons,List.length_nil];omega)|(simp;done)|omega)
structure Qz_(x:au_):Prop where
 ep:U64 x.cp.ep
 len:x.bals.length≤10
 bals:∀n∈x.bals,U64 n
def um_(k:Int)(n:Nat):List Int:=(List.range n).map fun v=>IntKind.u64.wrap (Int.tmod (dg_ .i64 k v) 50)
theorem CW_(k:Int)(n:Nat):(um_ k n).length=n:=by simp[um_]
theorem QF_(k:Int)(n:Nat):um_ k (n+1)=um_ k n++[IntKind.u64.wrap (Int.tmod (dg_ .i64 k n) 50)]:=by simp[um_,List.range_succ]
theorem QG_(k:Int)(n:Nat):∀x∈um_ k n,U64 x:=fun x hx=>by
 unfold um_ at hx;obtain⟨v,_,rfl⟩:=List.mem_map.1 hx;exact be_ _
theorem PU_(c:Cp)(u v:AV):(aY_ ⟨c,u⟩).set 33 v=aY_ ⟨c,v⟩:=by
 unfold aY_;rw[List.set_append_right 33 _ (by rw[am_];exact Nat.le_refl _),am_];rfl
theorem PT_(c:Cp)(u:AV):(aY_ ⟨c,u⟩).getD 33 .dead=u:=by
 unfold aY_;rw[List.getD_eq_getElem?_getD,List.getElem?_append_right (by rw[am_];exact Nat.le_refl _),am_];rfl
theorem MT_(k:IntKind)(l:List Int)(i:Nat)(x:Int):(aq_ k l).set i [.int k x]=aq_ k (l.set i x):=by simp[aq_,List.map_set]
section
variable{fr:Fr}{σ:St}{rs:List eu_}{G:au_→Prop}{l:List AV}{c:Cp}{d:List Int}
theorem Pp_(hl:cq_ fr σ rs=some l)(hv:fz σ (List.range σ.length) (eH_ l)=.agg (aY_ ⟨c,.sl 1 false (aq_ .u64 d)⟩))(hg:G ⟨c,d⟩):Sm G fun x=>PQ rs (.agg (aY_ x.a)) .ret fr σ:=⟨_,hg,l,hl,.inl hv⟩
end
theorem Ja_(s:ah_)(i:Nat)(hi:aK_ s i)(k:Int)(hk:0≤k):Sm Qz_ fun x=>PC Tryz.prog 31 [.agg (ak_ s.a),.int .i64 k] (.agg (aY_ x.a)):=by
 have hr:=hi.r;have hpos:=hi.tree.pos;have hb0:=hi.cfg.b0;have hb1:=hi.cfg.b1;have hnw:=hi.nw.1;have huf:=hi.uf;have hsp:=hi.cfg.s1;obtain⟨p,hp,hp'⟩:=ca_ hk hpos;have hg:=bR_ (t:=s.nodes) hp';have hu:=(hi.blk hp').j;generalize (nod s.nodes p)=up at *;refine gX_ 8 Bc_ (by simp) puA (fun r _=>puA) ?_;unfold pY_;refine bd ?_;refine bS_ ?_;refine eq_ ?_;refine bS_ ?_;repeat(first|refine eq_ ?_|simp only[go_sem,hp])
 refine bS_ ?_;repeat(first|refine eq_ ?_|simp only[go_sem,hg])
 refine bS_ ?_;refine fu_ (fun c:Cp=>U64 c.ep) (fun c:Cp=>aY_ ⟨c,.sl 0 true []⟩) 2 [] ?_ (fun c hc=>?_)
 ·repeat'(first|refine bq_ ?_|(refine aQ_ (fun h=>?_) (fun h=>?_)<;>try(exact absurd h (by decide)))|refine cK_ (fun h=>?_) (fun h=>?_))
  ·refine cu_ (pU_ s hr p _) ?_;repeat'(first|refine bq_ ?_|(refine aQ_ (fun h=>?_) (fun h=>?_)<;>try(exact absurd h (by decide)))|refine cK_ (fun h=>?_) (fun h=>?_))
   refine eU_ (fun c:Cp=>aY_ ⟨c,.sl 0 true []⟩) 2 rfl ?_ (by exact SN_ [] [0,1,2]);exact rt_ huf (be_ _)
  ·refine eU_ (fun c:Cp=>aY_ ⟨c,.sl 0 true []⟩) 2 rfl ?_ (by exact SN_ [] [0,1,2]);assumption
 (try simp only[bZ_])
 refine bS_ ?_;generalize hN:s.cfg.bals.length=N at *;refine wt_ (fun l:List Int=>l.length=N∧∀n∈l,U64 n) (fun _=>[]) (fun l=>[.var (ak_ s.a),.var (aY_ ⟨⟨0,rt0⟩,.sl 0 true []⟩),.var (aY_ ⟨c,.hs 1 3 0 l.length⟩),.vec 1 (aq_ .u64 l)]) ?_ (fun l hl=>?_)
 ·refine Ip_ (um_ k N) ⟨CW_ k N,QG_ k N⟩ ?_
  try refine aa_ ?_
  refine jd_ 2 33 1 ?_ (by rfl) (by exact PT_ _ _);simp only[go_sem,PU_];refine an_ (fun i:Nat=>[(7,.int .i64 i)]) (fun i=>[.var (ak_ s.a),.var (aY_ ⟨⟨0,rt0⟩,.sl 0 true []⟩),.var (aY_ ⟨c,.hs 1 3 0 (um_ k i).length⟩),.vec 1 (aq_ .u64 (um_ k i))]) (fun i=>N-i) (fun i=>i≤N) 0 (Nat.zero_le _) ?_ ?_
  ·rw[show um_ k 0=[]from rfl];exact SN_ [] [0,1,2,3]
  intro i hi;have hlen:=CW_ k i;by_cases h1:i<N
  ·have e1:decide ((i:Int)<(s.cfg.bals.length:Int))=true:=decide_eq_true (by omega);have hw:=ag_ h1 (by omega);have hu:IntKind.u64.wrap (i:Int)=(i:Int):=aH_ (by omega) (by omega);have hs:=QF_ k i;repeat(first|refine aa_ ?_|simp only[go_sem,e1])
   refine ac_ ?_;repeat(first|refine aa_ ?_|simp only[go_sem,hu,hw])
   refine⟨i+1,h1,by omega,?_⟩;rw[hs];exact SN_ [] [0,1,2,4]
  ·obtain rfl:i=N:=by omega
   have e1:decide ((i:Int)<(s.cfg.bals.length:Int))=false:=decide_eq_false (by omega);repeat(first|refine aa_ ?_|simp only[go_sem,e1])
   refine Rh_ ?_
   exact SN_ [] [0,1,2,3]
 obtain⟨hl1,hl2⟩:=hl;have hgd:=gdn (k:=.u64) (ns:=l) (i:=0) (by omega);repeat'(first|refine bq_ ?_|simp only[go_sem,MT_,hgd]|(refine aQ_ (fun h=>?_) (fun h=>?_)<;>try(exact absurd h (by decide)))|refine cK_ (fun h=>?_) (fun h=>?_))
 all_goals(refine Pp_ (by first|rfl|exact evd) (by first|rfl|((try simp only[go_sem,Nat.reduceAdd,Nat.reduceSub,Nat.reduceMul,Nat.reduceLT,Nat.reduceLeDiff,Nat.reduceEqDiff,reduceIte,Int.reduceToNat,Int.reduceLT,Int.reduceLE,Int.reduceEq,Int.reduceNeg,reduceCtorEq,Int.reduceBEq,Int.reduceBNe]);rfl)) ?_)
 ·refine⟨hc,by simp only[List.length_append,List.length_cons,List.length_nil];omega,fun n hn=>?_⟩;rcases List.mem_append.1 hn with h|h
  ·exact hl2 n h
  ·rw[List.mem_singleton]at h;subst h;exact⟨by decide,by decide⟩
 ·refine⟨hc,by simp only[List.length_set];omega,fun n hn=>?_⟩;rcases List.mem_or_eq_of_mem_set hn with h|rfl
  ·exact hl2 n h
  ·exact⟨by decide,by decide⟩
 ·exact⟨hc,by dsimp only;omega,hl2⟩
structure Su_(v:Vdt):Prop where
 tag:U64 v.tag
 lo:1≤v.kind
 hi:v.kind≤4
theorem Jb_(s:aG_)(i:Nat)(hi:dT_ s i)(k:Int)(hk:0≤k):Sm Su_ fun v=>PC Tryz.prog 173 [.agg (aI_ s.a),.int .i64 k] (.agg (cG_ v)):=by
 have hr:=hi.sto.r;have hpos:=hi.sto.tree.pos;have hrq:=hi.rq;have hii:=hi.sto.ii;have hut:=hi.ut;obtain⟨p,hp,hp'⟩:=ca_ hk hpos;have hg:=bR_ (t:=s.sto.nodes) hp';obtain⟨q,hq,hq'⟩:=ca_ (n:=6) (il_ 4 hk) (by decide)
 obtain⟨kd,hkd,hk1,hk4⟩:∃kd:Int,([[.int .i64 1],[.int .i64 1],[.int .i64 2],[.int .i64 2],[.int .i64 3],[.int .i64 4]]:List (List AV)).getD q []=[.int .i64 kd]∧1≤kd∧kd≤4:=by
  match q,hq' with
  |0,_|1,_=>exact⟨1,rfl,by decide,by decide⟩
  |2,_|3,_=>exact⟨2,rfl,by decide,by decide⟩
  |4,_=>exact⟨3,rfl,by decide,by decide⟩
  |5,_=>exact⟨4,rfl,by decide,by decide⟩
 have hq6:Int.tmod (dg_ .i64 k 4) 6=(q:Int):=hq;refine gX_ 11 uN_ (by simp) puA (fun r _=>puA) ?_;unfold lZ_;refine bd ?_;refine bS_ ?_;refine eq_ ?_;refine bS_ ?_;repeat(first|refine eq_ ?_|simp only[go_sem,hq6,hkd])
 refine bS_ ?_;repeat(first|refine eq_ ?_|simp only[go_sem,hp,hg])
 generalize (nod s.sto.nodes p).blk.root=r0 at *;generalize hT:IntKind.u64.wrap (k.tmod 9)=T at *;have hT':U64 T:=hT▸be_ _;refine bS_ ?_;refine wt_ (fun b:Int×Rt=>U64 b.1) (fun _=>[(7,.int .i64 s.reqs.length)]) (fun b=>[.var (aI_ s.a),.var (cG_ ⟨0,0,rt0⟩),.var (cG_ ⟨b.1,kd,rt0⟩),.var (rtc b.2)]) ?_ (fun b hb=>?_)
 ·by_cases hrl:0<s.reqs.length
  ·obtain⟨q1,h1,h1'⟩:=ca_ (il_ 11 hk) hrl;have e1:decide ((0:Int)<(s.reqs.length:Int))=true:=decide_eq_true (by omega);have hg1:(rows aJ_ s.reqs).getD q1 []=aJ_ (dx_ s.reqs q1):=aA_ (f:=aJ_) pA_ h1';have hq1:=hut _ (Ew_ h1');generalize dx_ s.reqs q1=R at *;repeat'(first|refine bq_ ?_|simp only[go_sem,e1,h1,hg1]|(refine aQ_ (fun h=>?_) (fun h=>?_)<;>try(exact absurd h (by decide)))|refine cK_ (fun h=>?_) (fun h=>?_))
   ·exact⟨(R.tag,R.block),hq1,by exact SN_ [] [0,1,2,3]⟩
   all_goals exact⟨(T,r0),hT',by exact SN_ [] [0,1,2,3]⟩
  ·have e1:decide ((0:Int)<(s.reqs.length:Int))=false:=decide_eq_false (by omega);repeat'(first|refine bq_ ?_|simp only[go_sem,e1]|(refine aQ_ (fun h=>?_) (fun h=>?_)<;>try(exact absurd h (by decide)))|refine cK_ (fun h=>?_) (fun h=>?_))
   exact⟨(T,r0),hT',by exact SN_ [] [0,1,2,3]⟩
 obtain⟨T1,r1⟩:=b;simp only[cl_,bZ_,List.set_cons_zero,List.set_cons_succ]at hb ⊢;refine bq_ ?_;refine bz_ (bg_ s.sto.nodes r1 hr.bn) ?_;generalize af_ s.sto.nodes r1=I;refine gE_ ?_;refine bS_ ?_;have cp:=kv_ s.sto.nodes hr.tree.ok hr.bn I;have hpm:=fun x hx=>dv_ (x:=x) hr.tree.ok (i:=I) hx
 have hpl:=iV_ hr.tree.ok I;have hbn:=hr.bn;generalize bc_ s.sto.nodes I=L at *;refine fu_ (fun _:Rt=>True) (fun r:Rt=>cG_ ⟨T1,kd,r⟩) 2 [] ?_ (fun r2 _=>?_)
 ·by_cases hrl:0<L.length
  ·obtain⟨q1,h1,h1'⟩:=ca_ (il_ 16 hk) hrl;have e1:decide ((0:Int)<(L.length:Int))=true:=decide_eq_true (by omega);have hg1:=gdn (k:=.i64) h1';have hm:=hpm _ (bH_ 0 h1');obtain⟨u,hu⟩:=Int.eq_ofNat_of_zero_le hm.1;rw[hu]at hg1 hm;have hg2:=bR_ (t:=s.sto.nodes) (i:=u) (by omega);refine bq_ ?_;refine bz_ cp ?_;repeat'(first|refine bq_ ?_|simp only[go_sem,e1,h1,hg1,hg2]|(refine aQ_ (fun h=>?_) (fun h=>?_)<;>try(exact absurd h (by decide)))|refine cK_ (fun h=>?_) (fun h=>?_))
   all_goals refine eU_ (fun r:Rt=>cG_ ⟨T1,kd,r⟩) 2 rfl trivial (by exact SN_ [] [0,1,2,3])
  ·have e1:decide ((0:Int)<(L.length:Int))=false:=decide_eq_false (by omega);refine bq_ ?_;refine bz_ cp ?_;repeat'(first|refine bq_ ?_|simp only[go_sem,e1]|(refine aQ_ (fun h=>?_) (fun h=>?_)<;>try(exact absurd h (by decide)))|refine cK_ (fun h=>?_) (fun h=>?_))
   refine eU_ (fun r:Rt=>cG_ ⟨T1,kd,r⟩) 2 rfl trivial (by exact SN_ [] [0,1,2,3])
 (try simp only[bZ_])
 repeat'(first|refine bq_ ?_|(refine aQ_ (fun h=>?_) (fun h=>?_)<;>try(exact absurd h (by decide)))|refine cK_ (fun h=>?_) (fun h=>?_))
 ·refine bz_ (dN_ _) ?_;refine bq_ ?_;refine ws_ (by first|rfl|exact evd) (by first|rfl|((try simp only[go_sem,Nat.reduceAdd,Nat.reduceSub,Nat.reduceMul,Nat.reduceLT,Nat.reduceLeDiff,Nat.reduceEqDiff,reduceIte,Int.reduceToNat,Int.reduceLT,Int.reduceLE,Int.reduceEq,Int.reduceNeg,reduceCtorEq,Int.reduceBEq,Int.reduceBNe]);rfl)) ?_;exact⟨hb,hk1,hk4⟩
 ·refine ws_ (by first|rfl|exact evd) (by first|rfl|((try simp only[go_sem,Nat.reduceAdd,Nat.reduceSub,Nat.reduceMul,Nat.reduceLT,Nat.reduceLeDiff,Nat.reduceEqDiff,reduceIte,Int.reduceToNat,Int.reduceLT,Int.reduceLE,Int.reduceEq,Int.reduceNeg,reduceCtorEq,Int.reduceBEq,Int.reduceBNe]);rfl)) ?_;exact⟨hb,hk1,hk4⟩
end Go.Proofs.YtkgimpdgncakjaaGreat
