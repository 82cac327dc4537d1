/-
 My texts Mc, Md, joined.
-/
import Derived.Test.YtkgimpdgncakjaaGreatU2
import Derived.Test.YtkgimpdgncakjaaGreatV7
namespace Go.Proofs.YtkgimpdgncakjaaGreat
open Go Go.FH Go.RowKit
set_option linter.unusedVariables false
set_option linter.unusedSimpArgs false
set_option maxRecDepth 8000
set_option maxHeartbeats 4000000
theorem Or_(n:Nat)(bits:Int)(hn:n≤1000000):PT_ Tryz.prog 31 0 (bW_.tl 2).hd ⟨7,[.int .i64 n,.int .i64 bits,.dead,.dead,.sl 0 true [],.hs 1 0 0 0,.dead],[]⟩ [.vec 1 []]
 ⟨7,[.int .i64 n,.int .i64 bits,.dead,.dead,.sl 0 true [],.hs 1 0 0 (eL_ bits n).length,.dead],[]⟩ [.vec 1 (aq_ .i64 (eL_ bits n))]:=by
 refine sS_ ?_;unfold bW_;refine bd ?_;simp only[ad_.tl,ad_.hd];try refine aa_ ?_
 have hz:eL_ bits 0=[]:=rfl;refine am_ (fun i:Nat=>[(6,.int .i64 i),(5,.hs 1 0 0 (eL_ bits i).length)]) (fun i=>[.vec 1 (aq_ .i64 (eL_ bits i))]) (fun i=>n-i) (fun i=>i≤n) 0 (Nat.zero_le _) ?_ ?_
 ·rw[hz];exact QV_ [] [0]
 intro i hi;have hlen:=mP_ bits i;(try simp only[ao_,ar_,List.set_cons_zero,List.set_cons_succ])
 by_cases h1:i<n
 ·have e1:decide ((i:Int)<((n:Nat):Int))=true:=decide_eq_true (by omega)
  have hw:=ae_ h1 (by omega);have hu:IntKind.u64.wrap (i:Int)=(i:Int):=aL_ (by omega) (by omega);have hs:=GQ_ bits i;have hnum:∀l:List Int,aq_ .i64 l++[[.int .i64 (i:Int)]]=aq_ .i64 (l++[(i:Int)]):=fun l=>eZ_ .i64 l [(i:Int)]
  cases hq:(fP_ .i64 (dq_ .i64 bits i) 1==1)with
  | true =>
    rw[hq,if_pos rfl]at hs;repeat(first|refine aa_ ?_|simp only[go_sem,e1])
    refine ac_ ?_;repeat(first|refine aa_ ?_|simp only[go_sem,hu,hq])
    refine ac_ ?_;repeat(first|refine aa_ ?_|simp only[go_sem,hw,hnum])
    refine⟨i+1,h1,by omega,?_⟩;simp only[hs,List.length_append,List.length_cons,List.length_nil,Nat.zero_add];exact QV_ [] [1]
  | false =>
    rw[hq,if_neg (by simp)]at hs;repeat(first|refine aa_ ?_|simp only[go_sem,e1])
    refine ac_ ?_;repeat(first|refine aa_ ?_|simp only[go_sem,hu,hq])
    refine ab_ ?_;repeat(first|refine aa_ ?_|simp only[go_sem,hw])
    refine⟨i+1,h1,by omega,?_⟩;simp only[hs];exact QV_ [] [0]
 ·obtain rfl:i=n:=by omega
  have e1:decide ((i:Int)<(i:Int))=false:=decide_eq_false (by omega);repeat(first|refine aa_ ?_|simp only[go_sem,e1])
  refine PG_ ?_
  exact QV_ [] [0]
theorem Mw_(n:Nat)(bits:Int)(h0:0<n)(hn:n≤1000000):(∃l:List Int,l.length≤n∧as_ Tryz.prog 65 [.int .i64 n,.int .i64 bits] [] (.hs 1 0 0 l.length) [.vec 1 (aq_ .i64 l)]) ∨
 PC Tryz.prog 65 [.int .i64 n,.int .i64 bits] (.sl 1 true (aq_ .i64 [0])):=by
 have hg:=Or_ n bits hn;have hc:bW_=.seq bW_.hd (.seq (bW_.tl 1).hd (.seq (bW_.tl 2).hd (bW_.tl 3))):=rfl;have e3:decide ((0:Int)<(n:Int))=true:=decide_eq_true (by omega);have hlen:=mP_ bits n;by_cases hq:eL_ bits n=[]
 ·right
  refine PC.fact 7 lR_ (by simp) puA puA ?_;rw[hc];generalize (bW_.tl 2).hd=L at *;unfold bW_;refine bd ?_;simp only[ad_.hd,ad_.tl];rw[hq]at hg;try refine aa_ ?_
  refine cP_ 5 1 ?_;simp only[go_sem];refine hg _ _ _ ?_;repeat(first|refine aa_ ?_|simp only[go_sem,e3])
  refine PH_ ?_
  exact af_
 ·left
  have hp:0<(eL_ bits n).length:=List.length_pos_iff.2 hq;refine⟨eL_ bits n,hlen,as_.fact 7 lR_ (by simp) ?_ (by simp)⟩;rw[hc];generalize (bW_.tl 2).hd=L at *;unfold bW_;refine bd ?_;simp only[ad_.hd,ad_.tl];generalize eL_ bits n=l at *;have e4:((l.length:Int)==0)=false:=by rw[←Bool.not_eq_true,beq_iff_eq];omega
  try refine aa_ ?_
  refine cP_ 5 1 ?_;simp only[go_sem];refine hg _ _ _ ?_;repeat(first|refine aa_ ?_|simp only[go_sem,e4])
  refine PG_ ?_
  exact QO_ [] [0]
structure OV_(x:aH_):Prop where
 slot:U64 x.slot
 ep:U64 x.target.ep
 len:x.vals.length≤10
section
variable{fr:Fr}{σ:St}{rs:List eA_}{G:aH_→Prop}{l:List AV}{a:Int}{b:Rt}{c:Cp}{d:List Int}
theorem GM_(hl:bV_ fr σ rs=some l)(hv:fz σ (List.range σ.length) (ee_ l)=.agg (aY_ ⟨a,b,c,.sl 1 false (aq_ .i64 d)⟩))(hg:G ⟨a,b,c,d⟩):Sm G fun x=>PQ rs (.agg (aY_ x.a)) .ret fr σ:=⟨_,hg,l,hl,.inl hv⟩
theorem Ml_(hl:bV_ fr σ rs=some l)(hv:fz σ (List.range σ.length) (ee_ l)=.agg (aY_ ⟨a,b,c,.sl 1 true (aq_ .i64 d)⟩))(hg:G ⟨a,b,c,d⟩):Sm G fun x=>PQ rs (.agg (aY_ x.a)) .ret fr σ:=
 ⟨_,hg,l,hl,.inr ⟨_,hv,(ei_ _).2 (aM_ _ _),Wk.agg (WkC.same _ ((WkC.refl _).app ((WkC.refl _).app (WkC.one (Wk.open_ _ _ _) fun h=>h))))⟩⟩
end
theorem Hn_(s:aj_)(i:Nat)(hi:aR_ s i)(k:Int)(hk:0≤k):Sm OV_ fun x=>PC Tryz.prog 18 [.agg (ai_ s.a),.int .i64 k] (.agg (aY_ x.a)):=by
 have hr:=hi.r;have hpos:=hi.tree.pos;have hb0:=hi.cfg.b0;have hb1:=hi.cfg.b1;have hnw:=hi.nw;have huf:=hi.uf;have hsp:=hi.cfg.s1;have hs0:=Mw_ s.cfg.bals.length (dq_ .i64 k 3) hb0 (by omega);obtain⟨p,hp,hp'⟩:=bQ_ hk hpos;obtain⟨p4,hp4,hp4'⟩:=bQ_ (hF_ 4 hk) hpos;have hg:=bD_ (t:=s.nodes) hp';have hg4:=bD_ (t:=s.nodes) hp4';rcases hs0 with⟨l,hl,cs⟩|cs
 ·refine fU_ 7 ij_ (by simp) puA (fun r _=>puA) ?_
  unfold ff_;refine bd ?_;repeat(first|refine bm_ ?_|simp only[go_sem,hp,hg])
  refine eH_ (fun r hr=>bo_ [] cs (by simp) evd (bF_.mk' (by simp) (by simp) evd) hr) ?_;repeat(first|refine gd_ ?_|simp only[go_sem,hg])
  generalize (nod s.nodes p).blk.root=r0 at *;refine bE_ ?_;refine fb_ U64 (fun x:Int=>aY_ ⟨x,r0,⟨0,rt0⟩,.hs 1 2 0 l.length⟩) 3 [] ?_ (fun x hx=>?_)
  ·repeat'(first|refine bm_ ?_|(refine aS_ (fun h=>?_) (fun h=>?_)<;>try(exact absurd h (by decide)))|refine cr_ (fun h=>?_) (fun h=>?_))
   all_goals(refine eG_ (fun x:Int=>aY_ ⟨x,r0,⟨0,rt0⟩,.hs 1 2 0 l.length⟩) 3 rfl ?_ (by exact QV_ [] [0,1,2,3]);first|assumption|exact bg_ _)
  (try simp only[ar_])
  refine bm_ ?_;generalize hE:IntKind.u64.wrap (Int.tdiv x s.cfg.spe)=E at *;have hE':U64 E:=hE▸bg_ _;have hc:=qs_ (s:=s) (i:=(p:Int)) huf hE';have c1:=oY_ s hr p E;generalize Ei_ s p E=c at *;refine ca_ c1 ?_;repeat'(first|refine bm_ ?_|simp only[go_sem,hg4,hp4,qR_]|(refine aS_ (fun h=>?_) (fun h=>?_)<;>try(exact absurd h (by decide)))|refine cr_ (fun h=>?_) (fun h=>?_))
  all_goals try(refine bu_ (el_ _) ?_;refine bm_ ?_)
  all_goals(refine GM_ (by first|rfl|exact evd) (by first|rfl|((try simp only[go_sem,Nat.reduceAdd,Nat.reduceSub,Nat.reduceMul,Nat.reduceLT,Nat.reduceLeDiff,Nat.reduceEqDiff,reduceIte,Int.reduceToNat,Int.reduceLT,Int.reduceLE,Int.reduceEq,Int.reduceNeg,reduceCtorEq,Int.reduceBEq,Int.reduceBNe]);rfl)) ?_)
  all_goals(constructor<;>(try dsimp only)<;>first|assumption|exact bg_ _|exact qs_ huf (bg_ _)|(simp only[List.length_append,List.length_cons,List.length_nil];omega)|omega)
 ·refine fU_ 7 ij_ (by simp) puA (fun r _=>puA) ?_
  unfold ff_;refine bd ?_;repeat(first|refine bm_ ?_|simp only[go_sem,hp,hg])
  refine ca_ cs ?_;repeat(first|refine gd_ ?_|simp only[go_sem,hg])
  generalize (nod s.nodes p).blk.root=r0 at *;refine bE_ ?_;refine fb_ U64 (fun x:Int=>aY_ ⟨x,r0,⟨0,rt0⟩,.sl 1 true (aq_ .i64 [0])⟩) 3 [] ?_ (fun x hx=>?_)
  ·repeat'(first|refine bm_ ?_|(refine aS_ (fun h=>?_) (fun h=>?_)<;>try(exact absurd h (by decide)))|refine cr_ (fun h=>?_) (fun h=>?_))
   all_goals(refine eG_ (fun x:Int=>aY_ ⟨x,r0,⟨0,rt0⟩,.sl 1 true (aq_ .i64 [0])⟩) 3 rfl ?_ (by exact QV_ [] [0,1,2,3]);first|assumption|exact bg_ _)
  (try simp only[ar_])
  refine bm_ ?_;generalize hE:IntKind.u64.wrap (Int.tdiv x s.cfg.spe)=E at *;have hE':U64 E:=hE▸bg_ _;have hc:=qs_ (s:=s) (i:=(p:Int)) huf hE';have c1:=oY_ s hr p E;generalize Ei_ s p E=c at *;refine ca_ c1 ?_;repeat'(first|refine bm_ ?_|simp only[go_sem,hg4,hp4,qR_]|(refine aS_ (fun h=>?_) (fun h=>?_)<;>try(exact absurd h (by decide)))|refine cr_ (fun h=>?_) (fun h=>?_))
  all_goals try(refine bu_ (el_ _) ?_;refine bm_ ?_)
  all_goals first|(refine Ml_ (by first|rfl|exact evd) (by first|rfl|((try simp only[go_sem,Nat.reduceAdd,Nat.reduceSub,Nat.reduceMul,Nat.reduceLT,Nat.reduceLeDiff,Nat.reduceEqDiff,reduceIte,Int.reduceToNat,Int.reduceLT,Int.reduceLE,Int.reduceEq,Int.reduceNeg,reduceCtorEq,Int.reduceBEq,Int.reduceBNe]);rfl)) ?_)|(refine GM_ (by first|rfl|exact evd) (by first|rfl|((try simp only[go_sem,Nat.reduceAdd,Nat.reduceSub,Nat.reduceMul,Nat.reduceLT,Nat.reduceLeDiff,Nat.reduceEqDiff,reduceIte,Int.reduceToNat,Int.reduceLT,Int.reduceLE,Int.reduceEq,Int.reduceNeg,reduceCtorEq,Int.reduceBEq,Int.reduceBNe]);rfl)) ?_)
  all_goals(constructor<;>(try dsimp only)<;>first|assumption|exact bg_ _|exact qs_ huf (bg_ _)|(simp only[List.length_append,List.length_cons,List.length_nil];omega)|(simp;done)|omega)
structure Pb_(x:aw_):Prop where
 ep:U64 x.cp.ep
 len:x.bals.length≤10
 bals:∀n∈x.bals,U64 n
def th_(k:Int)(n:Nat):List Int:=(List.range n).map fun v=>IntKind.u64.wrap (Int.tmod (dq_ .i64 k v) 50)
theorem Bt_(k:Int)(n:Nat):(th_ k n).length=n:=by simp[th_]
theorem Ph_(k:Int)(n:Nat):th_ k (n+1)=th_ k n++[IntKind.u64.wrap (Int.tmod (dq_ .i64 k n) 50)]:=by simp[th_,List.range_succ]
theorem Pi_(k:Int)(n:Nat):∀x∈th_ k n,U64 x:=fun x hx=>by
 unfold th_ at hx;obtain⟨v,_,rfl⟩:=List.mem_map.1 hx;exact bg_ _
theorem Ov_(c:Cp)(u v:AV):(aT_ ⟨c,u⟩).set 33 v=aT_ ⟨c,v⟩:=by
 unfold aT_;rw[List.set_append_right 33 _ (by rw[al_];exact Nat.le_refl _),al_];rfl
theorem Ou_(c:Cp)(u:AV):(aT_ ⟨c,u⟩).getD 33 .dead=u:=by
 unfold aT_;rw[List.getD_eq_getElem?_getD,List.getElem?_append_right (by rw[al_];exact Nat.le_refl _),al_];rfl
theorem Lz_(k:IntKind)(l:List Int)(i:Nat)(x:Int):(aq_ k l).set i [.int k x]=aq_ k (l.set i x):=by simp[aq_,List.map_set]
section
variable{fr:Fr}{σ:St}{rs:List eA_}{G:aw_→Prop}{l:List AV}{c:Cp}{d:List Int}
theorem NR_(hl:bV_ fr σ rs=some l)(hv:fz σ (List.range σ.length) (ee_ l)=.agg (aT_ ⟨c,.sl 1 false (aq_ .u64 d)⟩))(hg:G ⟨c,d⟩):Sm G fun x=>PQ rs (.agg (aT_ x.a)) .ret fr σ:=⟨_,hg,l,hl,.inl hv⟩
end
theorem Hx_(s:aj_)(i:Nat)(hi:aR_ s i)(k:Int)(hk:0≤k):Sm Pb_ fun x=>PC Tryz.prog 31 [.agg (ai_ s.a),.int .i64 k] (.agg (aT_ x.a)):=by
 have hr:=hi.r;have hpos:=hi.tree.pos;have hb0:=hi.cfg.b0;have hb1:=hi.cfg.b1;have hnw:=hi.nw;have huf:=hi.uf;have hsp:=hi.cfg.s1;obtain⟨p,hp,hp'⟩:=bQ_ hk hpos;have hg:=bD_ (t:=s.nodes) hp';have hu:=(hi.blk hp').j;generalize (nod s.nodes p)=up at *;refine fU_ 8 zE_ (by simp) puA (fun r _=>puA) ?_;unfold pc_;refine bd ?_;refine bE_ ?_;refine ec_ ?_;refine bE_ ?_;repeat(first|refine ec_ ?_|simp only[go_sem,hp])
 refine bE_ ?_;repeat(first|refine ec_ ?_|simp only[go_sem,hg])
 refine bE_ ?_;refine fb_ (fun c:Cp=>U64 c.ep) (fun c:Cp=>aT_ ⟨c,.sl 0 true []⟩) 2 [] ?_ (fun c hc=>?_)
 ·repeat'(first|refine bm_ ?_|(refine aS_ (fun h=>?_) (fun h=>?_)<;>try(exact absurd h (by decide)))|refine cr_ (fun h=>?_) (fun h=>?_))
  ·refine ca_ (oY_ s hr p _) ?_;repeat'(first|refine bm_ ?_|(refine aS_ (fun h=>?_) (fun h=>?_)<;>try(exact absurd h (by decide)))|refine cr_ (fun h=>?_) (fun h=>?_))
   refine eG_ (fun c:Cp=>aT_ ⟨c,.sl 0 true []⟩) 2 rfl ?_ (by exact QV_ [] [0,1,2]);exact qs_ huf (bg_ _)
  ·refine eG_ (fun c:Cp=>aT_ ⟨c,.sl 0 true []⟩) 2 rfl ?_ (by exact QV_ [] [0,1,2]);assumption
 (try simp only[ar_])
 refine bE_ ?_;generalize hN:s.cfg.bals.length=N at *;refine vn_ (fun l:List Int=>l.length=N∧∀n∈l,U64 n) (fun _=>[]) (fun l=>[.var (ai_ s.a),.var (aT_ ⟨⟨0,rt0⟩,.sl 0 true []⟩),.var (aT_ ⟨c,.hs 1 3 0 l.length⟩),.vec 1 (aq_ .u64 l)]) ?_ (fun l hl=>?_)
 ·refine Mm_ (th_ k N) ⟨Bt_ k N,Pi_ k N⟩ ?_
  try refine aa_ ?_
  refine iB_ 2 33 1 ?_ (by rfl) (by exact Ou_ _ _);simp only[go_sem,Ov_];refine am_ (fun i:Nat=>[(7,.int .i64 i)]) (fun i=>[.var (ai_ s.a),.var (aT_ ⟨⟨0,rt0⟩,.sl 0 true []⟩),.var (aT_ ⟨c,.hs 1 3 0 (th_ k i).length⟩),.vec 1 (aq_ .u64 (th_ k i))]) (fun i=>N-i) (fun i=>i≤N) 0 (Nat.zero_le _) ?_ ?_
  ·rw[show th_ k 0=[]from rfl];exact QV_ [] [0,1,2,3]
  intro i hi;have hlen:=Bt_ k i;by_cases h1:i<N
  ·have e1:decide ((i:Int)<(s.cfg.bals.length:Int))=true:=decide_eq_true (by omega);have hw:=ae_ h1 (by omega);have hu:IntKind.u64.wrap (i:Int)=(i:Int):=aL_ (by omega) (by omega);have hs:=Ph_ k i;repeat(first|refine aa_ ?_|simp only[go_sem,e1])
   refine ac_ ?_;repeat(first|refine aa_ ?_|simp only[go_sem,hu,hw])
   refine⟨i+1,h1,by omega,?_⟩;rw[hs];exact QV_ [] [0,1,2,4]
  ·obtain rfl:i=N:=by omega
   have e1:decide ((i:Int)<(s.cfg.bals.length:Int))=false:=decide_eq_false (by omega);repeat(first|refine aa_ ?_|simp only[go_sem,e1])
   refine PG_ ?_
   exact QV_ [] [0,1,2,3]
 obtain⟨hl1,hl2⟩:=hl;have hgd:=gdn (k:=.u64) (ns:=l) (i:=0) (by omega);repeat'(first|refine bm_ ?_|simp only[go_sem,Lz_,hgd]|(refine aS_ (fun h=>?_) (fun h=>?_)<;>try(exact absurd h (by decide)))|refine cr_ (fun h=>?_) (fun h=>?_))
 all_goals(refine NR_ (by first|rfl|exact evd) (by first|rfl|((try simp only[go_sem,Nat.reduceAdd,Nat.reduceSub,Nat.reduceMul,Nat.reduceLT,Nat.reduceLeDiff,Nat.reduceEqDiff,reduceIte,Int.reduceToNat,Int.reduceLT,Int.reduceLE,Int.reduceEq,Int.reduceNeg,reduceCtorEq,Int.reduceBEq,Int.reduceBNe]);rfl)) ?_)
 ·refine⟨hc,by simp only[List.length_append,List.length_cons,List.length_nil];omega,fun n hn=>?_⟩;rcases List.mem_append.1 hn with h|h
  ·exact hl2 n h
  ·rw[List.mem_singleton]at h;subst h;exact⟨by decide,by decide⟩
 ·refine⟨hc,by simp only[List.length_set];omega,fun n hn=>?_⟩;rcases List.mem_or_eq_of_mem_set hn with h|rfl
  ·exact hl2 n h
  ·exact⟨by decide,by decide⟩
 ·exact⟨hc,by dsimp only;omega,hl2⟩
structure QC_(v:Vdt):Prop where
 tag:U64 v.tag
 lo:1≤v.kind
 hi:v.kind≤4
theorem Hy_(s:aI_)(i:Nat)(hi:dW_ s i)(k:Int)(hk:0≤k):Sm QC_ fun v=>PC Tryz.prog 173 [.agg (aD_ s.a),.int .i64 k] (.agg (cl_ v)):=by
 have hr:=hi.sto.r;have hpos:=hi.sto.tree.pos;have hrq:=hi.rq;have hii:=hi.sto.ii;have hut:=hi.ut;obtain⟨p,hp,hp'⟩:=bQ_ hk hpos;have hg:=bD_ (t:=s.sto.nodes) hp';obtain⟨q,hq,hq'⟩:=bQ_ (n:=6) (hF_ 4 hk) (by decide)
 obtain⟨kd,hkd,hk1,hk4⟩:∃kd:Int,([[.int .i64 1],[.int .i64 1],[.int .i64 2],[.int .i64 2],[.int .i64 3],[.int .i64 4]]:List (List AV)).getD q []=[.int .i64 kd]∧1≤kd∧kd≤4:=by
  match q,hq' with
  |0,_|1,_=>exact⟨1,rfl,by decide,by decide⟩
  |2,_|3,_=>exact⟨2,rfl,by decide,by decide⟩
  |4,_=>exact⟨3,rfl,by decide,by decide⟩
  |5,_=>exact⟨4,rfl,by decide,by decide⟩
 have hq6:Int.tmod (dq_ .i64 k 4) 6=(q:Int):=hq;refine fU_ 11 tJ_ (by simp) puA (fun r _=>puA) ?_;unfold lq_;refine bd ?_;refine bE_ ?_;refine ec_ ?_;refine bE_ ?_;repeat(first|refine ec_ ?_|simp only[go_sem,hq6,hkd])
 refine bE_ ?_;repeat(first|refine ec_ ?_|simp only[go_sem,hp,hg])
 generalize (nod s.sto.nodes p).blk.root=r0 at *;generalize hT:IntKind.u64.wrap (k.tmod 9)=T at *;have hT':U64 T:=hT▸bg_ _;refine bE_ ?_;refine vn_ (fun b:Int×Rt=>U64 b.1) (fun _=>[(7,.int .i64 s.reqs.length)]) (fun b=>[.var (aD_ s.a),.var (cl_ ⟨0,0,rt0⟩),.var (cl_ ⟨b.1,kd,rt0⟩),.var (rtc b.2)]) ?_ (fun b hb=>?_)
 ·by_cases hrl:0<s.reqs.length
  ·obtain⟨q1,h1,h1'⟩:=bQ_ (hF_ 11 hk) hrl;have e1:decide ((0:Int)<(s.reqs.length:Int))=true:=decide_eq_true (by omega);have hg1:(rows aJ_ s.reqs).getD q1 []=aJ_ (dk_ s.reqs q1):=aK_ (f:=aJ_) hk_ h1';have hq1:=hut _ (CW_ h1');generalize dk_ s.reqs q1=R at *;repeat'(first|refine bm_ ?_|simp only[go_sem,e1,h1,hg1]|(refine aS_ (fun h=>?_) (fun h=>?_)<;>try(exact absurd h (by decide)))|refine cr_ (fun h=>?_) (fun h=>?_))
   ·exact⟨(R.tag,R.block),hq1,by exact QV_ [] [0,1,2,3]⟩
   all_goals exact⟨(T,r0),hT',by exact QV_ [] [0,1,2,3]⟩
  ·have e1:decide ((0:Int)<(s.reqs.length:Int))=false:=decide_eq_false (by omega);repeat'(first|refine bm_ ?_|simp only[go_sem,e1]|(refine aS_ (fun h=>?_) (fun h=>?_)<;>try(exact absurd h (by decide)))|refine cr_ (fun h=>?_) (fun h=>?_))
   exact⟨(T,r0),hT',by exact QV_ [] [0,1,2,3]⟩
 obtain⟨T1,r1⟩:=b;simp only[ao_,ar_,List.set_cons_zero,List.set_cons_succ]at hb ⊢;refine bm_ ?_;refine bu_ (bv_ s.sto.nodes r1 hr.bn) ?_;generalize an_ s.sto.nodes r1=I;refine gd_ ?_;refine bE_ ?_;have cp:=jR_ s.sto.nodes hr.tree.ok hr.bn I;have hpm:=fun x hx=>er_ (x:=x) hr.tree.ok (i:=I) hx
 have hpl:=iq_ hr.tree.ok I;have hbn:=hr.bn;generalize bG_ s.sto.nodes I=L at *;refine fb_ (fun _:Rt=>True) (fun r:Rt=>cl_ ⟨T1,kd,r⟩) 2 [] ?_ (fun r2 _=>?_)
 ·by_cases hrl:0<L.length
  ·obtain⟨q1,h1,h1'⟩:=bQ_ (hF_ 16 hk) hrl;have e1:decide ((0:Int)<(L.length:Int))=true:=decide_eq_true (by omega);have hg1:=gdn (k:=.i64) h1';have hm:=hpm _ (dN_ 0 h1');obtain⟨u,hu⟩:=Int.eq_ofNat_of_zero_le hm.1;rw[hu]at hg1 hm;have hg2:=bD_ (t:=s.sto.nodes) (i:=u) (by omega);refine bm_ ?_;refine bu_ cp ?_;repeat'(first|refine bm_ ?_|simp only[go_sem,e1,h1,hg1,hg2]|(refine aS_ (fun h=>?_) (fun h=>?_)<;>try(exact absurd h (by decide)))|refine cr_ (fun h=>?_) (fun h=>?_))
   all_goals refine eG_ (fun r:Rt=>cl_ ⟨T1,kd,r⟩) 2 rfl trivial (by exact QV_ [] [0,1,2,3])
  ·have e1:decide ((0:Int)<(L.length:Int))=false:=decide_eq_false (by omega);refine bm_ ?_;refine bu_ cp ?_;repeat'(first|refine bm_ ?_|simp only[go_sem,e1]|(refine aS_ (fun h=>?_) (fun h=>?_)<;>try(exact absurd h (by decide)))|refine cr_ (fun h=>?_) (fun h=>?_))
   refine eG_ (fun r:Rt=>cl_ ⟨T1,kd,r⟩) 2 rfl trivial (by exact QV_ [] [0,1,2,3])
 (try simp only[ar_])
 repeat'(first|refine bm_ ?_|(refine aS_ (fun h=>?_) (fun h=>?_)<;>try(exact absurd h (by decide)))|refine cr_ (fun h=>?_) (fun h=>?_))
 ·refine bu_ (el_ _) ?_;refine bm_ ?_;refine vm_ (by first|rfl|exact evd) (by first|rfl|((try simp only[go_sem,Nat.reduceAdd,Nat.reduceSub,Nat.reduceMul,Nat.reduceLT,Nat.reduceLeDiff,Nat.reduceEqDiff,reduceIte,Int.reduceToNat,Int.reduceLT,Int.reduceLE,Int.reduceEq,Int.reduceNeg,reduceCtorEq,Int.reduceBEq,Int.reduceBNe]);rfl)) ?_;exact⟨hb,hk1,hk4⟩
 ·refine vm_ (by first|rfl|exact evd) (by first|rfl|((try simp only[go_sem,Nat.reduceAdd,Nat.reduceSub,Nat.reduceMul,Nat.reduceLT,Nat.reduceLeDiff,Nat.reduceEqDiff,reduceIte,Int.reduceToNat,Int.reduceLT,Int.reduceLE,Int.reduceEq,Int.reduceNeg,reduceCtorEq,Int.reduceBEq,Int.reduceBNe]);rfl)) ?_;exact⟨hb,hk1,hk4⟩
end Go.Proofs.YtkgimpdgncakjaaGreat
