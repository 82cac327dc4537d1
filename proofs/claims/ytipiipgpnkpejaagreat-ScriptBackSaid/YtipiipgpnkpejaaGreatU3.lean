/-
 My texts Mc, Md, joined.
-/
import Derived.Test.YtipiipgpnkpejaaGreatU2
import Derived.Test.YtipiipgpnkpejaaGreatV7
namespace Go.Proofs.YtipiipgpnkpejaaGreat
open Go Go.FH Go.RowKit
set_option linter.unusedVariables false
set_option linter.unusedSimpArgs false
set_option maxRecDepth 8000
set_option maxHeartbeats 4000000
theorem PT_(n:Nat)(bits:Int)(hn:n≤1000000):Rt_ Tryz.prog 31 0 (cn_.tl 2).hd ⟨7,[.int .i64 n,.int .i64 bits,.dead,.dead,.sl 0 true [],.hs 1 0 0 0,.dead],[]⟩ [.vec 1 []]
 ⟨7,[.int .i64 n,.int .i64 bits,.dead,.dead,.sl 0 true [],.hs 1 0 0 (eR_ bits n).length,.dead],[]⟩ [.vec 1 (aq_ .i64 (eR_ bits n))]:=by
 refine uE_ ?_;unfold cn_;refine bd ?_;simp only[ad_.tl,ad_.hd];try refine aa_ ?_
 have hz:eR_ bits 0=[]:=rfl;refine aG_ (fun i:Nat=>[(6,.int .i64 i),(5,.hs 1 0 0 (eR_ bits i).length)]) (fun i=>[.vec 1 (aq_ .i64 (eR_ bits i))]) (fun i=>n-i) (fun i=>i≤n) 0 (Nat.zero_le _) ?_ ?_
 ·rw[hz];exact Sn_ [] [0]
 intro i hi;have hlen:=nO_ bits i;(try simp only[aF_,aA_,List.set_cons_zero,List.set_cons_succ])
 by_cases h1:i<n
 ·have e1:decide ((i:Int)<((n:Nat):Int))=true:=decide_eq_true (by omega)
  have hw:=ag_ h1 (by omega);have hu:IntKind.u64.wrap (i:Int)=(i:Int):=aH_ (by omega) (by omega);have hs:=IG_ bits i;have hnum:∀l:List Int,aq_ .i64 l++[[.int .i64 (i:Int)]]=aq_ .i64 (l++[(i:Int)]):=fun l=>fU_ .i64 l [(i:Int)]
  cases hq:(jc_ .i64 (dW_ .i64 bits i) 1==1)with
  | true =>
    rw[hq,if_pos rfl]at hs;repeat(first|refine aa_ ?_|simp only[go_sem,e1])
    refine ac_ ?_;repeat(first|refine aa_ ?_|simp only[go_sem,hu,hq])
    refine ac_ ?_;repeat(first|refine aa_ ?_|simp only[go_sem,hw,hnum])
    refine⟨i+1,h1,by omega,?_⟩;simp only[hs,List.length_append,List.length_cons,List.length_nil,Nat.zero_add];exact Sn_ [] [1]
  | false =>
    rw[hq,if_neg (by simp)]at hs;repeat(first|refine aa_ ?_|simp only[go_sem,e1])
    refine ac_ ?_;repeat(first|refine aa_ ?_|simp only[go_sem,hu,hq])
    refine ab_ ?_;repeat(first|refine aa_ ?_|simp only[go_sem,hw])
    refine⟨i+1,h1,by omega,?_⟩;simp only[hs];exact Sn_ [] [0]
 ·obtain rfl:i=n:=by omega
  have e1:decide ((i:Int)<(i:Int))=false:=decide_eq_false (by omega);repeat(first|refine aa_ ?_|simp only[go_sem,e1])
  refine Re_ ?_
  exact Sn_ [] [0]
theorem Oh_(n:Nat)(bits:Int)(h0:0<n)(hn:n≤1000000):(∃l:List Int,l.length≤n∧ar_ Tryz.prog 41 [.int .i64 n,.int .i64 bits] [] (.hs 1 0 0 l.length) [.vec 1 (aq_ .i64 l)]) ∨
 PC Tryz.prog 41 [.int .i64 n,.int .i64 bits] (.sl 1 true (aq_ .i64 [0])):=by
 have hg:=PT_ n bits hn;have hc:cn_=.seq cn_.hd (.seq (cn_.tl 1).hd (.seq (cn_.tl 2).hd (cn_.tl 3))):=rfl;have e3:decide ((0:Int)<(n:Int))=true:=decide_eq_true (by omega);have hlen:=nO_ bits n;by_cases hq:eR_ bits n=[]
 ·right
  refine PC.fact 7 mI_ (by simp) puA puA ?_;rw[hc];generalize (cn_.tl 2).hd=L at *;unfold cn_;refine bd ?_;simp only[ad_.hd,ad_.tl];rw[hq]at hg;try refine aa_ ?_
  refine fh_ 5 1 ?_;simp only[go_sem];refine hg _ _ _ ?_;repeat(first|refine aa_ ?_|simp only[go_sem,e3])
  refine Rf_ ?_
  exact ah_
 ·left
  have hp:0<(eR_ bits n).length:=List.length_pos_iff.2 hq;refine⟨eR_ bits n,hlen,ar_.fact 7 mI_ (by simp) ?_ (by simp)⟩;rw[hc];generalize (cn_.tl 2).hd=L at *;unfold cn_;refine bd ?_;simp only[ad_.hd,ad_.tl];generalize eR_ bits n=l at *;have e4:((l.length:Int)==0)=false:=by rw[←Bool.not_eq_true,beq_iff_eq];omega
  try refine aa_ ?_
  refine fh_ 5 1 ?_;simp only[go_sem];refine hg _ _ _ ?_;repeat(first|refine aa_ ?_|simp only[go_sem,e4])
  refine Re_ ?_
  exact Sg_ [] [0]
structure Ou_(x:aW_):Prop where
 slot:U64 x.slot
 ep:U64 x.target.ep
 len:x.vals.length≤10
section
variable{fr:Fr}{σ:St}{rs:List eG_}{G:aW_→Prop}{l:List AV}{a:Int}{b:Rt}{c:Cp}{d:List Int}
theorem IC_(hl:cg_ fr σ rs=some l)(hv:fz σ (List.range σ.length) (es_ l)=.agg (aX_ ⟨a,b,c,.sl 1 false (aq_ .i64 d)⟩))(hg:G ⟨a,b,c,d⟩):Sm G fun x=>PQ rs (.agg (aX_ x.a)) .ret fr σ:=⟨_,hg,l,hl,.inl hv⟩
theorem NX_(hl:cg_ fr σ rs=some l)(hv:fz σ (List.range σ.length) (es_ l)=.agg (aX_ ⟨a,b,c,.sl 1 true (aq_ .i64 d)⟩))(hg:G ⟨a,b,c,d⟩):Sm G fun x=>PQ rs (.agg (aX_ x.a)) .ret fr σ:=
 ⟨_,hg,l,hl,.inr ⟨_,hv,(cB_ _).2 (aL_ _ _),Wk.agg (WkC.same _ ((WkC.refl _).app ((WkC.refl _).app (WkC.one (Wk.open_ _ _ _) fun h=>h))))⟩⟩
end
theorem zB_(s:al_)(i:Nat)(hi:bg_ s i)(k:Int)(hk:0≤k):Sm Ou_ fun x=>PC Tryz.prog 11 [.agg (ao_ s.a),.int .i64 k] (.agg (aX_ x.a)):=by
 have hr:=hi.r;have hpos:=hi.tree.pos;have hb0:=hi.cfg.b0;have hb1:=hi.cfg.b1;have hnw:=hi.nw;have huf:=hi.uf;have hsp:=hi.cfg.s1;have hs0:=Oh_ s.cfg.bals.length (dW_ .i64 k 3) hb0 (by omega);obtain⟨p,hp,hp'⟩:=bN_ hk hpos;obtain⟨p4,hp4,hp4'⟩:=bN_ (gB_ 4 hk) hpos;have hg:=bQ_ (t:=s.nodes) hp';have hg4:=bQ_ (t:=s.nodes) hp4';rcases hs0 with⟨l,hl,cs⟩|cs
 ·refine fX_ 7 iG_ (by simp) puA (fun r _=>puA) ?_
  unfold fi_;refine bd ?_;repeat(first|refine bq_ ?_|simp only[go_sem,hp,hg])
  refine eO_ (fun r hr=>aQ_ [] cs (by simp) evd (bd_.mk' (by simp) (by simp) evd) hr) ?_;repeat(first|refine fY_ ?_|simp only[go_sem,hg])
  generalize (nod s.nodes p).blk.root=r0 at *;refine bv_ ?_;refine dt_ U64 (fun x:Int=>aX_ ⟨x,r0,⟨0,rt0⟩,.hs 1 2 0 l.length⟩) 3 [] ?_ (fun x hx=>?_)
  ·repeat'(first|refine bq_ ?_|(refine aT_ (fun h=>?_) (fun h=>?_)<;>try(exact absurd h (by decide)))|refine cD_ (fun h=>?_) (fun h=>?_))
   all_goals(refine cZ_ (fun x:Int=>aX_ ⟨x,r0,⟨0,rt0⟩,.hs 1 2 0 l.length⟩) 3 rfl ?_ (by exact Sn_ [] [0,1,2,3]);first|assumption|exact bG_ _)
  (try simp only[aA_])
  refine bq_ ?_;generalize hE:IntKind.u64.wrap (Int.tdiv x s.cfg.spe)=E at *;have hE':U64 E:=hE▸bG_ _;have hc:=rT_ (s:=s) (i:=(p:Int)) huf hE';have c1:=pX_ s hr p E;generalize Go_ s p E=c at *;refine cp_ c1 ?_;repeat'(first|refine bq_ ?_|simp only[go_sem,hg4,hp4,sw_]|(refine aT_ (fun h=>?_) (fun h=>?_)<;>try(exact absurd h (by decide)))|refine cD_ (fun h=>?_) (fun h=>?_))
  all_goals try(refine bE_ (ew_ _) ?_;refine bq_ ?_)
  all_goals(refine IC_ (by first|rfl|exact evd) (by first|rfl|((try simp only[go_sem,Nat.reduceAdd,Nat.reduceSub,Nat.reduceMul,Nat.reduceLT,Nat.reduceLeDiff,Nat.reduceEqDiff,reduceIte,Int.reduceToNat,Int.reduceLT,Int.reduceLE,Int.reduceEq,Int.reduceNeg,reduceCtorEq,Int.reduceBEq,Int.reduceBNe]);rfl)) ?_)
  all_goals(constructor<;>(try dsimp only)<;>first|assumption|exact bG_ _|exact rT_ huf (bG_ _)|(simp only[List.length_append,List.length_cons,List.length_nil];omega)|omega)
 ·refine fX_ 7 iG_ (by simp) puA (fun r _=>puA) ?_
  unfold fi_;refine bd ?_;repeat(first|refine bq_ ?_|simp only[go_sem,hp,hg])
  refine cp_ cs ?_;repeat(first|refine fY_ ?_|simp only[go_sem,hg])
  generalize (nod s.nodes p).blk.root=r0 at *;refine bv_ ?_;refine dt_ U64 (fun x:Int=>aX_ ⟨x,r0,⟨0,rt0⟩,.sl 1 true (aq_ .i64 [0])⟩) 3 [] ?_ (fun x hx=>?_)
  ·repeat'(first|refine bq_ ?_|(refine aT_ (fun h=>?_) (fun h=>?_)<;>try(exact absurd h (by decide)))|refine cD_ (fun h=>?_) (fun h=>?_))
   all_goals(refine cZ_ (fun x:Int=>aX_ ⟨x,r0,⟨0,rt0⟩,.sl 1 true (aq_ .i64 [0])⟩) 3 rfl ?_ (by exact Sn_ [] [0,1,2,3]);first|assumption|exact bG_ _)
  (try simp only[aA_])
  refine bq_ ?_;generalize hE:IntKind.u64.wrap (Int.tdiv x s.cfg.spe)=E at *;have hE':U64 E:=hE▸bG_ _;have hc:=rT_ (s:=s) (i:=(p:Int)) huf hE';have c1:=pX_ s hr p E;generalize Go_ s p E=c at *;refine cp_ c1 ?_;repeat'(first|refine bq_ ?_|simp only[go_sem,hg4,hp4,sw_]|(refine aT_ (fun h=>?_) (fun h=>?_)<;>try(exact absurd h (by decide)))|refine cD_ (fun h=>?_) (fun h=>?_))
  all_goals try(refine bE_ (ew_ _) ?_;refine bq_ ?_)
  all_goals first|(refine NX_ (by first|rfl|exact evd) (by first|rfl|((try simp only[go_sem,Nat.reduceAdd,Nat.reduceSub,Nat.reduceMul,Nat.reduceLT,Nat.reduceLeDiff,Nat.reduceEqDiff,reduceIte,Int.reduceToNat,Int.reduceLT,Int.reduceLE,Int.reduceEq,Int.reduceNeg,reduceCtorEq,Int.reduceBEq,Int.reduceBNe]);rfl)) ?_)|(refine IC_ (by first|rfl|exact evd) (by first|rfl|((try simp only[go_sem,Nat.reduceAdd,Nat.reduceSub,Nat.reduceMul,Nat.reduceLT,Nat.reduceLeDiff,Nat.reduceEqDiff,reduceIte,Int.reduceToNat,Int.reduceLT,Int.reduceLE,Int.reduceEq,Int.reduceNeg,reduceCtorEq,Int.reduceBEq,Int.reduceBNe]);rfl)) ?_)
  all_goals(constructor<;>(try dsimp only)<;>first|assumption|exact bG_ _|exact rT_ huf (bG_ _)|(simp only[List.length_append,List.length_cons,List.length_nil];omega)|(simp;done)|omega)
structure Qz_(x:aR_):Prop where
 ep:U64 x.cp.ep
 len:x.bals.length≤10
 bals:∀n∈x.bals,U64 n
def uW_(k:Int)(n:Nat):List Int:=(List.range n).map fun v=>IntKind.u64.wrap (Int.tmod (dW_ .i64 k v) 50)
theorem DG_(k:Int)(n:Nat):(uW_ k n).length=n:=by simp[uW_]
theorem QE_(k:Int)(n:Nat):uW_ k (n+1)=uW_ k n++[IntKind.u64.wrap (Int.tmod (dW_ .i64 k n) 50)]:=by simp[uW_,List.range_succ]
theorem QF_(k:Int)(n:Nat):∀x∈uW_ k n,U64 x:=fun x hx=>by
 unfold uW_ at hx;obtain⟨v,_,rfl⟩:=List.mem_map.1 hx;exact bG_ _
theorem PY_(c:Cp)(u v:AV):(aS_ ⟨c,u⟩).set 33 v=aS_ ⟨c,v⟩:=by
 unfold aS_;rw[List.set_append_right 33 _ (by rw[ak_];exact Nat.le_refl _),ak_];rfl
theorem PX_(c:Cp)(u:AV):(aS_ ⟨c,u⟩).getD 33 .dead=u:=by
 unfold aS_;rw[List.getD_eq_getElem?_getD,List.getElem?_append_right (by rw[ak_];exact Nat.le_refl _),ak_];rfl
theorem MT_(k:IntKind)(l:List Int)(i:Nat)(x:Int):(aq_ k l).set i [.int k x]=aq_ k (l.set i x):=by simp[aq_,List.map_set]
section
variable{fr:Fr}{σ:St}{rs:List eG_}{G:aR_→Prop}{l:List AV}{c:Cp}{d:List Int}
theorem Py_(hl:cg_ fr σ rs=some l)(hv:fz σ (List.range σ.length) (es_ l)=.agg (aS_ ⟨c,.sl 1 false (aq_ .u64 d)⟩))(hg:G ⟨c,d⟩):Sm G fun x=>PQ rs (.agg (aS_ x.a)) .ret fr σ:=⟨_,hg,l,hl,.inl hv⟩
end
theorem Jk_(s:al_)(i:Nat)(hi:bg_ s i)(k:Int)(hk:0≤k):Sm Qz_ fun x=>PC Tryz.prog 15 [.agg (ao_ s.a),.int .i64 k] (.agg (aS_ x.a)):=by
 have hr:=hi.r;have hpos:=hi.tree.pos;have hb0:=hi.cfg.b0;have hb1:=hi.cfg.b1;have hnw:=hi.nw;have huf:=hi.uf;have hsp:=hi.cfg.s1;obtain⟨p,hp,hp'⟩:=bN_ hk hpos;have hg:=bQ_ (t:=s.nodes) hp';have hu:=(hi.blk hp').j;generalize (nod s.nodes p)=up at *;refine fX_ 8 BS_ (by simp) puA (fun r _=>puA) ?_;unfold qb_;refine bd ?_;refine bv_ ?_;refine dm_ ?_;refine bv_ ?_;repeat(first|refine dm_ ?_|simp only[go_sem,hp])
 refine bv_ ?_;repeat(first|refine dm_ ?_|simp only[go_sem,hg])
 refine bv_ ?_;refine dt_ (fun c:Cp=>U64 c.ep) (fun c:Cp=>aS_ ⟨c,.sl 0 true []⟩) 2 [] ?_ (fun c hc=>?_)
 ·repeat'(first|refine bq_ ?_|(refine aT_ (fun h=>?_) (fun h=>?_)<;>try(exact absurd h (by decide)))|refine cD_ (fun h=>?_) (fun h=>?_))
  ·refine cp_ (pX_ s hr p _) ?_;repeat'(first|refine bq_ ?_|(refine aT_ (fun h=>?_) (fun h=>?_)<;>try(exact absurd h (by decide)))|refine cD_ (fun h=>?_) (fun h=>?_))
   refine cZ_ (fun c:Cp=>aS_ ⟨c,.sl 0 true []⟩) 2 rfl ?_ (by exact Sn_ [] [0,1,2]);exact rT_ huf (bG_ _)
  ·refine cZ_ (fun c:Cp=>aS_ ⟨c,.sl 0 true []⟩) 2 rfl ?_ (by exact Sn_ [] [0,1,2]);assumption
 (try simp only[aA_])
 refine bv_ ?_;generalize hN:s.cfg.bals.length=N at *;refine xc_ (fun l:List Int=>l.length=N∧∀n∈l,U64 n) (fun _=>[]) (fun l=>[.var (ao_ s.a),.var (aS_ ⟨⟨0,rt0⟩,.sl 0 true []⟩),.var (aS_ ⟨c,.hs 1 3 0 l.length⟩),.vec 1 (aq_ .u64 l)]) ?_ (fun l hl=>?_)
 ·refine ID_ (uW_ k N) ⟨DG_ k N,QF_ k N⟩ ?_
  try refine aa_ ?_
  refine nt_ 2 33 1 ?_ (by rfl) (by exact PX_ _ _);simp only[go_sem,PY_];refine aG_ (fun i:Nat=>[(7,.int .i64 i)]) (fun i=>[.var (ao_ s.a),.var (aS_ ⟨⟨0,rt0⟩,.sl 0 true []⟩),.var (aS_ ⟨c,.hs 1 3 0 (uW_ k i).length⟩),.vec 1 (aq_ .u64 (uW_ k i))]) (fun i=>N-i) (fun i=>i≤N) 0 (Nat.zero_le _) ?_ ?_
  ·rw[show uW_ k 0=[]from rfl];exact Sn_ [] [0,1,2,3]
  intro i hi;have hlen:=DG_ k i;by_cases h1:i<N
  ·have e1:decide ((i:Int)<(s.cfg.bals.length:Int))=true:=decide_eq_true (by omega);have hw:=ag_ h1 (by omega);have hu:IntKind.u64.wrap (i:Int)=(i:Int):=aH_ (by omega) (by omega);have hs:=QE_ k i;repeat(first|refine aa_ ?_|simp only[go_sem,e1])
   refine ac_ ?_;repeat(first|refine aa_ ?_|simp only[go_sem,hu,hw])
   refine⟨i+1,h1,by omega,?_⟩;rw[hs];exact Sn_ [] [0,1,2,4]
  ·obtain rfl:i=N:=by omega
   have e1:decide ((i:Int)<(s.cfg.bals.length:Int))=false:=decide_eq_false (by omega);repeat(first|refine aa_ ?_|simp only[go_sem,e1])
   refine Re_ ?_
   exact Sn_ [] [0,1,2,3]
 obtain⟨hl1,hl2⟩:=hl;have hgd:=gdn (k:=.u64) (ns:=l) (i:=0) (by omega);repeat'(first|refine bq_ ?_|simp only[go_sem,MT_,hgd]|(refine aT_ (fun h=>?_) (fun h=>?_)<;>try(exact absurd h (by decide)))|refine cD_ (fun h=>?_) (fun h=>?_))
 all_goals(refine Py_ (by first|rfl|exact evd) (by first|rfl|((try simp only[go_sem,Nat.reduceAdd,Nat.reduceSub,Nat.reduceMul,Nat.reduceLT,Nat.reduceLeDiff,Nat.reduceEqDiff,reduceIte,Int.reduceToNat,Int.reduceLT,Int.reduceLE,Int.reduceEq,Int.reduceNeg,reduceCtorEq,Int.reduceBEq,Int.reduceBNe]);rfl)) ?_)
 ·refine⟨hc,by simp only[List.length_append,List.length_cons,List.length_nil];omega,fun n hn=>?_⟩;rcases List.mem_append.1 hn with h|h
  ·exact hl2 n h
  ·rw[List.mem_singleton]at h;subst h;exact⟨by decide,by decide⟩
 ·refine⟨hc,by simp only[List.length_set];omega,fun n hn=>?_⟩;rcases List.mem_or_eq_of_mem_set hn with h|rfl
  ·exact hl2 n h
  ·exact⟨by decide,by decide⟩
 ·exact⟨hc,by dsimp only;omega,hl2⟩
structure RY_(v:Vdt):Prop where
 tag:U64 v.tag
 lo:1≤v.kind
 hi:v.kind≤4
theorem zD_(s:aN_)(i:Nat)(hi:ej_ s i)(k:Int)(hk:0≤k):Sm RY_ fun v=>PC Tryz.prog 18 [.agg (aB_ s.a),.int .i64 k] (.agg (bW_ v)):=by
 have hr:=hi.sto.r;have hpos:=hi.sto.tree.pos;have hrq:=hi.rq;have hii:=hi.sto.ii;have hut:=hi.ut;obtain⟨p,hp,hp'⟩:=bN_ hk hpos;have hg:=bQ_ (t:=s.sto.nodes) hp';obtain⟨q,hq,hq'⟩:=bN_ (n:=6) (gB_ 4 hk) (by decide)
 obtain⟨kd,hkd,hk1,hk4⟩:∃kd:Int,([[.int .i64 1],[.int .i64 1],[.int .i64 2],[.int .i64 2],[.int .i64 3],[.int .i64 4]]:List (List AV)).getD q []=[.int .i64 kd]∧1≤kd∧kd≤4:=by
  match q,hq' with
  |0,_|1,_=>exact⟨1,rfl,by decide,by decide⟩
  |2,_|3,_=>exact⟨2,rfl,by decide,by decide⟩
  |4,_=>exact⟨3,rfl,by decide,by decide⟩
  |5,_=>exact⟨4,rfl,by decide,by decide⟩
 have hq6:Int.tmod (dW_ .i64 k 4) 6=(q:Int):=hq;refine fX_ 11 vq_ (by simp) puA (fun r _=>puA) ?_;unfold ml_;refine bd ?_;refine bv_ ?_;refine dm_ ?_;refine bv_ ?_;repeat(first|refine dm_ ?_|simp only[go_sem,hq6,hkd])
 refine bv_ ?_;repeat(first|refine dm_ ?_|simp only[go_sem,hp,hg])
 generalize (nod s.sto.nodes p).blk.root=r0 at *;generalize hT:IntKind.u64.wrap (k.tmod 9)=T at *;have hT':U64 T:=hT▸bG_ _;refine bv_ ?_;refine xc_ (fun b:Int×Rt=>U64 b.1) (fun _=>[(7,.int .i64 s.reqs.length)]) (fun b=>[.var (aB_ s.a),.var (bW_ ⟨0,0,rt0⟩),.var (bW_ ⟨b.1,kd,rt0⟩),.var (rtc b.2)]) ?_ (fun b hb=>?_)
 ·by_cases hrl:0<s.reqs.length
  ·obtain⟨q1,h1,h1'⟩:=bN_ (gB_ 11 hk) hrl;have e1:decide ((0:Int)<(s.reqs.length:Int))=true:=decide_eq_true (by omega);have hg1:(rows aO_ s.reqs).getD q1 []=aO_ (dl_ s.reqs q1):=cw_ (f:=aO_) hr_ h1';have hq1:=hut _ (Fe_ h1');generalize dl_ s.reqs q1=R at *;repeat'(first|refine bq_ ?_|simp only[go_sem,e1,h1,hg1]|(refine aT_ (fun h=>?_) (fun h=>?_)<;>try(exact absurd h (by decide)))|refine cD_ (fun h=>?_) (fun h=>?_))
   ·exact⟨(R.tag,R.block),hq1,by exact Sn_ [] [0,1,2,3]⟩
   all_goals exact⟨(T,r0),hT',by exact Sn_ [] [0,1,2,3]⟩
  ·have e1:decide ((0:Int)<(s.reqs.length:Int))=false:=decide_eq_false (by omega);repeat'(first|refine bq_ ?_|simp only[go_sem,e1]|(refine aT_ (fun h=>?_) (fun h=>?_)<;>try(exact absurd h (by decide)))|refine cD_ (fun h=>?_) (fun h=>?_))
   exact⟨(T,r0),hT',by exact Sn_ [] [0,1,2,3]⟩
 obtain⟨T1,r1⟩:=b;simp only[aF_,aA_,List.set_cons_zero,List.set_cons_succ]at hb ⊢;refine bq_ ?_;refine bE_ (bJ_ s.sto.nodes r1 hr.bn) ?_;generalize av_ s.sto.nodes r1=I;refine fY_ ?_;refine bv_ ?_;have cp:=kM_ s.sto.nodes hr.tree.ok hr.bn I;have hpm:=fun x hx=>gw_ (x:=x) hr.tree.ok (i:=I) hx
 have hpl:=iP_ hr.tree.ok I;have hbn:=hr.bn;generalize bZ_ s.sto.nodes I=L at *;refine dt_ (fun _:Rt=>True) (fun r:Rt=>bW_ ⟨T1,kd,r⟩) 2 [] ?_ (fun r2 _=>?_)
 ·by_cases hrl:0<L.length
  ·obtain⟨q1,h1,h1'⟩:=bN_ (gB_ 16 hk) hrl;have e1:decide ((0:Int)<(L.length:Int))=true:=decide_eq_true (by omega);have hg1:=gdn (k:=.i64) h1';have hm:=hpm _ (gT_ 0 h1');obtain⟨u,hu⟩:=Int.eq_ofNat_of_zero_le hm.1;rw[hu]at hg1 hm;have hg2:=bQ_ (t:=s.sto.nodes) (i:=u) (by omega);refine bq_ ?_;refine bE_ cp ?_;repeat'(first|refine bq_ ?_|simp only[go_sem,e1,h1,hg1,hg2]|(refine aT_ (fun h=>?_) (fun h=>?_)<;>try(exact absurd h (by decide)))|refine cD_ (fun h=>?_) (fun h=>?_))
   all_goals refine cZ_ (fun r:Rt=>bW_ ⟨T1,kd,r⟩) 2 rfl trivial (by exact Sn_ [] [0,1,2,3])
  ·have e1:decide ((0:Int)<(L.length:Int))=false:=decide_eq_false (by omega);refine bq_ ?_;refine bE_ cp ?_;repeat'(first|refine bq_ ?_|simp only[go_sem,e1]|(refine aT_ (fun h=>?_) (fun h=>?_)<;>try(exact absurd h (by decide)))|refine cD_ (fun h=>?_) (fun h=>?_))
   refine cZ_ (fun r:Rt=>bW_ ⟨T1,kd,r⟩) 2 rfl trivial (by exact Sn_ [] [0,1,2,3])
 (try simp only[aA_])
 repeat'(first|refine bq_ ?_|(refine aT_ (fun h=>?_) (fun h=>?_)<;>try(exact absurd h (by decide)))|refine cD_ (fun h=>?_) (fun h=>?_))
 ·refine bE_ (ew_ _) ?_;refine bq_ ?_;refine CS_ (by first|rfl|exact evd) (by first|rfl|((try simp only[go_sem,Nat.reduceAdd,Nat.reduceSub,Nat.reduceMul,Nat.reduceLT,Nat.reduceLeDiff,Nat.reduceEqDiff,reduceIte,Int.reduceToNat,Int.reduceLT,Int.reduceLE,Int.reduceEq,Int.reduceNeg,reduceCtorEq,Int.reduceBEq,Int.reduceBNe]);rfl)) ?_;exact⟨hb,hk1,hk4⟩
 ·refine CS_ (by first|rfl|exact evd) (by first|rfl|((try simp only[go_sem,Nat.reduceAdd,Nat.reduceSub,Nat.reduceMul,Nat.reduceLT,Nat.reduceLeDiff,Nat.reduceEqDiff,reduceIte,Int.reduceToNat,Int.reduceLT,Int.reduceLE,Int.reduceEq,Int.reduceNeg,reduceCtorEq,Int.reduceBEq,Int.reduceBNe]);rfl)) ?_;exact⟨hb,hk1,hk4⟩
end Go.Proofs.YtipiipgpnkpejaaGreat
