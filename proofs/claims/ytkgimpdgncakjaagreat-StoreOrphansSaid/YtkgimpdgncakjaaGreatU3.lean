/-
 My texts Mc, Md, joined.
-/
import Derived.Test.YtkgimpdgncakjaaGreatU2
import Derived.Test.YtkgimpdgncakjaaGreatV7
namespace Go.Proofs.YtkgimpdgncakjaaGreat
open Go Go.FH Go.RowKit
set_option linter.unusedVariables false
set_option linter.unusedSimpArgs false
set_option maxRecDepth 8000
set_option maxHeartbeats 4000000
theorem Qa_(n:Nat)(bits:Int)(hn:n≤1000000):Ry_ Tryz.prog 31 0 (ck_.tl 2).hd ⟨7,[.int .i64 n,.int .i64 bits,.dead,.dead,.sl 0 true [],.hs 1 0 0 0,.dead],[]⟩ [.vec 1 []]
 ⟨7,[.int .i64 n,.int .i64 bits,.dead,.dead,.sl 0 true [],.hs 1 0 0 (eX_ bits n).length,.dead],[]⟩ [.vec 1 (aq_ .i64 (eX_ bits n))]:=by
 refine tW_ ?_;unfold ck_;refine bd ?_;simp only[ad_.tl,ad_.hd];try refine aa_ ?_
 have hz:eX_ bits 0=[]:=rfl;refine ao_ (fun i:Nat=>[(6,.int .i64 i),(5,.hs 1 0 0 (eX_ bits i).length)]) (fun i=>[.vec 1 (aq_ .i64 (eX_ bits i))]) (fun i=>n-i) (fun i=>i≤n) 0 (Nat.zero_le _) ?_ ?_
 ·rw[hz];exact ST_ [] [0]
 intro i hi;have hlen:=nD_ bits i;refine cC_ ?_;by_cases h1:i<n
 ·have e1:=inT h1
  have hw:=af_ h1 (by omega);have hu:IntKind.u64.wrap (i:Int)=(i:Int):=aF_ (by omega) (by omega);have hs:=Ix_ bits i;have hnum:∀l:List Int,aq_ .i64 l++[[.int .i64 (i:Int)]]=aq_ .i64 (l++[(i:Int)]):=fun l=>fo_ .i64 l [(i:Int)]
  cases hq:(fw_ .i64 (dF_ .i64 bits i) 1==1)with
  | true =>
    rw[hq,if_pos rfl]at hs;repeat(first|refine aa_ ?_|simp only[go_sem,e1])
    refine ac_ ?_;repeat(first|refine aa_ ?_|simp only[go_sem,hu,hq])
    refine ac_ ?_;repeat(first|refine aa_ ?_|simp only[go_sem,hw,hnum])
    refine⟨i+1,h1,by omega,?_⟩;simp only[hs,List.length_append,List.length_cons,List.length_nil,Nat.zero_add];exact ST_ [] [1]
  | false =>
    rw[hq,if_neg (by simp)]at hs;repeat(first|refine aa_ ?_|simp only[go_sem,e1])
    refine ac_ ?_;repeat(first|refine aa_ ?_|simp only[go_sem,hu,hq])
    refine ab_ ?_;repeat(first|refine aa_ ?_|simp only[go_sem,hw])
    refine⟨i+1,h1,by omega,?_⟩;simp only[hs];exact ST_ [] [0]
 ·obtain rfl:i=n:=by omega
  have e1:decide ((i:Int)<(i:Int))=false:=decide_eq_false (by omega);repeat(first|refine aa_ ?_|simp only[go_sem,e1])
  refine Rm_ ?_
  exact ST_ [] [0]
theorem Oh_(n:Nat)(bits:Int)(h0:0<n)(hn:n≤1000000):(∃l:List Int,l.length≤n∧ap_ Tryz.prog 65 [.int .i64 n,.int .i64 bits] [] (.hs 1 0 0 l.length) [.vec 1 (aq_ .i64 l)]) ∨
 PC Tryz.prog 65 [.int .i64 n,.int .i64 bits] (.sl 1 true (aq_ .i64 [0])):=by
 have hg:=Qa_ n bits hn;have hc:ck_=.seq ck_.hd (.seq (ck_.tl 1).hd (.seq (ck_.tl 2).hd (ck_.tl 3))):=rfl;have e3:decide ((0:Int)<(n:Int))=true:=decide_eq_true (by omega);have hlen:=nD_ bits n;by_cases hq:eX_ bits n=[]
 ·right
  refine PC.fact 7 my_ (by simp) puA puA ?_;rw[hc];generalize (ck_.tl 2).hd=L at *;unfold ck_;refine bd ?_;simp only[ad_.hd,ad_.tl];rw[hq]at hg;try refine aa_ ?_
  refine cY_ 5 1 ?_;simp only[go_sem];refine hg _ _ _ ?_;repeat(first|refine aa_ ?_|simp only[go_sem,e3])
  refine Rn_ ?_
  exact ag_
 ·left
  have hp:0<(eX_ bits n).length:=List.length_pos_iff.2 hq;refine⟨eX_ bits n,hlen,ap_.fact 7 my_ (by simp) ?_ (by simp)⟩;rw[hc];generalize (ck_.tl 2).hd=L at *;unfold ck_;refine bd ?_;simp only[ad_.hd,ad_.tl];generalize eX_ bits n=l at *;have e4:((l.length:Int)==0)=false:=by rw[←Bool.not_eq_true,beq_iff_eq];omega
  try refine aa_ ?_
  refine cY_ 5 1 ?_;simp only[go_sem];refine hg _ _ _ ?_;repeat(first|refine aa_ ?_|simp only[go_sem,e4])
  refine Rm_ ?_
  exact SM_ [] [0]
structure QE_(x:aG_):Prop where
 slot:U64 x.slot
 ep:U64 x.target.ep
 len:x.vals.length≤10
section
variable{fr:Fr}{σ:St}{rs:List ep_}{G:aG_→Prop}{l:List AV}{a:Int}{b:Rt}{c:Cp}{d:List Int}
theorem Is_(hl:ci_ fr σ rs=some l)(hv:fz σ (List.range σ.length) (eD_ l)=.agg (bi_ ⟨a,b,c,.sl 1 false (aq_ .i64 d)⟩))(hg:G ⟨a,b,c,d⟩):Sm G fun x=>PQ rs (.agg (bi_ x.a)) .ret fr σ:=⟨_,hg,l,hl,.inl hv⟩
theorem NX_(hl:ci_ fr σ rs=some l)(hv:fz σ (List.range σ.length) (eD_ l)=.agg (bi_ ⟨a,b,c,.sl 1 true (aq_ .i64 d)⟩))(hg:G ⟨a,b,c,d⟩):Sm G fun x=>PQ rs (.agg (bi_ x.a)) .ret fr σ:=
 ⟨_,hg,l,hl,.inr ⟨_,hv,(et_ _).2 (aN_ _ _),Wk.agg (WkC.same _ ((WkC.refl _).app ((WkC.refl _).app (WkC.one (Wk.open_ _ _ _) fun h=>h))))⟩⟩
end
theorem IW_(s:ai_)(i:Nat)(hi:aJ_ s i)(k:Int)(hk:0≤k):Sm QE_ fun x=>PC Tryz.prog 18 [.agg (aj_ s.a),.int .i64 k] (.agg (bi_ x.a)):=by
 have hr:=hi.r;have hpos:=hi.tree.pos;have hb0:=hi.cfg.b0;have hb1:=hi.cfg.b1;have hnw:=hi.nw.1;have huf:=hi.uf;have hsp:=hi.cfg.s1;have hs0:=Oh_ s.cfg.bals.length (dF_ .i64 k 3) hb0 (by omega);obtain⟨p,hp,hp'⟩:=cc_ hk hpos;obtain⟨p4,hp4,hp4'⟩:=cc_ (hX_ 4 hk) hpos;have hg:=bP_ (t:=s.nodes) hp';have hg4:=bP_ (t:=s.nodes) hp4';rcases hs0 with⟨l,hl,cs⟩|cs
 ·refine gM_ 7 iD_ (by simp) puA (fun r _=>puA) ?_
  unfold fs_;refine bd ?_;repeat(first|refine bu_ ?_|simp only[go_sem,hp,hg])
  refine eR_ (fun r hr=>bv_ [] cs (by simp) evd (bR_.mk' (by simp) (by simp) evd) hr) ?_;repeat(first|refine gs_ ?_|simp only[go_sem,hg])
  generalize (nod s.nodes p).blk.root=r0 at *;refine bQ_ ?_;refine fq_ U64 (fun x:Int=>bi_ ⟨x,r0,⟨0,rt0⟩,.hs 1 2 0 l.length⟩) 3 [] ?_ (fun x hx=>?_)
  ·repeat'(first|refine bu_ ?_|(refine aS_ (fun h=>?_) (fun h=>?_)<;>try(exact absurd h (by decide)))|refine cD_ (fun h=>?_) (fun h=>?_))
   all_goals(refine eQ_ (fun x:Int=>bi_ ⟨x,r0,⟨0,rt0⟩,.hs 1 2 0 l.length⟩) 3 rfl ?_ (by exact ST_ [] [0,1,2,3]);first|assumption|exact bf_ _)
  (try simp only[bt_])
  refine bu_ ?_;generalize hE:IntKind.u64.wrap (Int.tdiv x s.cfg.spe)=E at *;have hE':U64 E:=hE▸bf_ _;have hc:=rv_ (s:=s) (i:=(p:Int)) huf hE';have c1:=pP_ s hr p E;generalize FQ_ s p E=c at *;refine co_ c1 ?_;repeat'(first|refine bu_ ?_|simp only[go_sem,hg4,hp4,rS_]|(refine aS_ (fun h=>?_) (fun h=>?_)<;>try(exact absurd h (by decide)))|refine cD_ (fun h=>?_) (fun h=>?_))
  all_goals try(refine bE_ (dK_ _) ?_;refine bu_ ?_)
  all_goals(refine Is_ (by first|rfl|exact evd) (by first|rfl|((try simp only[go_sem,Nat.reduceAdd,Nat.reduceSub,Nat.reduceMul,Nat.reduceLT,Nat.reduceLeDiff,Nat.reduceEqDiff,reduceIte,Int.reduceToNat,Int.reduceLT,Int.reduceLE,Int.reduceEq,Int.reduceNeg,reduceCtorEq,Int.reduceBEq,Int.reduceBNe]);rfl)) ?_)
  all_goals(constructor<;>(try dsimp only)<;>first|assumption|exact bf_ _|exact rv_ huf (bf_ _)|(simp only[List.length_append,List.length_cons,List.length_nil];omega)|omega)
 ·refine gM_ 7 iD_ (by simp) puA (fun r _=>puA) ?_
  unfold fs_;refine bd ?_;repeat(first|refine bu_ ?_|simp only[go_sem,hp,hg])
  refine co_ cs ?_;repeat(first|refine gs_ ?_|simp only[go_sem,hg])
  generalize (nod s.nodes p).blk.root=r0 at *;refine bQ_ ?_;refine fq_ U64 (fun x:Int=>bi_ ⟨x,r0,⟨0,rt0⟩,.sl 1 true (aq_ .i64 [0])⟩) 3 [] ?_ (fun x hx=>?_)
  ·repeat'(first|refine bu_ ?_|(refine aS_ (fun h=>?_) (fun h=>?_)<;>try(exact absurd h (by decide)))|refine cD_ (fun h=>?_) (fun h=>?_))
   all_goals(refine eQ_ (fun x:Int=>bi_ ⟨x,r0,⟨0,rt0⟩,.sl 1 true (aq_ .i64 [0])⟩) 3 rfl ?_ (by exact ST_ [] [0,1,2,3]);first|assumption|exact bf_ _)
  (try simp only[bt_])
  refine bu_ ?_;generalize hE:IntKind.u64.wrap (Int.tdiv x s.cfg.spe)=E at *;have hE':U64 E:=hE▸bf_ _;have hc:=rv_ (s:=s) (i:=(p:Int)) huf hE';have c1:=pP_ s hr p E;generalize FQ_ s p E=c at *;refine co_ c1 ?_;repeat'(first|refine bu_ ?_|simp only[go_sem,hg4,hp4,rS_]|(refine aS_ (fun h=>?_) (fun h=>?_)<;>try(exact absurd h (by decide)))|refine cD_ (fun h=>?_) (fun h=>?_))
  all_goals try(refine bE_ (dK_ _) ?_;refine bu_ ?_)
  all_goals first|(refine NX_ (by first|rfl|exact evd) (by first|rfl|((try simp only[go_sem,Nat.reduceAdd,Nat.reduceSub,Nat.reduceMul,Nat.reduceLT,Nat.reduceLeDiff,Nat.reduceEqDiff,reduceIte,Int.reduceToNat,Int.reduceLT,Int.reduceLE,Int.reduceEq,Int.reduceNeg,reduceCtorEq,Int.reduceBEq,Int.reduceBNe]);rfl)) ?_)|(refine Is_ (by first|rfl|exact evd) (by first|rfl|((try simp only[go_sem,Nat.reduceAdd,Nat.reduceSub,Nat.reduceMul,Nat.reduceLT,Nat.reduceLeDiff,Nat.reduceEqDiff,reduceIte,Int.reduceToNat,Int.reduceLT,Int.reduceLE,Int.reduceEq,Int.reduceNeg,reduceCtorEq,Int.reduceBEq,Int.reduceBNe]);rfl)) ?_)
  all_goals(constructor<;>(try dsimp only)<;>first|assumption|exact bf_ _|exact rv_ huf (bf_ _)|(simp only[List.length_append,List.length_cons,List.length_nil];omega)|(simp;done)|omega)
structure QJ_(x:au_):Prop where
 ep:U64 x.cp.ep
 len:x.bals.length≤10
 bals:∀n∈x.bals,U64 n
def ul_(k:Int)(n:Nat):List Int:=(List.range n).map fun v=>IntKind.u64.wrap (Int.tmod (dF_ .i64 k v) 50)
theorem Dc_(k:Int)(n:Nat):(ul_ k n).length=n:=by simp[ul_]
theorem QP_(k:Int)(n:Nat):ul_ k (n+1)=ul_ k n++[IntKind.u64.wrap (Int.tmod (dF_ .i64 k n) 50)]:=by simp[ul_,List.range_succ]
theorem QQ_(k:Int)(n:Nat):∀x∈ul_ k n,U64 x:=fun x hx=>by
 unfold ul_ at hx;obtain⟨v,_,rfl⟩:=List.mem_map.1 hx;exact bf_ _
theorem Qe_(c:Cp)(u v:AV):(bb_ ⟨c,u⟩).set 33 v=bb_ ⟨c,v⟩:=by
 unfold bb_;rw[List.set_append_right 33 _ (by rw[an_];exact Nat.le_refl _),an_];rfl
theorem Qd_(c:Cp)(u:AV):(bb_ ⟨c,u⟩).getD 33 .dead=u:=by
 unfold bb_;rw[List.getD_eq_getElem?_getD,List.getElem?_append_right (by rw[an_];exact Nat.le_refl _),an_];rfl
theorem Nf_(k:IntKind)(l:List Int)(i:Nat)(x:Int):(aq_ k l).set i [.int k x]=aq_ k (l.set i x):=by simp[aq_,List.map_set]
section
variable{fr:Fr}{σ:St}{rs:List ep_}{G:au_→Prop}{l:List AV}{c:Cp}{d:List Int}
theorem PA_(hl:ci_ fr σ rs=some l)(hv:fz σ (List.range σ.length) (eD_ l)=.agg (bb_ ⟨c,.sl 1 false (aq_ .u64 d)⟩))(hg:G ⟨c,d⟩):Sm G fun x=>PQ rs (.agg (bb_ x.a)) .ret fr σ:=⟨_,hg,l,hl,.inl hv⟩
end
theorem Jf_(s:ai_)(i:Nat)(hi:aJ_ s i)(k:Int)(hk:0≤k):Sm QJ_ fun x=>PC Tryz.prog 31 [.agg (aj_ s.a),.int .i64 k] (.agg (bb_ x.a)):=by
 have hr:=hi.r;have hpos:=hi.tree.pos;have hb0:=hi.cfg.b0;have hb1:=hi.cfg.b1;have hnw:=hi.nw.1;have huf:=hi.uf;have hsp:=hi.cfg.s1;obtain⟨p,hp,hp'⟩:=cc_ hk hpos;have hg:=bP_ (t:=s.nodes) hp';have hu:=(hi.blk hp').j;generalize (nod s.nodes p)=up at *;refine gM_ 8 Bh_ (by simp) puA (fun r _=>puA) ?_;unfold pT_;refine bd ?_;refine bQ_ ?_;refine en_ ?_;refine bQ_ ?_;repeat(first|refine en_ ?_|simp only[go_sem,hp])
 refine bQ_ ?_;repeat(first|refine en_ ?_|simp only[go_sem,hg])
 refine bQ_ ?_;refine fq_ (fun c:Cp=>U64 c.ep) (fun c:Cp=>bb_ ⟨c,.sl 0 true []⟩) 2 [] ?_ (fun c hc=>?_)
 ·repeat'(first|refine bu_ ?_|(refine aS_ (fun h=>?_) (fun h=>?_)<;>try(exact absurd h (by decide)))|refine cD_ (fun h=>?_) (fun h=>?_))
  ·refine co_ (pP_ s hr p _) ?_;repeat'(first|refine bu_ ?_|(refine aS_ (fun h=>?_) (fun h=>?_)<;>try(exact absurd h (by decide)))|refine cD_ (fun h=>?_) (fun h=>?_))
   refine eQ_ (fun c:Cp=>bb_ ⟨c,.sl 0 true []⟩) 2 rfl ?_ (by exact ST_ [] [0,1,2]);exact rv_ huf (bf_ _)
  ·refine eQ_ (fun c:Cp=>bb_ ⟨c,.sl 0 true []⟩) 2 rfl ?_ (by exact ST_ [] [0,1,2]);assumption
 (try simp only[bt_])
 refine bQ_ ?_;generalize hN:s.cfg.bals.length=N at *;refine wB_ (fun l:List Int=>l.length=N∧∀n∈l,U64 n) (fun _=>[]) (fun l=>[.var (aj_ s.a),.var (bb_ ⟨⟨0,rt0⟩,.sl 0 true []⟩),.var (bb_ ⟨c,.hs 1 3 0 l.length⟩),.vec 1 (aq_ .u64 l)]) ?_ (fun l hl=>?_)
 ·refine It_ (ul_ k N) ⟨Dc_ k N,QQ_ k N⟩ ?_
  try refine aa_ ?_
  refine iW_ 2 33 1 ?_ (by rfl) (by exact Qd_ _ _);simp only[go_sem,Qe_];refine ao_ (fun i:Nat=>[(7,.int .i64 i)]) (fun i=>[.var (aj_ s.a),.var (bb_ ⟨⟨0,rt0⟩,.sl 0 true []⟩),.var (bb_ ⟨c,.hs 1 3 0 (ul_ k i).length⟩),.vec 1 (aq_ .u64 (ul_ k i))]) (fun i=>N-i) (fun i=>i≤N) 0 (Nat.zero_le _) ?_ ?_
  ·rw[show ul_ k 0=[]from rfl];exact ST_ [] [0,1,2,3]
  intro i hi;have hlen:=Dc_ k i;by_cases h1:i<N
  ·have e1:decide ((i:Int)<(s.cfg.bals.length:Int))=true:=decide_eq_true (by omega);have hw:=af_ h1 (by omega);have hu:IntKind.u64.wrap (i:Int)=(i:Int):=aF_ (by omega) (by omega);have hs:=QP_ k i;repeat(first|refine aa_ ?_|simp only[go_sem,e1])
   refine ac_ ?_;repeat(first|refine aa_ ?_|simp only[go_sem,hu,hw])
   refine⟨i+1,h1,by omega,?_⟩;rw[hs];exact ST_ [] [0,1,2,4]
  ·obtain rfl:i=N:=by omega
   have e1:decide ((i:Int)<(s.cfg.bals.length:Int))=false:=decide_eq_false (by omega);repeat(first|refine aa_ ?_|simp only[go_sem,e1])
   refine Rm_ ?_
   exact ST_ [] [0,1,2,3]
 obtain⟨hl1,hl2⟩:=hl;have hgd:=gdn (k:=.u64) (ns:=l) (i:=0) (by omega);repeat'(first|refine bu_ ?_|simp only[go_sem,Nf_,hgd]|(refine aS_ (fun h=>?_) (fun h=>?_)<;>try(exact absurd h (by decide)))|refine cD_ (fun h=>?_) (fun h=>?_))
 all_goals(refine PA_ (by first|rfl|exact evd) (by first|rfl|((try simp only[go_sem,Nat.reduceAdd,Nat.reduceSub,Nat.reduceMul,Nat.reduceLT,Nat.reduceLeDiff,Nat.reduceEqDiff,reduceIte,Int.reduceToNat,Int.reduceLT,Int.reduceLE,Int.reduceEq,Int.reduceNeg,reduceCtorEq,Int.reduceBEq,Int.reduceBNe]);rfl)) ?_)
 ·refine⟨hc,by simp only[List.length_append,List.length_cons,List.length_nil];omega,fun n hn=>?_⟩;rcases List.mem_append.1 hn with h|h
  ·exact hl2 n h
  ·rw[List.mem_singleton]at h;subst h;exact⟨by decide,by decide⟩
 ·refine⟨hc,by simp only[List.length_set];omega,fun n hn=>?_⟩;rcases List.mem_or_eq_of_mem_set hn with h|rfl
  ·exact hl2 n h
  ·exact⟨by decide,by decide⟩
 ·exact⟨hc,by dsimp only;omega,hl2⟩
structure SA_(v:Vdt):Prop where
 tag:U64 v.tag
 lo:1≤v.kind
 hi:v.kind≤4
theorem Jg_(s:aH_)(i:Nat)(hi:dO_ s i)(k:Int)(hk:0≤k):Sm SA_ fun v=>PC Tryz.prog 173 [.agg (aK_ s.a),.int .i64 k] (.agg (cA_ v)):=by
 have hr:=hi.sto.r;have hpos:=hi.sto.tree.pos;have hrq:=hi.rq;have hii:=hi.sto.ii;have hut:=hi.ut;obtain⟨p,hp,hp'⟩:=cc_ hk hpos;have hg:=bP_ (t:=s.sto.nodes) hp';obtain⟨q,hq,hq'⟩:=cc_ (n:=6) (hX_ 4 hk) (by decide)
 obtain⟨kd,hkd,hk1,hk4⟩:∃kd:Int,([[.int .i64 1],[.int .i64 1],[.int .i64 2],[.int .i64 2],[.int .i64 3],[.int .i64 4]]:List (List AV)).getD q []=[.int .i64 kd]∧1≤kd∧kd≤4:=by
  match q,hq' with
  |0,_|1,_=>exact⟨1,rfl,by decide,by decide⟩
  |2,_|3,_=>exact⟨2,rfl,by decide,by decide⟩
  |4,_=>exact⟨3,rfl,by decide,by decide⟩
  |5,_=>exact⟨4,rfl,by decide,by decide⟩
 have hq6:Int.tmod (dF_ .i64 k 4) 6=(q:Int):=hq;refine gM_ 11 uQ_ (by simp) puA (fun r _=>puA) ?_;unfold lV_;refine bd ?_;refine bQ_ ?_;refine en_ ?_;refine bQ_ ?_;repeat(first|refine en_ ?_|simp only[go_sem,hq6,hkd])
 refine bQ_ ?_;repeat(first|refine en_ ?_|simp only[go_sem,hp,hg])
 generalize (nod s.sto.nodes p).blk.root=r0 at *;generalize hT:IntKind.u64.wrap (k.tmod 9)=T at *;have hT':U64 T:=hT▸bf_ _;refine bQ_ ?_;refine wB_ (fun b:Int×Rt=>U64 b.1) (fun _=>[(7,.int .i64 s.reqs.length)]) (fun b=>[.var (aK_ s.a),.var (cA_ ⟨0,0,rt0⟩),.var (cA_ ⟨b.1,kd,rt0⟩),.var (rtc b.2)]) ?_ (fun b hb=>?_)
 ·by_cases hrl:0<s.reqs.length
  ·obtain⟨q1,h1,h1'⟩:=cc_ (hX_ 11 hk) hrl;have e1:decide ((0:Int)<(s.reqs.length:Int))=true:=decide_eq_true (by omega);have hg1:(rows aL_ s.reqs).getD q1 []=aL_ (dr_ s.reqs q1):=aB_ (f:=aL_) pv_ h1';have hq1:=hut _ (EG_ h1');generalize dr_ s.reqs q1=R at *;repeat'(first|refine bu_ ?_|simp only[go_sem,e1,h1,hg1]|(refine aS_ (fun h=>?_) (fun h=>?_)<;>try(exact absurd h (by decide)))|refine cD_ (fun h=>?_) (fun h=>?_))
   ·exact⟨(R.tag,R.block),hq1,by exact ST_ [] [0,1,2,3]⟩
   all_goals exact⟨(T,r0),hT',by exact ST_ [] [0,1,2,3]⟩
  ·have e1:decide ((0:Int)<(s.reqs.length:Int))=false:=decide_eq_false (by omega);repeat'(first|refine bu_ ?_|simp only[go_sem,e1]|(refine aS_ (fun h=>?_) (fun h=>?_)<;>try(exact absurd h (by decide)))|refine cD_ (fun h=>?_) (fun h=>?_))
   exact⟨(T,r0),hT',by exact ST_ [] [0,1,2,3]⟩
 obtain⟨T1,r1⟩:=b;simp only[bz_,bt_,List.set_cons_zero,List.set_cons_succ]at hb ⊢;refine bu_ ?_;refine bE_ (by_ s.sto.nodes r1 hr.bn) ?_;generalize ak_ s.sto.nodes r1=I;refine gs_ ?_;refine bQ_ ?_;have cp:=kp_ s.sto.nodes hr.tree.ok hr.bn I;have hpm:=fun x hx=>eB_ (x:=x) hr.tree.ok (i:=I) hx
 have hpl:=iM_ hr.tree.ok I;have hbn:=hr.bn;generalize bS_ s.sto.nodes I=L at *;refine fq_ (fun _:Rt=>True) (fun r:Rt=>cA_ ⟨T1,kd,r⟩) 2 [] ?_ (fun r2 _=>?_)
 ·by_cases hrl:0<L.length
  ·obtain⟨q1,h1,h1'⟩:=cc_ (hX_ 16 hk) hrl;have e1:decide ((0:Int)<(L.length:Int))=true:=decide_eq_true (by omega);have hg1:=gdn (k:=.i64) h1';have hm:=hpm _ (dA_ 0 h1');obtain⟨u,hu⟩:=Int.eq_ofNat_of_zero_le hm.1;rw[hu]at hg1 hm;have hg2:=bP_ (t:=s.sto.nodes) (i:=u) (by omega);refine bu_ ?_;refine bE_ cp ?_;repeat'(first|refine bu_ ?_|simp only[go_sem,e1,h1,hg1,hg2]|(refine aS_ (fun h=>?_) (fun h=>?_)<;>try(exact absurd h (by decide)))|refine cD_ (fun h=>?_) (fun h=>?_))
   all_goals refine eQ_ (fun r:Rt=>cA_ ⟨T1,kd,r⟩) 2 rfl trivial (by exact ST_ [] [0,1,2,3])
  ·have e1:decide ((0:Int)<(L.length:Int))=false:=decide_eq_false (by omega);refine bu_ ?_;refine bE_ cp ?_;repeat'(first|refine bu_ ?_|simp only[go_sem,e1]|(refine aS_ (fun h=>?_) (fun h=>?_)<;>try(exact absurd h (by decide)))|refine cD_ (fun h=>?_) (fun h=>?_))
   refine eQ_ (fun r:Rt=>cA_ ⟨T1,kd,r⟩) 2 rfl trivial (by exact ST_ [] [0,1,2,3])
 (try simp only[bt_])
 repeat'(first|refine bu_ ?_|(refine aS_ (fun h=>?_) (fun h=>?_)<;>try(exact absurd h (by decide)))|refine cD_ (fun h=>?_) (fun h=>?_))
 ·refine bE_ (dK_ _) ?_;refine bu_ ?_;refine wA_ (by first|rfl|exact evd) (by first|rfl|((try simp only[go_sem,Nat.reduceAdd,Nat.reduceSub,Nat.reduceMul,Nat.reduceLT,Nat.reduceLeDiff,Nat.reduceEqDiff,reduceIte,Int.reduceToNat,Int.reduceLT,Int.reduceLE,Int.reduceEq,Int.reduceNeg,reduceCtorEq,Int.reduceBEq,Int.reduceBNe]);rfl)) ?_;exact⟨hb,hk1,hk4⟩
 ·refine wA_ (by first|rfl|exact evd) (by first|rfl|((try simp only[go_sem,Nat.reduceAdd,Nat.reduceSub,Nat.reduceMul,Nat.reduceLT,Nat.reduceLeDiff,Nat.reduceEqDiff,reduceIte,Int.reduceToNat,Int.reduceLT,Int.reduceLE,Int.reduceEq,Int.reduceNeg,reduceCtorEq,Int.reduceBEq,Int.reduceBNe]);rfl)) ?_;exact⟨hb,hk1,hk4⟩
end Go.Proofs.YtkgimpdgncakjaaGreat
