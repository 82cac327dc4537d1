/-
 My texts Mc, Md, joined.
-/
import Derived.Test.YtipiipgpnkpejaaGreatU2
import Derived.Test.YtipiipgpnkpejaaGreatV7
namespace Go.Proofs.YtipiipgpnkpejaaGreat
open Go Go.FH Go.RowKit
set_option linter.unusedVariables false
set_option linter.unusedSimpArgs false
set_option maxRecDepth 8000
set_option maxHeartbeats 4000000

theorem EH_ (n:Nat) (bits:Int) (hn:n≤1000000):Goes Tryz.prog 31 0 (ba_.tl 2).hd ⟨7,[.int .i64 n,.int .i64 bits,.dead,.dead,.sl 0 true [],.hs 1 0 0 0,.dead],[]⟩ [.vec 1 []]
   ⟨7,[.int .i64 n,.int .i64 bits,.dead,.dead,.sl 0 true [],.hs 1 0 0 (someA bits n).length,.dead],[]⟩ [.vec 1 (nums .i64 (someA bits n))]:=by
 refine mS_ ?_
 unfold ba_;refine bd ?_
 simp only[ACode.tl,ACode.hd]
 try refine aa_ ?_
 have hz:someA bits 0=[]:=rfl
 refine au_ (fun i:Nat=>[(6,.int .i64 i),(5,.hs 1 0 0 (someA bits i).length)]) (fun i=>[.vec 1 (nums .i64 (someA bits i))]) (fun i=>n-i) (fun i=>i≤n) 0 (Nat.zero_le _) ?_ ?_
 · rw[hz]
   refine GC.mk' [] [0] (by simp) rfl (by simp) (by simp) evd evd
 intro i hi
 have hlen:=ig_ bits i
 (try simp only[as_,av_,List.set_cons_zero,List.set_cons_succ])
 by_cases h1:i<n
 · have e1:decide ((i:Int)<((n:Nat):Int))=true:=decide_eq_true (by omega)
   have hw:=af_ h1 (by omega)
   have hu:IntKind.u64.wrap (i:Int)=(i:Int):=aB_ (by omega) (by omega)
   have hs:=xW_ bits i
   have hnum:∀ l:List Int,nums .i64 l++[[.int .i64 (i:Int)]]=nums .i64 (l++[(i:Int)]):=fun l=>cX_ .i64 l [(i:Int)]
   cases hq:(iand .i64 (ishr .i64 bits i) 1==1)with
   | true =>
     rw[hq,if_pos rfl]at hs
     repeat(first | refine aa_ ?_ | simp only[go_sem,e1])
     refine ac_ ?_
     repeat(first | refine aa_ ?_ | simp only[go_sem,hu,hq])
     refine ac_ ?_
     repeat(first | refine aa_ ?_ | simp only[go_sem,hw,hnum])
     refine⟨i+1,h1,by omega,?_⟩
     simp only[hs,List.length_append,List.length_cons,List.length_nil,Nat.zero_add]
     refine GC.mk' [] [1] (by simp) rfl (by simp) (by simp) evd evd
   | false =>
     rw[hq,if_neg (by simp)]at hs
     repeat(first | refine aa_ ?_ | simp only[go_sem,e1])
     refine ac_ ?_
     repeat(first | refine aa_ ?_ | simp only[go_sem,hu,hq])
     refine ab_ ?_
     repeat(first | refine aa_ ?_ | simp only[go_sem,hw])
     refine⟨i+1,h1,by omega,?_⟩
     simp only[hs]
     refine GC.mk' [] [0] (by simp) rfl (by simp) (by simp) evd evd
 · obtain rfl:i=n:=by omega
   have e1:decide ((i:Int)<(i:Int))=false:=decide_eq_false (by omega)
   repeat(first | refine aa_ ?_ | simp only[go_sem,e1])
   refine ab_ ?_
   try refine aa_ ?_
   refine GC.mk' [] [0] (by simp) rfl (by simp) (by simp) evd evd
theorem CE_ (n:Nat) (bits:Int) (h0:0<n) (hn:n≤1000000):(∃ l:List Int,l.length≤n∧ACall Tryz.prog 41 [.int .i64 n,.int .i64 bits] [] (.hs 1 0 0 l.length) [.vec 1 (nums .i64 l)]) ∨
   PC Tryz.prog 41 [.int .i64 n,.int .i64 bits] (.sl 1 true (nums .i64 [0])):=by
 have hg:=EH_ n bits hn
 have hc:ba_=.seq ba_.hd (.seq (ba_.tl 1).hd (.seq (ba_.tl 2).hd (ba_.tl 3))):=rfl
 have e3:decide ((0:Int)<(n:Int))=true:=decide_eq_true (by omega)
 have hlen:=ig_ bits n
 by_cases hq:someA bits n=[]
 · right
   refine PC.fact 7 hn_ (by simp) puA puA ?_
   rw[hc]
   generalize (ba_.tl 2).hd=L at *
   unfold ba_;refine bd ?_
   simp only[ACode.hd,ACode.tl]
   rw[hq]at hg
   try refine aa_ ?_
   refine cF_ 5 1 ?_;simp only[go_sem]
   refine hg _ _ _ ?_
   repeat(first | refine aa_ ?_ | simp only[go_sem,e3])
   refine ac_ ?_
   try refine aa_ ?_
   exact fin0
 · left
   have hp:0<(someA bits n).length:=List.length_pos_iff.2 hq
   refine⟨someA bits n,hlen,ACall.fact 7 hn_ (by simp) ?_ (by simp)⟩
   rw[hc]
   generalize (ba_.tl 2).hd=L at *
   unfold ba_;refine bd ?_
   simp only[ACode.hd,ACode.tl]
   generalize someA bits n=l at *
   have e4:((l.length:Int)==0)=false:=by rw[← Bool.not_eq_true,beq_iff_eq];omega
   try refine aa_ ?_
   refine cF_ 5 1 ?_;simp only[go_sem]
   refine hg _ _ _ ?_
   repeat(first | refine aa_ ?_ | simp only[go_sem,e4])
   refine ab_ ?_
   try refine aa_ ?_
   refine finQ [] [0] _ (by simp) (by first | rfl | exact evd) (by simp) rfl (by simp) (by simp) evd evd
structure AttG (x:VAtt):Prop where
 slot:U64 x.slot
 ep:U64 x.target.ep
 len:x.vals.length≤10
section
variable {fr:Fr}{σ:St}{rs:List ARes}{G:VAtt→Prop}{l:List AV}{a:Int}{b:Rt}{c:Cp}{d:List Int}
theorem xM_ (hl:resVal fr σ rs=some l) (hv:fz σ (List.range σ.length) (resAV l)=.agg (attC ⟨a,b,c,.sl 1 false (nums .i64 d)⟩)) (hg:G ⟨a,b,c,d⟩):Sm G fun x=>PQ rs (.agg (attC x.a)) .ret fr σ:=⟨_,hg,l,hl,.inl hv⟩
theorem Ci_ (hl:resVal fr σ rs=some l) (hv:fz σ (List.range σ.length) (resAV l)=.agg (attC ⟨a,b,c,.sl 1 true (nums .i64 d)⟩)) (hg:G ⟨a,b,c,d⟩):Sm G fun x=>PQ rs (.agg (attC x.a)) .ret fr σ:=
 ⟨_,hg,l,hl,.inr ⟨_,hv,(bt_ _).2 (aw_ _ _),Wk.agg (WkC.same _ ((WkC.refl _).app ((WkC.refl _).app (WkC.one (Wk.open_ _ _ _) fun h=>h))))⟩⟩
end
theorem rq_ (s:VSto) (i:Nat) (hi:InvS s i) (k:Int) (hk:0≤k):Sm AttG fun x=>PC Tryz.prog 11 [.agg (stoC s.a),.int .i64 k] (.agg (attC x.a)):=by
 have hr:=hi.r
 have hpos:=hi.tree.pos
 have hb0:=hi.cfg.b0
 have hb1:=hi.cfg.b1
 have hnw:=hi.nw
 have huf:=hi.uf
 have hsp:=hi.cfg.s1
 have hs0:=CE_ s.cfg.bals.length (ishr .i64 k 3) hb0 (by omega)
 obtain⟨p,hp,hp'⟩:=aU_ hk hpos
 obtain⟨p4,hp4,hp4'⟩:=aU_ (dw_ 4 hk) hpos
 have hg:=aW_ (t:=s.nodes) hp'
 have hg4:=aW_ (t:=s.nodes) hp4'
 rcases hs0 with⟨l,hl,cs⟩ | cs
 · refine df_ 7 eE_ (by simp) puA (fun r _=>puA) ?_
   unfold cL_;refine bd ?_
   repeat(first | refine aJ_ ?_ | simp only[go_sem,hp,hg])
   refine co_ (fun r hr=>dcalls [] cs (by simp) evd (PickS.mk' (by simp) (by simp) evd) hr) ?_
   repeat(first | refine cY_ ?_ | simp only[go_sem,hg])
   generalize (nod s.nodes p).blk.root=r0 at *
   refine aO_ ?_
   refine cw_ U64 (fun x:Int=>attC ⟨x,r0,⟨0,rt0⟩,.hs 1 2 0 l.length⟩) 3 [] ?_ (fun x hx=>?_)
   · repeat'(first | refine aJ_ ?_ | (refine aA_ (fun h=>?_) (fun h=>?_)<;>try(exact absurd h (by decide))) | refine bu_ (fun h=>?_) (fun h=>?_))
     all_goals(refine cr_ (fun x:Int=>attC ⟨x,r0,⟨0,rt0⟩,.hs 1 2 0 l.length⟩) 3 rfl ?_ (by refine GC.mk' [] [0,1,2,3] (by simp) rfl (by simp) (by simp) evd evd);first | assumption | exact aP_ _)
   (try simp only[av_])
   refine aJ_ ?_
   generalize hE:IntKind.u64.wrap (Int.tdiv x s.cfg.spe)=E at *
   have hE':U64 E:=hE▸aP_ _
   have hc:=kW_ (s:=s) (i:=(p:Int)) huf hE'
   have c1:=jO_ s hr p E
   generalize cpAt s p E=c at *
   refine bb_ c1 ?_
   repeat'(first | refine aJ_ ?_ | simp only[go_sem,hg4,hp4,lD_] | (refine aA_ (fun h=>?_) (fun h=>?_)<;>try(exact absurd h (by decide))) | refine bu_ (fun h=>?_) (fun h=>?_))
   all_goals try(refine aH_ (cn_ _) ?_;refine aJ_ ?_)
   all_goals(refine xM_ (by first | rfl | exact evd) (by first | rfl | ((try simp only[go_sem,Nat.reduceAdd,Nat.reduceSub,Nat.reduceMul,Nat.reduceLT,Nat.reduceLeDiff,Nat.reduceEqDiff,reduceIte,Int.reduceToNat,Int.reduceLT,Int.reduceLE,Int.reduceEq,Int.reduceNeg,reduceCtorEq,Int.reduceBEq,Int.reduceBNe]);rfl)) ?_)
   all_goals(constructor<;>(try dsimp only)<;>first | assumption | exact aP_ _ | exact kW_ huf (aP_ _) | (simp only[List.length_append,List.length_cons,List.length_nil];omega) | omega)
 · refine df_ 7 eE_ (by simp) puA (fun r _=>puA) ?_
   unfold cL_;refine bd ?_
   repeat(first | refine aJ_ ?_ | simp only[go_sem,hp,hg])
   refine bb_ cs ?_
   repeat(first | refine cY_ ?_ | simp only[go_sem,hg])
   generalize (nod s.nodes p).blk.root=r0 at *
   refine aO_ ?_
   refine cw_ U64 (fun x:Int=>attC ⟨x,r0,⟨0,rt0⟩,.sl 1 true (nums .i64 [0])⟩) 3 [] ?_ (fun x hx=>?_)
   · repeat'(first | refine aJ_ ?_ | (refine aA_ (fun h=>?_) (fun h=>?_)<;>try(exact absurd h (by decide))) | refine bu_ (fun h=>?_) (fun h=>?_))
     all_goals(refine cr_ (fun x:Int=>attC ⟨x,r0,⟨0,rt0⟩,.sl 1 true (nums .i64 [0])⟩) 3 rfl ?_ (by refine GC.mk' [] [0,1,2,3] (by simp) rfl (by simp) (by simp) evd evd);first | assumption | exact aP_ _)
   (try simp only[av_])
   refine aJ_ ?_
   generalize hE:IntKind.u64.wrap (Int.tdiv x s.cfg.spe)=E at *
   have hE':U64 E:=hE▸aP_ _
   have hc:=kW_ (s:=s) (i:=(p:Int)) huf hE'
   have c1:=jO_ s hr p E
   generalize cpAt s p E=c at *
   refine bb_ c1 ?_
   repeat'(first | refine aJ_ ?_ | simp only[go_sem,hg4,hp4,lD_] | (refine aA_ (fun h=>?_) (fun h=>?_)<;>try(exact absurd h (by decide))) | refine bu_ (fun h=>?_) (fun h=>?_))
   all_goals try(refine aH_ (cn_ _) ?_;refine aJ_ ?_)
   all_goals first | (refine Ci_ (by first | rfl | exact evd) (by first | rfl | ((try simp only[go_sem,Nat.reduceAdd,Nat.reduceSub,Nat.reduceMul,Nat.reduceLT,Nat.reduceLeDiff,Nat.reduceEqDiff,reduceIte,Int.reduceToNat,Int.reduceLT,Int.reduceLE,Int.reduceEq,Int.reduceNeg,reduceCtorEq,Int.reduceBEq,Int.reduceBNe]);rfl)) ?_) | (refine xM_ (by first | rfl | exact evd) (by first | rfl | ((try simp only[go_sem,Nat.reduceAdd,Nat.reduceSub,Nat.reduceMul,Nat.reduceLT,Nat.reduceLeDiff,Nat.reduceEqDiff,reduceIte,Int.reduceToNat,Int.reduceLT,Int.reduceLE,Int.reduceEq,Int.reduceNeg,reduceCtorEq,Int.reduceBEq,Int.reduceBNe]);rfl)) ?_)
   all_goals(constructor<;>(try dsimp only)<;>first | assumption | exact aP_ _ | exact kW_ huf (aP_ _) | (simp only[List.length_append,List.length_cons,List.length_nil];omega) | (simp;done) | omega)

structure TabG (x:VTab):Prop where
 ep:U64 x.cp.ep
 len:x.bals.length≤10
 bals:∀ n ∈ x.bals,U64 n
def balB (k:Int) (n:Nat):List Int:=(List.range n).map fun v=>IntKind.u64.wrap (Int.tmod (ishr .i64 k v) 50)
theorem vQ_ (k:Int) (n:Nat):(balB k n).length=n:=by simp[balB]
theorem Fm_ (k:Int) (n:Nat):balB k (n+1)=balB k n++[IntKind.u64.wrap (Int.tmod (ishr .i64 k n) 50)]:=by simp[balB,List.range_succ]
theorem Fx_ (k:Int) (n:Nat):∀ x ∈ balB k n,U64 x:=fun x hx=>by
 unfold balB at hx
 obtain⟨v,_,rfl⟩:=List.mem_map.1 hx
 exact aP_ _
theorem Dx_ (c:Cp) (u v:AV):(tabC ⟨c,u⟩).set 33 v=tabC ⟨c,v⟩:=by
 unfold tabC
 rw[List.set_append_right 33 _ (by rw[ae_];exact Nat.le_refl _),ae_]
 rfl
theorem EM_ (c:Cp) (u:AV):(tabC ⟨c,u⟩).getD 33 .dead=u:=by
 unfold tabC
 rw[List.getD_eq_getElem?_getD,List.getElem?_append_right (by rw[ae_];exact Nat.le_refl _),ae_]
 rfl
theorem Bi_ (k:IntKind) (l:List Int) (i:Nat) (x:Int):(nums k l).set i [.int k x]=nums k (l.set i x):=by simp[nums,List.map_set]
section
variable {fr:Fr}{σ:St}{rs:List ARes}{G:VTab→Prop}{l:List AV}{c:Cp}{d:List Int}
theorem EO_ (hl:resVal fr σ rs=some l) (hv:fz σ (List.range σ.length) (resAV l)=.agg (tabC ⟨c,.sl 1 false (nums .u64 d)⟩)) (hg:G ⟨c,d⟩):Sm G fun x=>PQ rs (.agg (tabC x.a)) .ret fr σ:=⟨_,hg,l,hl,.inl hv⟩
end
theorem rR_ (s:VSto) (i:Nat) (hi:InvS s i) (k:Int) (hk:0≤k):Sm TabG fun x=>PC Tryz.prog 15 [.agg (stoC s.a),.int .i64 k] (.agg (tabC x.a)):=by
 have hr:=hi.r
 have hpos:=hi.tree.pos
 have hb0:=hi.cfg.b0
 have hb1:=hi.cfg.b1
 have hnw:=hi.nw
 have huf:=hi.uf
 have hsp:=hi.cfg.s1
 obtain⟨p,hp,hp'⟩:=aU_ hk hpos
 have hg:=aW_ (t:=s.nodes) hp'
 have hu:=(hi.blk hp').j
 generalize (nod s.nodes p)=up at *
 refine df_ 8 tL_ (by simp) puA (fun r _=>puA) ?_
 unfold jW_;refine bd ?_
 refine aO_ ?_;refine bF_ ?_
 refine aO_ ?_;repeat(first | refine bF_ ?_ | simp only[go_sem,hp])
 refine aO_ ?_;repeat(first | refine bF_ ?_ | simp only[go_sem,hg])
 refine aO_ ?_
 refine cw_ (fun c:Cp=>U64 c.ep) (fun c:Cp=>tabC ⟨c,.sl 0 true []⟩) 2 [] ?_ (fun c hc=>?_)
 · repeat'(first | refine aJ_ ?_ | (refine aA_ (fun h=>?_) (fun h=>?_)<;>try(exact absurd h (by decide))) | refine bu_ (fun h=>?_) (fun h=>?_))
   · refine bb_ (jO_ s hr p _) ?_
     repeat'(first | refine aJ_ ?_ | (refine aA_ (fun h=>?_) (fun h=>?_)<;>try(exact absurd h (by decide))) | refine bu_ (fun h=>?_) (fun h=>?_))
     refine cr_ (fun c:Cp=>tabC ⟨c,.sl 0 true []⟩) 2 rfl ?_ (by refine GC.mk' [] [0,1,2] (by simp) rfl (by simp) (by simp) evd evd)
     exact kW_ huf (aP_ _)
   · refine cr_ (fun c:Cp=>tabC ⟨c,.sl 0 true []⟩) 2 rfl ?_ (by refine GC.mk' [] [0,1,2] (by simp) rfl (by simp) (by simp) evd evd)
     assumption
 (try simp only[av_])
 refine aO_ ?_
 generalize hN:s.cfg.bals.length=N at *
 refine nq_ (fun l:List Int=>l.length=N∧∀ n ∈ l,U64 n) (fun _=>[]) (fun l=>[.var (stoC s.a),.var (tabC ⟨⟨0,rt0⟩,.sl 0 true []⟩),.var (tabC ⟨c,.hs 1 3 0 l.length⟩),.vec 1 (nums .u64 l)]) ?_ (fun l hl=>?_)
 · refine xU_ (balB k N) ⟨vQ_ k N,Fx_ k N⟩ ?_
   try refine aa_ ?_
   refine hU_ 2 33 1 ?_ (by rfl) (by exact EM_ _ _)
   simp only[go_sem,Dx_]
   refine au_ (fun i:Nat=>[(7,.int .i64 i)]) (fun i=>[.var (stoC s.a),.var (tabC ⟨⟨0,rt0⟩,.sl 0 true []⟩),.var (tabC ⟨c,.hs 1 3 0 (balB k i).length⟩),.vec 1 (nums .u64 (balB k i))]) (fun i=>N-i) (fun i=>i≤N) 0 (Nat.zero_le _) ?_ ?_
   · rw[show balB k 0=[]from rfl]
     refine GC.mk' [] [0,1,2,3] (by simp) rfl (by simp) (by simp) evd evd
   intro i hi
   have hlen:=vQ_ k i
   by_cases h1:i<N
   · have e1:decide ((i:Int)<(s.cfg.bals.length:Int))=true:=decide_eq_true (by omega)
     have hw:=af_ h1 (by omega)
     have hu:IntKind.u64.wrap (i:Int)=(i:Int):=aB_ (by omega) (by omega)
     have hs:=Fm_ k i
     repeat(first | refine aa_ ?_ | simp only[go_sem,e1])
     refine ac_ ?_
     repeat(first | refine aa_ ?_ | simp only[go_sem,hu,hw])
     refine⟨i+1,h1,by omega,?_⟩
     rw[hs]
     refine GC.mk' [] [0,1,2,4] (by simp) rfl (by simp) (by simp) evd evd
   · obtain rfl:i=N:=by omega
     have e1:decide ((i:Int)<(s.cfg.bals.length:Int))=false:=decide_eq_false (by omega)
     repeat(first | refine aa_ ?_ | simp only[go_sem,e1])
     refine ab_ ?_
     try refine aa_ ?_
     refine GC.mk' [] [0,1,2,3] (by simp) rfl (by simp) (by simp) evd evd
 obtain⟨hl1,hl2⟩:=hl
 have hgd:=gdn (k:=.u64) (ns:=l) (i:=0) (by omega)
 repeat'(first | refine aJ_ ?_ | simp only[go_sem,Bi_,hgd] | (refine aA_ (fun h=>?_) (fun h=>?_)<;>try(exact absurd h (by decide))) | refine bu_ (fun h=>?_) (fun h=>?_))
 all_goals(refine EO_ (by first | rfl | exact evd) (by first | rfl | ((try simp only[go_sem,Nat.reduceAdd,Nat.reduceSub,Nat.reduceMul,Nat.reduceLT,Nat.reduceLeDiff,Nat.reduceEqDiff,reduceIte,Int.reduceToNat,Int.reduceLT,Int.reduceLE,Int.reduceEq,Int.reduceNeg,reduceCtorEq,Int.reduceBEq,Int.reduceBNe]);rfl)) ?_)
 · refine⟨hc,by simp only[List.length_append,List.length_cons,List.length_nil];omega,fun n hn=>?_⟩
   rcases List.mem_append.1 hn with h | h
   · exact hl2 n h
   · rw[List.mem_singleton]at h;subst h;exact⟨by decide,by decide⟩
 · refine⟨hc,by simp only[List.length_set];omega,fun n hn=>?_⟩
   rcases List.mem_or_eq_of_mem_set hn with h | rfl
   · exact hl2 n h
   · exact⟨by decide,by decide⟩
 · exact⟨hc,by dsimp only;omega,hl2⟩
structure VdtG (v:Vdt):Prop where
 tag:U64 v.tag
 lo:1≤v.kind
 hi:v.kind≤4
theorem AK_ (s:VSta) (i:Nat) (hi:InvA s i) (k:Int) (hk:0≤k):Sm VdtG fun v=>PC Tryz.prog 18 [.agg (staC s.a),.int .i64 k] (.agg (vdtC v)):=by
 have hr:=hi.sto.r
 have hpos:=hi.sto.tree.pos
 have hrq:=hi.rq
 have hii:=hi.sto.ii
 have hut:=hi.ut
 obtain⟨p,hp,hp'⟩:=aU_ hk hpos
 have hg:=aW_ (t:=s.sto.nodes) hp'
 obtain⟨q,hq,hq'⟩:=aU_ (n:=6) (dw_ 4 hk) (by decide)
 obtain⟨kd,hkd,hk1,hk4⟩:∃ kd:Int,([[.int .i64 1],[.int .i64 1],[.int .i64 2],[.int .i64 2],[.int .i64 3],[.int .i64 4]]:List (List AV)).getD q []=[.int .i64 kd]∧1≤kd∧kd≤4:=by
   match q,hq' with
   | 0,_ | 1,_=>exact⟨1,rfl,by decide,by decide⟩
   | 2,_ | 3,_=>exact⟨2,rfl,by decide,by decide⟩
   | 4,_=>exact⟨3,rfl,by decide,by decide⟩
   | 5,_=>exact⟨4,rfl,by decide,by decide⟩
 have hq6:Int.tmod (ishr .i64 k 4) 6=(q:Int):=hq
 refine df_ 11 nG_ (by simp) puA (fun r _=>puA) ?_
 unfold ht_;refine bd ?_
 refine aO_ ?_;refine bF_ ?_
 refine aO_ ?_;repeat(first | refine bF_ ?_ | simp only[go_sem,hq6,hkd])
 refine aO_ ?_;repeat(first | refine bF_ ?_ | simp only[go_sem,hp,hg])
 generalize (nod s.sto.nodes p).blk.root=r0 at *
 generalize hT:IntKind.u64.wrap (k.tmod 9)=T at *
 have hT':U64 T:=hT▸aP_ _
 refine aO_ ?_
 refine nq_ (fun b:Int × Rt=>U64 b.1) (fun _=>[(7,.int .i64 s.reqs.length)]) (fun b=>[.var (staC s.a),.var (vdtC ⟨0,0,rt0⟩),.var (vdtC ⟨b.1,kd,rt0⟩),.var (rtc b.2)]) ?_ (fun b hb=>?_)
 · by_cases hrl:0<s.reqs.length
   · obtain⟨q1,h1,h1'⟩:=aU_ (dw_ 11 hk) hrl
     have e1:decide ((0:Int)<(s.reqs.length:Int))=true:=decide_eq_true (by omega)
     have hg1:(rows reqC s.reqs).getD q1 []=reqC (reqA s.reqs q1):=bl_ (f:=reqC) req0 h1'
     have hq1:=hut _ (un_ h1')
     generalize reqA s.reqs q1=R at *
     repeat'(first | refine aJ_ ?_ | simp only[go_sem,e1,h1,hg1] | (refine aA_ (fun h=>?_) (fun h=>?_)<;>try(exact absurd h (by decide))) | refine bu_ (fun h=>?_) (fun h=>?_))
     · exact⟨(R.tag,R.block),hq1,by refine GC.mk' [] [0,1,2,3] (by simp) rfl (by simp) (by simp) evd evd⟩
     all_goals exact⟨(T,r0),hT',by refine GC.mk' [] [0,1,2,3] (by simp) rfl (by simp) (by simp) evd evd⟩
   · have e1:decide ((0:Int)<(s.reqs.length:Int))=false:=decide_eq_false (by omega)
     repeat'(first | refine aJ_ ?_ | simp only[go_sem,e1] | (refine aA_ (fun h=>?_) (fun h=>?_)<;>try(exact absurd h (by decide))) | refine bu_ (fun h=>?_) (fun h=>?_))
     exact⟨(T,r0),hT',by refine GC.mk' [] [0,1,2,3] (by simp) rfl (by simp) (by simp) evd evd⟩
 obtain⟨T1,r1⟩:=b
 simp only[as_,av_,List.set_cons_zero,List.set_cons_succ]at hb ⊢
 refine aJ_ ?_
 refine aH_ (aS_ s.sto.nodes r1 hr.bn) ?_
 generalize findT s.sto.nodes r1=I
 refine cY_ ?_
 refine aO_ ?_
 have cp:=fP_ s.sto.nodes hr.tree.ok hr.bn I
 have hpm:=fun x hx=>dt_ (x:=x) hr.tree.ok (i:=I) hx
 have hpl:=eT_ hr.tree.ok I
 have hbn:=hr.bn
 generalize pathT s.sto.nodes I=L at *
 refine cw_ (fun _:Rt=>True) (fun r:Rt=>vdtC ⟨T1,kd,r⟩) 2 [] ?_ (fun r2 _=>?_)
 · by_cases hrl:0<L.length
   · obtain⟨q1,h1,h1'⟩:=aU_ (dw_ 16 hk) hrl
     have e1:decide ((0:Int)<(L.length:Int))=true:=decide_eq_true (by omega)
     have hg1:=gdn (k:=.i64) h1'
     have hm:=hpm _ (dQ_ 0 h1')
     obtain⟨u,hu⟩:=Int.eq_ofNat_of_zero_le hm.1
     rw[hu]at hg1 hm
     have hg2:=aW_ (t:=s.sto.nodes) (i:=u) (by omega)
     refine aJ_ ?_
     refine aH_ cp ?_
     repeat'(first | refine aJ_ ?_ | simp only[go_sem,e1,h1,hg1,hg2] | (refine aA_ (fun h=>?_) (fun h=>?_)<;>try(exact absurd h (by decide))) | refine bu_ (fun h=>?_) (fun h=>?_))
     all_goals refine cr_ (fun r:Rt=>vdtC ⟨T1,kd,r⟩) 2 rfl trivial (by refine GC.mk' [] [0,1,2,3] (by simp) rfl (by simp) (by simp) evd evd)
   · have e1:decide ((0:Int)<(L.length:Int))=false:=decide_eq_false (by omega)
     refine aJ_ ?_
     refine aH_ cp ?_
     repeat'(first | refine aJ_ ?_ | simp only[go_sem,e1] | (refine aA_ (fun h=>?_) (fun h=>?_)<;>try(exact absurd h (by decide))) | refine bu_ (fun h=>?_) (fun h=>?_))
     refine cr_ (fun r:Rt=>vdtC ⟨T1,kd,r⟩) 2 rfl trivial (by refine GC.mk' [] [0,1,2,3] (by simp) rfl (by simp) (by simp) evd evd)
 (try simp only[av_])
 repeat'(first | refine aJ_ ?_ | (refine aA_ (fun h=>?_) (fun h=>?_)<;>try(exact absurd h (by decide))) | refine bu_ (fun h=>?_) (fun h=>?_))
 · refine aH_ (cn_ _) ?_
   refine aJ_ ?_
   refine sO_ (by first | rfl | exact evd) (by first | rfl | ((try simp only[go_sem,Nat.reduceAdd,Nat.reduceSub,Nat.reduceMul,Nat.reduceLT,Nat.reduceLeDiff,Nat.reduceEqDiff,reduceIte,Int.reduceToNat,Int.reduceLT,Int.reduceLE,Int.reduceEq,Int.reduceNeg,reduceCtorEq,Int.reduceBEq,Int.reduceBNe]);rfl)) ?_
   exact⟨hb,hk1,hk4⟩
 · refine sO_ (by first | rfl | exact evd) (by first | rfl | ((try simp only[go_sem,Nat.reduceAdd,Nat.reduceSub,Nat.reduceMul,Nat.reduceLT,Nat.reduceLeDiff,Nat.reduceEqDiff,reduceIte,Int.reduceToNat,Int.reduceLT,Int.reduceLE,Int.reduceEq,Int.reduceNeg,reduceCtorEq,Int.reduceBEq,Int.reduceBNe]);rfl)) ?_
   exact⟨hb,hk1,hk4⟩
end Go.Proofs.YtipiipgpnkpejaaGreat
