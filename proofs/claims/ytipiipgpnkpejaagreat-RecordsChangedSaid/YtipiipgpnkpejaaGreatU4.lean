/-
 My texts Me, Mf, Mg, joined.
-/
import Derived.Test.YtipiipgpnkpejaaGreatU3
import Derived.Test.YtipiipgpnkpejaaGreatU1
namespace Go.Proofs.YtipiipgpnkpejaaGreat
open Go Go.FH Go.RowKit
set_option linter.unusedVariables false
set_option linter.unusedSimpArgs false
set_option maxRecDepth 8000
set_option maxHeartbeats 4000000

structure CfgG (c:VCfg):Prop where
 r:CfgR c
 new:newE c=0
theorem or_ {l:List Int}(h:∀ x ∈ l,0≤x∧x<40) (hl:l.length≤6):∀ n,n≤l.length→(sumG l n).2=0∧0≤(sumG l n).1∧(sumG l n).1≤40*n
 | 0,_=>⟨rfl,Int.le_refl _,by show (0:Int)≤_;omega⟩
 | n + 1, hn => by
   obtain⟨h1,h2,h3⟩:=or_ h hl n (by omega)
   have hs:sumG l (n+1)=addE (sumG l n).1 (l.getD n 0):=by show (if (sumG l n).2≠0 then sumG l n else _)=_;rw[if_neg (by simp[h1])]
   have hx:=h _ (dQ_ 0 (show n<l.length by omega))
   rw[hs]
   unfold addE
   have hw:IntKind.u64.wrap ((sumG l n).1+l.getD n 0)=(sumG l n).1+l.getD n 0:=aB_ (by omega) (by omega)
   have hw2:IntKind.u64.wrap (18446744073709551615-l.getD n 0)=18446744073709551615-l.getD n 0:=aB_ (by omega) (by omega)
   split
   · rename_i hh
     first | (rw[hw2]at hh;omega) | omega
   · dsimp only
     rw[hw]
     exact⟨rfl,by omega,by omega⟩
theorem EA_ {c:VCfg}(h1:1≤c.spe) (h2:c.spe≤64) (h3:c.boost≤100) (h4:c.bals.length≤6) (n1:1≤c.lim.node) (n2:c.lim.node≤4096) (o1:0≤c.lim.orph) (o2:c.lim.orph≤64) (e1:0≤c.lim.early) (e2:c.lim.early≤256) (t1:1≤c.lim.table) (t2:c.lim.table≤64)
   (r1:0≤c.lim.retry) (r2:c.lim.retry≤256) (b1:1≤c.lim.backoff) (b2:c.lim.backoff≤1048576) (hg:c.gen≠rt0) (hb:∀ x ∈ c.bals,0≤x∧x<40):newE c=0:=by
 have w:∀ {n lo hi:Int},lo≤n→n≤hi→wit n lo hi=true:=fun h1 h2=>by unfold wit;rw[decide_eq_true h1,decide_eq_true h2];rfl
 have hs:=or_ hb h4 c.bals.length (Nat.le_refl _)
 have hv:vtabE ⟨⟨0,c.gen⟩,c.bals⟩ c.bals.length=0:=by
   unfold vtabE sumE
   dsimp only
   rw[if_neg (by simp),if_neg]
   rintro (h | h)
   · exact h hs.1
   · omega
 unfold newE
 rw[if_neg (by omega),if_neg (by omega),if_neg (by omega),if_neg (by omega),w n1 n2,w o1 o2,w e1 e2,w t1 t2,w r1 r2,if_neg (by simp),if_neg (by simp),if_neg (by simp),if_neg (by simp),if_neg (by simp),if_neg (by omega),if_neg (by omega),if_neg hg,hv]
def balL (l:List Int) (n:Nat):List Int:=(List.range n).map fun i=>IntKind.u64.wrap (Int.tmod (atN l (10+i)) 40)
theorem ux_ (l:List Int) (n:Nat):(balL l n).length=n:=by simp[balL]
theorem DC_ (l:List Int) (n:Nat) (hn:n≤100):∀ x ∈ balL l n,0≤x∧x<40:=fun x hx=>by
 unfold balL at hx
 obtain⟨v,hv,rfl⟩:=List.mem_map.1 hx
 rw[List.mem_range]at hv
 obtain⟨r,h,h'⟩:=aU_ (n:=40) (da_ l (10+v) (by omega)).1 (by decide)
 have h2:Int.tmod (atN l (10+v)) 40=(r:Int):=h
 rw[h2,aB_ (by omega) (by omega)]
 omega
theorem Fo_ (l:List Int) (n:Nat):balL l (n+1)=balL l n++[IntKind.u64.wrap (Int.tmod (atN l (10+n)) 40)]:=by simp[balL,List.range_succ]
theorem DT_ (x:Cfg) (v:AV):(cfgC x).set 44 v=cfgC { x with bals:=v }:=by
 simp only[cfgC,List.set_append,ay_,ai_,ad_,List.length_cons,Nat.reduceSub,Nat.reduceLT,if_false,List.set_cons_succ,List.set_cons_zero]
theorem Ec_ (x:Cfg):(cfgC x).getD 44 .dead=x.bals:=by
 simp only[cfgC,List.getD_eq_getElem?_getD,List.getElem?_append,ay_,ai_,ad_,List.length_cons,Nat.reduceSub,Nat.reduceLT,if_false,List.getElem?_cons_succ,List.getElem?_cons_zero,Option.getD_some]
section
variable {fr:Fr}{σ:St}{rs:List ARes}{G:VCfg→Prop}{l:List AV}{a:Lim}{b c:Int}{d:Wd}{e:Rt}{f:List Int}
theorem Dt_ (hl:resVal fr σ rs=some l) (hv:fz σ (List.range σ.length) (resAV l)=.agg (cfgC ⟨a,b,c,d,e,.sl 1 false (nums .u64 f)⟩)) (hg:G ⟨a,b,c,d,e,f⟩):Sm G fun x=>PQ rs (.agg (cfgC x.a)) .ret fr σ:=⟨_,hg,l,hl,.inl hv⟩
end
theorem Ax_ (l:List Int):Sm CfgG fun c=>PC Tryz.prog 67 [.sl 1 false (nums .i64 l)] (.agg (cfgC c.a)):=by
 refine df_ 5 pn_ (by simp) puA (fun r _=>puA) ?_
 unfold ja_;refine bd ?_
 obtain⟨r0,h0,b0⟩:=aU_ (n:=8) (da_ l 0 (by decide)).1 (by decide)
 have t0:Int.tmod (atN l 0) 8=(r0:Int):=h0
 have a0:PC Tryz.prog 69 [.sl 1 false (nums .i64 l),.int .i64 0] (.int .i64 (atN l 0)):=bJ_ l false 0 (by decide)
 obtain⟨r1,h1,b1⟩:=aU_ (n:=4) (da_ l 1 (by decide)).1 (by decide)
 have t1:Int.tmod (atN l 1) 4=(r1:Int):=h1
 have a1:PC Tryz.prog 69 [.sl 1 false (nums .i64 l),.int .i64 1] (.int .i64 (atN l 1)):=bJ_ l false 1 (by decide)
 obtain⟨r2,h2,b2⟩:=aU_ (n:=4) (da_ l 2 (by decide)).1 (by decide)
 have t2:Int.tmod (atN l 2) 4=(r2:Int):=h2
 have a2:PC Tryz.prog 69 [.sl 1 false (nums .i64 l),.int .i64 2] (.int .i64 (atN l 2)):=bJ_ l false 2 (by decide)
 obtain⟨r3,h3,b3⟩:=aU_ (n:=4) (da_ l 3 (by decide)).1 (by decide)
 have t3:Int.tmod (atN l 3) 4=(r3:Int):=h3
 have a3:PC Tryz.prog 69 [.sl 1 false (nums .i64 l),.int .i64 3] (.int .i64 (atN l 3)):=bJ_ l false 3 (by decide)
 obtain⟨r4,h4,b4⟩:=aU_ (n:=4) (da_ l 4 (by decide)).1 (by decide)
 have t4:Int.tmod (atN l 4) 4=(r4:Int):=h4
 have a4:PC Tryz.prog 69 [.sl 1 false (nums .i64 l),.int .i64 4] (.int .i64 (atN l 4)):=bJ_ l false 4 (by decide)
 obtain⟨r5,h5,b5⟩:=aU_ (n:=5) (da_ l 5 (by decide)).1 (by decide)
 have t5:Int.tmod (atN l 5) 5=(r5:Int):=h5
 have a5:PC Tryz.prog 69 [.sl 1 false (nums .i64 l),.int .i64 5] (.int .i64 (atN l 5)):=bJ_ l false 5 (by decide)
 obtain⟨r6,h6,b6⟩:=aU_ (n:=4) (da_ l 6 (by decide)).1 (by decide)
 have t6:Int.tmod (atN l 6) 4=(r6:Int):=h6
 have a6:PC Tryz.prog 69 [.sl 1 false (nums .i64 l),.int .i64 6] (.int .i64 (atN l 6)):=bJ_ l false 6 (by decide)
 obtain⟨r7,h7,b7⟩:=aU_ (n:=3) (da_ l 7 (by decide)).1 (by decide)
 have t7:Int.tmod (atN l 7) 3=(r7:Int):=h7
 have a7:PC Tryz.prog 69 [.sl 1 false (nums .i64 l),.int .i64 7] (.int .i64 (atN l 7)):=bJ_ l false 7 (by decide)
 obtain⟨r8,h8,b8⟩:=aU_ (n:=2) (da_ l 8 (by decide)).1 (by decide)
 have t8:Int.tmod (atN l 8) 2=(r8:Int):=h8
 have a8:PC Tryz.prog 69 [.sl 1 false (nums .i64 l),.int .i64 8] (.int .i64 (atN l 8)):=bJ_ l false 8 (by decide)
 obtain⟨r9,h9,b9⟩:=aU_ (n:=5) (da_ l 9 (by decide)).1 (by decide)
 have t9:Int.tmod (atN l 9) 5=(r9:Int):=h9
 have a9:PC Tryz.prog 69 [.sl 1 false (nums .i64 l),.int .i64 9] (.int .i64 (atN l 9)):=bJ_ l false 9 (by decide)
 obtain⟨bo,hbo,hbo0,hbo1⟩:∃ bo:Int,([[.int .i64 0],[.int .i64 40],[.int .i64 100]]:List (List AV)).getD r7 []=[.int .i64 bo]∧0≤bo∧bo≤100:=by
   match r7,b7 with
   | 0,_=>exact⟨0,rfl,by decide,by decide⟩
   | 1,_=>exact⟨40,rfl,by decide,by decide⟩
   | 2,_=>exact⟨100,rfl,by decide,by decide⟩
 have sw0:∀ (w:Wd) (x:Int),spl (wdc w) 0 [.int .u64 x]=wdc (w.set 0 x):=fun w x=>dy_ w (by decide) x
 have sw1:∀ (w:Wd) (x:Int),spl (wdc w) 1 [.int .u64 x]=wdc (w.set 1 x):=fun w x=>dy_ w (by decide) x
 have sw2:∀ (w:Wd) (x:Int),spl (wdc w) 2 [.int .u64 x]=wdc (w.set 2 x):=fun w x=>dy_ w (by decide) x
 refine aO_ ?_;refine bF_ ?_
 refine aO_ ?_
 refine bF_ ?_
 refine bb_ (a0) ?_
 repeat(first | refine cY_ ?_ | simp only[go_sem,t0,hbo,sw0,sw1,sw2])
 refine bb_ (a1) ?_
 repeat(first | refine cY_ ?_ | simp only[go_sem,t1,hbo,sw0,sw1,sw2])
 refine bb_ (a2) ?_
 repeat(first | refine cY_ ?_ | simp only[go_sem,t2,hbo,sw0,sw1,sw2])
 refine bb_ (a3) ?_
 repeat(first | refine cY_ ?_ | simp only[go_sem,t3,hbo,sw0,sw1,sw2])
 refine bb_ (a4) ?_
 repeat(first | refine cY_ ?_ | simp only[go_sem,t4,hbo,sw0,sw1,sw2])
 refine bb_ (a5) ?_
 repeat(first | refine cY_ ?_ | simp only[go_sem,t5,hbo,sw0,sw1,sw2])
 refine bb_ (a6) ?_
 repeat(first | refine cY_ ?_ | simp only[go_sem,t6,hbo,sw0,sw1,sw2])
 refine bb_ (a7) ?_
 repeat(first | refine cY_ ?_ | simp only[go_sem,t7,hbo,sw0,sw1,sw2])
 refine bb_ (a8) ?_
 repeat(first | refine cY_ ?_ | simp only[go_sem,t8,hbo,sw0,sw1,sw2])
 refine bb_ (cn_ 1) ?_
 refine cY_ ?_
 refine FP_ (fr2:=⟨5,[.sl 1 false (nums .i64 l),.dead,.ptr 0 0,.ptr 1 0,.dead],[]⟩) (σ2:=[.var (cfgC cfg0),.var (cfgC ⟨⟨IntKind.i64.wrap (6+r0),r1,r2,IntKind.i64.wrap (1+r3),r4,IntKind.u64.wrap (IntKind.i64.wrap (1+r5))⟩,IntKind.u64.wrap (IntKind.i64.wrap (1+r6)),IntKind.u64.wrap bo,((wd0.set 0 100).set 1 0).set 2 (IntKind.u64.wrap r8),rootN 1,.sl 0 true []⟩)]) (by refine GC.mk' [] [0,11] (by simp) rfl (by simp) (by simp) evd evd) ?_
 have hN:IntKind.i64.wrap (6+(r0:Int))≤13:=by rw[ah_ (by omega) (by omega)];omega
 have hN1:1≤IntKind.i64.wrap (6+(r0:Int)):=by rw[ah_ (by omega) (by omega)];omega
 have hT1:1≤IntKind.i64.wrap (1+(r3:Int)):=by rw[ah_ (by omega) (by omega)];omega
 have hB:IntKind.u64.wrap (IntKind.i64.wrap (1+(r5:Int)))=1+r5:=by rw[ah_ (by omega) (by omega),aB_ (by omega) (by omega)]
 have hP:IntKind.u64.wrap bo≤100:=by rw[aB_ (by omega) (by omega)];exact hbo1
 have hG:rootN 1≠rt0:=by decide
 have hT:IntKind.i64.wrap (1+(r3:Int))≤4:=by rw[ah_ (by omega) (by omega)];omega
 have hS:IntKind.u64.wrap (IntKind.i64.wrap (1+(r6:Int)))=1+r6:=by rw[ah_ (by omega) (by omega),aB_ (by omega) (by omega)]
 have hW:WdG (((wd0.set 0 100).set 1 0).set 2 (IntKind.u64.wrap r8)):=((lS_.set _ ⟨by decide,by decide⟩).set _ ⟨by decide,by decide⟩).set _ (aP_ _)
 rw[hS]
 generalize IntKind.i64.wrap (6+(r0:Int))=cN at *
 generalize IntKind.i64.wrap (1+(r3:Int))=cT at *
 generalize IntKind.u64.wrap (IntKind.i64.wrap (1+(r5:Int)))=cB at *
 generalize IntKind.u64.wrap bo=cP at *
 generalize ((wd0.set 0 100).set 1 0).set 2 (IntKind.u64.wrap r8)=cW at *
 have hn9:IntKind.i64.wrap (2+(r9:Int))=((2+r9:Nat):Int):=by rw[ah_ (by omega) (by omega)];omega
 refine aO_ ?_
 refine nq_ (fun L:List Int=>L.length=2+r9∧∀ x ∈ L,0≤x∧x<40) (fun _=>[]) (fun L=>[.var (cfgC cfg0),.var (cfgC ⟨⟨cN,r1,r2,cT,r4,cB⟩,1+r6,cP,cW,rootN 1,.hs 1 2 0 L.length⟩),.vec 1 (nums .u64 L)]) ?_ (fun L hL=>?_)
 · refine xU_ (balL l (2+r9)) ⟨ux_ _ _,DC_ _ _ (by omega)⟩ ?_
   generalize hM:2+r9=M at *
   try refine aa_ ?_
   refine hU_ 1 44 1 ?_ (by rfl) (by exact Ec_ _)
   simp only[go_sem,DT_]
   refine au_ (fun i:Nat=>[(4,.int .i64 i)]) (fun i=>[.var (cfgC cfg0),.var (cfgC ⟨⟨cN,r1,r2,cT,r4,cB⟩,1+r6,cP,cW,rootN 1,.hs 1 2 0 (balL l i).length⟩),.vec 1 (nums .u64 (balL l i))]) (fun i=>M-i) (fun i=>i≤M) 0 (Nat.zero_le _) ?_ ?_
   · rw[show balL l 0=[]from rfl]
     refine GC.mk' [] [0,1,2] (by simp) rfl (by simp) (by simp) evd evd
   intro i hi
   have hlen:=ux_ l i
   by_cases h1:i<M
   · have e1:decide ((i:Int)<(M:Int))=true:=decide_eq_true (by omega)
     have hw:=af_ h1 (by omega)
     have hw2:IntKind.i64.wrap (10+(i:Int))=((10+i:Nat):Int):=by rw[ah_ (by omega) (by omega)];omega
     have hs:=Fo_ l i
     have aa:=bJ_ l false (10+i) (by omega)
     try refine aa_ ?_
     refine pcall a9 ?_
     repeat(first | refine aa_ ?_ | simp only[go_sem,t9,hn9,e1])
     refine ac_ ?_
     repeat(first | refine aa_ ?_ | simp only[go_sem,hw2])
     refine dpcall (aa) ?_
     repeat(first | refine aa_ ?_ | simp only[go_sem,hw])
     refine⟨i+1,h1,by omega,?_⟩
     rw[hs]
     refine GC.mk' [] [0,1,4] (by simp) rfl (by simp) (by simp) evd evd
   · obtain rfl:i=M:=by omega
     have e1:decide ((i:Int)<(i:Int))=false:=decide_eq_false (by omega)
     try refine aa_ ?_
     refine pcall a9 ?_
     repeat(first | refine aa_ ?_ | simp only[go_sem,t9,hn9,e1])
     refine ab_ ?_
     try refine aa_ ?_
     refine GC.mk' [] [0,1,2] (by simp) rfl (by simp) (by simp) evd evd
 (try simp only[av_])
 refine aJ_ ?_
 refine Dt_ (by first | rfl | exact evd) (by first | rfl | ((try simp only[go_sem,Nat.reduceAdd,Nat.reduceSub,Nat.reduceMul,Nat.reduceLT,Nat.reduceLeDiff,Nat.reduceEqDiff,reduceIte,Int.reduceToNat,Int.reduceLT,Int.reduceLE,Int.reduceEq,Int.reduceNeg,reduceCtorEq,Int.reduceBEq,Int.reduceBNe]);rfl)) ?_
 obtain⟨hL1,hL2⟩:=hL
 refine⟨⟨?_,?_,?_,?_,?_,?_,?_,?_,?_,hW⟩,EA_ ?_ ?_ ?_ ?_ ?_ ?_ ?_ ?_ ?_ ?_ ?_ ?_ ?_ ?_ ?_ ?_ hG hL2⟩<;>dsimp only<;>omega

structure SlgG (x:VSlg):Prop where
 a1:U64 x.fst.src
 a2:U64 x.fst.tgt
 b1:U64 x.snd.src
 b2:U64 x.snd.tgt
 l1:x.fst.vals.length≤10
 l2:x.snd.vals.length≤10
section
variable {fr:Fr}{σ:St}{rs:List ARes}{G:VSlg→Prop}{l:List AV}{a1 a2 b1 b2:Int}{r1 r2:Rt}{m1 m2:List Int}
theorem Eh_ (hl:resVal fr σ rs=some l) (hv:fz σ (List.range σ.length) (resAV l)=.agg (slgC ⟨⟨a1,a2,r1,.sl 1 false (nums .i64 m1)⟩,⟨b1,b2,r2,.sl 1 false (nums .i64 m2)⟩⟩)) (hg:G ⟨⟨a1,a2,r1,m1⟩,⟨b1,b2,r2,m2⟩⟩):Sm G fun x=>PQ rs (.agg (slgC x.a)) .ret fr σ:=⟨_,hg,l,hl,.inl hv⟩
end
theorem qP_ (n:Nat) (k:Int) (hn:n≤10):Sm SlgG fun x=>PC Tryz.prog 13 [.int .i64 n,.int .i64 k] (.agg (slgC x.a)):=by
 have S1:=qL_ n k (by omega)
 have S2:=qL_ n (ishr .i64 k 6) (by omega)
 have l1:=rF_ n k
 have l2:=rF_ n (ishr .i64 k 6)
 generalize someL n k=A at *
 generalize someL n (ishr .i64 k 6)=B at *
 have u1:U64 1:=⟨by decide,by decide⟩
 have u2:U64 2:=⟨by decide,by decide⟩
 have u4:U64 4:=⟨by decide,by decide⟩
 have u5:U64 5:=⟨by decide,by decide⟩
 have u6:U64 6:=⟨by decide,by decide⟩
 refine df_ 6 mL_ (by simp) puA (fun r _=>puA) ?_
 unfold gy_;refine bd ?_
 refine aO_ ?_;refine bF_ ?_
 refine aO_ ?_
 refine bF_ ?_
 refine aH_ (cn_ 2) ?_
 refine cY_ ?_
 refine aH_ (S1) ?_
 refine cY_ ?_
 refine aH_ (cn_ 2) ?_
 refine cY_ ?_
 refine aH_ (S2) ?_
 refine cY_ ?_
 repeat'(first | refine aJ_ ?_ | (refine aA_ (fun h=>?_) (fun h=>?_)<;>try(exact absurd h (by decide))) | refine bu_ (fun h=>?_) (fun h=>?_))
 all_goals try(refine aH_ (cn_ _) ?_;repeat'(first | refine aJ_ ?_ | (refine aA_ (fun h=>?_) (fun h=>?_)<;>try(exact absurd h (by decide))) | refine bu_ (fun h=>?_) (fun h=>?_)))
 all_goals(refine Eh_ (by first | rfl | exact evd) (by first | rfl | ((try simp only[go_sem,Nat.reduceAdd,Nat.reduceSub,Nat.reduceMul,Nat.reduceLT,Nat.reduceLeDiff,Nat.reduceEqDiff,reduceIte,Int.reduceToNat,Int.reduceLT,Int.reduceLE,Int.reduceEq,Int.reduceNeg,reduceCtorEq,Int.reduceBEq,Int.reduceBNe]);all_goals rfl)) ?_)
 all_goals(refine⟨?_,?_,?_,?_,?_,?_⟩<;>(try dsimp only)<;>first | assumption | omega)
structure OpG (x:VOp):Prop where
 r:OpR x
 u:OpU (toV x)
 diff:WdG x.blk.diff
 pdiff:WdG x.blk.pdiff
 k1:1≤x.kind
 k6:x.kind≤6
def vatt0:VAtt:=⟨0,rt0,cp0,[]⟩
def vclm0:VClm:=⟨0,0,rt0,[]⟩
def vslg0:VSlg:=⟨vclm0,vclm0⟩
def vtab0:VTab:=⟨cp0,[]⟩
theorem gh_ {k:Int}{b:Blk}{a:VAtt}{g:VSlg}{t:VTab}{v:Vdt}(hb:BlkG b) (ha:AttG a) (hg:SlgG g) (ht:TabG t) (hv:U64 v.tag) (h1:1≤k) (h6:k≤6):OpG ⟨k,b,a,g,t,v,0,0⟩:=
 ⟨⟨hb.u,ha.len,hg.l1,hg.l2,ht.len⟩,⟨hb.u,ha.slot,ha.ep,Nat.le_trans ha.len (by decide),⟨hg.a1,hg.a2,rfl,Nat.le_trans hg.l1 (by decide)⟩,⟨hg.b1,hg.b2,rfl,Nat.le_trans hg.l2 (by decide)⟩,⟨ht.ep,rfl,ht.bals,Nat.le_trans ht.len (by decide)⟩,hv⟩,hb.diff,hb.pdiff,h1,h6⟩
theorem u0:U64 0:=⟨by decide,by decide⟩
theorem hx_:BlkG blk0:=⟨u0,u0,u0,u0,u0,lS_,lS_⟩
theorem gt_:AttG vatt0:=⟨u0,u0,by simp[vatt0]⟩
theorem gm_:SlgG vslg0:=⟨u0,u0,u0,u0,by simp[vslg0,vclm0],by simp[vslg0,vclm0]⟩
theorem gp_:TabG vtab0:=⟨u0,by simp[vtab0],by simp[vtab0]⟩
theorem lG_ {fr:Fr}{σ:St}{rs:List ARes}{G:VOp→Prop}{l:List AV}(y:SOp) (x:VOp) (hl:resVal fr σ rs=some l) (hv:fz σ (List.range σ.length) (resAV l)=.agg (sOpC y)) (hp:PuL (sOpC y)) (hw:WkC (sOpC y) (sOpC x.a)) (hg:G x):Sm G fun x=>PQ rs (.agg (sOpC x.a)) .ret fr σ:=
 ⟨x,hg,l,hl,.inr ⟨_,hv,hp,Wk.agg hw⟩⟩
theorem rL_ {k w p:Int}{b:Blk}{a:Att}{g:Slg}{t:Tab}{v:Vdt}(ha:PuL (attC a)) (hg:PuL (slgC g)) (ht:PuL (tabC t)):PuL (sOpC ⟨k,b,a,g,t,v,w,p⟩):=by
 refine(cA_ _).2 ?_
 have h1:=(bt_ _).1 ha
 have h2:=(bI_ _).1 hg
 have h3:=(bs_ _).1 ht
 exact⟨h1,h2,h3⟩
theorem CD_ (s:VSta) (i:Nat) (h:InvA s i) (httd:WdG s.sto.cfg.ttd) (n k:Int) (hk:0≤k):Sm OpG fun x=>PC Tryz.prog 70 [.agg (staC s.a),.int .i64 n,.int .i64 k] (.agg (sOpC x.a)):=by
 obtain⟨b,hb,cb⟩:=qR_ s.sto i h.sto httd n (ishr .i64 k 4) (dw_ 4 hk)
 obtain⟨a,ha,ca⟩:=rq_ s.sto i h.sto (ishr .i64 k 4) (dw_ 4 hk)
 obtain⟨g,hg,cg⟩:=qP_ s.sto.cfg.bals.length (ishr .i64 k 4) (by have:=h.sto.cfg.b1;omega)
 obtain⟨t,ht,ct⟩:=rR_ s.sto i h.sto (ishr .i64 k 4) (dw_ 4 hk)
 obtain⟨v,hv,cv⟩:=AK_ s i h (ishr .i64 k 4) (dw_ 4 hk)
 have pa:PuL (attC att0):=(bt_ _).2 trivial
 have pg:PuL (slgC slg0):=(bI_ _).2 ⟨trivial,trivial⟩
 have pt:PuL (tabC tab0):=(bs_ _).2 trivial
 refine df_ 48 yK_ (by simp) puA (fun r _=>puA) ?_
 unfold rW_;refine bd ?_
 refine aO_ ?_;refine bF_ ?_
 refine aO_ ?_;refine bF_ ?_
 refine aO_ ?_
 refine aO_ ?_;refine bF_ ?_
 refine aO_ ?_
 refine gW_ (fun _:Bool=>True) (fun b=>[(12,.bool b)]) ?_ (fun bb _=>?_)
 · repeat'(first | refine aJ_ ?_ | (refine aA_ (fun h=>?_) (fun h=>?_)<;>try(exact absurd h (by decide))) | refine bu_ (fun h=>?_) (fun h=>?_))
   · exact⟨(Int.tmod k 16==0),trivial,by refine GC.mk' [] [0,1] (by simp) rfl (by simp) (by simp) evd evd⟩
   · exact⟨(Int.tmod k 16==1),trivial,by refine GC.mk' [] [0,1] (by simp) rfl (by simp) (by simp) evd evd⟩
   · exact⟨(Int.tmod k 16==2),trivial,by refine GC.mk' [] [0,1] (by simp) rfl (by simp) (by simp) evd evd⟩
 (try simp only[as_,av_,List.set_cons_zero,List.set_cons_succ])
 refine aA_ (fun h=>?_) (fun h=>?_)
 · refine aJ_ ?_
   refine lG_ ⟨1,blk0,att0,slg0,tab0,vdt0,0,0⟩ ⟨1,blk0,vatt0,vslg0,vtab0,vdt0,0,0⟩ (by first | rfl | exact evd) (by first | rfl | ((try simp only[go_sem,Nat.reduceAdd,Nat.reduceSub,Nat.reduceMul,Nat.reduceLT,Nat.reduceLeDiff,Nat.reduceEqDiff,reduceIte,Int.reduceToNat,Int.reduceLT,Int.reduceLE,Int.reduceEq,Int.reduceNeg,reduceCtorEq,Int.reduceBEq,Int.reduceBNe]);all_goals rfl)) (rL_ pa pg pt) (dq_ rfl rfl ci_ cm_ cl_ rfl rfl rfl) (gh_ hx_ gt_ gm_ gp_ u0 (by decide) (by decide))
 refine aO_ ?_
 refine gW_ (fun _:Bool=>True) (fun b=>[(17,.bool b)]) ?_ (fun bb _=>?_)
 · repeat'(first | refine aJ_ ?_ | (refine aA_ (fun h=>?_) (fun h=>?_)<;>try(exact absurd h (by decide))) | refine bu_ (fun h=>?_) (fun h=>?_))
   · exact⟨(Int.tmod k 16==3),trivial,by refine GC.mk' [] [0,1] (by simp) rfl (by simp) (by simp) evd evd⟩
   · exact⟨(Int.tmod k 16==4),trivial,by refine GC.mk' [] [0,1] (by simp) rfl (by simp) (by simp) evd evd⟩
   · exact⟨(Int.tmod k 16==5),trivial,by refine GC.mk' [] [0,1] (by simp) rfl (by simp) (by simp) evd evd⟩
   · exact⟨(Int.tmod k 16==6),trivial,by refine GC.mk' [] [0,1] (by simp) rfl (by simp) (by simp) evd evd⟩
   · exact⟨(Int.tmod k 16==7),trivial,by refine GC.mk' [] [0,1] (by simp) rfl (by simp) (by simp) evd evd⟩
 (try simp only[as_,av_,List.set_cons_zero,List.set_cons_succ])
 refine aA_ (fun h=>?_) (fun h=>?_)
 · refine aJ_ ?_
   refine aH_ cb ?_
   refine aJ_ ?_
   refine lG_ ⟨2,b,att0,slg0,tab0,vdt0,0,0⟩ ⟨2,b,vatt0,vslg0,vtab0,vdt0,0,0⟩ (by first | rfl | exact evd) (by first | rfl | ((try simp only[go_sem,Nat.reduceAdd,Nat.reduceSub,Nat.reduceMul,Nat.reduceLT,Nat.reduceLeDiff,Nat.reduceEqDiff,reduceIte,Int.reduceToNat,Int.reduceLT,Int.reduceLE,Int.reduceEq,Int.reduceNeg,reduceCtorEq,Int.reduceBEq,Int.reduceBNe]);all_goals rfl)) (rL_ pa pg pt) (dq_ rfl rfl ci_ cm_ cl_ rfl rfl rfl) (gh_ hb gt_ gm_ gp_ u0 (by decide) (by decide))
 refine aO_ ?_
 refine gW_ (fun _:Bool=>True) (fun b=>[(29,.bool b)]) ?_ (fun bb _=>?_)
 · repeat'(first | refine aJ_ ?_ | (refine aA_ (fun h=>?_) (fun h=>?_)<;>try(exact absurd h (by decide))) | refine bu_ (fun h=>?_) (fun h=>?_))
   · exact⟨(Int.tmod k 16==8),trivial,by refine GC.mk' [] [0,1] (by simp) rfl (by simp) (by simp) evd evd⟩
   · exact⟨(Int.tmod k 16==9),trivial,by refine GC.mk' [] [0,1] (by simp) rfl (by simp) (by simp) evd evd⟩
   · exact⟨(Int.tmod k 16==10),trivial,by refine GC.mk' [] [0,1] (by simp) rfl (by simp) (by simp) evd evd⟩
 (try simp only[as_,av_,List.set_cons_zero,List.set_cons_succ])
 refine aA_ (fun h=>?_) (fun h=>?_)
 · refine aJ_ ?_
   refine aH_ ca ?_
   refine aJ_ ?_
   refine lG_ ⟨3,blk0,a.a,slg0,tab0,vdt0,0,0⟩ ⟨3,blk0,a,vslg0,vtab0,vdt0,0,0⟩ (by first | rfl | exact evd) (by first | rfl | ((try simp only[go_sem,Nat.reduceAdd,Nat.reduceSub,Nat.reduceMul,Nat.reduceLT,Nat.reduceLeDiff,Nat.reduceEqDiff,reduceIte,Int.reduceToNat,Int.reduceLT,Int.reduceLE,Int.reduceEq,Int.reduceNeg,reduceCtorEq,Int.reduceBEq,Int.reduceBNe]);all_goals rfl)) (rL_ a.pul pg pt) (dq_ rfl rfl (WkC.refl _) cm_ cl_ rfl rfl rfl) (gh_ hx_ ha gm_ gp_ u0 (by decide) (by decide))
 repeat'(first | refine aJ_ ?_ | (refine aA_ (fun h=>?_) (fun h=>?_)<;>try(exact absurd h (by decide))) | refine bu_ (fun h=>?_) (fun h=>?_))
 · refine aH_ cg ?_
   refine aJ_ ?_
   refine lG_ ⟨4,blk0,att0,g.a,tab0,vdt0,0,0⟩ ⟨4,blk0,vatt0,g,vtab0,vdt0,0,0⟩ (by first | rfl | exact evd) (by first | rfl | ((try simp only[go_sem,Nat.reduceAdd,Nat.reduceSub,Nat.reduceMul,Nat.reduceLT,Nat.reduceLeDiff,Nat.reduceEqDiff,reduceIte,Int.reduceToNat,Int.reduceLT,Int.reduceLE,Int.reduceEq,Int.reduceNeg,reduceCtorEq,Int.reduceBEq,Int.reduceBNe]);all_goals rfl)) (rL_ pa g.pul pt) (dq_ rfl rfl ci_ (WkC.refl _) cl_ rfl rfl rfl) (gh_ hx_ gt_ hg gp_ u0 (by decide) (by decide))
 · refine aH_ ct ?_
   refine aJ_ ?_
   refine lG_ ⟨5,blk0,att0,slg0,t.a,vdt0,0,0⟩ ⟨5,blk0,vatt0,vslg0,t,vdt0,0,0⟩ (by first | rfl | exact evd) (by first | rfl | ((try simp only[go_sem,Nat.reduceAdd,Nat.reduceSub,Nat.reduceMul,Nat.reduceLT,Nat.reduceLeDiff,Nat.reduceEqDiff,reduceIte,Int.reduceToNat,Int.reduceLT,Int.reduceLE,Int.reduceEq,Int.reduceNeg,reduceCtorEq,Int.reduceBEq,Int.reduceBNe]);all_goals rfl)) (rL_ pa pg t.pul) (dq_ rfl rfl ci_ cm_ (WkC.refl _) rfl rfl rfl) (gh_ hx_ gt_ gm_ ht u0 (by decide) (by decide))
 · refine aH_ cv ?_
   refine aJ_ ?_
   refine lG_ ⟨6,blk0,att0,slg0,tab0,v,0,0⟩ ⟨6,blk0,vatt0,vslg0,vtab0,v,0,0⟩ (by first | rfl | exact evd) (by first | rfl | ((try simp only[go_sem,Nat.reduceAdd,Nat.reduceSub,Nat.reduceMul,Nat.reduceLT,Nat.reduceLeDiff,Nat.reduceEqDiff,reduceIte,Int.reduceToNat,Int.reduceLT,Int.reduceLE,Int.reduceEq,Int.reduceNeg,reduceCtorEq,Int.reduceBEq,Int.reduceBNe]);all_goals rfl)) (rL_ pa pg pt) (dq_ rfl rfl ci_ cm_ cl_ rfl rfl rfl) (gh_ hx_ gt_ gm_ gp_ hv.tag (by decide) (by decide))

theorem InvS.new {c:VCfg}(h:CfgR c):InvS (newO c) 0:=by
 refine⟨h,⟨fun k h1 h2=>?_,Nat.zero_lt_one,by show (-1:Int)<0;decide⟩,?_,by simp[newO],by show 1≤13;decide,fun n hn=>?_,Nat.zero_le _,fun b hb=>absurd hb (by simp[newO]),Nat.zero_le _,fun b hb=>absurd hb (by simp[newO]),by show 1≤4;decide,fun t ht=>?_,Nat.le_refl _,u0,u0,u0,by decide⟩
 · have:k<1:=h2
   omega
 · exact lC_ (k:=0) Nat.zero_lt_one rfl
 · have:n=⟨genB c.gen,-1,1⟩:=by simpa[newO]using hn
   subst this
   exact⟨u0,u0,u0,u0,u0⟩
 · have:t=⟨⟨0,c.gen⟩,c.bals⟩:=by simpa[newO]using ht
   subst this
   exact h.b1
theorem Ah_ {c:VCfg}(h:CfgG c):InvA (beginS c).1 0:=by
 unfold beginS
 rw[if_pos h.new]
 exact InvA.emit ⟨InvS.new h.r,Nat.le_refl _,fun r hr=>absurd hr (by simp),Nat.zero_le _,(⟨by decide,by decide⟩:U64 1)⟩
def runB (f:VSta × Nat × Int × Int→VOp) (l:List Int) (s0:VSta):Nat→VSta × List VOp
 | 0=>(s0,[])
 | i+1=>((stepS (runB f l s0 i).1 (f ((runB f l s0 i).1,i,((10+i:Nat):Int),if i=0 then 0 else atN l (18+i)))).1,(runB f l s0 i).2++[f ((runB f l s0 i).1,i,((10+i:Nat):Int),if i=0 then 0 else atN l (18+i))])
structure RunG (c:VCfg) (ops:List VOp) (s:VSta):Prop where
 c:CfgG c
 len:ops.length≤24
 ops:∀ x ∈ ops,OpG x
 s:InvA s 24
theorem Cg_ (l:List Int):∃ (c:VCfg) (ops:List VOp) (s:VSta),RunG c ops s∧PC Tryz.prog 30 [.sl 1 false (nums .i64 l)] (.tup [.agg (cfgC c.a),.sl 446 false (rows VOp.c ops),.agg (staC s.a)]):=by
 obtain⟨c,hc,cc⟩:=Ax_ l
 have hop:∀ y:VSta × Nat × Int × Int,∃ x:VOp,InvA y.1 y.2.1→0≤y.2.2.2→OpG x∧PC Tryz.prog 70 [.agg (staC y.1.a),.int .i64 y.2.2.1,.int .i64 y.2.2.2] (.agg (sOpC x.a)):=fun y=>by
   by_cases h1:InvA y.1 y.2.1
   · by_cases h2:0≤y.2.2.2
     · obtain⟨x,hx⟩:=CD_ y.1 y.2.1 h1 h1.sto.cfg.tt y.2.2.1 y.2.2.2 h2
       exact⟨x,fun _ _=>hx⟩
     · exact⟨default,fun _ h=>absurd h h2⟩
   · exact⟨default,fun h=>absurd h h1⟩
 obtain⟨f,hf⟩:=Classical.axiomOfChoice hop
 have h0:=Ah_ hc
 have cb:=wH_ c (by have:=hc.r.b1;omega) fun _=>(InvS.new hc.r).r
 generalize beginS c=B at *
 obtain⟨s0,B2,B3⟩:=B
 dsimp only at h0 cb
 have hI:∀ i,i≤24→InvA (runB f l s0 i).1 i∧(runB f l s0 i).2.length=i∧∀ x ∈ (runB f l s0 i).2,OpG x:=by
   intro i
   induction i with
   | zero=>exact fun _=>⟨h0,rfl,fun x hx=>by cases hx⟩
   | succ i ih =>
     intro hi
     obtain⟨h1,h2,h3⟩:=ih (by omega)
     have hk:0≤(if i=0 then 0 else atN l (18+i)):=by split;exact Int.le_refl _;exact(da_ l (18+i) (by omega)).1
     have hx:=(hf ((runB f l s0 i).1,i,((10+i:Nat):Int),if i=0 then 0 else atN l (18+i)) h1 hk).1
     refine⟨h1.step (by omega) hx.r,?_,fun x hm=>?_⟩
     · show ((runB f l s0 i).2++[_]).length=i+1
       rw[List.length_append,h2];rfl
     · rcases List.mem_append.1 hm with h | h
       · exact h3 x h
       · rw[List.mem_singleton]at h;subst h;exact hx
 obtain⟨r16,h16,b16⟩:=aU_ (n:=25) (da_ l 16 (by decide)).1 (by decide)
 have t16:Int.tmod (atN l 16) 25=(r16:Int):=h16
 have a16:PC Tryz.prog 69 [.sl 1 false (nums .i64 l),.int .i64 16] (.int .i64 (atN l 16)):=bJ_ l false 16 (by decide)
 have a17:PC Tryz.prog 69 [.sl 1 false (nums .i64 l),.int .i64 17] (.int .i64 (atN l 17)):=bJ_ l false 17 (by decide)
 obtain⟨N,hN,hN1,hN2⟩:∃ N:Nat,N≤24∧(decide (0<Int.tmod (atN l 17) 4)=true→N=24)∧(decide (0<Int.tmod (atN l 17) 4)=false→N=r16):=by
   by_cases hd:decide (0<Int.tmod (atN l 17) 4)=true
   · exact⟨24,by decide,fun _=>rfl,fun h=>by rw[hd]at h;cases h⟩
   · exact⟨r16,by omega,fun h=>absurd h hd,fun _=>rfl⟩
 obtain⟨i1,i2,i3⟩:=hI N hN
 refine⟨c,(runB f l s0 N).2,(runB f l s0 N).1,⟨hc,by omega,i3,i1.up (by omega) (by decide)⟩,PC.fact 14 xl_ (by simp) puA puA ?_⟩
 unfold nJ_;refine bd ?_
 clear i1 i2 i3
 try refine aa_ ?_
 refine pcall cc ?_
 try refine aa_ ?_
 refine pcall cb ?_
 try refine aa_ ?_
 refine pcall a16 ?_
 repeat(first | refine aa_ ?_ | simp only[go_sem,t16])
 refine pcall a17 ?_
 try refine aa_ ?_
 refine ld_ (fun _=>[(10,.int .i64 N)]) (fun _=>[.var (cfgC cfg0),.var (staC sta0),.var (cfgC c.a),.var (staC s0.a)]) (fun hT=>?_) (fun hF=>?_) ?_
 · rw[hN1 hT]
   try refine aa_ ?_
   refine GC.mk' [] [0,1,2,3] (by simp) rfl (by simp) (by simp) evd evd
 · rw[hN2 hF]
   try refine aa_ ?_
   refine GC.mk' [] [0,1,2,3] (by simp) rfl (by simp) (by simp) evd evd
 clear hN1 hN2 a16 a17 t16 h16
 try refine aa_ ?_
 refine cF_ 9 446 ?_;simp only[go_sem]
 refine au_ (fun i:Nat=>[(11,.int .i64 i),(9,.hs 446 4 0 (runB f l s0 i).2.length),(12,.dead),(13,.dead)]) (fun i=>[.var (cfgC cfg0),.var (staC sta0),.var (cfgC c.a),.var (staC (runB f l s0 i).1.a),.vec 446 (rows VOp.c (runB f l s0 i).2)]) (fun i=>N-i) (fun i=>i≤N) 0 (Nat.zero_le _) ?_ ?_
 · show GC _ _ _ ⟨_,setL [(11,.int .i64 0),(9,.hs 446 4 0 0),(12,.dead),(13,.dead)] _,[]⟩ [.var (cfgC cfg0),.var (staC sta0),.var (cfgC c.a),.var (staC s0.a),.vec 446 []]
   refine GC.mk' [] [0,1,2,3,4] (by simp) rfl (by simp) (by simp) evd evd
 intro i hi
 obtain⟨hA,hl,_⟩:=hI i (by omega)
 by_cases h1:i<N
 · have e1:decide ((i:Int)<(N:Int))=true:=decide_eq_true (by omega)
   have hw:=af_ h1 (by omega)
   have hw1:IntKind.i64.wrap (18+(i:Int))=((18+i:Nat):Int):=by rw[ah_ (by omega) (by omega)];omega
   have hw2:IntKind.i64.wrap (10+(i:Int))=((10+i:Nat):Int):=by rw[ah_ (by omega) (by omega)];omega
   have aa:=bJ_ l false (18+i) (by omega)
   have hk:0≤(if i=0 then 0 else atN l (18+i)):=by split;exact Int.le_refl _;exact(da_ l (18+i) (by omega)).1
   obtain⟨hx,co⟩:=hf ((runB f l s0 i).1,i,((10+i:Nat):Int),if i=0 then 0 else atN l (18+i)) hA hk
   have hr:runB f l s0 (i+1)=((stepS (runB f l s0 i).1 (f ((runB f l s0 i).1,i,((10+i:Nat):Int),if i=0 then 0 else atN l (18+i)))).1,(runB f l s0 i).2++[f ((runB f l s0 i).1,i,((10+i:Nat):Int),if i=0 then 0 else atN l (18+i))]):=rfl
   have hK1:i=0→(if i=0 then 0 else atN l (18+i))=0:=fun h=>if_pos h
   have hK2:i≠0→(if i=0 then 0 else atN l (18+i))=atN l (18+i):=fun h=>if_neg h
   dsimp only at co
   generalize (if i=0 then 0 else atN l (18+i))=K at *
   generalize f ((runB f l s0 i).1,i,((10+i:Nat):Int),K)=x at *
   clear hI
   generalize runB f l s0 i=p at *
   obtain⟨s1,o1⟩:=p
   dsimp only at hA hl co hr ⊢
   have cs:=zo_ s1 i hA (by omega) x hx.r hx.u
   generalize stepS s1 x=T at *
   obtain⟨T1,T2,T3⟩:=T
   dsimp only at cs hr ⊢
   have hsn:rows VOp.c o1++[sOpC x.a]=rows VOp.c (o1++[x]):=bn_ VOp.c o1 x
   (try simp only[as_,av_,List.set_cons_zero,List.set_cons_succ])
   repeat(first | refine aa_ ?_ | simp only[go_sem,e1])
   refine ac_ ?_
   repeat(first | refine aa_ ?_ | simp only[go_sem,hw1])
   refine pcall aa ?_
   try refine aa_ ?_
   refine ld_ (fun _=>[(12,.int .i64 K)]) (fun _=>[.var (cfgC cfg0),.var (staC sta0),.var (cfgC c.a),.var (staC s1.a),.vec 446 (rows VOp.c o1)]) (fun hT=>?_) (fun hF=>?_) ?_
   · rw[hK1 (by rw[beq_iff_eq]at hT;omega)]
     try refine aa_ ?_
     refine GC.mk' [] [0,1,2,3,4] (by simp) rfl (by simp) (by simp) evd evd
   · rw[hK2 (by rw[beq_eq_false_iff_ne]at hF;omega)]
     try refine aa_ ?_
     refine GC.mk' [] [0,1,2,3,4] (by simp) rfl (by simp) (by simp) evd evd
   (try simp only[as_,av_,List.set_cons_zero,List.set_cons_succ])
   repeat(first | refine aa_ ?_ | simp only[go_sem,hw2])
   refine pcall co ?_
   repeat(first | refine aa_ ?_ | simp only[go_sem,hsn])
   refine pcall cs ?_
   repeat(first | refine aa_ ?_ | simp only[go_sem,hw])
   refine⟨i+1,h1,by omega,?_⟩
   rw[hr]
   refine GC.mk' [] [0,1,2,3,6] (by simp) rfl (by simp) (by simp) evd evd
 · have hiN:i=N:=by omega
   subst hiN
   have e1:decide ((i:Int)<(i:Int))=false:=decide_eq_false (by omega)
   clear hI
   generalize runB f l s0 i=p at *
   obtain⟨s1,o1⟩:=p
   dsimp only at hl ⊢
   have ht:List.take o1.length (rows VOp.c o1)=rows VOp.c o1:=List.take_of_length_le (by simp)
   (try simp only[as_,av_,List.set_cons_zero,List.set_cons_succ])
   repeat(first | refine aa_ ?_ | simp only[go_sem,e1])
   refine ab_ ?_
   try refine aa_ ?_
   refine⟨_,(by first | rfl | exact evd),.inl ?_⟩
   (try simp only[go_sem,Nat.reduceAdd,Nat.reduceSub,Nat.reduceMul,Nat.reduceLT,Nat.reduceLeDiff,Nat.reduceEqDiff,reduceIte,Int.reduceToNat,Int.reduceLT,Int.reduceLE,Int.reduceEq,Int.reduceNeg,reduceCtorEq,Int.reduceBEq,Int.reduceBNe,ht])
   all_goals rfl
theorem xF_ (l:List Int):∃ s:VSta,InvA s 24∧PC Tryz.prog 7 [.sl 1 false (nums .i64 l)] (.agg (staC s.a)):=by
 obtain⟨c,ops,s,h,cr⟩:=Cg_ l
 refine⟨s,h.s,PC.fact 7 tB_ (by simp) puA puA ?_⟩
 unfold jL_;refine bd ?_
 try refine aa_ ?_
 refine pcall cr ?_
 try refine aa_ ?_
 exact fin0
end Go.Proofs.YtipiipgpnkpejaaGreat
