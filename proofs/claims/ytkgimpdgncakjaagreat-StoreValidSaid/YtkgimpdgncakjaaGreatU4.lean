/-
 My texts Me, Mf, Mg, joined.
-/
import Derived.Test.YtkgimpdgncakjaaGreatU3
import Derived.Test.YtkgimpdgncakjaaGreatW3
import Derived.Test.YtkgimpdgncakjaaGreatU1
namespace Go.Proofs.YtkgimpdgncakjaaGreat
open Go Go.FH Go.RowKit
set_option linter.unusedVariables false
set_option linter.unusedSimpArgs false
set_option maxRecDepth 8000
set_option maxHeartbeats 4000000
structure IG_(c:bu_):Prop where
 r:Qu_ c
 new:eR_ c=0
 bu:∀x∈c.bals,0≤x∧x<40
theorem wA_{l:List Int}(h:∀x∈l,0≤x∧x<40)(hl:l.length≤6):∀n,n≤l.length→(fv_ l n).2=0∧0≤(fv_ l n).1∧(fv_ l n).1≤40*n
 |0,_=>⟨rfl,Int.le_refl _,by show (0:Int)≤_;omega⟩
 | n + 1, hn => by
   obtain⟨h1,h2,h3⟩:=wA_ h hl n (by omega);have hs:fv_ l (n+1)=sO_ (fv_ l n).1 (l.getD n 0):=by show (if (fv_ l n).2≠0 then fv_ l n else _)=_;rw[if_neg (by simp[h1])]
   have hx:=h _ (bH_ 0 (show n<l.length by omega));rw[hs];unfold sO_;have hw:IntKind.u64.wrap ((fv_ l n).1+l.getD n 0)=(fv_ l n).1+l.getD n 0:=aH_ (by omega) (by omega);have hw2:IntKind.u64.wrap (18446744073709551615-l.getD n 0)=18446744073709551615-l.getD n 0:=aH_ (by omega) (by omega);split
   ·rename_i hh;first|(rw[hw2]at hh;omega)|omega
   ·dsimp only;rw[hw];exact⟨rfl,by omega,by omega⟩
theorem OT_{c:bu_}(h1:1≤c.spe)(h2:c.spe≤64)(h3:c.boost≤100)(h4:c.bals.length≤6)(n1:1≤c.lim.node)(n2:c.lim.node≤4096)(o1:0≤c.lim.orph)(o2:c.lim.orph≤64)(e1:0≤c.lim.early)(e2:c.lim.early≤256)(t1:1≤c.lim.table)(t2:c.lim.table≤64)
 (r1:0≤c.lim.retry) (r2:c.lim.retry≤256) (b1:1≤c.lim.backoff) (b2:c.lim.backoff≤1048576) (hg:c.gen≠rt0) (hb:∀x∈c.bals,0≤x∧x<40):eR_ c=0:=by
 have w:∀ {n lo hi:Int},lo≤n→n≤hi→wit n lo hi=true:=fun h1 h2=>by unfold wit;rw[decide_eq_true h1,decide_eq_true h2];rfl
 have hs:=wA_ hb h4 c.bals.length (Nat.le_refl _)
 have hv:dJ_ ⟨⟨0,c.gen⟩,c.bals⟩ c.bals.length=0:=by
  unfold dJ_ sh_;dsimp only;rw[if_neg (by simp),if_neg];rintro (h|h)
  ·exact h hs.1
  ·omega
 unfold eR_;rw[if_neg (by omega),if_neg (by omega),if_neg (by omega),if_neg (by omega),w n1 n2,w o1 o2,w e1 e2,w t1 t2,w r1 r2,if_neg (by simp),if_neg (by simp),if_neg (by simp),if_neg (by simp),if_neg (by simp),if_neg (by omega),if_neg (by omega),if_neg hg,hv]
def un_(l:List Int)(n:Nat):List Int:=(List.range n).map fun i=>IntKind.u64.wrap (Int.tmod (atN l (10+i)) 40)
theorem CX_(l:List Int)(n:Nat):(un_ l n).length=n:=by simp[un_]
theorem Oq_(l:List Int)(n:Nat)(hn:n≤100):∀x∈un_ l n,0≤x∧x<40:=fun x hx=>by
 unfold un_ at hx;obtain⟨v,hv,rfl⟩:=List.mem_map.1 hx;rw[List.mem_range]at hv;obtain⟨r,h,h'⟩:=ca_ (n:=40) (ga_ l (10+v) (by omega)).1 (by decide);have h2:Int.tmod (atN l (10+v)) 40=(r:Int):=h;rw[h2,aH_ (by omega) (by omega)];omega
theorem QH_(l:List Int)(n:Nat):un_ l (n+1)=un_ l n++[IntKind.u64.wrap (Int.tmod (atN l (10+n)) 40)]:=by simp[un_,List.range_succ]
theorem Ox_(x:Cfg)(v:AV):(bn_ x).set 44 v=bn_ { x with bals:=v }:=by
 simp only[bn_,List.set_append,bx_,aE_,ai_,List.length_cons,Nat.reduceSub,Nat.reduceLT,if_false,List.set_cons_succ,List.set_cons_zero]
theorem Ow_(x:Cfg):(bn_ x).getD 44 .dead=x.bals:=by
 simp only[bn_,List.getD_eq_getElem?_getD,List.getElem?_append,bx_,aE_,ai_,List.length_cons,Nat.reduceSub,Nat.reduceLT,if_false,List.getElem?_cons_succ,List.getElem?_cons_zero,Option.getD_some]
section
variable{fr:Fr}{σ:St}{rs:List eu_}{G:bu_→Prop}{l:List AV}{a:Lim}{b c:Int}{d:Wd}{e:Rt}{f:List Int}
end
theorem NG_{α:Type}{P:Program}{nt:Nat}{G:α→Prop}{f:FuncId}{rs:List eu_}{ac:ad_}{args:List AV}{A:α→AV}{S:α→St}(nv:Nat)(hf:as_ P f=some (nt,rs,ac))(ha:args.length≤nt)
 (h:Sm G fun r=>Tri P nt 0 ac (CI_ rs 0 (S r) (A r)) ⟨nv,args++List.replicate (nv-args.length) .dead,[]⟩ []):Sm G fun r=>ar_ P f args [] (A r) (S r):=by
 obtain⟨r,h1,h2⟩:=h;exact⟨r,h1,ar_.fact nv hf ha h2 (by simp)⟩
theorem LO_(l:List Int):Sm IG_ fun c=>ar_ Tryz.prog 55 [.sl 1 false (aq_ .i64 l)] [] (.agg (bn_ { c.a with bals:=.hs 1 0 0 c.bals.length })) [.vec 1 (aq_ .u64 c.bals)]:=by
 refine NG_ 5 xr_ (by simp) ?_;unfold oo_;refine bd ?_;obtain⟨r0,h0,b0⟩:=ca_ (n:=8) (ga_ l 0 (by decide)).1 (by decide);have t0:Int.tmod (atN l 0) 8=(r0:Int):=h0;have a0:PC Tryz.prog 103 [.sl 1 false (aq_ .i64 l),.int .i64 0] (.int .i64 (atN l 0)):=dz_ l false 0 (by decide);obtain⟨r1,h1,b1⟩:=ca_ (n:=4) (ga_ l 1 (by decide)).1 (by decide);have t1:Int.tmod (atN l 1) 4=(r1:Int):=h1;have a1:PC Tryz.prog 103 [.sl 1 false (aq_ .i64 l),.int .i64 1] (.int .i64 (atN l 1)):=dz_ l false 1 (by decide);obtain⟨r2,h2,b2⟩:=ca_ (n:=4) (ga_ l 2 (by decide)).1 (by decide);have t2:Int.tmod (atN l 2) 4=(r2:Int):=h2;have a2:PC Tryz.prog 103 [.sl 1 false (aq_ .i64 l),.int .i64 2] (.int .i64 (atN l 2)):=dz_ l false 2 (by decide);obtain⟨r3,h3,b3⟩:=ca_ (n:=4) (ga_ l 3 (by decide)).1 (by decide);have t3:Int.tmod (atN l 3) 4=(r3:Int):=h3;have a3:PC Tryz.prog 103 [.sl 1 false (aq_ .i64 l),.int .i64 3] (.int .i64 (atN l 3)):=dz_ l false 3 (by decide);obtain⟨r4,h4,b4⟩:=ca_ (n:=4) (ga_ l 4 (by decide)).1 (by decide);have t4:Int.tmod (atN l 4) 4=(r4:Int):=h4;have a4:PC Tryz.prog 103 [.sl 1 false (aq_ .i64 l),.int .i64 4] (.int .i64 (atN l 4)):=dz_ l false 4 (by decide);obtain⟨r5,h5,b5⟩:=ca_ (n:=5) (ga_ l 5 (by decide)).1 (by decide);have t5:Int.tmod (atN l 5) 5=(r5:Int):=h5;have a5:PC Tryz.prog 103 [.sl 1 false (aq_ .i64 l),.int .i64 5] (.int .i64 (atN l 5)):=dz_ l false 5 (by decide);obtain⟨r6,h6,b6⟩:=ca_ (n:=4) (ga_ l 6 (by decide)).1 (by decide);have t6:Int.tmod (atN l 6) 4=(r6:Int):=h6;have a6:PC Tryz.prog 103 [.sl 1 false (aq_ .i64 l),.int .i64 6] (.int .i64 (atN l 6)):=dz_ l false 6 (by decide);obtain⟨r7,h7,b7⟩:=ca_ (n:=3) (ga_ l 7 (by decide)).1 (by decide);have t7:Int.tmod (atN l 7) 3=(r7:Int):=h7;have a7:PC Tryz.prog 103 [.sl 1 false (aq_ .i64 l),.int .i64 7] (.int .i64 (atN l 7)):=dz_ l false 7 (by decide);obtain⟨r8,h8,b8⟩:=ca_ (n:=2) (ga_ l 8 (by decide)).1 (by decide);have t8:Int.tmod (atN l 8) 2=(r8:Int):=h8;have a8:PC Tryz.prog 103 [.sl 1 false (aq_ .i64 l),.int .i64 8] (.int .i64 (atN l 8)):=dz_ l false 8 (by decide);obtain⟨r9,h9,b9⟩:=ca_ (n:=5) (ga_ l 9 (by decide)).1 (by decide);have t9:Int.tmod (atN l 9) 5=(r9:Int):=h9;have a9:PC Tryz.prog 103 [.sl 1 false (aq_ .i64 l),.int .i64 9] (.int .i64 (atN l 9)):=dz_ l false 9 (by decide)
 obtain⟨bo,hbo,hbo0,hbo1⟩:∃bo:Int,([[.int .i64 0],[.int .i64 40],[.int .i64 100]]:List (List AV)).getD r7 []=[.int .i64 bo]∧0≤bo∧bo≤100:=by
  match r7,b7 with
  |0,_=>exact⟨0,rfl,by decide,by decide⟩
  |1,_=>exact⟨40,rfl,by decide,by decide⟩
  |2,_=>exact⟨100,rfl,by decide,by decide⟩
 have sw0:∀ (w:Wd) (x:Int),spl (wdc w) 0 [.int .u64 x]=wdc (w.set 0 x):=fun w x=>jC_ w (by decide) x
 have sw1:∀ (w:Wd) (x:Int),spl (wdc w) 1 [.int .u64 x]=wdc (w.set 1 x):=fun w x=>jC_ w (by decide) x
 have sw2:∀ (w:Wd) (x:Int),spl (wdc w) 2 [.int .u64 x]=wdc (w.set 2 x):=fun w x=>jC_ w (by decide) x
 refine bS_ ?_;refine eq_ ?_;refine bS_ ?_;refine eq_ ?_;refine cu_ (a0) ?_;repeat(first|refine gE_ ?_|simp only[go_sem,t0,hbo,sw0,sw1,sw2])
 refine cu_ (a1) ?_;repeat(first|refine gE_ ?_|simp only[go_sem,t1,hbo,sw0,sw1,sw2])
 refine cu_ (a2) ?_;repeat(first|refine gE_ ?_|simp only[go_sem,t2,hbo,sw0,sw1,sw2])
 refine cu_ (a3) ?_;repeat(first|refine gE_ ?_|simp only[go_sem,t3,hbo,sw0,sw1,sw2])
 refine cu_ (a4) ?_;repeat(first|refine gE_ ?_|simp only[go_sem,t4,hbo,sw0,sw1,sw2])
 refine cu_ (a5) ?_;repeat(first|refine gE_ ?_|simp only[go_sem,t5,hbo,sw0,sw1,sw2])
 refine cu_ (a6) ?_;repeat(first|refine gE_ ?_|simp only[go_sem,t6,hbo,sw0,sw1,sw2])
 refine cu_ (a7) ?_;repeat(first|refine gE_ ?_|simp only[go_sem,t7,hbo,sw0,sw1,sw2])
 refine cu_ (a8) ?_;repeat(first|refine gE_ ?_|simp only[go_sem,t8,hbo,sw0,sw1,sw2])
 refine cu_ (dN_ 1) ?_;refine gE_ ?_
 refine RQ_ (fr2:=⟨5,[.sl 1 false (aq_ .i64 l),.dead,.ptr 0 0,.ptr 1 0,.dead],[]⟩) (σ2:=[.var (bn_ nK_),.var (bn_ ⟨⟨IntKind.i64.wrap (6+r0),r1,r2,IntKind.i64.wrap (1+r3),r4,IntKind.u64.wrap (IntKind.i64.wrap (1+r5))⟩,IntKind.u64.wrap (IntKind.i64.wrap (1+r6)),IntKind.u64.wrap bo,((wd0.set 0 100).set 1 0).set 2 (IntKind.u64.wrap r8),lD_ 1,.sl 0 true []⟩)]) (by exact SN_ [] [0,11]) ?_;have hN:IntKind.i64.wrap (6+(r0:Int))≤13:=by rw[aC_ (by omega) (by omega)];omega
 have hN1:1≤IntKind.i64.wrap (6+(r0:Int)):=by rw[aC_ (by omega) (by omega)];omega
 have hT1:1≤IntKind.i64.wrap (1+(r3:Int)):=by rw[aC_ (by omega) (by omega)];omega
 have hB:IntKind.u64.wrap (IntKind.i64.wrap (1+(r5:Int)))=1+r5:=by rw[aC_ (by omega) (by omega),aH_ (by omega) (by omega)]
 have hP:IntKind.u64.wrap bo≤100:=by rw[aH_ (by omega) (by omega)];exact hbo1
 have hG:lD_ 1≠rt0:=by decide
 have hT:IntKind.i64.wrap (1+(r3:Int))≤4:=by rw[aC_ (by omega) (by omega)];omega
 have hS:IntKind.u64.wrap (IntKind.i64.wrap (1+(r6:Int)))=1+r6:=by rw[aC_ (by omega) (by omega),aH_ (by omega) (by omega)]
 have hW:WdG (((wd0.set 0 100).set 1 0).set 2 (IntKind.u64.wrap r8)):=((sN_.set _ ⟨by decide,by decide⟩).set _ ⟨by decide,by decide⟩).set _ (be_ _);rw[hS];generalize IntKind.i64.wrap (6+(r0:Int))=cN at *;generalize IntKind.i64.wrap (1+(r3:Int))=cT at *;generalize IntKind.u64.wrap (IntKind.i64.wrap (1+(r5:Int)))=cB at *;generalize IntKind.u64.wrap bo=cP at *;generalize ((wd0.set 0 100).set 1 0).set 2 (IntKind.u64.wrap r8)=cW at *;have hn9:IntKind.i64.wrap (2+(r9:Int))=((2+r9:Nat):Int):=by rw[aC_ (by omega) (by omega)];omega
 refine bS_ ?_;refine wt_ (fun L:List Int=>L.length=2+r9∧∀x∈L,0≤x∧x<40) (fun _=>[]) (fun L=>[.var (bn_ nK_),.var (bn_ ⟨⟨cN,r1,r2,cT,r4,cB⟩,1+r6,cP,cW,lD_ 1,.hs 1 2 0 L.length⟩),.vec 1 (aq_ .u64 L)]) ?_ (fun L hL=>?_)
 ·refine Ip_ (un_ l (2+r9)) ⟨CX_ _ _,Oq_ _ _ (by omega)⟩ ?_
  generalize hM:2+r9=M at *;try refine aa_ ?_
  refine jd_ 1 44 1 ?_ (by rfl) (by exact Ow_ _);simp only[go_sem,Ox_];refine an_ (fun i:Nat=>[(4,.int .i64 i)]) (fun i=>[.var (bn_ nK_),.var (bn_ ⟨⟨cN,r1,r2,cT,r4,cB⟩,1+r6,cP,cW,lD_ 1,.hs 1 2 0 (un_ l i).length⟩),.vec 1 (aq_ .u64 (un_ l i))]) (fun i=>M-i) (fun i=>i≤M) 0 (Nat.zero_le _) ?_ ?_
  ·rw[show un_ l 0=[]from rfl];exact SN_ [] [0,1,2]
  intro i hi;have hlen:=CX_ l i;by_cases h1:i<M
  ·have e1:decide ((i:Int)<(M:Int))=true:=decide_eq_true (by omega);have hw:=ag_ h1 (by omega);have hw2:IntKind.i64.wrap (10+(i:Int))=((10+i:Nat):Int):=by rw[aC_ (by omega) (by omega)];omega
   have hs:=QH_ l i;have aa:=dz_ l false (10+i) (by omega);try refine aa_ ?_
   refine aj_ a9 ?_;repeat(first|refine aa_ ?_|simp only[go_sem,t9,hn9,e1])
   refine ac_ ?_;repeat(first|refine aa_ ?_|simp only[go_sem,hw2])
   refine ao_ (aa) ?_;repeat(first|refine aa_ ?_|simp only[go_sem,hw])
   refine⟨i+1,h1,by omega,?_⟩;rw[hs];exact SN_ [] [0,1,4]
  ·obtain rfl:i=M:=by omega
   have e1:decide ((i:Int)<(i:Int))=false:=decide_eq_false (by omega);try refine aa_ ?_
   refine aj_ a9 ?_;repeat(first|refine aa_ ?_|simp only[go_sem,t9,hn9,e1])
   refine Rh_ ?_
   exact SN_ [] [0,1,2]
 (try simp only[bZ_])
 refine bq_ ?_;obtain⟨hL1,hL2⟩:=hL;refine Ip_ (⟨⟨cN,r1,r2,cT,r4,cB⟩,1+r6,cP,cW,lD_ 1,L⟩:bu_) ?_ ?_;rotate_left
 ·exact SG_ [] [2]
 refine⟨⟨?_,?_,?_,?_,?_,?_,?_,?_,?_,hW,Ih_ (n:=1) (by decide) (by decide)⟩,OT_ ?_ ?_ ?_ ?_ ?_ ?_ ?_ ?_ ?_ ?_ ?_ ?_ ?_ ?_ ?_ ?_ hG hL2,hL2⟩<;>dsimp only<;>omega
theorem yT_(l:List Int):Sm IG_ fun c=>PC Tryz.prog 55 [.sl 1 false (aq_ .i64 l)] (.agg (bn_ c.a)):=by
 obtain⟨c,hc,h⟩:=LO_ l;refine⟨c,hc,h.pc puA puA ?_⟩;(try simp only[go_sem,Nat.reduceAdd,Nat.reduceSub,Nat.reduceMul,Nat.reduceLT,Nat.reduceLeDiff,Nat.reduceEqDiff,reduceIte,Int.reduceToNat,Int.reduceLT,Int.reduceLE,Int.reduceEq,Int.reduceNeg,reduceCtorEq,Int.reduceBEq,Int.reduceBNe])
 rfl
structure Qy_(x:dl_):Prop where
 a1:U64 x.fst.src
 a2:U64 x.fst.tgt
 b1:U64 x.snd.src
 b2:U64 x.snd.tgt
 l1:x.fst.vals.length≤10
 l2:x.snd.vals.length≤10
section
variable{fr:Fr}{σ:St}{rs:List eu_}{G:dl_→Prop}{l:List AV}{a1 a2 b1 b2:Int}{r1 r2:Rt}{m1 m2:List Int}
theorem Po_(hl:cq_ fr σ rs=some l)(hv:fz σ (List.range σ.length) (eH_ l)=.agg (cy_ ⟨⟨a1,a2,r1,.sl 1 false (aq_ .i64 m1)⟩,⟨b1,b2,r2,.sl 1 false (aq_ .i64 m2)⟩⟩))(hg:G ⟨⟨a1,a2,r1,m1⟩,⟨b1,b2,r2,m2⟩⟩):Sm G fun x=>PQ rs (.agg (cy_ x.a)) .ret fr σ:=⟨_,hg,l,hl,.inl hv⟩
end
theorem IY_(n:Nat)(k:Int)(hn:n≤10):Sm Qy_ fun x=>PC Tryz.prog 24 [.int .i64 n,.int .i64 k] (.agg (cy_ x.a)):=by
 have S1:=Ag_ n k (by omega);have S2:=Ag_ n (dg_ .i64 k 6) (by omega);have l1:=Af_ n k;have l2:=Af_ n (dg_ .i64 k 6);generalize Ae_ n k=A at *;generalize Ae_ n (dg_ .i64 k 6)=B at *;have u1:U64 1:=⟨by decide,by decide⟩;have u2:U64 2:=⟨by decide,by decide⟩;have u4:U64 4:=⟨by decide,by decide⟩;have u5:U64 5:=⟨by decide,by decide⟩;have u6:U64 6:=⟨by decide,by decide⟩;refine gX_ 6 sW_ (by simp) puA (fun r _=>puA) ?_;unfold le_;refine bd ?_;refine bS_ ?_;refine eq_ ?_;refine bS_ ?_;refine eq_ ?_;refine bz_ (dN_ 2) ?_;refine gE_ ?_;refine bz_ (S1) ?_;refine gE_ ?_;refine bz_ (dN_ 2) ?_;refine gE_ ?_;refine bz_ (S2) ?_;refine gE_ ?_;repeat'(first|refine bq_ ?_|(refine aQ_ (fun h=>?_) (fun h=>?_)<;>try(exact absurd h (by decide)))|refine cK_ (fun h=>?_) (fun h=>?_))
 all_goals try(refine bz_ (dN_ _) ?_;repeat'(first|refine bq_ ?_|(refine aQ_ (fun h=>?_) (fun h=>?_)<;>try(exact absurd h (by decide)))|refine cK_ (fun h=>?_) (fun h=>?_)))
 all_goals(refine Po_ (by first|rfl|exact evd) (by first|rfl|((try simp only[go_sem,Nat.reduceAdd,Nat.reduceSub,Nat.reduceMul,Nat.reduceLT,Nat.reduceLeDiff,Nat.reduceEqDiff,reduceIte,Int.reduceToNat,Int.reduceLT,Int.reduceLE,Int.reduceEq,Int.reduceNeg,reduceCtorEq,Int.reduceBEq,Int.reduceBNe]);all_goals rfl)) ?_)
 all_goals(refine⟨?_,?_,?_,?_,?_,?_⟩<;>(try dsimp only)<;>first|assumption|omega)
structure OpG(x:VOp):Prop where
 r:OpR x
 u:OpU (toV x)
 diff:WdG x.blk.diff
 pdiff:WdG x.blk.pdiff
 k1:1≤x.kind
 k6:x.kind≤6
def wD_:aD_:=⟨0,rt0,cp0,[]⟩
def IB_:df_:=⟨0,0,rt0,[]⟩
def sL_:dl_:=⟨IB_,IB_⟩
def sM_:au_:=⟨cp0,[]⟩
theorem rT_{k:Int}{b:Blk}{a:aD_}{g:dl_}{t:au_}{v:Vdt}(hb:rm_ b)(ha:Qt_ a)(hg:Qy_ g)(ht:Qz_ t)(hv:U64 v.tag)(h1:1≤k)(h6:k≤6):OpG ⟨k,b,a,g,t,v,0,0⟩:=
 ⟨⟨hb.w,ha.len,hg.l1,hg.l2,ht.len⟩,⟨hb.u,ha.slot,ha.ep,Nat.le_trans ha.len (by decide),⟨hg.a1,hg.a2,rfl,Nat.le_trans hg.l1 (by decide)⟩,⟨hg.b1,hg.b2,rfl,Nat.le_trans hg.l2 (by decide)⟩,⟨ht.ep,rfl,ht.bals,Nat.le_trans ht.len (by decide)⟩,hv⟩,hb.diff,hb.pdiff,h1,h6⟩
theorem u0:U64 0:=⟨by decide,by decide⟩
theorem uo_:rm_ cF_:=⟨u0,u0,u0,u0,u0,sN_,sN_,by decide⟩
theorem rj_:Qt_ wD_:=⟨u0,u0,by simp[wD_]⟩
theorem rk_:Qy_ sL_:=⟨u0,u0,u0,u0,by simp[sL_,IB_],by simp[sL_,IB_]⟩
theorem rl_:Qz_ sM_:=⟨u0,by simp[sM_],by simp[sM_]⟩
theorem sg_{fr:Fr}{σ:St}{rs:List eu_}{G:VOp→Prop}{l:List AV}(y:SOp)(x:VOp)(hl:cq_ fr σ rs=some l)(hv:fz σ (List.range σ.length) (eH_ l)=.agg (bL_ y))(hp:PuL (bL_ y))(hw:WkC (bL_ y) (bL_ x.a))(hg:G x):Sm G fun x=>PQ rs (.agg (bL_ x.a)) .ret fr σ:=
 ⟨x,hg,l,hl,.inr ⟨_,hv,hp,Wk.agg hw⟩⟩
theorem zO_{k w p:Int}{b:Blk}{a:Att}{g:Slg}{t:Tab}{v:Vdt}(ha:PuL (bl_ a))(hg:PuL (cy_ g))(ht:PuL (aY_ t)):PuL (bL_ ⟨k,b,a,g,t,v,w,p⟩):=by
 refine(fj_ _).2 ?_;have h1:=(ex_ _).1 ha;have h2:=(fY_ _).1 hg;have h3:=(ec_ _).1 ht;exact⟨h1,h2,h3⟩
theorem LR_(s:aG_)(i:Nat)(h:dT_ s i)(httd:WdG s.sto.cfg.ttd)(n k:Int)(hk:0≤k)(hn0:0≤n)(hn1:n≤99)(h24:i≤24):Sm OpG fun x=>PC Tryz.prog 104 [.agg (aI_ s.a),.int .i64 n,.int .i64 k] (.agg (bL_ x.a)):=by
 obtain⟨b,hb,cb⟩:=yS_ s.sto i h.sto httd n (dg_ .i64 k 4) (il_ 4 hk) hn0 hn1 h24;obtain⟨a,ha,ca⟩:=yR_ s.sto i h.sto (dg_ .i64 k 4) (il_ 4 hk);obtain⟨g,hg,cg⟩:=IY_ s.sto.cfg.bals.length (dg_ .i64 k 4) (by have:=h.sto.cfg.b1;omega);obtain⟨t,ht,ct⟩:=Ja_ s.sto i h.sto (dg_ .i64 k 4) (il_ 4 hk);obtain⟨v,hv,cv⟩:=Jb_ s i h (dg_ .i64 k 4) (il_ 4 hk);have pa:PuL (bl_ wM_):=(ex_ _).2 trivial;have pg:PuL (cy_ yi_):=(fY_ _).2 ⟨trivial,trivial⟩;have pt:PuL (aY_ rg_):=(ec_ _).2 trivial;refine gX_ 48 JB_ (by simp) puA (fun r _=>puA) ?_;unfold yV_;refine bd ?_;refine bS_ ?_;refine eq_ ?_;refine bS_ ?_;refine eq_ ?_;refine bS_ ?_;refine bS_ ?_;refine eq_ ?_;refine bS_ ?_;refine rc_ (fun _:Bool=>True) (fun b=>[(12,.bool b)]) ?_ (fun bb _=>?_)
 ·repeat'(first|refine bq_ ?_|(refine aQ_ (fun h=>?_) (fun h=>?_)<;>try(exact absurd h (by decide)))|refine cK_ (fun h=>?_) (fun h=>?_))
  ·exact⟨(Int.tmod k 16==0),trivial,by exact SN_ [] [0,1]⟩
  ·exact⟨(Int.tmod k 16==1),trivial,by exact SN_ [] [0,1]⟩
  ·exact⟨(Int.tmod k 16==2),trivial,by exact SN_ [] [0,1]⟩
 (try simp only[cl_,bZ_,List.set_cons_zero,List.set_cons_succ])
 refine aQ_ (fun h=>?_) (fun h=>?_)
 ·refine bq_ ?_
  refine sg_ ⟨1,cF_,wM_,yi_,rg_,gR_,0,0⟩ ⟨1,cF_,wD_,sL_,sM_,gR_,0,0⟩ (by first|rfl|exact evd) (by first|rfl|((try simp only[go_sem,Nat.reduceAdd,Nat.reduceSub,Nat.reduceMul,Nat.reduceLT,Nat.reduceLeDiff,Nat.reduceEqDiff,reduceIte,Int.reduceToNat,Int.reduceLT,Int.reduceLE,Int.reduceEq,Int.reduceNeg,reduceCtorEq,Int.reduceBEq,Int.reduceBNe]);all_goals rfl)) (zO_ pa pg pt) (gS_ rfl rfl eJ_ eK_ eL_ rfl rfl rfl) (rT_ uo_ rj_ rk_ rl_ u0 (by decide) (by decide))
 refine bS_ ?_;refine rc_ (fun _:Bool=>True) (fun b=>[(17,.bool b)]) ?_ (fun bb _=>?_)
 ·repeat'(first|refine bq_ ?_|(refine aQ_ (fun h=>?_) (fun h=>?_)<;>try(exact absurd h (by decide)))|refine cK_ (fun h=>?_) (fun h=>?_))
  ·exact⟨(Int.tmod k 16==3),trivial,by exact SN_ [] [0,1]⟩
  ·exact⟨(Int.tmod k 16==4),trivial,by exact SN_ [] [0,1]⟩
  ·exact⟨(Int.tmod k 16==5),trivial,by exact SN_ [] [0,1]⟩
  ·exact⟨(Int.tmod k 16==6),trivial,by exact SN_ [] [0,1]⟩
  ·exact⟨(Int.tmod k 16==7),trivial,by exact SN_ [] [0,1]⟩
 (try simp only[cl_,bZ_,List.set_cons_zero,List.set_cons_succ])
 refine aQ_ (fun h=>?_) (fun h=>?_)
 ·refine bq_ ?_;refine bz_ cb ?_;refine bq_ ?_
  refine sg_ ⟨2,b,wM_,yi_,rg_,gR_,0,0⟩ ⟨2,b,wD_,sL_,sM_,gR_,0,0⟩ (by first|rfl|exact evd) (by first|rfl|((try simp only[go_sem,Nat.reduceAdd,Nat.reduceSub,Nat.reduceMul,Nat.reduceLT,Nat.reduceLeDiff,Nat.reduceEqDiff,reduceIte,Int.reduceToNat,Int.reduceLT,Int.reduceLE,Int.reduceEq,Int.reduceNeg,reduceCtorEq,Int.reduceBEq,Int.reduceBNe]);all_goals rfl)) (zO_ pa pg pt) (gS_ rfl rfl eJ_ eK_ eL_ rfl rfl rfl) (rT_ hb rj_ rk_ rl_ u0 (by decide) (by decide))
 refine bS_ ?_;refine rc_ (fun _:Bool=>True) (fun b=>[(29,.bool b)]) ?_ (fun bb _=>?_)
 ·repeat'(first|refine bq_ ?_|(refine aQ_ (fun h=>?_) (fun h=>?_)<;>try(exact absurd h (by decide)))|refine cK_ (fun h=>?_) (fun h=>?_))
  ·exact⟨(Int.tmod k 16==8),trivial,by exact SN_ [] [0,1]⟩
  ·exact⟨(Int.tmod k 16==9),trivial,by exact SN_ [] [0,1]⟩
  ·exact⟨(Int.tmod k 16==10),trivial,by exact SN_ [] [0,1]⟩
 (try simp only[cl_,bZ_,List.set_cons_zero,List.set_cons_succ])
 refine aQ_ (fun h=>?_) (fun h=>?_)
 ·refine bq_ ?_;refine bz_ ca ?_;refine bq_ ?_
  refine sg_ ⟨3,cF_,a.a,yi_,rg_,gR_,0,0⟩ ⟨3,cF_,a,sL_,sM_,gR_,0,0⟩ (by first|rfl|exact evd) (by first|rfl|((try simp only[go_sem,Nat.reduceAdd,Nat.reduceSub,Nat.reduceMul,Nat.reduceLT,Nat.reduceLeDiff,Nat.reduceEqDiff,reduceIte,Int.reduceToNat,Int.reduceLT,Int.reduceLE,Int.reduceEq,Int.reduceNeg,reduceCtorEq,Int.reduceBEq,Int.reduceBNe]);all_goals rfl)) (zO_ a.pul pg pt) (gS_ rfl rfl (WkC.refl _) eK_ eL_ rfl rfl rfl) (rT_ uo_ ha rk_ rl_ u0 (by decide) (by decide))
 repeat'(first|refine bq_ ?_|(refine aQ_ (fun h=>?_) (fun h=>?_)<;>try(exact absurd h (by decide)))|refine cK_ (fun h=>?_) (fun h=>?_))
 ·refine bz_ cg ?_;refine bq_ ?_
  refine sg_ ⟨4,cF_,wM_,g.a,rg_,gR_,0,0⟩ ⟨4,cF_,wD_,g,sM_,gR_,0,0⟩ (by first|rfl|exact evd) (by first|rfl|((try simp only[go_sem,Nat.reduceAdd,Nat.reduceSub,Nat.reduceMul,Nat.reduceLT,Nat.reduceLeDiff,Nat.reduceEqDiff,reduceIte,Int.reduceToNat,Int.reduceLT,Int.reduceLE,Int.reduceEq,Int.reduceNeg,reduceCtorEq,Int.reduceBEq,Int.reduceBNe]);all_goals rfl)) (zO_ pa g.pul pt) (gS_ rfl rfl eJ_ (WkC.refl _) eL_ rfl rfl rfl) (rT_ uo_ rj_ hg rl_ u0 (by decide) (by decide))
 ·refine bz_ ct ?_;refine bq_ ?_
  refine sg_ ⟨5,cF_,wM_,yi_,t.a,gR_,0,0⟩ ⟨5,cF_,wD_,sL_,t,gR_,0,0⟩ (by first|rfl|exact evd) (by first|rfl|((try simp only[go_sem,Nat.reduceAdd,Nat.reduceSub,Nat.reduceMul,Nat.reduceLT,Nat.reduceLeDiff,Nat.reduceEqDiff,reduceIte,Int.reduceToNat,Int.reduceLT,Int.reduceLE,Int.reduceEq,Int.reduceNeg,reduceCtorEq,Int.reduceBEq,Int.reduceBNe]);all_goals rfl)) (zO_ pa pg t.pul) (gS_ rfl rfl eJ_ eK_ (WkC.refl _) rfl rfl rfl) (rT_ uo_ rj_ rk_ ht u0 (by decide) (by decide))
 ·refine bz_ cv ?_;refine bq_ ?_
  refine sg_ ⟨6,cF_,wM_,yi_,rg_,v,0,0⟩ ⟨6,cF_,wD_,sL_,sM_,v,0,0⟩ (by first|rfl|exact evd) (by first|rfl|((try simp only[go_sem,Nat.reduceAdd,Nat.reduceSub,Nat.reduceMul,Nat.reduceLT,Nat.reduceLeDiff,Nat.reduceEqDiff,reduceIte,Int.reduceToNat,Int.reduceLT,Int.reduceLE,Int.reduceEq,Int.reduceNeg,reduceCtorEq,Int.reduceBEq,Int.reduceBNe]);all_goals rfl)) (zO_ pa pg pt) (gS_ rfl rfl eJ_ eK_ eL_ rfl rfl rfl) (rT_ uo_ rj_ rk_ rl_ hv.tag (by decide) (by decide))
theorem aK_.new{c:bu_}(h:Qu_ c):aK_ (dn_ c) 0:=by
 refine⟨h,⟨fun k h1 h2=>?_,Nat.zero_lt_one,by show (-1:Int)<0;decide⟩,?_,by simp[dn_],by show 1≤13;decide,fun n hn=>?_,Nat.zero_le _,fun b hb=>absurd hb (by simp[dn_]),Nat.zero_le _,fun b hb=>absurd hb (by simp[dn_]),by show 1≤4;decide,fun t ht=>?_,Nat.le_refl _,u0,u0,⟨u0,fun _=>by show (0:Int)≤_;decide⟩,by decide⟩
 ·have:k<1:=h2;omega
 ·exact fO_ (k:=0) Nat.zero_lt_one rfl
 ·have:n=⟨xT_ c.gen,-1,1⟩:=by simpa[dn_]using hn
  subst this;exact⟨u0,u0,u0,u0,u0,fun _=>h.gn⟩
 ·have:t=⟨⟨0,c.gen⟩,c.bals⟩:=by simpa[dn_]using ht
  subst this;exact h.b1
theorem IT_{c:bu_}(h:IG_ c):dT_ (jK_ c).1 0:=by
 unfold jK_;rw[if_pos h.new];exact dT_.emit ⟨aK_.new h.r,Nat.le_refl _,fun r hr=>absurd hr (by simp),Nat.zero_le _,(⟨by decide,by decide⟩:U64 1)⟩
def im_(f:aG_×Nat×Int×Int→VOp)(l:List Int)(s0:aG_):Nat→aG_×List VOp
 |0=>(s0,[])
 |i+1=>((jb_ (im_ f l s0 i).1 (f ((im_ f l s0 i).1,i,((10+i:Nat):Int),if i=0 then 0 else atN l (18+i)))).1,(im_ f l s0 i).2++[f ((im_ f l s0 i).1,i,((10+i:Nat):Int),if i=0 then 0 else atN l (18+i))])
structure St_(c:bu_)(ops:List VOp)(s:aG_):Prop where
 c:IG_ c
 len:ops.length≤24
 ops:∀x∈ops,OpG x
 s:dT_ s 24
theorem Ns_(P:aG_→Prop)(hP0:∀c,IG_ c→P (jK_ c).1)(hPs:∀s i x,dT_ s i→P s→OpG x→P (jb_ s x).1)(l:List Int):∃ (c:bu_) (ops:List VOp) (s:aG_),(St_ c ops s∧P s)∧PC Tryz.prog 37 [.sl 1 false (aq_ .i64 l)] (.tup [.agg (bn_ c.a),.sl 446 false (rows VOp.c ops),.agg (aI_ s.a)]):=by
 obtain⟨c,hc,cc⟩:=yT_ l
 have hop:∀y:aG_×Nat×Int×Int,∃x:VOp,dT_ y.1 y.2.1→0≤y.2.2.2→0≤y.2.2.1∧y.2.2.1≤99∧y.2.1≤24→OpG x∧PC Tryz.prog 104 [.agg (aI_ y.1.a),.int .i64 y.2.2.1,.int .i64 y.2.2.2] (.agg (bL_ x.a)):=fun y=>by
  by_cases h1:dT_ y.1 y.2.1
  ·by_cases h2:0≤y.2.2.2
   ·by_cases h3:0≤y.2.2.1∧y.2.2.1≤99∧y.2.1≤24
    ·obtain⟨x,hx⟩:=LR_ y.1 y.2.1 h1 h1.sto.cfg.tt y.2.2.1 y.2.2.2 h2 h3.1 h3.2.1 h3.2.2;exact⟨x,fun _ _ _=>hx⟩
    ·exact⟨default,fun _ _ h=>absurd h h3⟩
   ·exact⟨default,fun _ h=>absurd h h2⟩
  ·exact⟨default,fun h=>absurd h h1⟩
 obtain⟨f,hf⟩:=Classical.axiomOfChoice hop;have h0:=IT_ hc;have p0:=hP0 c hc;have cb:=Fw_ c (by have:=hc.r.b1;omega) fun _=>(aK_.new hc.r).r
 generalize jK_ c=B at *;obtain⟨s0,B2,B3⟩:=B;dsimp only at h0 cb p0
 have hI:∀i,i≤24→(dT_ (im_ f l s0 i).1 i∧P (im_ f l s0 i).1)∧(im_ f l s0 i).2.length=i∧∀x∈(im_ f l s0 i).2,OpG x:=by
  intro i;induction i with
  |zero=>exact fun _=>⟨⟨h0,p0⟩,rfl,fun x hx=>by cases hx⟩
  | succ i ih =>
    intro hi;obtain⟨⟨h1,hp1⟩,h2,h3⟩:=ih (by omega);have hk:0≤(if i=0 then 0 else atN l (18+i)):=by split;exact Int.le_refl _;exact(ga_ l (18+i) (by omega)).1
    have hx:=(hf ((im_ f l s0 i).1,i,((10+i:Nat):Int),if i=0 then 0 else atN l (18+i)) h1 hk (by dsimp only;omega)).1;refine⟨⟨h1.step (by omega) hx.r,hPs _ i _ h1 hp1 hx⟩,?_,fun x hm=>?_⟩
    ·show ((im_ f l s0 i).2++[_]).length=i+1
     rw[List.length_append,h2];rfl
    ·rcases List.mem_append.1 hm with h|h
     ·exact h3 x h
     ·rw[List.mem_singleton]at h;subst h;exact hx
 obtain⟨r16,h16,b16⟩:=ca_ (n:=25) (ga_ l 16 (by decide)).1 (by decide);have t16:Int.tmod (atN l 16) 25=(r16:Int):=h16;have a16:PC Tryz.prog 103 [.sl 1 false (aq_ .i64 l),.int .i64 16] (.int .i64 (atN l 16)):=dz_ l false 16 (by decide);have a17:PC Tryz.prog 103 [.sl 1 false (aq_ .i64 l),.int .i64 17] (.int .i64 (atN l 17)):=dz_ l false 17 (by decide)
 obtain⟨N,hN,hN1,hN2⟩:∃N:Nat,N≤24∧(decide (0<Int.tmod (atN l 17) 4)=true→N=24)∧(decide (0<Int.tmod (atN l 17) 4)=false→N=r16):=by
  by_cases hd:decide (0<Int.tmod (atN l 17) 4)=true
  ·exact⟨24,by decide,fun _=>rfl,fun h=>by rw[hd]at h;cases h⟩
  ·exact⟨r16,by omega,fun h=>absurd h hd,fun _=>rfl⟩
 obtain⟨⟨i1,ip⟩,i2,i3⟩:=hI N hN;refine⟨c,(im_ f l s0 N).2,(im_ f l s0 N).1,⟨⟨hc,by omega,i3,i1.up (by omega) (by decide)⟩,ip⟩,PC.fact 14 FX_ (by simp) puA puA ?_⟩;unfold ut_;refine bd ?_;clear i1 i2 i3 ip p0 hP0 hPs;try refine aa_ ?_
 refine So_ cc ?_
 refine So_ cb ?_
 refine aj_ a16 ?_;repeat(first|refine aa_ ?_|simp only[go_sem,t16])
 refine So_ a17 ?_
 refine nG_ (fun _=>[(10,.int .i64 N)]) (fun _=>[.var (bn_ nK_),.var (aI_ lO_),.var (bn_ c.a),.var (aI_ s0.a)]) (fun hT=>?_) (fun hF=>?_) ?_
 ·rw[hN1 hT];try refine aa_ ?_
  exact SN_ [] [0,1,2,3]
 ·rw[hN2 hF];try refine aa_ ?_
  exact SN_ [] [0,1,2,3]
 clear hN1 hN2 a16 a17 t16 h16;try refine aa_ ?_
 refine de_ 9 446 ?_;simp only[go_sem];refine an_ (fun i:Nat=>[(11,.int .i64 i),(9,.hs 446 4 0 (im_ f l s0 i).2.length),(12,.dead),(13,.dead)]) (fun i=>[.var (bn_ nK_),.var (aI_ lO_),.var (bn_ c.a),.var (aI_ (im_ f l s0 i).1.a),.vec 446 (rows VOp.c (im_ f l s0 i).2)]) (fun i=>N-i) (fun i=>i≤N) 0 (Nat.zero_le _) ?_ ?_
 ·show GC _ _ _ ⟨_,hK_ [(11,.int .i64 0),(9,.hs 446 4 0 0),(12,.dead),(13,.dead)] _,[]⟩ [.var (bn_ nK_),.var (aI_ lO_),.var (bn_ c.a),.var (aI_ s0.a),.vec 446 []]
  exact SN_ [] [0,1,2,3,4]
 intro i hi;obtain⟨⟨hA,_⟩,hl,_⟩:=hI i (by omega);by_cases h1:i<N
 ·have e1:decide ((i:Int)<(N:Int))=true:=decide_eq_true (by omega)
  have hw:=ag_ h1 (by omega);have hw1:IntKind.i64.wrap (18+(i:Int))=((18+i:Nat):Int):=by rw[aC_ (by omega) (by omega)];omega
  have hw2:IntKind.i64.wrap (10+(i:Int))=((10+i:Nat):Int):=by rw[aC_ (by omega) (by omega)];omega
  have aa:=dz_ l false (18+i) (by omega);have hk:0≤(if i=0 then 0 else atN l (18+i)):=by split;exact Int.le_refl _;exact(ga_ l (18+i) (by omega)).1
  obtain⟨hx,co⟩:=hf ((im_ f l s0 i).1,i,((10+i:Nat):Int),if i=0 then 0 else atN l (18+i)) hA hk (by dsimp only;omega);have hr:im_ f l s0 (i+1)=((jb_ (im_ f l s0 i).1 (f ((im_ f l s0 i).1,i,((10+i:Nat):Int),if i=0 then 0 else atN l (18+i)))).1,(im_ f l s0 i).2++[f ((im_ f l s0 i).1,i,((10+i:Nat):Int),if i=0 then 0 else atN l (18+i))]):=rfl;have hK1:i=0→(if i=0 then 0 else atN l (18+i))=0:=fun h=>if_pos h
  have hK2:i≠0→(if i=0 then 0 else atN l (18+i))=atN l (18+i):=fun h=>if_neg h
  dsimp only at co;generalize (if i=0 then 0 else atN l (18+i))=K at *;generalize f ((im_ f l s0 i).1,i,((10+i:Nat):Int),K)=x at *;clear hI;generalize im_ f l s0 i=p at *;obtain⟨s1,o1⟩:=p;dsimp only at hA hl co hr ⊢;have cs:=KU_ s1 i hA (by omega) x hx.r hx.u;generalize jb_ s1 x=T at *;obtain⟨T1,T2,T3⟩:=T;dsimp only at cs hr ⊢;have hsn:rows VOp.c o1++[bL_ x.a]=rows VOp.c (o1++[x]):=bB_ VOp.c o1 x;(try simp only[cl_,bZ_,List.set_cons_zero,List.set_cons_succ])
  repeat(first|refine aa_ ?_|simp only[go_sem,e1])
  refine ac_ ?_;repeat(first|refine aa_ ?_|simp only[go_sem,hw1])
  refine So_ aa ?_
  refine nG_ (fun _=>[(12,.int .i64 K)]) (fun _=>[.var (bn_ nK_),.var (aI_ lO_),.var (bn_ c.a),.var (aI_ s1.a),.vec 446 (rows VOp.c o1)]) (fun hT=>?_) (fun hF=>?_) ?_
  ·rw[hK1 (by rw[beq_iff_eq]at hT;omega)];try refine aa_ ?_
   exact SN_ [] [0,1,2,3,4]
  ·rw[hK2 (by rw[beq_eq_false_iff_ne]at hF;omega)];try refine aa_ ?_
   exact SN_ [] [0,1,2,3,4]
  (try simp only[cl_,bZ_,List.set_cons_zero,List.set_cons_succ])
  repeat(first|refine aa_ ?_|simp only[go_sem,hw2])
  refine aj_ co ?_;repeat(first|refine aa_ ?_|simp only[go_sem,hsn])
  refine aj_ cs ?_;repeat(first|refine aa_ ?_|simp only[go_sem,hw])
  refine⟨i+1,h1,by omega,?_⟩;rw[hr];exact SN_ [] [0,1,2,3,6]
 ·have hiN:i=N:=by omega
  subst hiN;have e1:decide ((i:Int)<(i:Int))=false:=decide_eq_false (by omega);clear hI;generalize im_ f l s0 i=p at *;obtain⟨s1,o1⟩:=p;dsimp only at hl ⊢;have ht:List.take o1.length (rows VOp.c o1)=rows VOp.c o1:=List.take_of_length_le (by simp);(try simp only[cl_,bZ_,List.set_cons_zero,List.set_cons_succ])
  repeat(first|refine aa_ ?_|simp only[go_sem,e1])
  refine Rh_ ?_
  refine⟨_,(by first|rfl|exact evd),.inl ?_⟩;(try simp only[go_sem,Nat.reduceAdd,Nat.reduceSub,Nat.reduceMul,Nat.reduceLT,Nat.reduceLeDiff,Nat.reduceEqDiff,reduceIte,Int.reduceToNat,Int.reduceLT,Int.reduceLE,Int.reduceEq,Int.reduceNeg,reduceCtorEq,Int.reduceBEq,Int.reduceBNe,ht])
  all_goals rfl
theorem state_walk'(P:aG_→Prop)(hP0:∀c,IG_ c→P (jK_ c).1)(hPs:∀s i x,dT_ s i→P s→OpG x→P (jb_ s x).1)(l:List Int):∃s:aG_,(dT_ s 24∧P s)∧PC Tryz.prog 10 [.sl 1 false (aq_ .i64 l)] (.agg (aI_ s.a)):=by
 obtain⟨c,ops,s,⟨h,hp⟩,cr⟩:=Ns_ P hP0 hPs l;refine⟨s,⟨h.s,hp⟩,PC.fact 7 Bb_ (by simp) puA puA ?_⟩;unfold pX_;refine bd ?_;try refine aa_ ?_
 refine So_ cr ?_
 exact ae_
end Go.Proofs.YtkgimpdgncakjaaGreat
