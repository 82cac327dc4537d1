/-
 My texts Nf, Ng, joined.
-/
import Derived.Test.YtipiipgpnkpejaaGreatV9
import Derived.Test.YtipiipgpnkpejaaGreatV7
namespace Go.Proofs.YtipiipgpnkpejaaGreat
open Go Go.FH Go.RowKit
set_option linter.unusedVariables false
set_option linter.unusedSimpArgs false
set_option maxRecDepth 8000
set_option maxHeartbeats 4000000

theorem Bz_ {a b:AV}{c d:AV}(n:Int) (h1:Wk a b) (h2:Wk c d):Wk (.tup [a,c,.int .i64 n]) (.tup [b,d,.int .i64 n]):=Wk.tup ⟨h1,h2,Wk.refl _,trivial⟩
theorem wH_ (c:VCfg) (hb:c.bals.length≤1000000) (hs:newE c=0→StR (newO c)):PC Tryz.prog 68 [.agg (cfgC c.a)] (.tup [.agg (staC (beginS c).1.a),.sl 96 false (rows cmdC (beginS c).2.1),.int .i64 (beginS c).2.2]):=by
 refine PC.fact 9 pM_ (by simp) puA ⟨VSta.pul _,bA_ _,trivial,trivial⟩ ?_
 unfold iR_;refine bd ?_
 have c1:=Cm_ c hb
 unfold beginS
 unfold newS at c1
 by_cases q:newE c=0
 · rw[if_pos q]at c1
   simp only[if_pos q]at *
   have c2:=rB_ ⟨newO c,[],[],1,false,cmd0,false,false⟩ (hs q)
   generalize newO c=S at *
   generalize emitS ⟨S,[],[],1,false,cmd0,false,false⟩=E at *
   obtain⟨E1,E2⟩:=E
   dsimp only at c2 ⊢
   have hw:Wk (.agg (staC ⟨S.a,.sl 0 true [],.sl 0 true [],1,false,cmd0,false,false⟩)) (.agg (staC (VSta.a ⟨S,[],[],1,false,cmd0,false,false⟩))):=by
     refine Wk.agg ?_
     unfold VSta.a staC
     dsimp only
     exact(WkC.refl _).app (.cons (Wk.empty _ _ _) (fun h=>h) (.cons (Wk.empty _ _ _) (fun h=>h) (WkC.refl _)))
   have hp:PuL (staC ⟨S.a,.sl 0 true [],.sl 0 true [],1,false,cmd0,false,false⟩):=by
     refine(vl_ _).2 ?_
     have:=S.pul
     simp[Sta.Pure,Pu,PuLL,(hS_ _).1 this]
   try refine aa_ ?_
   refine pcall c1 ?_
   try refine aa_ ?_
   refine ab_ ?_
   try refine aa_ ?_
   refine pcallw c2 ⟨hw,trivial⟩ ⟨hp,trivial⟩ ?_
   try refine aa_ ?_
   exact fin0
 · rw[if_neg q]at c1
   simp only[if_neg q]at *
   have e1:(newE c != 0)=true:=by simp[q]
   try refine aa_ ?_
   refine pcall c1 ?_
   repeat(first | refine aa_ ?_ | simp only[go_sem,e1])
   refine ac_ ?_
   try refine aa_ ?_
   refine⟨_,(by first | rfl | exact evd),.inr ⟨.tup [.agg (staC sta0),.sl 0 true [],.int .i64 (newE c)],?_,⟨uh_,trivial,trivial,trivial⟩,Bz_ _ xQ_ (Wk.empty _ _ _)⟩⟩
   (try simp only[go_sem,Nat.reduceAdd,Nat.reduceSub,Nat.reduceMul,Nat.reduceLT,Nat.reduceLeDiff,Nat.reduceEqDiff,reduceIte,Int.reduceToNat,Int.reduceLT,Int.reduceLE,Int.reduceEq,Int.reduceNeg,reduceCtorEq,Int.reduceBEq,Int.reduceBNe])
   all_goals rfl
theorem yL_ (s:VSta) (m:Nat) (h:InvA s m) (v:Vdt):PC Tryz.prog 140 [.agg (staC s.a),.agg (vdtC v)] (.tup [.agg (staC (verdS s v).1.a),.int .i64 (verdS s v).2]):=by
 refine PC.fact 13 mx_ (by simp) puA ⟨VSta.pul _,trivial,trivial⟩ ?_
 unfold gC_;refine bd ?_
 have hrq:=h.rq
 have hii:=h.sto.ii
 have c1:=wr_ s v (by omega)
 unfold verdS
 have hm2:(matchS s v).2.2=0→InvA (matchS s v).2.1 m:=fun hz=>h.mat hz
 generalize matchS s v=M at *
 obtain⟨r,t,e⟩:=M
 dsimp only at c1 hm2 ⊢
 by_cases q1:e=0
 case neg=>
   have e1:(e != 0)=true:=by simp[q1]
   rw[if_pos q1]
   try refine aa_ ?_
   refine pcall c1 ?_
   repeat(first | refine aa_ ?_ | simp only[go_sem,e1])
   refine ac_ ?_
   try refine aa_ ?_
   exact fin0
 subst q1
 rw[if_neg (by simp)]
 have ht:=hm2 rfl
 have hy:=ht.yl
 have hT:=ht.sto.r
 have hbn:=hT.bn
 by_cases q2:v.kind=3∨v.kind=4
 · rw[if_pos q2]
   have c2:=xt_ t r hT (by omega)
   by_cases q3:v.kind=3
   · have e3:(v.kind==3)=true:=by simp[q3]
     try refine aa_ ?_
     refine pcall c1 ?_
     try refine aa_ ?_
     refine ab_ ?_
     repeat(first | refine aa_ ?_ | simp only[go_sem,e3])
     refine ac_ ?_
     try refine aa_ ?_
     refine pcall c2 ?_
     try refine aa_ ?_
     exact fin0
   · have e3:(v.kind==3)=false:=by simp[q3]
     have e4:(v.kind==4)=true:=by simp[q2.resolve_left q3]
     try refine aa_ ?_
     refine pcall c1 ?_
     try refine aa_ ?_
     refine ab_ ?_
     repeat(first | refine aa_ ?_ | simp only[go_sem,e3,e4])
     refine ac_ ?_
     try refine aa_ ?_
     refine pcall c2 ?_
     try refine aa_ ?_
     exact fin0
 rw[if_neg q2]
 have e3:(v.kind==3)=false:=by simp;exact fun h=>q2 (.inl h)
 have e4:(v.kind==4)=false:=by simp;exact fun h=>q2 (.inr h)
 have c2:=aS_ t.sto.nodes t.sto.j.rt hbn
 have c3:=aS_ t.sto.nodes t.sto.f.rt hbn
 have c4:=aS_ t.sto.nodes r.block hbn
 have c5:=xA_ t.sto.nodes hT.tree.ok (findT t.sto.nodes r.block) v [findT t.sto.nodes t.sto.j.rt,findT t.sto.nodes t.sto.f.rt] hbn (by simp)
 have hj:judgeV t.sto r.block v=judgeT t.sto.nodes (findT t.sto.nodes r.block) v [findT t.sto.nodes t.sto.j.rt,findT t.sto.nodes t.sto.f.rt]:=rfl
 have hup:=fun hz=>vu_ (t:=t.sto.nodes) (i:=findT t.sto.nodes r.block) (v:=v) (keep:=[findT t.sto.nodes t.sto.j.rt,findT t.sto.nodes t.sto.f.rt]) hz
 rw[hj]
 clear hj
 have hnums:∀ a b:Int,[[AV.int .i64 a],[AV.int .i64 b]]=nums .i64 [a,b]:=fun _ _=>rfl
 generalize findT t.sto.nodes t.sto.j.rt=J at *
 generalize findT t.sto.nodes t.sto.f.rt=F at *
 generalize findT t.sto.nodes r.block=B at *
 generalize judgeT t.sto.nodes B v [J,F]=U at *
 obtain⟨U1,U2⟩:=U
 dsimp only at c5 hup ⊢
 by_cases q3:U2=0
 case neg=>
   have e5:(U2 != 0)=true:=by simp[q3]
   rw[if_pos q3]
   try refine aa_ ?_
   refine pcall c1 ?_
   try refine aa_ ?_
   refine ab_ ?_
   repeat(first | refine aa_ ?_ | simp only[go_sem,e3,e4])
   refine ab_ ?_
   try refine aa_ ?_
   refine dpcall (c2) ?_
   try refine aa_ ?_
   refine dpcall (c3) ?_
   repeat(first | refine aa_ ?_ | simp only[go_sem,hnums])
   refine dpcall (c4) ?_
   try refine aa_ ?_
   refine dpcall (c5) ?_
   repeat(first | refine aa_ ?_ | simp only[go_sem,e5])
   refine ac_ ?_
   try refine aa_ ?_
   exact fin0
 subst q3
 rw[if_neg (by simp)]
 have hlen:U1.length≤1000000:=by have:=(hup rfl).1;omega
 have c6:=aS_ U1 t.sto.boost hlen
 have b6:=bN_ U1 t.sto.boost
 have hbv:boostV (withN t.sto U1)=if 0≤findT U1 t.sto.boost∧(nod U1 (findT U1 t.sto.boost).toNat).status=2 then withB (withN t.sto U1) rt0 else withN t.sto U1:=rfl
 rw[hbv]
 clear hbv
 generalize findT U1 t.sto.boost=I at *
 by_cases q4:0≤I
 · have e6:decide (0≤I)=true:=decide_eq_true q4
   have hg:=aW_ (t:=U1) (i:=I.toNat) (by omega)
   by_cases q5:(nod U1 I.toNat).status=2
   · have e7:((nod U1 I.toNat).status==2)=true:=by simp[q5]
     rw[if_pos ⟨q4,q5⟩]
     try refine aa_ ?_
     refine pcall c1 ?_
     try refine aa_ ?_
     refine ab_ ?_
     repeat(first | refine aa_ ?_ | simp only[go_sem,e3,e4])
     refine ab_ ?_
     try refine aa_ ?_
     refine dpcall (c2) ?_
     try refine aa_ ?_
     refine dpcall (c3) ?_
     repeat(first | refine aa_ ?_ | simp only[go_sem,hnums])
     refine dpcall (c4) ?_
     try refine aa_ ?_
     refine dpcall (c5) ?_
     try refine aa_ ?_
     refine ab_ ?_
     try refine aa_ ?_
     refine pcall c6 ?_
     repeat(first | refine aa_ ?_ | simp only[go_sem,e6,hg,e7])
     refine ac_ ?_
     try refine aa_ ?_
     exact fin0
   · have e7:((nod U1 I.toNat).status==2)=false:=by simp[q5]
     rw[if_neg (fun h=>q5 h.2)]
     try refine aa_ ?_
     refine pcall c1 ?_
     try refine aa_ ?_
     refine ab_ ?_
     repeat(first | refine aa_ ?_ | simp only[go_sem,e3,e4])
     refine ab_ ?_
     try refine aa_ ?_
     refine dpcall (c2) ?_
     try refine aa_ ?_
     refine dpcall (c3) ?_
     repeat(first | refine aa_ ?_ | simp only[go_sem,hnums])
     refine dpcall (c4) ?_
     try refine aa_ ?_
     refine dpcall (c5) ?_
     try refine aa_ ?_
     refine ab_ ?_
     try refine aa_ ?_
     refine pcall c6 ?_
     repeat(first | refine aa_ ?_ | simp only[go_sem,e6,hg,e7])
     refine ab_ ?_
     try refine aa_ ?_
     exact fin0
 · have e6:decide (0≤I)=false:=decide_eq_false q4
   rw[if_neg (fun h=>q4 h.1)]
   try refine aa_ ?_
   refine pcall c1 ?_
   try refine aa_ ?_
   refine ab_ ?_
   repeat(first | refine aa_ ?_ | simp only[go_sem,e3,e4])
   refine ab_ ?_
   try refine aa_ ?_
   refine dpcall (c2) ?_
   try refine aa_ ?_
   refine dpcall (c3) ?_
   repeat(first | refine aa_ ?_ | simp only[go_sem,hnums])
   refine dpcall (c4) ?_
   try refine aa_ ?_
   refine dpcall (c5) ?_
   try refine aa_ ?_
   refine ab_ ?_
   try refine aa_ ?_
   refine pcall c6 ?_
   repeat(first | refine aa_ ?_ | simp only[go_sem,e6])
   refine ab_ ?_
   try refine aa_ ?_
   exact fin0

theorem zT_ (s:VSta) (m:Nat) (h:InvA s m) (x:VOp) (hx:OpR x):PC Tryz.prog 114 [.agg (staC s.a),.agg (sOpC x.a)] (.tup [.agg (staC (perfS s x).1.a),.int .i64 (perfS s x).2]):=by
 refine PC.fact 9 mz_ (by simp) puA ⟨VSta.pul _,trivial,trivial⟩ ?_
 unfold gM_;refine bd ?_
 have hrq:=h.rq
 have hii:=h.sto.ii
 have hyl:=h.yl
 unfold perfS
 by_cases k1:x.kind=1
 · have n1:(x.kind==1)=true:=by simp[k1]
   rw[if_pos k1]
   have c1:=AT_ s.sto m h.sto
   have hI:=fun hz=>h.sto.tick (s:=s.sto) hz
   generalize tickS s.sto=T at *
   obtain⟨T1,T2⟩:=T
   dsimp only at c1 hI ⊢
   by_cases q:T2=0
   · subst q
     have hT:=(hI rfl).r
     have c2:=qY_ (withS s T1) hT (by show s.reqs.length≤_;omega) (by show s.rets.length≤_;omega)
     have hd1:=(hD_ (withS s T1).sto.nodes (withS s T1).reqs).1
     have hd2:=(hD_ (withS s T1).sto.nodes (withS s T1).rets).1
     have hd3:(withS s T1).reqs.length=s.reqs.length:=rfl
     have hd4:(withS s T1).rets.length=s.rets.length:=rfl
     have c3:=BM_ (dropS (withS s T1)) hT (by show (knownL _ _).length+(knownL _ _).length≤_;omega)
     rw[if_pos rfl]
     repeat(first | refine aa_ ?_ | simp only[go_sem,n1])
     refine ac_ ?_
     try refine aa_ ?_
     refine pcall c1 ?_
     try refine aa_ ?_
     refine ac_ ?_
     try refine aa_ ?_
     refine pcall c2 ?_
     try refine aa_ ?_
     refine pcall c3 ?_
     try refine aa_ ?_
     exact fin0
   · have e1:(T2==0)=false:=by simp[q]
     rw[if_neg q]
     repeat(first | refine aa_ ?_ | simp only[go_sem,n1])
     refine ac_ ?_
     try refine aa_ ?_
     refine pcall c1 ?_
     repeat(first | refine aa_ ?_ | simp only[go_sem,e1])
     refine ab_ ?_
     try refine aa_ ?_
     exact fin0
 rw[if_neg k1]
 have n1:(x.kind==1)=false:=by simp[k1]
 by_cases k2:x.kind=2
 · have n2:(x.kind==2)=true:=by simp[k2]
   rw[if_pos k2]
   have c1:=xx_ s.sto m h.sto x.blk hx.blk
   have hI:=fun hz=>h.sto.block hx.blk hz
   generalize blockS s.sto x.blk=T at *
   obtain⟨T1,T2,T3⟩:=T
   dsimp only at c1 hI ⊢
   by_cases q:T3=0
   · subst q
     have hT:=(hI rfl).1.r
     have hl:=(hI rfl).2
     have c2:=qY_ (withS s T1) hT (by show s.reqs.length≤_;omega) (by show s.rets.length≤_;omega)
     have hd1:=(hD_ (withS s T1).sto.nodes (withS s T1).reqs).1
     have hd3:(withS s T1).reqs.length=s.reqs.length:=rfl
     have c3:=xE_ (dropS (withS s T1)) T2 hT (by show (knownL _ _).length+_≤_;omega)
     rw[if_pos rfl]
     repeat(first | refine aa_ ?_ | simp only[go_sem,n1])
     refine ab_ ?_
     repeat(first | refine aa_ ?_ | simp only[go_sem,n2])
     refine ac_ ?_
     try refine aa_ ?_
     refine pcall c1 ?_
     try refine aa_ ?_
     refine ac_ ?_
     try refine aa_ ?_
     refine pcall c2 ?_
     try refine aa_ ?_
     refine pcall c3 ?_
     try refine aa_ ?_
     exact fin0
   · have e1:(T3==0)=false:=by simp[q]
     rw[if_neg q]
     repeat(first | refine aa_ ?_ | simp only[go_sem,n1])
     refine ab_ ?_
     repeat(first | refine aa_ ?_ | simp only[go_sem,n2])
     refine ac_ ?_
     try refine aa_ ?_
     refine pcall c1 ?_
     repeat(first | refine aa_ ?_ | simp only[go_sem,e1])
     refine ab_ ?_
     try refine aa_ ?_
     exact fin0
 rw[if_neg k2]
 have n2:(x.kind==2)=false:=by simp[k2]
 by_cases k3:x.kind=3
 · have n3:(x.kind==3)=true:=by simp[k3]
   rw[if_pos k3]
   have c1:=Dc_ s.sto m h.sto x.att (by have:=hx.att;omega)
   generalize attS s.sto x.att=T at *
   obtain⟨T1,T2⟩:=T
   dsimp only at c1 ⊢
   repeat(first | refine aa_ ?_ | simp only[go_sem,n1])
   refine ab_ ?_
   repeat(first | refine aa_ ?_ | simp only[go_sem,n2])
   refine ab_ ?_
   repeat(first | refine aa_ ?_ | simp only[go_sem,n3])
   refine ac_ ?_
   try refine aa_ ?_
   refine pcall c1 ?_
   try refine aa_ ?_
   exact fin0
 rw[if_neg k3]
 have n3:(x.kind==3)=false:=by simp[k3]
 by_cases k4:x.kind=4
 · have n4:(x.kind==4)=true:=by simp[k4]
   rw[if_pos k4]
   have c1:=ww_ s.sto m h.sto x.slg (by have:=hx.fst;omega) (by have:=hx.snd;omega)
   generalize slashS s.sto x.slg=T at *
   obtain⟨T1,T2⟩:=T
   dsimp only at c1 ⊢
   repeat(first | refine aa_ ?_ | simp only[go_sem,n1])
   refine ab_ ?_
   repeat(first | refine aa_ ?_ | simp only[go_sem,n2])
   refine ab_ ?_
   repeat(first | refine aa_ ?_ | simp only[go_sem,n3])
   refine ab_ ?_
   repeat(first | refine aa_ ?_ | simp only[go_sem,n4])
   refine ac_ ?_
   try refine aa_ ?_
   refine pcall c1 ?_
   try refine aa_ ?_
   exact fin0
 rw[if_neg k4]
 have n4:(x.kind==4)=false:=by simp[k4]
 by_cases k5:x.kind=5
 · have n5:(x.kind==5)=true:=by simp[k5]
   rw[if_pos k5]
   have c1:=Df_ s.sto m h.sto x.tab (by have:=hx.tab;omega)
   generalize regS s.sto x.tab=T at *
   obtain⟨T1,T2⟩:=T
   dsimp only at c1 ⊢
   repeat(first | refine aa_ ?_ | simp only[go_sem,n1])
   refine ab_ ?_
   repeat(first | refine aa_ ?_ | simp only[go_sem,n2])
   refine ab_ ?_
   repeat(first | refine aa_ ?_ | simp only[go_sem,n3])
   refine ab_ ?_
   repeat(first | refine aa_ ?_ | simp only[go_sem,n4])
   refine ab_ ?_
   repeat(first | refine aa_ ?_ | simp only[go_sem,n5])
   refine ac_ ?_
   try refine aa_ ?_
   refine pcall c1 ?_
   try refine aa_ ?_
   exact fin0
 rw[if_neg k5]
 have n5:(x.kind==5)=false:=by simp[k5]
 by_cases k6:x.kind=6
 · have n6:(x.kind==6)=true:=by simp[k6]
   rw[if_pos k6]
   have c1:=yL_ s m h x.vdt
   generalize verdS s x.vdt=T at *
   obtain⟨T1,T2⟩:=T
   dsimp only at c1 ⊢
   repeat(first | refine aa_ ?_ | simp only[go_sem,n1])
   refine ab_ ?_
   repeat(first | refine aa_ ?_ | simp only[go_sem,n2])
   refine ab_ ?_
   repeat(first | refine aa_ ?_ | simp only[go_sem,n3])
   refine ab_ ?_
   repeat(first | refine aa_ ?_ | simp only[go_sem,n4])
   refine ab_ ?_
   repeat(first | refine aa_ ?_ | simp only[go_sem,n5])
   refine ab_ ?_
   repeat(first | refine aa_ ?_ | simp only[go_sem,n6])
   refine ac_ ?_
   try refine aa_ ?_
   refine pcall c1 ?_
   try refine aa_ ?_
   exact fin0
 · have n6:(x.kind==6)=false:=by simp[k6]
   rw[if_neg k6]
   repeat(first | refine aa_ ?_ | simp only[go_sem,n1])
   refine ab_ ?_
   repeat(first | refine aa_ ?_ | simp only[go_sem,n2])
   refine ab_ ?_
   repeat(first | refine aa_ ?_ | simp only[go_sem,n3])
   refine ab_ ?_
   repeat(first | refine aa_ ?_ | simp only[go_sem,n4])
   refine ab_ ?_
   repeat(first | refine aa_ ?_ | simp only[go_sem,n5])
   refine ab_ ?_
   repeat(first | refine aa_ ?_ | simp only[go_sem,n6])
   refine ab_ ?_
   try refine aa_ ?_
   exact fin0
theorem zo_ (s:VSta) (m:Nat) (h:InvA s m) (hm:m<30) (x:VOp) (hx:OpR x) (hu:OpU (toV x)):PC Tryz.prog 71 [.agg (staC s.a),.agg (sOpC x.a)] (.tup [.agg (staC (stepS s x).1.a),.sl 96 false (rows cmdC (stepS s x).2.1),.int .i64 (stepS s x).2.2]):=by
 refine PC.fact 12 tr_ (by simp) puA ⟨VSta.pul _,bA_ _,trivial,trivial⟩ ?_
 unfold kt_;refine bd ?_
 have c1:=vC_ (toV x) hu
 have c2:=zT_ s m h x hx
 unfold stepS
 have fin:∀ {fr:Fr} {σ:St} {l:List AV} {t:VSta} {n:Int},resVal fr σ [.cell 4 true 252,.tmp 5,.tmp 6]=some l→fz σ (List.range σ.length) (resAV l)=.tup [.agg (staC t.a),.sl 0 true [],.int .i64 n]→PQ [.cell 4 true 252,.tmp 5,.tmp 6] (.tup [.agg (staC t.a),.sl 96 false (rows cmdC []),.int .i64 n]) .ret fr σ:=
   fun {fr σ l t n} hl hv=>⟨l,hl,.inr ⟨_,hv,⟨VSta.pul _,trivial,trivial,trivial⟩,Bz_ _ (Wk.refl _) (Wk.empty _ _ _)⟩⟩
 by_cases q0:s.halt=true
 · rw[if_pos q0]
   repeat(first | refine aa_ ?_ | simp only[go_sem,q0])
   refine ac_ ?_
   try refine aa_ ?_
   exact fin (by first | rfl | exact evd) (by first | rfl | exact evd)
 rw[if_neg q0]
 have n0:s.halt=false:=by simpa using q0
 by_cases q1:vOp (toV x)=0
 case neg=>
   have e1:(vOp (toV x) != 0)=true:=by simp[q1]
   rw[if_pos q1]
   generalize vOp (toV x)=V at *
   repeat(first | refine aa_ ?_ | simp only[go_sem,n0])
   refine ab_ ?_
   try refine aa_ ?_
   refine pcall c1 ?_
   repeat(first | refine aa_ ?_ | simp only[go_sem,e1])
   refine ac_ ?_
   try refine aa_ ?_
   exact fin (by first | rfl | exact evd) (by first | rfl | exact evd)
 rw[if_neg (by simp[q1])]
 rw[q1]at c1
 have hI:=fun hz=>h.perf hm hx (.inl hz)
 generalize perfS s x=T at *
 obtain⟨T1,T2⟩:=T
 dsimp only at c2 hI ⊢
 by_cases q2:T2=21
 · have e2:(T2==21)=true:=by simp[q2]
   rw[if_pos q2]
   repeat(first | refine aa_ ?_ | simp only[go_sem,n0])
   refine ab_ ?_
   try refine aa_ ?_
   refine pcall c1 ?_
   try refine aa_ ?_
   refine ab_ ?_
   try refine aa_ ?_
   refine pcall c2 ?_
   repeat(first | refine aa_ ?_ | simp only[go_sem,e2])
   refine ac_ ?_
   try refine aa_ ?_
   subst q2
   exact fin (by first | rfl | exact evd) (by first | rfl | exact evd)
 rw[if_neg q2]
 have e2:(T2==21)=false:=by simp[q2]
 by_cases q3:T2=0
 case neg=>
   have e3:(T2 != 0)=true:=by simp[q3]
   rw[if_pos q3]
   repeat(first | refine aa_ ?_ | simp only[go_sem,n0])
   refine ab_ ?_
   try refine aa_ ?_
   refine pcall c1 ?_
   try refine aa_ ?_
   refine ab_ ?_
   try refine aa_ ?_
   refine pcall c2 ?_
   repeat(first | refine aa_ ?_ | simp only[go_sem,e2])
   refine ab_ ?_
   repeat(first | refine aa_ ?_ | simp only[go_sem,e3])
   refine ac_ ?_
   try refine aa_ ?_
   exact fin (by first | rfl | exact evd) (by first | rfl | exact evd)
 rw[if_neg (by simp[q3])]
 subst q3
 have c3:=rB_ T1 (hI rfl).sto.r
 generalize emitS T1=E at *
 obtain⟨E1,E2⟩:=E
 dsimp only at c3 ⊢
 repeat(first | refine aa_ ?_ | simp only[go_sem,n0])
 refine ab_ ?_
 try refine aa_ ?_
 refine pcall c1 ?_
 try refine aa_ ?_
 refine ab_ ?_
 try refine aa_ ?_
 refine pcall c2 ?_
 try refine aa_ ?_
 refine ab_ ?_
 try refine aa_ ?_
 refine ab_ ?_
 try refine aa_ ?_
 refine pcall c3 ?_
 try refine aa_ ?_
 exact fin0
end Go.Proofs.YtipiipgpnkpejaaGreat
