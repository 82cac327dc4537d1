/-
 My texts Na, Nb, Nc, joined.
-/
import Derived.Test.YtipiipgpnkpejaaGreatV7
namespace Go.Proofs.YtipiipgpnkpejaaGreat
open Go Go.FH Go.RowKit
set_option linter.unusedVariables false
set_option linter.unusedSimpArgs false
set_option maxRecDepth 8000
set_option maxHeartbeats 4000000

theorem ed_ (s:VSto) (h:StR s):PC Tryz.prog 155 [.agg (stoC s.a)] (.int .i64 (waitT s)):=by
 refine PC.fact 4 ms_ (by simp) puA puA ?_
 unfold gD_;refine bd ?_
 have hb:=h.bo
 obtain⟨R,hR⟩:∃ R,R=waitT s:=⟨_,rfl⟩
 rw[← hR]
 unfold waitT fstN at hR
 try refine aa_ ?_
 refine au_ (fun i:Nat=>[(3,.int .i64 i)]) (fun _=>[.var (stoC s.a)]) (fun i=>s.orph.length-i) (fun i=>i≤s.orph.length∧R=idx1 (fstG (fun i=>decide (0≤findT s.nodes (blkA s.orph i).parent)) (s.orph.length-i) i)) 0 ⟨Nat.zero_le _,hR⟩ ?_ ?_
 · refine GC.mk' [] [0] (by simp) rfl (by simp) (by simp) evd evd
 clear hR
 rintro i ⟨hi,hn⟩
 (try simp only[as_,av_,List.set_cons_zero,List.set_cons_succ])
 by_cases h1:i<s.orph.length
 · have e1:decide ((i:Int)<((s.orph.length:Nat):Int))=true:=decide_eq_true (by omega)
   have hw:=af_ h1 (by omega)
   have hgd:(rows blkC s.orph).getD i []=blkC (blkA s.orph i):=bl_ (f:=blkC) blk0 h1
   have c1:=aS_ s.nodes (blkA s.orph i).parent h.bn
   repeat(first | refine aa_ ?_ | simp only[go_sem,e1])
   refine ac_ ?_
   repeat(first | refine aa_ ?_ | simp only[go_sem,hgd])
   refine dpcall (c1) ?_
   try refine aa_ ?_
   by_cases q:0≤findT s.nodes (blkA s.orph i).parent
   · have e2:decide (0≤findT s.nodes (blkA s.orph i).parent)=true:=decide_eq_true q
     rw[hw_ h1 e2]at hn
     subst hn
     repeat(first | refine aa_ ?_ | simp only[go_sem,e2])
     refine ac_ ?_
     try refine aa_ ?_
     exact fin0
   · have e2:decide (0≤findT s.nodes (blkA s.orph i).parent)=false:=decide_eq_false q
     rw[hm_ h1 e2]at hn
     repeat(first | refine aa_ ?_ | simp only[go_sem,e2])
     refine ab_ ?_
     repeat(first | refine aa_ ?_ | simp only[go_sem,hw])
     refine⟨i+1,⟨h1,hn⟩,by omega,?_⟩
     refine GC.mk' [] [0] (by simp) rfl (by simp) (by simp) evd evd
 · obtain rfl:i=s.orph.length:=by omega
   have e1:decide (((s.orph.length:Nat):Int)<((s.orph.length:Nat):Int))=false:=decide_eq_false (by omega)
   rw[hc_]at hn
   subst hn
   repeat(first | refine aa_ ?_ | simp only[go_sem,e1])
   refine ab_ ?_
   try refine aa_ ?_
   exact fin0
theorem rX_ (s:VSto) (b:Blk) (h:StR s) (h1:StR (withN s (insT s.nodes b (statB b)).1)):PC Tryz.prog 154 [.agg (stoC s.a),.agg (blkC b)] (.agg (stoC (insS s b).a)):=by
 refine PC.fact 5 nm_ (by simp) puA puA ?_
 unfold hb_;refine bd ?_
 have c1:=xI_ b
 have c2:=Ap_ s.nodes b (statB b) h.bn
 have c3:=oB_ (withN s (insT s.nodes b (statB b)).1) b.just b.fin h1
 have h2:=h1.upd b.just b.fin
 have hI:insS s b=if epochT (updS (withN s (insT s.nodes b (statB b)).1) b.just b.fin) b.slot<epochT (updS (withN s (insT s.nodes b (statB b)).1) b.just b.fin) (updS (withN s (insT s.nodes b (statB b)).1) b.just b.fin).now
   then updS (updS (withN s (insT s.nodes b (statB b)).1) b.just b.fin) b.pul.j b.pul.f else updS (withN s (insT s.nodes b (statB b)).1) b.just b.fin:=rfl
 rw[hI]
 clear hI
 unfold withN at c3
 generalize statB b=st at *
 generalize insT s.nodes b st=T at *
 obtain⟨T1,T2⟩:=T
 show Tri _ _ _ _ (PQ _ (.agg (stoC (VSto.a (if epochT (updS (withN s T1) b.just b.fin) b.slot<epochT (updS (withN s T1) b.just b.fin) (updS (withN s T1) b.just b.fin).now then updS (updS (withN s T1) b.just b.fin) b.pul.j b.pul.f else updS (withN s T1) b.just b.fin))))) _ _
 change StR (updS (withN s T1) b.just b.fin)at h2
 change PC _ _ _ (.agg (stoC (updS (withN s T1) b.just b.fin).a))at c3
 generalize updS (withN s T1) b.just b.fin=S2 at *
 have c4:=bQ_ S2 b.slot h2.spe
 have c5:=bQ_ S2 S2.now h2.spe
 have c6:=oB_ S2 b.pul.j b.pul.f h2
 try refine aa_ ?_
 refine dpcall (c1) ?_
 try refine aa_ ?_
 refine dpcall (c2) ?_
 try refine aa_ ?_
 refine pcall c3 ?_
 try refine aa_ ?_
 refine dpcall (c4) ?_
 try refine aa_ ?_
 refine dpcall (c5) ?_
 try refine aa_ ?_
 by_cases q:epochT S2 b.slot<epochT S2 S2.now
 · have e1:decide (epochT S2 b.slot<epochT S2 S2.now)=true:=decide_eq_true q
   rw[if_pos q]
   repeat(first | refine aa_ ?_ | simp only[go_sem,e1])
   refine ac_ ?_
   try refine aa_ ?_
   refine pcall c6 ?_
   try refine aa_ ?_
   exact fin0
 · have e1:decide (epochT S2 b.slot<epochT S2 S2.now)=false:=decide_eq_false q
   rw[if_neg q]
   repeat(first | refine aa_ ?_ | simp only[go_sem,e1])
   refine ab_ ?_
   try refine aa_ ?_
   exact fin0

theorem qS_ (s:VSto) (b:Blk):(insS s b).orph.length≤s.orph.length:=by
 unfold insS
 have h1:=(oQ_ (withN s (insT s.nodes b (statB b)).1) b.just b.fin).1
 have h2:=(oQ_ (updS (withN s (insT s.nodes b (statB b)).1) b.just b.fin) b.pul.j b.pul.f).1
 have h3:(withN s (insT s.nodes b (statB b)).1).orph.length=s.orph.length:=rfl
 split<;>omega
theorem jr_ {p:VSto × List Rt}(h0:0≤waitT p.1):(waitR p).1.orph.length+1≤p.1.orph.length:=by
 have h1:=oP_ p.1
 have h2:=zP_ p.1.orph (i:=(waitT p.1).toNat) (by omega)
 have h3:=qS_ (withO p.1 (takeO p.1.orph (waitT p.1).toNat)) (blkA p.1.orph (waitT p.1).toNat)
 have h4:(withO p.1 (takeO p.1.orph (waitT p.1).toNat)).orph.length=(takeO p.1.orph (waitT p.1).toNat).length:=rfl
 unfold waitR
 split
 · show (insS _ _).orph.length+1≤_;omega
 · show (takeO p.1.orph (waitT p.1).toNat).length+1≤_;omega
theorem tY_:∀ (f g:Nat) (p:VSto × List Rt),p.1.orph.length<f→p.1.orph.length<g→waitG f p=waitG g p
 | 0,_,_,h,_=>by omega
 | _,0,_,_,h=>by omega
 | f + 1, g + 1, p, h1, h2 => by
   unfold waitG
   split
   · rfl
   · rename_i hw
     have:=jr_ (p:=p) (by omega)
     exact tY_ f g (waitR p) (by omega) (by omega)
theorem wZ_ {p:VSto × List Rt}(h0:0≤waitT p.1):waitG (p.1.orph.length+1) p=waitG ((waitR p).1.orph.length+1) (waitR p):=by
 have h1:=jr_ h0
 conv=>lhs;unfold waitG
 rw[if_neg (by omega)]
 exact tY_ _ _ _ (by omega) (by omega)
theorem ug_ (s:VSto) (b:Blk) (h:StR s):ACall Tryz.prog 153 [.agg (stoC { s.a with orph:=.hs 238 0 0 s.orph.length }),.agg (blkC b)] [.vec 238 (rows blkC s.orph)] (.int .i64 (checkB s b)) [.vec 238 (rows blkC s.orph)]:=by
 refine ACall.lend rfl ?_
 have ht:List.take s.orph.length (rows blkC s.orph)=rows blkC s.orph:=List.take_of_length_le (by simp)
 (try simp only[go_sem,ht,List.length_cons,List.length_nil,List.range_succ,List.range_zero])
 exact lN_ s b h
theorem sj_ (s:VSto) (h:StR s):ACall Tryz.prog 155 [.agg (stoC { s.a with orph:=.hs 238 0 0 s.orph.length })] [.vec 238 (rows blkC s.orph)] (.int .i64 (waitT s)) [.vec 238 (rows blkC s.orph)]:=by
 refine ACall.lend rfl ?_
 have ht:List.take s.orph.length (rows blkC s.orph)=rows blkC s.orph:=List.take_of_length_le (by simp)
 (try simp only[go_sem,ht,List.length_cons,List.length_nil,List.range_succ,List.range_zero])
 exact ed_ s h
theorem xu_ (s:VSto) (b:Blk) (h:StR s) (h1:StR (withN s (insT s.nodes b (statB b)).1)):ACall Tryz.prog 154 [.agg (stoC { s.a with orph:=.hs 238 0 0 s.orph.length }),.agg (blkC b)] [.vec 238 (rows blkC s.orph)] (.agg (stoC (insS s b).a)) [.gone]:=by
 have ht:List.take s.orph.length (rows blkC s.orph)=rows blkC s.orph:=List.take_of_length_le (by simp)
 have:=ACall.give (σ:=[.vec 238 (rows blkC s.orph)]) (args:=[.agg (stoC { s.a with orph:=.hs 238 0 0 s.orph.length }),.agg (blkC b)]) (r:=_) (by
   (try simp only[go_sem,ht,List.length_cons,List.length_nil,List.range_succ,List.range_zero])
   exact rX_ s b h h1)
 exact this
def rndS (b:Blk) (p:VSto × List Rt) (o:Bool):St:=if o then [.var (stoC p.1.a),.var (blkC b),.var (stoC sto0),.vec 32 (rows rtc p.2)]else [.var (stoC p.1.a),.var (blkC b),.var (stoC sto0)]
def rndV (p:VSto × List Rt) (o:Bool):AV:=if o then .hs 32 3 0 p.2.length else .sl 32 true (rows rtc p.2)
theorem DX_ (S:VSto) (m:Nat) (hS:InvS S m) (b:Blk) (hbu:BlkU b) (hlo:S.orph.length≤3) (R:VSto × List Rt) (hR0:R=waitG (S.orph.length+1) (S,[b.root])):
   Tri Tryz.prog 108 0 (aE_.tl 7) (PQ [.cell 4 true 150,.tmp 5,.tmp 6] (.tup [.agg (stoC R.1.a),.sl 32 false (rows rtc R.2),.int .i64 0])) ⟨12,[.dead,.dead,.ptr 0 0,.ptr 1 0,.ptr 2 0,.dead,.dead,.dead,.dead,.dead,.dead,.dead],[]⟩ [.var (stoC S.a),.var (blkC b),.var (stoC sto0)]:=by
 unfold aE_;refine bd ?_
 simp only[ACode.tl]
 have c0:=ed_ S hS.r
 try refine aa_ ?_
 refine pcall c0 ?_
 try refine aa_ ?_
 refine au_ (fun x:(VSto × List Rt) × Bool=>[(9,rndV x.1 x.2),(10,.int .i64 (waitT x.1.1)),(11,.dead)]) (fun x=>rndS b x.1 x.2) (fun x=>x.1.1.orph.length)
   (fun x=>InvS x.1.1 m∧R=waitG (x.1.1.orph.length+1) x.1∧x.1.2.length+x.1.1.orph.length≤10) ((S,[b.root]),false) ⟨hS,hR0,by simp only[List.length_cons,List.length_nil];omega⟩ ?_ ?_
 · show GC _ _ _ ⟨_,setL [(9,.sl 32 true [rtc b.root]),(10,.int .i64 (waitT S)),(11,.dead)] _,[]⟩ [.var (stoC S.a),.var (blkC b),.var (stoC sto0)]
   refine GC.mk' [] [0,1,2] (by simp) rfl (by simp) (by simp) evd evd
 clear hR0 c0
 rintro⟨⟨S1,L⟩,o⟩ ⟨hi,hR,hl⟩
 dsimp only at hi hR hl ⊢
 have hwb:=oP_ S1
 by_cases hw:waitT S1<0
 · have hR':R=(S1,L):=by rw[hR];unfold waitG;rw[if_pos hw]
   subst hR'
   clear hR
   generalize waitT S1=W at *
   have e1:decide (W ≥ 0)=false:=decide_eq_false (by omega)
   have e2:decide (0≤W)=false:=decide_eq_false (by omega)
   have ht:List.take L.length (rows rtc L)=rows rtc L:=List.take_of_length_le (by simp)
   cases o with
   | true =>
     show Tri _ _ _ _ _ ⟨_,setL [(9,.hs 32 3 0 L.length),(10,_),(11,.dead)] _,[]⟩ [.var (stoC S1.a),.var (blkC b),.var (stoC sto0),.vec 32 (rows rtc L)]
     (try simp only[as_,av_,List.set_cons_zero,List.set_cons_succ])
     repeat(first | refine aa_ ?_ | simp only[go_sem,e1,e2])
     refine ab_ ?_
     try refine aa_ ?_
     refine⟨_,(by first | rfl | exact evd),.inl ?_⟩
     (try simp only[go_sem,Nat.reduceAdd,Nat.reduceSub,Nat.reduceMul,Nat.reduceLT,Nat.reduceLeDiff,Nat.reduceEqDiff,reduceIte,Int.reduceToNat,Int.reduceLT,Int.reduceLE,Int.reduceEq,Int.reduceNeg,reduceCtorEq,Int.reduceBEq,Int.reduceBNe,ht])
     all_goals rfl
   | false =>
     show Tri _ _ _ _ _ ⟨_,setL [(9,.sl 32 true (rows rtc L)),(10,_),(11,.dead)] _,[]⟩ [.var (stoC S1.a),.var (blkC b),.var (stoC sto0)]
     (try simp only[as_,av_,List.set_cons_zero,List.set_cons_succ])
     repeat(first | refine aa_ ?_ | simp only[go_sem,e1,e2])
     refine ab_ ?_
     try refine aa_ ?_
     refine⟨_,(by first | rfl | exact evd),.inr ⟨.tup [.agg (stoC S1.a),.sl 32 true (rows rtc L),.int .i64 0],?_,⟨S1.pul,cQ_ L,trivial,trivial⟩,Wk.tup ⟨Wk.refl _,Wk.open_ _ _ _,Wk.refl _,trivial⟩⟩⟩
     (try simp only[go_sem,Nat.reduceAdd,Nat.reduceSub,Nat.reduceMul,Nat.reduceLT,Nat.reduceLeDiff,Nat.reduceEqDiff,reduceIte,Int.reduceToNat,Int.reduceLT,Int.reduceLE,Int.reduceEq,Int.reduceNeg,reduceCtorEq,Int.reduceBEq,Int.reduceBNe])
     all_goals rfl
 · have hst:=wZ_ (p:=(S1,L)) (show 0≤waitT S1 by omega)
   dsimp only at hst
   rw[hst]at hR
   clear hst
   have hro:=jr_ (p:=(S1,L)) (by show 0≤waitT S1;omega)
   have hI:InvS (waitR (S1,L)).1 m:=InvS.waitR hi (by show 0≤waitT S1;omega)
   have hwr:waitR (S1,L)=if checkB (withO S1 (takeO S1.orph (waitT S1).toNat)) (blkA S1.orph (waitT S1).toNat)=0 then (insS (withO S1 (takeO S1.orph (waitT S1).toNat)) (blkA S1.orph (waitT S1).toNat),L++[(blkA S1.orph (waitT S1).toNat).root])else (withO S1 (takeO S1.orph (waitT S1).toNat),L):=rfl
   obtain⟨u,hu⟩:=Int.eq_ofNat_of_zero_le (show 0≤waitT S1 by omega)
   rw[hu]at hwr hwb ⊢
   rw[Int.toNat_natCast]at hwr
   have hul:u<S1.orph.length:=by omega
   have h2:=hi.takeO u
   have hbo:=hi.uo _ (dQ_ blk0 hul)
   have hgd:(rows blkC S1.orph).getD u []=blkC (blkA S1.orph u):=bl_ (f:=blkC) blk0 hul
   change BlkU (blkA S1.orph u)at hbo
   generalize blkA S1.orph u=ob at *
   have e2:decide (0≤(u:Int))=true:=decide_eq_true (by omega)
   have hw1:IntKind.i64.wrap ((u:Int)+1)=((u+1:Nat):Int):=ah_ (by omega) (by omega)
   have ht1:List.take u (rows blkC S1.orph)=rows blkC (S1.orph.take u):=ie_ _ _ _
   have ht2:List.drop (u+1) (rows blkC S1.orph)=rows blkC (S1.orph.drop (u+1)):=if_ _ _ _
   have ht3:rows blkC (S1.orph.take u)++rows blkC (S1.orph.drop (u+1))=rows blkC (takeO S1.orph u):=oz_ _ _ _
   have ht4:(S1.orph.take u).length+(S1.orph.drop (u+1)).length=(takeO S1.orph u).length:=by unfold takeO;rw[List.length_append]
   have ht5:List.take (S1.orph.length-(u+1)) (rows blkC (S1.orph.drop (u+1)))=rows blkC (S1.orph.drop (u+1)):=List.take_of_length_le (by simp)
   have hlo:(takeO S1.orph u).length≤3:=h2.oo
   have hoo:=hi.oo
   have c1:=ug_ (withO S1 (takeO S1.orph u)) ob h2.r
   have c2:=fun hc=>xu_ (withO S1 (takeO S1.orph u)) ob h2.r (h2.insN hc hbo).r
   have c3:=sj_ (withO S1 (takeO S1.orph u)) h2.r
   unfold withO at c1 c2 c3
   dsimp only at c1 c2 c3
   have ht6:List.take (takeO S1.orph u).length (rows blkC (takeO S1.orph u))=rows blkC (takeO S1.orph u):=List.take_of_length_le (by simp)
   have hsn:rows rtc L++[rtc ob.root]=rows rtc (L++[ob.root]):=bn_ rtc L ob.root
   have hT0:takeO S1.orph u=takeO S1.orph u:=rfl
   cases o with
   | true =>
     show Tri _ _ _ _ _ ⟨_,setL [(9,.hs 32 3 0 L.length),(10,_),(11,.dead)] _,[]⟩ [.var (stoC S1.a),.var (blkC b),.var (stoC sto0),.vec 32 (rows rtc L)]
     (try simp only[as_,av_,List.set_cons_zero,List.set_cons_succ])
     repeat(first | refine aa_ ?_ | simp only[go_sem,e2])
     refine ac_ ?_
     repeat(first | refine aa_ ?_ | simp only[go_sem,hgd,hw1,ht1,ht2,ht3,ht4,ht5])
     refine ocall [6] (c1) evd (Picks.mk' (by simp) evd) ?_;refine evg ?_
     try refine aa_ ?_
     by_cases hc:checkB (withO S1 (takeO S1.orph u)) ob=0
     · have e3:(checkB (withO S1 (takeO S1.orph u)) ob==0)=true:=by simp[hc]
       rw[if_pos hc]at hwr
       rw[hwr]at hR hro hI
       dsimp only at hR hro hI
       have c4:=c2 hc
       have c5:=ed_ _ hI.r
       unfold withO at e3
       change ACall _ _ _ _ (.agg (stoC (insS (withO S1 (takeO S1.orph u)) ob).a)) _ at c4
       generalize insS (withO S1 (takeO S1.orph u)) ob=S3 at *
       repeat(first | refine aa_ ?_ | simp only[go_sem,e3])
       refine ac_ ?_
       try refine aa_ ?_
       refine ocall [6] (c4) evd (Picks.mk' (by simp) evd) ?_;refine evg ?_
       repeat(first | refine aa_ ?_ | simp only[go_sem,hsn])
       refine pcall c5 ?_
       try refine aa_ ?_
       refine⟨((S3,L++[ob.root]),true),⟨hI,hR,by simp only[List.length_append,List.length_cons,List.length_nil];omega⟩,by dsimp only;omega,?_⟩
       (try simp only[rndV,rndS,if_true,if_false,Bool.false_eq_true,withO])
       refine GC.mk' [] [0,1,2,7] (by simp) rfl (by simp) (by simp) evd evd
     · have e3:(checkB (withO S1 (takeO S1.orph u)) ob==0)=false:=by simp[hc]
       rw[if_neg hc]at hwr
       rw[hwr]at hR hro hI
       dsimp only at hR hro hI
       unfold withO at e3
       repeat(first | refine aa_ ?_ | simp only[go_sem,e3])
       refine ab_ ?_
       try refine aa_ ?_
       refine ocall [6] (c3) evd (Picks.mk' (by simp) evd) ?_;refine evg ?_
       try refine aa_ ?_
       refine⟨((withO S1 (takeO S1.orph u),L),true),⟨hI,hR,by dsimp only;omega⟩,by dsimp only;omega,?_⟩
       (try simp only[rndV,rndS,if_true,if_false,Bool.false_eq_true,withO])
       refine GC.mk' [6] [0,1,2,3] (by simp) rfl (by simp) (by simp) (by(try simp only[go_sem,Nat.reduceAdd,Nat.reduceSub,Nat.reduceMul,Nat.reduceLT,Nat.reduceLeDiff,Nat.reduceEqDiff,reduceIte,Int.reduceToNat,Int.reduceLT,Int.reduceLE,Int.reduceEq,Int.reduceNeg,reduceCtorEq,Int.reduceBEq,Int.reduceBNe,ht6]);all_goals first | rfl | exact⟨rfl,rfl⟩) (by(try simp only[go_sem,Nat.reduceAdd,Nat.reduceSub,Nat.reduceMul,Nat.reduceLT,Nat.reduceLeDiff,Nat.reduceEqDiff,reduceIte,Int.reduceToNat,Int.reduceLT,Int.reduceLE,Int.reduceEq,Int.reduceNeg,reduceCtorEq,Int.reduceBEq,Int.reduceBNe,ht6]);all_goals rfl)
   | false =>
     show Tri _ _ _ _ _ ⟨_,setL [(9,.sl 32 true (rows rtc L)),(10,_),(11,.dead)] _,[]⟩ [.var (stoC S1.a),.var (blkC b),.var (stoC sto0)]
     (try simp only[as_,av_,List.set_cons_zero,List.set_cons_succ])
     repeat(first | refine aa_ ?_ | simp only[go_sem,e2])
     refine ac_ ?_
     repeat(first | refine aa_ ?_ | simp only[go_sem,hgd,hw1,ht1,ht2,ht3,ht4,ht5])
     refine ocall [5] (c1) evd (Picks.mk' (by simp) evd) ?_;refine evg ?_
     try refine aa_ ?_
     by_cases hc:checkB (withO S1 (takeO S1.orph u)) ob=0
     · have e3:(checkB (withO S1 (takeO S1.orph u)) ob==0)=true:=by simp[hc]
       rw[if_pos hc]at hwr
       rw[hwr]at hR hro hI
       dsimp only at hR hro hI
       have c4:=c2 hc
       have c5:=ed_ _ hI.r
       unfold withO at e3
       change ACall _ _ _ _ (.agg (stoC (insS (withO S1 (takeO S1.orph u)) ob).a)) _ at c4
       generalize insS (withO S1 (takeO S1.orph u)) ob=S3 at *
       repeat(first | refine aa_ ?_ | simp only[go_sem,e3])
       refine ac_ ?_
       try refine aa_ ?_
       refine ocall [5] (c4) evd (Picks.mk' (by simp) evd) ?_;refine evg ?_
       repeat(first | refine aa_ ?_ | simp only[go_sem,hsn])
       refine pcall c5 ?_
       try refine aa_ ?_
       refine⟨((S3,L++[ob.root]),true),⟨hI,hR,by simp only[List.length_append,List.length_cons,List.length_nil];omega⟩,by dsimp only;omega,?_⟩
       (try simp only[rndV,rndS,if_true,if_false,Bool.false_eq_true,withO])
       refine GC.mk' [] [0,1,2,6] (by simp) rfl (by simp) (by simp) evd evd
     · have e3:(checkB (withO S1 (takeO S1.orph u)) ob==0)=false:=by simp[hc]
       rw[if_neg hc]at hwr
       rw[hwr]at hR hro hI
       dsimp only at hR hro hI
       unfold withO at e3
       repeat(first | refine aa_ ?_ | simp only[go_sem,e3])
       refine ab_ ?_
       try refine aa_ ?_
       refine ocall [5] (c3) evd (Picks.mk' (by simp) evd) ?_;refine evg ?_
       try refine aa_ ?_
       refine⟨((withO S1 (takeO S1.orph u),L),false),⟨hI,hR,by dsimp only;omega⟩,by dsimp only;omega,?_⟩
       (try simp only[rndV,rndS,if_true,if_false,Bool.false_eq_true,withO])
       refine GC.mk' [5] [0,1,2] (by simp) rfl (by simp) (by simp) (by(try simp only[go_sem,Nat.reduceAdd,Nat.reduceSub,Nat.reduceMul,Nat.reduceLT,Nat.reduceLeDiff,Nat.reduceEqDiff,reduceIte,Int.reduceToNat,Int.reduceLT,Int.reduceLE,Int.reduceEq,Int.reduceNeg,reduceCtorEq,Int.reduceBEq,Int.reduceBNe,ht6]);all_goals first | rfl | exact⟨rfl,rfl⟩) (by(try simp only[go_sem,Nat.reduceAdd,Nat.reduceSub,Nat.reduceMul,Nat.reduceLT,Nat.reduceLeDiff,Nat.reduceEqDiff,reduceIte,Int.reduceToNat,Int.reduceLT,Int.reduceLE,Int.reduceEq,Int.reduceNeg,reduceCtorEq,Int.reduceBEq,Int.reduceBNe,ht6]);all_goals rfl)
theorem yv_ {fr:Fr}{σ:St}{rs:List ARes}{l:List AV}{n:Int}(hl:resVal fr σ rs=some l) (hv:fz σ (List.range σ.length) (resAV l)=.tup [.agg (stoC sto0),.sl 0 true [],.int .i64 n]):PQ rs (.tup [.agg (stoC vsto0.a),.sl 32 false (rows rtc []),.int .i64 n]) .ret fr σ:=
 ⟨l,hl,.inr ⟨_,hv,(by simp[PuL,Pu,PuLL,sto0,stoC,bq_,dA_,bg_,cI_,cH_,cfg0,cfgC,cp0]),Wk.tup ⟨tt_,Wk.empty _ _ _,Wk.refl _,trivial⟩⟩⟩
theorem xx_ (s:VSto) (m:Nat) (h:InvS s m) (b:Blk) (hb:BlkU b):PC Tryz.prog 135 [.agg (stoC s.a),.agg (blkC b)] (.tup [.agg (stoC (blockS s b).1.a),.sl 32 false (rows rtc (blockS s b).2.1),.int .i64 (blockS s b).2.2]):=by
 have tl:=DX_
 refine PC.fact 12 qu_ (by simp) puA ⟨(blockS s b).1.pul,cQ_ _,trivial,trivial⟩ ?_
 have hc:aE_=.seq aE_.hd (.seq (aE_.tl 1).hd (.seq (aE_.tl 2).hd (.seq (aE_.tl 3).hd (.seq (aE_.tl 4).hd (.seq (aE_.tl 5).hd (.seq (aE_.tl 6).hd (aE_.tl 7))))))):=rfl
 rw[hc];clear hc
 generalize aE_.tl 7=cT at *
 unfold aE_;refine bd ?_
 simp only[ACode.tl,ACode.hd]
 have c1:=lN_ s b h.r
 have hoo:=h.oo
 unfold blockS
 by_cases q1:checkB s b=10
 · rw[if_pos q1]
   rw[q1]at c1
   have hlo:=h.cfg.lo
   by_cases q2:s.cfg.lim.orph≤s.orph.length
   · have e1:decide ((s.orph.length:Int) ≥ s.cfg.lim.orph)=true:=decide_eq_true q2
     have e2:decide (s.cfg.lim.orph≤(s.orph.length:Int))=true:=decide_eq_true q2
     rw[if_pos q2]
     try refine aa_ ?_
     refine pcall c1 ?_
     try refine aa_ ?_
     refine ac_ ?_
     repeat(first | refine aa_ ?_ | simp only[go_sem,e1,e2])
     refine ac_ ?_
     try refine aa_ ?_
     exact yv_ (by first | rfl | exact evd) (by first | rfl | exact evd)
   · have e1:decide ((s.orph.length:Int) ≥ s.cfg.lim.orph)=false:=decide_eq_false q2
     have e2:decide (s.cfg.lim.orph≤(s.orph.length:Int))=false:=decide_eq_false q2
     have hsn:rows blkC s.orph++[blkC (noT b)]=rows blkC (s.orph++[noT b]):=bn_ blkC s.orph (noT b)
     have ht:∀ l:List Blk,List.take l.length (rows blkC l)=rows blkC l:=fun l=>List.take_of_length_le (by simp)
     have ht2:List.take (s.orph.length+1) (rows blkC (s.orph++[noT b]))=rows blkC (s.orph++[noT b]):=List.take_of_length_le (by simp)
     have hno:blkC { pul:=b.pul,slot:=b.slot,root:=b.root,parent:=b.parent,payload:=b.payload,diff:=b.diff,pdiff:=b.pdiff,just:=b.just,fin:=b.fin,timely:=false }=blkC (noT b):=rfl
     rw[if_neg q2]
     try refine aa_ ?_
     refine pcall c1 ?_
     try refine aa_ ?_
     refine ac_ ?_
     repeat(first | refine aa_ ?_ | simp only[go_sem,e1,e2])
     refine ab_ ?_
     repeat(first | refine aa_ ?_ | simp only[go_sem,hno,hsn,ht])
     refine⟨_,(by first | rfl | exact evd),.inr ⟨.tup [.agg (stoC (withO s (s.orph++[noT b])).a),.sl 0 true [],.int .i64 0],?_,⟨(withO s (s.orph++[noT b])).pul,trivial,trivial,trivial⟩,Wk.tup ⟨Wk.refl _,Wk.empty _ _ _,Wk.refl _,trivial⟩⟩⟩
     (try simp only[go_sem,Nat.reduceAdd,Nat.reduceSub,Nat.reduceMul,Nat.reduceLT,Nat.reduceLeDiff,Nat.reduceEqDiff,reduceIte,Int.reduceToNat,Int.reduceLT,Int.reduceLE,Int.reduceEq,Int.reduceNeg,reduceCtorEq,Int.reduceBEq,Int.reduceBNe,ht2])
     all_goals rfl
 rw[if_neg q1]
 have n1:(checkB s b==10)=false:=by simp[q1]
 by_cases q2:checkB s b=0
 case neg=>
   rw[if_pos q2]
   have e1:(checkB s b != 0)=true:=by simp[q2]
   generalize checkB s b=E at *
   try refine aa_ ?_
   refine pcall c1 ?_
   repeat(first | refine aa_ ?_ | simp only[go_sem,n1])
   refine ab_ ?_
   repeat(first | refine aa_ ?_ | simp only[go_sem,e1])
   refine ac_ ?_
   try refine aa_ ?_
   exact yv_ (by first | rfl | exact evd) (by first | rfl | exact evd)
 rw[if_neg (by simp[q2])]
 have hI:=h.insN q2 hb
 have hins:=h.ins q2 hb
 have c2:=rX_ s b h.r hI.r
 have hor:=qS_ s b
 rw[q2]at c1
 clear n1 q1 q2 hI
 have hBI:blockI s b=if b.timely=true∧b.slot=s.now∧s.boost=rt0 then withB (insS s b) b.root else insS s b:=rfl
 obtain⟨B,hB,hBI2⟩:∃ B:Bool,(B=true↔(b.timely=true∧b.slot=s.now∧s.boost=rt0))∧blockI s b=if B=true then withB (insS s b) b.root else insS s b:=by
   by_cases q:b.timely=true∧b.slot=s.now∧s.boost=rt0
   · exact⟨true,by simp[q],by rw[hBI,if_pos q,if_pos rfl]⟩
   · exact⟨false,by simp[q],by rw[hBI,if_neg q,if_neg (by simp)]⟩
 rw[hBI2]
 clear hBI hBI2
 generalize insS s b=S at *
 have key:∀ (ts:List (Nat × AV)),Tri Tryz.prog 108 0 (.seq ((aE_.tl 5).hd) (.seq (aE_.tl 6).hd cT)) (PQ [.cell 4 true 150,.tmp 5,.tmp 6] (.tup [.agg (stoC (waitG ((if B=true then withB S b.root else S).orph.length+1) ((if B=true then withB S b.root else S),[b.root])).1.a),.sl 32 false (rows rtc (waitG ((if B=true then withB S b.root else S).orph.length+1) ((if B=true then withB S b.root else S),[b.root])).2),.int .i64 0]))
     ⟨12,[.agg (stoC s.a),.agg (blkC b),.ptr 0 0,.ptr 1 0,.ptr 2 0,.sl 0 true [],.int .i64 0,.int .i64 0,.bool B,.dead,.dead,.dead],ts⟩ [.var (stoC s.a),.var (blkC b),.var (stoC sto0)]:=by
   intro ts
   unfold aE_;refine bd ?_
   simp only[ACode.tl,ACode.hd]
   try refine aa_ ?_
   refine pcall c2 ?_
   try refine aa_ ?_
   cases B with
   | true =>
     have t2:=tl (withB S b.root) m (hins.withB _) b hb (by show S.orph.length≤3;omega) _ rfl
     refine ac_ ?_
     try refine aa_ ?_
     (try simp only[if_true])
     refine ck_ ?_ t2
     unfold withB
     refine GC.mk' [] [0,1,2] (by simp) rfl (by simp) (by simp) evd evd
   | false =>
     have t2:=tl S m hins b hb (by omega) _ rfl
     refine ab_ ?_
     try refine aa_ ?_
     (try simp only[Bool.false_eq_true,if_false])
     refine ck_ ?_ t2
     refine GC.mk' [] [0,1,2] (by simp) rfl (by simp) (by simp) evd evd
 unfold aE_ at key;dsimp only[om,oo,on,omg,og,ong,ci,cu,cb,cf,fA,lA,lF,bI,bC,sO,eX,lN,iX,kA,kB,kC]at key
 simp only[ACode.tl,ACode.hd]at key
 clear tl c2 hins hor
 try refine aa_ ?_
 refine pcall c1 ?_
 try refine aa_ ?_
 refine ab_ ?_
 try refine aa_ ?_
 refine ab_ ?_
 refine jm_ ?_
 refine gq_ ?_
 cases h1:b.timely with
 | false =>
   obtain rfl:B=false:=by rw[← Bool.not_eq_true,hB,h1];simp
   repeat(first | refine jm_ ?_ | simp only[go_sem,h1])
   exact key _
 | true =>
   by_cases h2:b.slot=s.now
   · have e2:(b.slot==s.now)=true:=by simp[h2]
     by_cases h3:s.boost=rt0
     · have e3:decide (s.boost=rt0)=true:=decide_eq_true h3
       obtain rfl:B=true:=hB.2 ⟨h1,h2,h3⟩
       repeat(first | refine jm_ ?_ | simp only[go_sem,h1,e2,e3])
       exact key _
     · have e3:decide (s.boost=rt0)=false:=decide_eq_false h3
       obtain rfl:B=false:=by rw[← Bool.not_eq_true,hB];exact fun h=>h3 h.2.2
       repeat(first | refine jm_ ?_ | simp only[go_sem,h1,e2,e3])
       exact key _
   · have e2:(b.slot==s.now)=false:=by simp[h2]
     obtain rfl:B=false:=by rw[← Bool.not_eq_true,hB];exact fun h=>h2 h.2.1
     repeat(first | refine jm_ ?_ | simp only[go_sem,h1,e2])
     exact key _

theorem vy_ {s:VSto}{a:VAtt}(h:(checkA s a).2=0):∀ j ∈ a.vals,0≤j∧j<s.cfg.bals.length:=fun j hjm=>by
 have hv:vErr a.vals s.cfg.bals.length=0:=by
   unfold checkA at h
   split at h
   · rename_i h1;exact absurd h h1
   · rename_i h1;simpa using h1
 obtain⟨u,hm,rfl⟩:=List.getElem_of_mem hjm
 have:=(dd_ hv).2 u hm
 rw[List.getD_eq_getElem?_getD,List.getElem?_eq_getElem hm,Option.getD_some]at this
 omega
theorem Dc_ (s:VSto) (m:Nat) (h:InvS s m) (a:VAtt) (ha:a.vals.length≤1000000):PC Tryz.prog 137 [.agg (stoC s.a),.agg (attC a.a)] (.tup [.agg (stoC (attS s a).1.a),.int .i64 (attS s a).2]):=by
 refine PC.fact 9 oF_ (by simp) puA puA ?_
 unfold hf_;refine bd ?_
 have c1:=lM_ s a h.r ha
 have c2:=fun(hz:(checkA s a).2=0)=>uy_ s a h.r ha (fun j hj=>by have:=vy_ hz j hj;have:=h.ll;omega)
 have haa:=h.aa
 unfold attS
 generalize hC:checkA s a=C at *
 obtain⟨C1,C2⟩:=C
 dsimp only at c1 c2 ⊢
 by_cases q1:C2=0
 case neg=>
   have e1:(C2 != 0)=true:=by simp[q1]
   rw[if_pos q1]
   try refine aa_ ?_
   refine pcall c1 ?_
   repeat(first | refine aa_ ?_ | simp only[go_sem,e1])
   refine ac_ ?_
   try refine aa_ ?_
   exact hV_ (by first | rfl | exact evd) (by first | rfl | exact evd)
 subst q1
 rw[if_neg (by simp)]
 cases C1 with
 | false =>
   have c3:=c2 rfl
   try refine aa_ ?_
   refine pcall c1 ?_
   try refine aa_ ?_
   refine ab_ ?_
   try refine aa_ ?_
   refine ac_ ?_
   try refine aa_ ?_
   refine pcall c3 ?_
   try refine aa_ ?_
   (try simp only[if_true])
   exact fin0
 | true =>
   rw[if_neg (by simp)]
   by_cases q2:s.cfg.lim.early≤s.early.length
   · have e2:decide (s.cfg.lim.early≤(s.early.length:Int))=true:=decide_eq_true q2
     have e3:decide ((s.early.length:Int) ≥ s.cfg.lim.early)=true:=decide_eq_true q2
     rw[if_pos q2]
     try refine aa_ ?_
     refine pcall c1 ?_
     try refine aa_ ?_
     refine ab_ ?_
     try refine aa_ ?_
     refine ab_ ?_
     repeat(first | refine aa_ ?_ | simp only[go_sem,e2,e3])
     refine ac_ ?_
     try refine aa_ ?_
     exact hV_ (by first | rfl | exact evd) (by first | rfl | exact evd)
   · have e2:decide (s.cfg.lim.early≤(s.early.length:Int))=false:=decide_eq_false q2
     have e3:decide ((s.early.length:Int) ≥ s.cfg.lim.early)=false:=decide_eq_false q2
     have hsn:rows VAtt.c s.early++[attC a.a]=rows VAtt.c (s.early++[a]):=bn_ VAtt.c s.early a
     have ht:List.take (s.early.length+1) (rows VAtt.c (s.early++[a]))=rows VAtt.c (s.early++[a]):=List.take_of_length_le (by simp)
     have ht2:List.take s.early.length (rows VAtt.c s.early)=rows VAtt.c s.early:=List.take_of_length_le (by simp)
     have ht3:List.take a.vals.length (nums .i64 a.vals)=nums .i64 a.vals:=List.take_of_length_le (by simp)
     rw[if_neg q2]
     try refine aa_ ?_
     refine pcall c1 ?_
     try refine aa_ ?_
     refine ab_ ?_
     try refine aa_ ?_
     refine ab_ ?_
     repeat(first | refine aa_ ?_ | simp only[go_sem,e2,e3])
     refine ab_ ?_
     refine jm_ ?_
     refine gq_ ?_
     repeat(first | refine jm_ ?_ | simp only[go_sem,ht2])
     refine ck_ (fr2:=⟨9,[.dead,.dead,.ptr 0 0,.ptr 1 0,.ptr 2 0,.int .i64 0,.dead,.dead,.dead],[]⟩) (σ2:=[.var (stoC s.a),.var (attC a.a),.var (stoC sto0)]) (GC.mk' [3] [0,1,2] (by simp) rfl (by simp) (by simp) (by(try simp only[go_sem,Nat.reduceAdd,Nat.reduceSub,Nat.reduceMul,Nat.reduceLT,Nat.reduceLeDiff,Nat.reduceEqDiff,reduceIte,Int.reduceToNat,Int.reduceLT,Int.reduceLE,Int.reduceEq,Int.reduceNeg,reduceCtorEq,Int.reduceBEq,Int.reduceBNe,ht3]);all_goals first | rfl | exact⟨rfl,rfl⟩) (by(try simp only[go_sem,Nat.reduceAdd,Nat.reduceSub,Nat.reduceMul,Nat.reduceLT,Nat.reduceLeDiff,Nat.reduceEqDiff,reduceIte,Int.reduceToNat,Int.reduceLT,Int.reduceLE,Int.reduceEq,Int.reduceNeg,reduceCtorEq,Int.reduceBEq,Int.reduceBNe,ht3]);all_goals rfl)) ?_
     repeat(first | refine aa_ ?_ | simp only[go_sem,hsn,ht2])
     refine⟨_,(by first | rfl | exact evd),.inl ?_⟩
     (try simp only[go_sem,Nat.reduceAdd,Nat.reduceSub,Nat.reduceMul,Nat.reduceLT,Nat.reduceLeDiff,Nat.reduceEqDiff,reduceIte,Int.reduceToNat,Int.reduceLT,Int.reduceLE,Int.reduceEq,Int.reduceNeg,reduceCtorEq,Int.reduceBEq,Int.reduceBNe,ht])
     all_goals rfl
theorem Df_ (s:VSto) (m:Nat) (h:InvS s m) (t:VTab) (ht:t.bals.length≤1000000):PC Tryz.prog 139 [.agg (stoC s.a),.agg (tabC t.a)] (.tup [.agg (stoC (regS s t).1.a),.int .i64 (regS s t).2]):=by
 refine PC.fact 9 kS_ (by simp) puA puA ?_
 unfold fZ_;refine bd ?_
 have c0:=lr_ s
 have c1:=lf_ t s.cfg.bals.length ht
 have c2:=ue_ s.tabs t s.cfg.bals.length s.cfg.lim.table h.r.bt ht
 unfold regS
 generalize vtabE t s.cfg.bals.length=V at *
 generalize regTab s.tabs t s.cfg.bals.length s.cfg.lim.table=T at *
 obtain⟨T1,T2⟩:=T
 dsimp only at c2 ⊢
 by_cases q1:V=0
 case neg=>
   have e1:(V != 0)=true:=by simp[q1]
   rw[if_pos q1]
   try refine aa_ ?_
   refine dpcall (c0) ?_
   try refine aa_ ?_
   refine dpcall (c1) ?_
   repeat(first | refine aa_ ?_ | simp only[go_sem,e1])
   refine ac_ ?_
   try refine aa_ ?_
   exact hV_ (by first | rfl | exact evd) (by first | rfl | exact evd)
 subst q1
 rw[if_neg (by simp)]
 by_cases q2:t.cp.ep<s.j.ep
 · have e2:decide (t.cp.ep<s.j.ep)=true:=decide_eq_true q2
   rw[if_pos q2]
   try refine aa_ ?_
   refine dpcall (c0) ?_
   try refine aa_ ?_
   refine dpcall (c1) ?_
   try refine aa_ ?_
   refine ab_ ?_
   repeat(first | refine aa_ ?_ | simp only[go_sem,e2])
   refine ac_ ?_
   try refine aa_ ?_
   exact hV_ (by first | rfl | exact evd) (by first | rfl | exact evd)
 have e2:decide (t.cp.ep<s.j.ep)=false:=decide_eq_false q2
 rw[if_neg q2]
 by_cases q3:T2=0
 case neg=>
   have e3:(T2 != 0)=true:=by simp[q3]
   rw[if_pos q3]
   try refine aa_ ?_
   refine dpcall (c0) ?_
   try refine aa_ ?_
   refine dpcall (c1) ?_
   try refine aa_ ?_
   refine ab_ ?_
   repeat(first | refine aa_ ?_ | simp only[go_sem,e2])
   refine ab_ ?_
   try refine aa_ ?_
   refine dpcall (c0) ?_
   try refine aa_ ?_
   refine dpcall (c2) ?_
   repeat(first | refine aa_ ?_ | simp only[go_sem,e3])
   refine ac_ ?_
   try refine aa_ ?_
   exact hV_ (by first | rfl | exact evd) (by first | rfl | exact evd)
 subst q3
 rw[if_neg (by simp)]
 try refine aa_ ?_
 refine dpcall (c0) ?_
 try refine aa_ ?_
 refine dpcall (c1) ?_
 try refine aa_ ?_
 refine ab_ ?_
 repeat(first | refine aa_ ?_ | simp only[go_sem,e2])
 refine ab_ ?_
 try refine aa_ ?_
 refine dpcall (c0) ?_
 try refine aa_ ?_
 refine dpcall (c2) ?_
 try refine aa_ ?_
 refine ab_ ?_
 try refine aa_ ?_
 exact fin0
theorem ww_ (s:VSto) (m:Nat) (h:InvS s m) (x:VSlg) (h1:x.fst.vals.length≤100) (h2:x.snd.vals.length≤100):PC Tryz.prog 138 [.agg (stoC s.a),.agg (slgC x.a)] (.tup [.agg (stoC (slashS s x).1.a),.int .i64 (slashS s x).2]):=by
 refine PC.fact 9 pC_ (by simp) puA puA ?_
 unfold iE_;refine bd ?_
 have c0:=lr_ s
 have c1:=wf_ x.a x.fst.vals x.snd.vals false false s.cfg.bals.length rfl rfl h1 h2
 have c2:=oh_ x.a x.fst.vals x.snd.vals false false rfl rfl h1 h2
 have hcl:(culR x.fst.vals x.snd.vals x.fst.vals.length).length≤x.fst.vals.length:=kM_ _ _ _
 have hqq:=h.qq
 have hii:=h.ii
 have c3:=uQ_ s.eqv (culR x.fst.vals x.snd.vals x.fst.vals.length) (by omega)
 unfold slashS
 generalize evE x.a x.fst.vals x.snd.vals s.cfg.bals.length=V at *
 generalize culR x.fst.vals x.snd.vals x.fst.vals.length=C at *
 generalize punT s.eqv C=U at *
 generalize IntKind.i64.wrap ((U.length:Int)-s.eqv.length)=N at *
 by_cases q1:V=0
 case neg=>
   have e1:(V != 0)=true:=by simp[q1]
   rw[if_pos q1]
   try refine aa_ ?_
   refine dpcall (c0) ?_
   try refine aa_ ?_
   refine dpcall (c1) ?_
   repeat(first | refine aa_ ?_ | simp only[go_sem,e1])
   refine ac_ ?_
   try refine aa_ ?_
   exact hV_ (by first | rfl | exact evd) (by first | rfl | exact evd)
 subst q1
 rw[if_neg (by simp)]
 by_cases q2:N=0
 · have e2:(N==0)=true:=by simp[q2]
   rw[if_pos q2]
   try refine aa_ ?_
   refine dpcall (c0) ?_
   try refine aa_ ?_
   refine dpcall (c1) ?_
   try refine aa_ ?_
   refine ab_ ?_
   try refine aa_ ?_
   refine dpcall (c2) ?_
   try refine aa_ ?_
   refine dpcall (c3) ?_
   repeat(first | refine aa_ ?_ | simp only[go_sem,e2])
   refine ac_ ?_
   try refine aa_ ?_
   exact hV_ (by first | rfl | exact evd) (by first | rfl | exact evd)
 · have e2:(N==0)=false:=by simp[q2]
   rw[if_neg q2]
   try refine aa_ ?_
   refine dpcall (c0) ?_
   try refine aa_ ?_
   refine dpcall (c1) ?_
   try refine aa_ ?_
   refine ab_ ?_
   try refine aa_ ?_
   refine dpcall (c2) ?_
   try refine aa_ ?_
   refine dpcall (c3) ?_
   repeat(first | refine aa_ ?_ | simp only[go_sem,e2])
   refine ab_ ?_
   try refine aa_ ?_
   exact fin0
end Go.Proofs.YtipiipgpnkpejaaGreat
