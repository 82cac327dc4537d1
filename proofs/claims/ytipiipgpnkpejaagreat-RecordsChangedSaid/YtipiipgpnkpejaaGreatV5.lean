/-
 My texts Jf, Lk, Ll, Lm, Ln, Jg, Lo, Lp, joined.
-/
import Derived.Test.YtipiipgpnkpejaaGreatW3
import Derived.Test.YtipiipgpnkpejaaGreatV4
import Derived.Test.YtipiipgpnkpejaaGreatW6
import Derived.Test.YtipiipgpnkpejaaGreatW9
namespace Go.FH
set_option linter.unusedVariables false
open Go Go.RowKit

structure TreeR (t:List Nod):Prop where
 ok:TreeOk t
 pos:0<t.length
 root:(nod t 0).up<0
theorem bX_ {t:List Nod}(ht:TreeR t) {i x:Int}(hx:x ∈ kidsT t i):i<x∧0≤x∧x<t.length∧(nod t x.toNat).up=i:=by
 unfold kidsT at hx
 split at hx
 · rename_i hi
   simp[isN]at hi
   have:=dC_ (f:=fun k l=>if (nod t k).up=i then l++[(k:Int)]else l) (a:=([]:List Int)) (fun k l=>∀ x ∈ l,0≤x∧x<k∧(nod t x.toNat).up=i) (by simp) t.length (fun k l hk h x hx=>by
     split at hx
     · rename_i he
       rw[List.mem_append,List.mem_singleton]at hx
       rcases hx with hx | hx
       · obtain⟨h1,h2,h3⟩:=h x hx;exact⟨h1,by omega,h3⟩
       · subst hx;exact⟨by omega,by omega,by simpa using he⟩
     · obtain⟨h1,h2,h3⟩:=h x hx;exact⟨h1,by omega,h3⟩) t.length (Nat.le_refl _) x hx
   obtain⟨h1,h2,h3⟩:=this
   refine⟨?_,h1,h2,h3⟩
   obtain⟨u,rfl⟩:∃ u:Nat,x=u:=⟨_,(Int.toNat_of_nonneg h1).symm⟩
   simp only[Int.toNat_natCast]at h3
   by_cases h0:u=0
   · subst h0;have:=ht.root;omega
   · obtain⟨h4,h5⟩:=ht.ok u (by omega) (by omega);omega
 · simp at hx
theorem rv_ (t:List Nod) (i:Int):(kidsT t i).length≤t.length:=by
 unfold kidsT;split
 · have:=dM_ (f:=fun k l=>if (nod t k).up=i then l++[(k:Int)]else l) (a:=([]:List Int)) (fun k l=>by split<;>simp) t.length
   simpa using this
 · simp
def epochT (s:VSto) (slot:Int):Int:=IntKind.u64.wrap (Int.tdiv slot s.cfg.spe)
def sourceT (s:VSto) (i:Int):Cp:=if isN s.nodes i=true then (if epochT s (nod s.nodes i.toNat).blk.slot<epochT s s.now then (nod s.nodes i.toNat).blk.pul.j else (nod s.nodes i.toNat).blk.just)else cp0
def qualT (s:VSto) (i:Int):Bool:=isN s.nodes i&&decide ((nod s.nodes i.toNat).status≠2)&&(decide (s.j.ep=0) || decide ((sourceT s i).ep=s.j.ep) || decide (epochT s s.now≤(sourceT s i).ep) || decide (IntKind.u64.wrap (epochT s s.now-(sourceT s i).ep)≤2))
def liveG (s:VSto):Nat→Int→Bool
 | 0,_=>false
 | f+1,i=>qualT s i || (kidsT s.nodes i).any (liveG s f)
theorem km_ {s:VSto}(ht:TreeR s.nodes):∀ (n f g:Nat) (i:Int),(s.nodes.length:Int)-i<n→n≤f→n≤g→liveG s f i=liveG s g i
 | 0, f, g, i, h, _, _ => by
   have hn:isN s.nodes i=false:=by simp[isN];omega
   have hk:∀ f,liveG s f i=false:=fun f=>by
     cases f with
     | zero=>rfl
     | succ f=>simp[liveG,qualT,kidsT,hn]
   rw[hk,hk]
 | n + 1, f + 1, g + 1, i, h, h1, h2 => by
   simp only[liveG]
   congr 1
   rw[Bool.eq_iff_iff,List.any_eq_true,List.any_eq_true]
   constructor
   · rintro⟨x,hx,h3⟩
     have:=bX_ ht hx
     exact⟨x,hx,by rw[← km_ ht n f g x (by omega) (by omega) (by omega)];exact h3⟩
   · rintro⟨x,hx,h3⟩
     have:=bX_ ht hx
     exact⟨x,hx,by rw[km_ ht n f g x (by omega) (by omega) (by omega)];exact h3⟩
def liveT1 (s:VSto) (i:Int):Bool:=liveG s (s.nodes.length+2) i
theorem CZ_ {s:VSto}(ht:TreeR s.nodes) (i:Int) (h0:-1≤i):liveT1 s i=(qualT s i || (kidsT s.nodes i).any (liveT1 s)):=by
 show (qualT s i || (kidsT s.nodes i).any (liveG s (s.nodes.length+1)))=_
 congr 1
 rw[Bool.eq_iff_iff,List.any_eq_true,List.any_eq_true]
 constructor
 · rintro⟨x,hx,h3⟩
   have:=bX_ ht hx
   exact⟨x,hx,by unfold liveT1;rw[← km_ ht (s.nodes.length+1) (s.nodes.length+1) (s.nodes.length+2) x (by omega) (by omega) (by omega)];exact h3⟩
 · rintro⟨x,hx,h3⟩
   have:=bX_ ht hx
   exact⟨x,hx,by unfold liveT1 at h3;rw[km_ ht (s.nodes.length+1) (s.nodes.length+1) (s.nodes.length+2) x (by omega) (by omega) (by omega)];exact h3⟩
def liveS (s:VSto) (i:Nat) (l:List Bool):List Bool:=l++[liveT1 s i]
def liveT (s:VSto):List Bool:=upto (liveS s) [] s.nodes.length
theorem im_ (s:VSto):∀ n,(upto (liveS s) [] n).length=n
 | 0=>rfl
 | n+1=>by rw[aX_];unfold liveS;simp;exact im_ s n
def balT (s:VSto):List Int:=if findTab s.tabs s.j<0 then []else (tab s.tabs (findTab s.tabs s.j).toNat).bals
def weightsT (s:VSto):List Int:=subT s.nodes (boostedT s.nodes (directT s.nodes s.latest s.eqv (balT s)) s.boost (amountT s.cfg.spe s.cfg.boost (sumE (balT s)).1).1)
def bestS (t:List Nod) (w:List Int) (a:List Bool) (l:List Int) (k:Nat) (best:Int):Int:=
 if a.getD (l.getD k 0).toNat false=true∧(best<0∨w.getD best.toNat 0<w.getD (l.getD k 0).toNat 0∨(w.getD (l.getD k 0).toNat 0=w.getD best.toNat 0∧0<cmpR (nod t (l.getD k 0).toNat).blk.root (nod t best.toNat).blk.root))then l.getD k 0 else best
def bestT (t:List Nod) (w:List Int) (a:List Bool) (i:Int):Int:=upto (bestS t w a (kidsT t i)) (-1) (kidsT t i).length
theorem kK_ (t:List Nod) (w:List Int) (a:List Bool) (l:List Int):∀ n,n≤l.length→upto (bestS t w a l) (-1) n=-1∨upto (bestS t w a l) (-1) n ∈ l
 | 0,_=>.inl rfl
 | n + 1, h => by
   rw[aX_]
   have:=kK_ t w a l n (by omega)
   generalize upto (bestS t w a l) (-1) n=b at *
   unfold bestS
   split
   · right;rw[List.getD_eq_getElem?_getD,List.getElem?_eq_getElem (show n<l.length by omega)];exact List.getElem_mem _
   · exact this
def headG (t:List Nod) (w:List Int) (a:List Bool):Nat→Int→Int
 | 0,i=>i
 | f+1,i=>if bestT t w a i<0 then i else headG t w a f (bestT t w a i)
theorem uH_ {t:List Nod}(ht:TreeR t) (w:List Int) (a:List Bool):∀ (f:Nat) (i:Int),i<t.length→i≤headG t w a f i∧headG t w a f i<t.length
 | 0,i,h=>⟨Int.le_refl _,h⟩
 | f + 1, i, h => by
   unfold headG
   split
   · exact⟨Int.le_refl _,h⟩
   · rename_i hb
     rcases kK_ t w a (kidsT t i) _ (Nat.le_refl _)with h1 | h1
     · exact absurd (show bestT t w a i<0 by unfold bestT;rw[h1];decide) hb
     · have h2:=bX_ ht h1
       have h3:=uH_ ht w a f (bestT t w a i) h2.2.2.1
       have h4:i<bestT t w a i:=h2.1
       exact⟨by omega,h3.2⟩
theorem CO_ {t:List Nod}(ht:TreeR t) (w:List Int) (a:List Bool) (i:Int):bestT t w a i=-1∨(i<bestT t w a i∧0≤bestT t w a i∧bestT t w a i<t.length):=by
 rcases kK_ t w a (kidsT t i) _ (Nat.le_refl _)with h1 | h1
 · exact .inl h1
 · have h2:=bX_ ht h1
   exact .inr ⟨h2.1,h2.2.1,h2.2.2.1⟩
def headT (s:VSto):Int:=headG s.nodes (weightsT s) (liveT s) (s.nodes.length+1) (findT s.nodes s.j.rt)
def startS (s:VSto) (e:Int):Int × Bool:=((startE e s.cfg.spe).1,decide ((startE e s.cfg.spe).2=0))
def ordS (s:VSto) (b:Blk):Bool:=decide (b.fin.ep≤b.just.ep)&&decide (b.just.ep≤b.pul.j.ep)&&decide (b.fin.ep≤b.pul.f.ep)&&decide (b.pul.f.ep≤b.pul.j.ep)&&decide (b.pul.j.ep≤epochT s b.slot)
def fitC (s:VSto) (b:Blk) (p:Int) (c:Cp):Bool:=decide (c.ep≤s.f.ep) || (if (startS s c.ep).1<b.slot then decide (0≤atT s.nodes p (startS s c.ep).1)&&decide ((nod s.nodes (atT s.nodes p (startS s c.ep).1).toNat).blk.root=c.rt)else decide (b.root=c.rt))
def cps (b:Blk):List Cp:=[b.just,b.fin,b.pul.j,b.pul.f]
def fitsS (s:VSto) (b:Blk):Bool:=decide (0≤findT s.nodes b.parent)&&(ordS s b&&(fstN (fun k=>!fitC s b (findT s.nodes b.parent) ((cps b).getD k cp0)) 4).isNone)
def earlyS (s:VSto) (i e:Int):Bool:=!(startS s e).2 || decide ((nod s.nodes i.toNat).blk.slot≤(startS s e).1)
def maxC (a b:Cp):Cp:=if a.ep<b.ep then b else a
def mayS (s:VSto) (a b:Cp):Bool:=
 decide (0≤findT s.nodes a.rt)&&decide (0≤findT s.nodes b.rt)&&decide ((nod s.nodes (findT s.nodes a.rt).toNat).status≠2)&&decide ((nod s.nodes (findT s.nodes b.rt).toNat).status≠2)
 && earlyS s (findT s.nodes a.rt) a.ep&&earlyS s (findT s.nodes b.rt) b.ep&&ancT s.nodes (findT s.nodes b.rt) (findT s.nodes a.rt)&&decide (b.ep≤a.ep)&&decide (a.ep≤epochT s s.now)&&decide (0≤findTab s.tabs a)
def keepS (l:List Blk) (a:Int) (i:Nat) (o:List Blk):List Blk:=if a<(l.getD i blk0).slot then o++[l.getD i blk0]else o
def updS (s:VSto) (j f:Cp):VSto:=
 if mayS s (maxC s.j j) (maxC s.f f)=false then s
 else if maxC s.f f=s.f then ⟨s.cfg,s.latest,s.eqv,maxC s.j j,maxC s.f f,s.early,s.orph,s.nodes,s.now,s.boost,dropTabs s.tabs (maxC s.j j).ep⟩
 else ⟨s.cfg,s.latest,s.eqv,maxC s.j j,maxC s.f f,s.early,upto (keepS s.orph (startS s (maxC s.f f).ep).1) [] s.orph.length,(pruneT s.nodes (findT s.nodes (maxC s.f f).rt)).1,s.now,
   if findT (pruneT s.nodes (findT s.nodes (maxC s.f f).rt)).1 s.boost<0 then rt0 else s.boost,dropTabs s.tabs (maxC s.j j).ep⟩
def pendR (t:List Nod) (i:Nat) (p:Pul × Bool):Pul × Bool:=
 if (nod t i).status=2 then p else (⟨if p.2=false∨p.1.j.ep<(nod t i).blk.pul.j.ep then (nod t i).blk.pul.j else p.1.j,if p.2=false∨p.1.f.ep<(nod t i).blk.pul.f.ep then (nod t i).blk.pul.f else p.1.f⟩,true)
def pendS (s:VSto):Pul:=(upto (pendR s.nodes) (pul0,false) s.nodes.length).1
def blkA (l:List Blk) (i:Nat):Blk:=l.getD i blk0
def knownS (s:VSto) (r:Rt):Bool:=(fstN (fun i=>decide ((blkA s.orph i).root=r)) s.orph.length).isSome || decide (0≤findT s.nodes r)
end Go.FH
namespace Go.Proofs.YtipiipgpnkpejaaGreat
open Go Go.FH Go.RowKit
set_option linter.unusedVariables false
set_option linter.unusedSimpArgs false

theorem bQ_ (s:VSto) (n:Int) (h0:s.cfg.spe≠0):PC Tryz.prog 172 [.agg (stoC s.a),.int .u64 n] (.int .u64 (epochT s n)):=by
 refine PC.fact 5 pm_ (by simp) puA puA ?_
 unfold iT_;refine bd ?_
 have e0:(s.cfg.spe==0)=false:=by simpa using h0
 unfold epochT
 repeat(first | refine aa_ ?_ | simp only[go_sem,e0,h0])
 exact fin0
theorem us_ (s:VSto) (n:Int):PC Tryz.prog 211 [.agg (stoC s.a),.int .i64 n] (.bool (isN s.nodes n)):=by
 refine PC.fact 5 wh_ (by simp) puA puA ?_
 unfold nr_;refine bd ?_
 unfold isN
 by_cases h0:0≤n
 · have e0:decide (n ≥ 0)=true:=decide_eq_true h0
   have e1:decide (0≤n)=true:=decide_eq_true h0
   repeat(first | refine aa_ ?_ | simp only[go_sem,e0,e1])
   exact fin0
 · have e0:decide (n ≥ 0)=false:=decide_eq_false h0
   have e1:decide (0≤n)=false:=decide_eq_false h0
   repeat(first | refine aa_ ?_ | simp only[go_sem,e0,e1])
   exact fin0
theorem vd_ (s:VSto) (n:Int) (h0:s.cfg.spe≠0):PC Tryz.prog 212 [.agg (stoC s.a),.int .i64 n] (.agg (cpC (sourceT s n))):=by
 refine PC.fact 6 of_ (by simp) puA puA ?_
 unfold hM_;refine bd ?_
 have c1:=us_ s n
 have c2:=bQ_ s (nod s.nodes n.toNat).blk.slot h0
 have c3:=bQ_ s s.now h0
 unfold sourceT
 try refine aa_ ?_
 refine pcall c1 ?_
 cases h1:isN s.nodes n with
 | false =>
   rw[if_neg (by simp)]
   try refine aa_ ?_
   refine ac_ ?_
   try refine aa_ ?_
   exact fin0
 | true =>
   rw[if_pos rfl]
   have h2:=h1
   simp[isN]at h2
   have hgd:=aW_ (t:=s.nodes) (i:=n.toNat) (by omega)
   try refine aa_ ?_
   refine ab_ ?_
   repeat(first | refine aa_ ?_ | simp only[go_sem,hgd])
   refine dpcall (c2) ?_
   try refine aa_ ?_
   refine dpcall (c3) ?_
   try refine aa_ ?_
   by_cases h3:epochT s (nod s.nodes n.toNat).blk.slot<epochT s s.now
   · rw[if_pos h3]
     have e3:decide (epochT s (nod s.nodes n.toNat).blk.slot<epochT s s.now)=true:=decide_eq_true h3
     repeat(first | refine aa_ ?_ | simp only[go_sem,e3])
     refine ac_ ?_
     try refine aa_ ?_
     exact fin0
   · rw[if_neg h3]
     have e3:decide (epochT s (nod s.nodes n.toNat).blk.slot<epochT s s.now)=false:=decide_eq_false h3
     repeat(first | refine aa_ ?_ | simp only[go_sem,e3])
     refine ab_ ?_
     try refine aa_ ?_
     exact fin0
theorem AG_ (s:VSto) (n:Int) (h0:s.cfg.spe≠0):PC Tryz.prog 207 [.agg (stoC s.a),.int .i64 n] (.bool (qualT s n)):=by
 refine PC.fact 6 kI_ (by simp) puA puA ?_
 unfold fd_;refine bd ?_
 have c1:=us_ s n
 have c2:=vd_ s n h0
 have c3:=bQ_ s s.now h0
 unfold qualT
 try refine aa_ ?_
 refine pcall c1 ?_
 cases h1:isN s.nodes n with
 | false =>
   try refine aa_ ?_
   refine ac_ ?_
   try refine aa_ ?_
   exact fin0
 | true =>
   have h2:=h1
   simp[isN]at h2
   have hgd:=aW_ (t:=s.nodes) (i:=n.toNat) (by omega)
   generalize sourceT s n=S at *
   by_cases h3:(nod s.nodes n.toNat).status=2
   · have e3:((nod s.nodes n.toNat).status==2)=true:=by simp[h3]
     have e4:decide ((nod s.nodes n.toNat).status≠2)=false:=by simp[h3]
     rw[e4]
     repeat(first | refine aa_ ?_ | simp only[go_sem,hgd,e3])
     refine ac_ ?_
     try refine aa_ ?_
     exact fin0
   · have e3:((nod s.nodes n.toNat).status==2)=false:=by simp[h3]
     have e4:decide ((nod s.nodes n.toNat).status≠2)=true:=by simp[h3]
     rw[e4]
     repeat(first | refine aa_ ?_ | simp only[go_sem,hgd,e3])
     refine ab_ ?_
     repeat(first | refine aa_ ?_ | simp only[go_sem,hgd])
     refine pcall c2 ?_
     try refine aa_ ?_
     by_cases k1:s.j.ep=0
     · have e5:(s.j.ep==0)=true:=by simp[k1]
       rw[decide_eq_true k1]
       repeat(first | refine aa_ ?_ | simp only[go_sem,e5])
       exact fin0
     have e5:(s.j.ep==0)=false:=by simp[k1]
     rw[decide_eq_false k1]
     by_cases k2:S.ep=s.j.ep
     · have e6:(S.ep==s.j.ep)=true:=by simp[k2]
       rw[decide_eq_true k2]
       repeat(first | refine aa_ ?_ | simp only[go_sem,e5,e6])
       exact fin0
     have e6:(S.ep==s.j.ep)=false:=by simp[k2]
     rw[decide_eq_false k2]
     repeat(first | refine aa_ ?_ | simp only[go_sem,e5,e6])
     refine pcall c3 ?_
     by_cases k3:epochT s s.now≤S.ep
     · have e7:decide (epochT s s.now≤S.ep)=true:=decide_eq_true k3
       rw[decide_eq_true k3]
       repeat(first | refine aa_ ?_ | simp only[go_sem,e7])
       exact fin0
     have e7:decide (epochT s s.now≤S.ep)=false:=decide_eq_false k3
     rw[decide_eq_false k3]
     repeat(first | refine aa_ ?_ | simp only[go_sem,e7])
     refine pcall c3 ?_
     try refine aa_ ?_
     exact fin0
theorem CG_ {α:Type}(p:α→Bool) (d:α) (l:List α) {i:Nat}(h:i<l.length):(l.drop i).any p=(p (l.getD i d) || (l.drop (i+1)).any p):=by
 rw[List.drop_eq_getElem_cons h,List.any_cons,List.getD_eq_getElem?_getD,List.getElem?_eq_getElem h];rfl
theorem rk_ (s:VSto) (i0:Int) (ih:∀ x ∈ kidsT s.nodes i0,PC Tryz.prog 194 [.agg (stoC s.a),.int .i64 x] (.bool (liveT1 s x))) (h0:s.cfg.spe≠0) (ht:TreeR s.nodes) (hb:s.nodes.length≤1000000) (hi0:0≤i0):PC Tryz.prog 194 [.agg (stoC s.a),.int .i64 i0] (.bool (liveT1 s i0)):=by
 refine PC.fact 7 sk_ (by simp) puA puA ?_
 unfold kE_;refine bd ?_
 have c1:=AG_ s i0 h0
 have c2:=rS_ s.nodes i0 hb
 have hl:=rv_ s.nodes i0
 rw[CZ_ ht i0 (by omega)]
 generalize kidsT s.nodes i0=l at *
 generalize liveT1 s=L at *
 try refine aa_ ?_
 refine pcall c1 ?_
 cases h1:qualT s i0 with
 | true =>
   try refine aa_ ?_
   refine ac_ ?_
   try refine aa_ ?_
   exact fin0
 | false =>
   try refine aa_ ?_
   refine ab_ ?_
   try refine aa_ ?_
   refine pcall c2 ?_
   try refine aa_ ?_
   generalize hR:l.any L=R
   refine au_ (fun i:Nat=>[(6,.int .i64 i)]) (fun _=>[.var (stoC s.a)]) (fun i=>l.length-i) (fun i=>i≤l.length∧R=(l.drop i).any L) 0 ⟨Nat.zero_le _,hR.symm⟩ ?_ ?_
   · refine GC.mk' [] [0] (by simp) rfl (by simp) (by simp) evd evd
   clear hR
   rintro i ⟨hi,hn⟩
   rw[hn]
   (try simp only[as_,av_,List.set_cons_zero,List.set_cons_succ])
   by_cases h1:i<l.length
   · have e1:decide ((i:Int)<((l.length:Nat):Int))=true:=decide_eq_true (by omega)
     have hw:=af_ h1 (by omega)
     have hgp:=gdn (k:=.i64) h1
     have c3:=ih (l.getD i 0) (by rw[List.getD_eq_getElem?_getD,List.getElem?_eq_getElem h1];exact List.getElem_mem h1)
     have hd:=CG_ L 0 l h1
     repeat(first | refine aa_ ?_ | simp only[go_sem,e1])
     refine ac_ ?_
     repeat(first | refine aa_ ?_ | simp only[go_sem,hgp,Nat.mul_one])
     refine dpcall (c3) ?_
     cases h2:L (l.getD i 0)with
     | true =>
       rw[hd,h2]
       try refine aa_ ?_
       refine ac_ ?_
       try refine aa_ ?_
       exact fin0
     | false =>
       rw[hd,h2]
       try refine aa_ ?_
       refine ab_ ?_
       repeat(first | refine aa_ ?_ | simp only[go_sem,hw])
       refine⟨i+1,⟨h1,rfl⟩,by omega,?_⟩
       refine GC.mk' [] [0] (by simp) rfl (by simp) (by simp) evd evd
   · obtain rfl:i=l.length:=by omega
     have e1:decide (((l.length:Nat):Int)<((l.length:Nat):Int))=false:=decide_eq_false (by omega)
     rw[List.drop_length]
     repeat(first | refine aa_ ?_ | simp only[go_sem,e1])
     refine ab_ ?_
     try refine aa_ ?_
     exact fin0
theorem rx_ (s:VSto) (h0:s.cfg.spe≠0) (ht:TreeR s.nodes) (hb:s.nodes.length≤1000000):∀ (n:Nat) (i:Int),0≤i→(s.nodes.length:Int)-i<n→PC Tryz.prog 194 [.agg (stoC s.a),.int .i64 i] (.bool (liveT1 s i))
 | 0, i, _, hn => by
   exact rk_ s i (fun x hx=>by have:=bX_ ht hx;omega) h0 ht hb (by omega)
 | n + 1, i, hi, hn => by
   exact rk_ s i (fun x hx=>rx_ s h0 ht hb n x (by have:=bX_ ht hx;omega) (by have:=bX_ ht hx;omega)) h0 ht hb hi

structure StR (s:VSto):Prop where
 tree:TreeR s.nodes
 spe:s.cfg.spe≠0
 bn:s.nodes.length≤1000000
 bl:s.latest.length≤1000000
 be:s.eqv.length≤1000000
 bt:s.tabs.length≤1000000
 bb:∀ t ∈ s.tabs,t.bals.length≤1000000
 bo:s.orph.length≤1000000
 ba:s.early.length≤1000000
 nl:s.cfg.lim.node≤4096
 ll:s.latest.length=s.cfg.bals.length
 jf:0≤findT s.nodes s.j.rt
theorem oR_ (l:List VTab) (c:Cp):-1≤findTab l c∧findTab l c<l.length:=by
 unfold findTab
 cases h:fstN (fun i=>decide ((tab l i).cp=c)) l.length with
 | none=>simp[idx1];omega
 | some k=>have:=ik_ h;simp[idx1];omega
theorem BN_ {s:VSto}(h:StR s):(balT s).length≤1000000:=by
 unfold balT
 split
 · simp
 · rename_i h1
   have h2:=oR_ s.tabs s.j
   refine h.bb _ ?_
   unfold tab
   rw[List.getD_eq_getElem?_getD,List.getElem?_eq_getElem (show (findTab s.tabs s.j).toNat<s.tabs.length by omega)]
   exact List.getElem_mem _
theorem xp_ (s:VSto) (h:StR s):PC Tryz.prog 166 [.agg (stoC s.a)] (.sl 1 false (rows boolC (liveT s))):=by
 refine PC.fact 5 tK_ (by simp) puA puA ?_
 unfold kn_;refine bd ?_
 unfold liveT
 have hb:=h.bn
 try refine aa_ ?_
 refine cF_ 3 1 ?_;simp only[go_sem]
 refine au_ (fun i:Nat=>[(4,.int .i64 i),(3,.hs 1 1 0 i)]) (fun i=>[.var (stoC s.a),.vec 1 (rows boolC (upto (liveS s) [] i))]) (fun i=>s.nodes.length-i) (fun i=>i≤s.nodes.length) 0 (Nat.zero_le _) ?_ ?_
 · refine GC.mk' [] [0,1] (by simp) rfl (by simp) (by simp) evd evd
 intro i hi
 (try simp only[as_,av_,List.set_cons_zero,List.set_cons_succ])
 by_cases h1:i<s.nodes.length
 · have e1:decide ((i:Int)<((s.nodes.length:Nat):Int))=true:=decide_eq_true (by omega)
   have hw:=af_ h1 (by omega)
   have c1:=rx_ s h.spe h.tree h.bn (s.nodes.length+1) i (by omega) (by omega)
   have hs:=aX_ (liveS s) [] i
   have hl:=im_ s i
   generalize upto (liveS s) [] i=acc at *
   have hr:rows boolC acc++[[AV.bool (liveT1 s i)]]=rows boolC (acc++[liveT1 s i]):=bn_ boolC acc _
   repeat(first | refine aa_ ?_ | simp only[go_sem,e1])
   refine ac_ ?_
   try refine aa_ ?_
   refine pcall c1 ?_
   have ht:List.take i (rows boolC acc)=rows boolC acc:=List.take_of_length_le (by simp[hl])
   repeat(first | refine aa_ ?_ | simp only[go_sem,hr,hw,hl,ht])
   refine⟨i+1,h1,by omega,?_⟩
   rw[hs,show liveS s i acc=acc++[liveT1 s i]from rfl]
   refine GC.mk' [] [0,2] (by simp) rfl (by simp) (by simp) evd evd
 · obtain rfl:i=s.nodes.length:=by omega
   have e1:decide (((s.nodes.length:Nat):Int)<((s.nodes.length:Nat):Int))=false:=decide_eq_false (by omega)
   have hl:=im_ s s.nodes.length
   repeat(first | refine aa_ ?_ | simp only[go_sem,e1])
   refine ab_ ?_
   repeat(first | refine aa_ ?_ | simp only[go_sem,hl])
   refine⟨_,(by first | rfl | exact evd),.inl ?_⟩;(try simp only[go_sem,Nat.reduceAdd,Nat.reduceSub,Nat.reduceMul,Nat.reduceLT,Nat.reduceLeDiff,Nat.reduceEqDiff,reduceIte,Int.reduceToNat,Int.reduceLT,Int.reduceLE,Int.reduceEq,Int.reduceNeg,reduceCtorEq,Int.reduceBEq,Int.reduceBNe])
   rw[hl,if_pos (Nat.le_refl _),List.take_of_length_le (by simp[hl])]
theorem Dh_ (s:VSto) (h:StR s):PC Tryz.prog 189 [.agg (stoC s.a)] (.sl 1 false (nums .u64 (balT s))):=by
 refine PC.fact 4 lk_ (by simp) puA puA ?_
 unfold fK_;refine bd ?_
 have c1:=gj_ s.tabs s.j h.bt
 have h2:=oR_ s.tabs s.j
 unfold balT
 try refine aa_ ?_
 refine pcall c1 ?_
 try refine aa_ ?_
 by_cases h1:findTab s.tabs s.j<0
 · have e1:decide (findTab s.tabs s.j<0)=true:=decide_eq_true h1
   rw[if_pos h1]
   repeat(first | refine aa_ ?_ | simp only[go_sem,e1])
   refine ac_ ?_
   try refine aa_ ?_
   refine⟨_,by first | rfl | exact evd,.inr ⟨_,by(try simp only[go_sem,Nat.reduceAdd,Nat.reduceSub,Nat.reduceMul,Nat.reduceLT,Nat.reduceLeDiff,Nat.reduceEqDiff,reduceIte,Int.reduceToNat,Int.reduceLT,Int.reduceLE,Int.reduceEq,Int.reduceNeg,reduceCtorEq,Int.reduceBEq,Int.reduceBNe]);try rfl,puA,(by repeat'(first | exact Wk.refl _ | exact Wk.empty _ _ _ | exact Wk.open_ _ _ _ | refine Wk.tup ?_ | refine Wk.agg ?_ | exact trivial | (intro h;first | exact h | rfl) | constructor))⟩⟩
 · have e1:decide (findTab s.tabs s.j<0)=false:=decide_eq_false h1
   have hgd:(rows VTab.c s.tabs).getD (findTab s.tabs s.j).toNat []=tabC (tab s.tabs (findTab s.tabs s.j).toNat).a:=bl_ (f:=VTab.c) default (by omega)
   rw[if_neg h1]
   repeat(first | refine aa_ ?_ | simp only[go_sem,e1])
   refine ab_ ?_
   repeat(first | refine aa_ ?_ | simp only[go_sem,hgd])
   exact fin0
theorem tM_ (s:VSto) (h:StR s):PC Tryz.prog 165 [.agg (stoC s.a)] (.sl 1 false (nums .u64 (weightsT s))):=by
 refine PC.fact 9 mB_ (by simp) puA puA ?_
 unfold gJ_;refine bd ?_
 have c1:=Dh_ s h
 have hl:=BN_ h
 unfold weightsT
 generalize balT s=B at *
 have c2:=rE_ B false hl
 generalize sumE B=S at *
 obtain⟨S1,S2⟩:=S
 have c3:=uk_ s.cfg S1
 have c4:=uP_ s.nodes s.latest s.eqv B h.bn h.bl h.be hl
 have hd:=nb_ s.nodes s.latest s.eqv B s.nodes.length
 rw[show upto (dirS s.nodes s.latest s.eqv B) [] s.nodes.length=directT s.nodes s.latest s.eqv B from rfl]at hd
 generalize directT s.nodes s.latest s.eqv B=D at *
 dsimp only at c2 ⊢
 generalize amountT s.cfg.spe s.cfg.boost S1=M at *
 obtain⟨M1,M2⟩:=M
 have c5:=sF_ s.nodes D s.boost M1 h.bn hd
 have hd2:(boostedT s.nodes D s.boost M1).length=s.nodes.length:=by unfold boostedT;split<;>simp[hd]
 dsimp only at c3 ⊢
 generalize boostedT s.nodes D s.boost M1=D2 at *
 have c6:=tw_ s.nodes h.tree.ok D2 h.bn hd2
 try refine aa_ ?_
 refine pcall c1 ?_
 try refine aa_ ?_
 refine pcall c2 ?_
 try refine aa_ ?_
 refine pcall c3 ?_
 try refine aa_ ?_
 refine pcall c4 ?_
 try refine aa_ ?_
 refine dpcall (c5) ?_
 try refine aa_ ?_
 refine dpcall (c6) ?_
 try refine aa_ ?_
 exact fin0
end Go.Proofs.YtipiipgpnkpejaaGreat
namespace Go.Proofs.YtipiipgpnkpejaaGreat
open Go Go.FH Go.RowKit
set_option linter.unusedVariables false
set_option linter.unusedSimpArgs false
set_option maxRecDepth 8000
set_option maxHeartbeats 4000000

theorem gdb {l:List Bool}{i:Nat}(h:i<l.length):(rows boolC l).getD i []=[.bool (l.getD i false)]:=bl_ (f:=boolC) false h
theorem zg_ (t:List Nod) (ht:TreeR t) (hb:t.length≤1000000) (w:List Int) (hwl:w.length=t.length) (a:List Bool) (ha:a.length=t.length) (i0:Int):
   PC Tryz.prog 167 [.agg [nA t],.sl 1 false (nums .u64 w),.sl 1 false (rows boolC a),.int .i64 i0] (.int .i64 (bestT t w a i0)):=by
 refine PC.fact 13 ou_ (by simp) puA puA ?_
 unfold hH_;refine bd ?_
 have c1:=rS_ t i0 hb
 have hl:=rv_ t i0
 have hm:∀ x ∈ kidsT t i0,0≤x∧x<t.length:=fun x hx=>by have:=bX_ ht hx;omega
 unfold bestT
 generalize kidsT t i0=l at *
 try refine aa_ ?_
 refine pcall c1 ?_
 try refine aa_ ?_
 refine au_ (fun i:Nat=>[(11,.int .i64 i),(9,.int .i64 (upto (bestS t w a l) (-1) i))]) (fun _=>[.var [nA t]]) (fun i=>l.length-i) (fun i=>i≤l.length) 0 (Nat.zero_le _) ?_ ?_
 · refine GC.mk' [] [0] (by simp) rfl (by simp) (by simp) evd evd
 intro i hi
 (try simp only[as_,av_,List.set_cons_zero,List.set_cons_succ])
 by_cases h1:i<l.length
 · have e1:decide ((i:Int)<((l.length:Nat):Int))=true:=decide_eq_true (by omega)
   have hw:=af_ h1 (by omega)
   have hgp:=gdn (k:=.i64) h1
   have hx:=hm (l.getD i 0) (by rw[List.getD_eq_getElem?_getD,List.getElem?_eq_getElem h1];exact List.getElem_mem h1)
   have hs:=aX_ (bestS t w a l) (-1) i
   have hbi:=kK_ t w a l i hi
   have hbd:upto (bestS t w a l) (-1) i=-1∨(0≤upto (bestS t w a l) (-1) i∧upto (bestS t w a l) (-1) i<t.length):=hbi.imp id (fun h=>hm _ h)
   clear hbi
   generalize hB:upto (bestS t w a l) (-1) i=B at *
   have hc:bestS t w a l i B=if a.getD (l.getD i 0).toNat false=true∧(B<0∨w.getD B.toNat 0<w.getD (l.getD i 0).toNat 0∨(w.getD (l.getD i 0).toNat 0=w.getD B.toNat 0∧0<cmpR (nod t (l.getD i 0).toNat).blk.root (nod t B.toNat).blk.root))then l.getD i 0 else B:=rfl
   rw[hc]at hs
   clear hc
   generalize l.getD i 0=c at *
   have hga:=gdb (l:=a) (i:=c.toNat) (by omega)
   have hgw:=gdn (k:=.u64) (ns:=w) (i:=c.toNat) (by omega)
   have hgd:=aW_ (t:=t) (i:=c.toNat) (by omega)
   repeat(first | refine aa_ ?_ | simp only[go_sem,e1])
   refine ac_ ?_
   repeat(first | refine aa_ ?_ | simp only[go_sem,hgp,Nat.mul_one,hga])
   cases h2:a.getD c.toNat false with
   | false =>
     rw[if_neg (fun h=>Bool.noConfusion (h2.symm.trans h.1))]at hs
     try refine aa_ ?_
     refine ab_ ?_
     repeat(first | refine aa_ ?_ | simp only[go_sem,hw])
     refine⟨i+1,h1,by omega,?_⟩
     rw[hs]
     refine GC.mk' [] [0] (by simp) rfl (by simp) (by simp) evd evd
   | true =>
     by_cases h3:B<0
     · have e3:decide (B<0)=true:=decide_eq_true h3
       rw[if_pos ⟨h2,.inl h3⟩]at hs
       repeat(first | refine aa_ ?_ | simp only[go_sem,e3])
       refine ac_ ?_
       repeat(first | refine aa_ ?_ | simp only[go_sem,hw])
       refine⟨i+1,h1,by omega,?_⟩
       rw[hs]
       refine GC.mk' [] [0] (by simp) rfl (by simp) (by simp) evd evd
     have e3:decide (B<0)=false:=decide_eq_false h3
     have hgB:=gdn (k:=.u64) (ns:=w) (i:=B.toNat) (by omega)
     have hgE:=aW_ (t:=t) (i:=B.toNat) (by omega)
     by_cases h4:w.getD B.toNat 0<w.getD c.toNat 0
     · have e4:decide (w.getD c.toNat 0 > w.getD B.toNat 0)=true:=decide_eq_true h4
       have e5:decide (w.getD B.toNat 0<w.getD c.toNat 0)=true:=decide_eq_true h4
       rw[if_pos ⟨h2,.inr (.inl h4)⟩]at hs
       repeat(first | refine aa_ ?_ | simp only[go_sem,e3,hgB,hgw,Nat.mul_one,e4,e5])
       refine ac_ ?_
       repeat(first | refine aa_ ?_ | simp only[go_sem,hw])
       refine⟨i+1,h1,by omega,?_⟩
       rw[hs]
       refine GC.mk' [] [0] (by simp) rfl (by simp) (by simp) evd evd
     have e4:decide (w.getD c.toNat 0 > w.getD B.toNat 0)=false:=decide_eq_false h4
     have e5:decide (w.getD B.toNat 0<w.getD c.toNat 0)=false:=decide_eq_false h4
     by_cases h5:w.getD c.toNat 0=w.getD B.toNat 0
     · have e6:(w.getD c.toNat 0==w.getD B.toNat 0)=true:=by rw[beq_iff_eq];exact h5
       have c2:=qK_ (nod t c.toNat).blk.root (nod t B.toNat).blk.root
       generalize cmpR (nod t c.toNat).blk.root (nod t B.toNat).blk.root=M at *
       repeat(first | refine aa_ ?_ | simp only[go_sem,e3,hgB,hgw,Nat.mul_one,e4,e5,e6,hgd,hgE])
       refine dpcall (c2) ?_
       by_cases h6:0<M
       · have e7:decide (M > 0)=true:=decide_eq_true h6
         have e8:decide (0<M)=true:=decide_eq_true h6
         rw[if_pos ⟨h2,.inr (.inr ⟨h5,h6⟩)⟩]at hs
         repeat(first | refine aa_ ?_ | simp only[go_sem,e7,e8])
         refine ac_ ?_
         repeat(first | refine aa_ ?_ | simp only[go_sem,hw])
         refine⟨i+1,h1,by omega,?_⟩
         rw[hs]
         refine GC.mk' [] [0] (by simp) rfl (by simp) (by simp) evd evd
       · have e7:decide (M > 0)=false:=decide_eq_false h6
         have e8:decide (0<M)=false:=decide_eq_false h6
         rw[if_neg (by rintro⟨_,h | h | h⟩;exact h3 h;exact h4 h;exact h6 h.2)]at hs
         repeat(first | refine aa_ ?_ | simp only[go_sem,e7,e8])
         refine ab_ ?_
         repeat(first | refine aa_ ?_ | simp only[go_sem,hw])
         refine⟨i+1,h1,by omega,?_⟩
         rw[hs]
         refine GC.mk' [] [0] (by simp) rfl (by simp) (by simp) evd evd
     · have e6:(w.getD c.toNat 0==w.getD B.toNat 0)=false:=by rw[← Bool.not_eq_true,beq_iff_eq];exact h5
       rw[if_neg (by rintro⟨_,h | h | h⟩;exact h3 h;exact h4 h;exact h5 h.1)]at hs
       repeat(first | refine aa_ ?_ | simp only[go_sem,e3,hgB,hgw,Nat.mul_one,e4,e5,e6])
       refine ab_ ?_
       repeat(first | refine aa_ ?_ | simp only[go_sem,hw])
       refine⟨i+1,h1,by omega,?_⟩
       rw[hs]
       refine GC.mk' [] [0] (by simp) rfl (by simp) (by simp) evd evd
 · obtain rfl:i=l.length:=by omega
   have e1:decide (((l.length:Nat):Int)<((l.length:Nat):Int))=false:=decide_eq_false (by omega)
   repeat(first | refine aa_ ?_ | simp only[go_sem,e1])
   refine ab_ ?_
   try refine aa_ ?_
   exact fin0
end Go.Proofs.YtipiipgpnkpejaaGreat
namespace Go.Proofs.YtipiipgpnkpejaaGreat
open Go Go.FH Go.RowKit
set_option linter.unusedVariables false
set_option linter.unusedSimpArgs false

theorem sP_ (s:VSto):(weightsT s).length=s.nodes.length:=mZ_ s.nodes _ s.nodes.length
theorem yM_ (s:VSto) (h:StR s):PC Tryz.prog 144 [.agg (stoC s.a)] (.int .i64 (headT s)):=by
 refine PC.fact 7 td_ (by simp) puA puA ?_
 unfold kr_;refine bd ?_
 have c1:=tM_ s h
 have c2:=xp_ s h
 have c3:=aS_ s.nodes s.j.rt h.bn
 have c4:=zg_ s.nodes h.tree h.bn (weightsT s) (sP_ s) (liveT s) (im_ s s.nodes.length)
 have hbd:=CO_ h.tree (weightsT s) (liveT s)
 have hF:=bN_ s.nodes s.j.rt
 unfold headT
 generalize weightsT s=W at *
 generalize liveT s=L at *
 generalize findT s.nodes s.j.rt=F at *
 try refine aa_ ?_
 refine dpcall (c1) ?_
 try refine aa_ ?_
 refine dpcall (c2) ?_
 try refine aa_ ?_
 refine pcall c3 ?_
 try refine aa_ ?_
 generalize hR:headG s.nodes W L (s.nodes.length+1) F=R
 refine au_ (fun p:Nat × Int=>[(5,.int .i64 p.2)]) (fun _=>[.var (stoC s.a)]) (fun p=>p.1) (fun p=>-1≤p.2∧p.2<s.nodes.length∧(s.nodes.length:Int)-p.2≤p.1∧R=headG s.nodes W L p.1 p.2) (s.nodes.length+1,F) ⟨hF.1,hF.2,by dsimp only;omega,hR.symm⟩ ?_ ?_
 · refine GC.mk' [] [0] (by simp) rfl (by simp) (by simp) evd evd
 clear hR
 rintro⟨f,i⟩ ⟨h0,h1,h2,hn⟩
 dsimp only at h0 h1 h2 hn
 rw[hn]
 obtain⟨g,rfl⟩:∃ g,f=g+1:=⟨f-1,by omega⟩
 have c5:=c4 i
 have hb:=hbd i
 have hs:headG s.nodes W L (g+1) i=if bestT s.nodes W L i<0 then i else headG s.nodes W L g (bestT s.nodes W L i):=rfl
 generalize bestT s.nodes W L i=B at *
 dsimp only
 try refine aa_ ?_
 refine pcall c5 ?_
 try refine aa_ ?_
 by_cases h3:B<0
 · have e3:decide (B<0)=true:=decide_eq_true h3
   rw[if_pos h3]at hs
   rw[hs]
   repeat(first | refine aa_ ?_ | simp only[go_sem,e3])
   refine ac_ ?_
   try refine aa_ ?_
   exact fin0
 · have e3:decide (B<0)=false:=decide_eq_false h3
   rw[if_neg h3]at hs
   rw[hs]
   repeat(first | refine aa_ ?_ | simp only[go_sem,e3])
   refine ab_ ?_
   try refine aa_ ?_
   refine⟨(g,B),⟨by omega,by omega,by dsimp only;omega,rfl⟩,by dsimp only;omega,?_⟩
   refine GC.mk' [] [0] (by simp) rfl (by simp) (by simp) evd evd
theorem dH_ (s:VSto) (e:Int):PC Tryz.prog 171 [.agg (stoC s.a),.int .u64 e] (.tup [.int .u64 (startS s e).1,.bool (startS s e).2]):=by
 refine PC.fact 8 pr_ (by simp) puA puA ?_
 unfold jc_;refine bd ?_
 have c1:=wW_ e s.cfg.spe
 unfold startS
 generalize startE e s.cfg.spe=p at *
 try refine aa_ ?_
 refine pcall c1 ?_
 have hz:(p.2==0)=decide (p.2=0):=rfl
 repeat(first | refine aa_ ?_ | simp only[go_sem,hz])
 exact fin0
theorem nD_ (s:VSto) (i e:Int) (h0:0≤i) (h1:i<s.nodes.length):PC Tryz.prog 197 [.agg (stoC s.a),.int .i64 i,.int .u64 e] (.bool (earlyS s i e)):=by
 refine PC.fact 9 pL_ (by simp) puA puA ?_
 unfold iD_;refine bd ?_
 have c1:=dH_ s e
 unfold earlyS
 have hgd:=aW_ (t:=s.nodes) (i:=i.toNat) (by omega)
 generalize startS s e=p at *
 obtain⟨p1,p2⟩:=p
 dsimp only at c1 ⊢
 try refine aa_ ?_
 refine pcall c1 ?_
 cases p2 with
 | false =>
   try refine aa_ ?_
   exact fin0
 | true =>
   repeat(first | refine aa_ ?_ | simp only[go_sem,hgd])
   exact fin0
theorem tv_ (s:VSto) (b:Blk) (h0:s.cfg.spe≠0):PC Tryz.prog 199 [.agg (stoC s.a),.agg (blkC b)] (.bool (ordS s b)):=by
 refine PC.fact 9 mf_ (by simp) puA puA ?_
 unfold gB_;refine bd ?_
 have c1:=bQ_ s b.slot h0
 unfold ordS
 by_cases q1:b.fin.ep≤b.just.ep
 case neg=>
   rw[decide_eq_false q1]
   have e1:=decide_eq_false q1
   repeat(first | refine aa_ ?_ | simp only[go_sem,e1])
   exact fin0
 rw[decide_eq_true q1]
 have e1:=decide_eq_true q1
 by_cases q2:b.just.ep≤b.pul.j.ep
 case neg=>
   rw[decide_eq_false q2]
   have e2:=decide_eq_false q2
   repeat(first | refine aa_ ?_ | simp only[go_sem,e1,e2])
   exact fin0
 rw[decide_eq_true q2]
 have e2:=decide_eq_true q2
 by_cases q3:b.fin.ep≤b.pul.f.ep
 case neg=>
   rw[decide_eq_false q3]
   have e3:=decide_eq_false q3
   repeat(first | refine aa_ ?_ | simp only[go_sem,e1,e2,e3])
   exact fin0
 rw[decide_eq_true q3]
 have e3:=decide_eq_true q3
 by_cases q4:b.pul.f.ep≤b.pul.j.ep
 case neg=>
   rw[decide_eq_false q4]
   have e4:=decide_eq_false q4
   repeat(first | refine aa_ ?_ | simp only[go_sem,e1,e2,e3,e4])
   exact fin0
 rw[decide_eq_true q4]
 have e4:=decide_eq_true q4
 repeat(first | refine aa_ ?_ | simp only[go_sem,e1,e2,e3,e4])
 refine pcall c1 ?_
 try refine aa_ ?_
 exact fin0
end Go.Proofs.YtipiipgpnkpejaaGreat
namespace Go.FH
set_option linter.unusedVariables false
open Go Go.RowKit

def takeO (l:List Blk) (i:Nat):List Blk:=l.take i++l.drop (i+1)
theorem zP_ (l:List Blk) {i:Nat}(h:i<l.length):(takeO l i).length+1=l.length:=by
 unfold takeO;rw[List.length_append,List.length_take,List.length_drop];omega
def waitT (s:VSto):Int:=idx1 (fstN (fun i=>decide (0≤findT s.nodes (blkA s.orph i).parent)) s.orph.length)
theorem oP_ (s:VSto):-1≤waitT s∧waitT s<s.orph.length:=by
 unfold waitT
 cases h:fstN (fun i=>decide (0≤findT s.nodes (blkA s.orph i).parent)) s.orph.length with
 | none=>rw[ic_];omega
 | some k=>have:=ik_ h;rw[fE_];omega
def withN (s:VSto) (t:List Nod):VSto:=⟨s.cfg,s.latest,s.eqv,s.j,s.f,s.early,s.orph,t,s.now,s.boost,s.tabs⟩
def withO (s:VSto) (l:List Blk):VSto:=⟨s.cfg,s.latest,s.eqv,s.j,s.f,s.early,l,s.nodes,s.now,s.boost,s.tabs⟩
def withE (s:VSto) (l:List VAtt):VSto:=⟨s.cfg,s.latest,s.eqv,s.j,s.f,l,s.orph,s.nodes,s.now,s.boost,s.tabs⟩
def withB (s:VSto) (r:Rt):VSto:=⟨s.cfg,s.latest,s.eqv,s.j,s.f,s.early,s.orph,s.nodes,s.now,r,s.tabs⟩
def withL (s:VSto) (l:List Vot):VSto:=⟨s.cfg,l,s.eqv,s.j,s.f,s.early,s.orph,s.nodes,s.now,s.boost,s.tabs⟩
def withQ (s:VSto) (l:List Int):VSto:=⟨s.cfg,s.latest,l,s.j,s.f,s.early,s.orph,s.nodes,s.now,s.boost,s.tabs⟩
def withT (s:VSto) (l:List VTab):VSto:=⟨s.cfg,s.latest,s.eqv,s.j,s.f,s.early,s.orph,s.nodes,s.now,s.boost,l⟩
def vsto0:VSto:=⟨⟨lim0,0,0,wd0,rt0,[]⟩,[],[],cp0,cp0,[],[],[],0,rt0,[]⟩
theorem fg_ {t:List Nod}{n:Nod}{i:Nat}:nod (t++[n]) i=if i<t.length then nod t i else if i=t.length then n else nod0:=by
 unfold nod
 simp only[List.getD_eq_getElem?_getD]
 by_cases h:i<t.length
 · rw[if_pos h,List.getElem?_append_left h]
 · rw[if_neg h,List.getElem?_append_right (by omega)]
   by_cases h2:i=t.length
   · subst h2;simp
   · rw[if_neg h2,List.getElem?_eq_none (by simp;omega)];rfl
theorem lC_ {t:List Nod}{r:Rt}{k:Nat}(hk:k<t.length) (h:(nod t k).blk.root=r):0≤findT t r:=by
 unfold findT
 cases h1:fstN (fun i=>decide ((nod t i).blk.root=r)) t.length with
 | none=>have:=zG_ h1 k hk;simp[h]at this
 | some i=>rw[fE_];omega
theorem kx_ {t:List Nod}{r:Rt}(h:0≤findT t r):(findT t r).toNat<t.length∧(nod t (findT t r).toNat).blk.root=r:=by
 unfold findT at *
 cases h1:fstN (fun i=>decide ((nod t i).blk.root=r)) t.length with
 | none=>rw[h1,ic_]at h;omega
 | some i=>rw[fE_];have:=ik_ h1;exact⟨by simpa using this.1,by simpa using this.2.1⟩
theorem TreeR.snoc {t:List Nod}(ht:TreeR t) {n:Nod}(h0:0≤n.up) (h1:n.up<t.length):TreeR (t++[n]):=by
 refine⟨fun i hi hl=>?_,by simp,?_⟩
 · rw[fg_]
   by_cases h:i<t.length
   · rw[if_pos h];exact ht.ok i hi h
   · rw[if_neg h,if_pos (by simp at hl;omega)];simp at hl;omega
 · rw[fg_,if_pos ht.pos];exact ht.root
theorem yd_ {t:List Nod}{b:Blk}{st:Int}(h:(insT t b st).2=0):(insT t b st).1=t++[⟨b,findT t b.parent,st⟩]∧0≤findT t b.parent:=by
 unfold insT at *
 split at h
 · simp at h
 · rename_i h1
   rw[if_neg h1]
   split at h
   · simp at h
   · rename_i h2
     rw[if_neg h2]
     split at h
     · simp at h
     · rename_i h3
       rw[if_neg h3]
       split at h
       · simp at h
       · rename_i h4
         rw[if_neg h4]
         split at h
         · simp at h
         · rename_i h5
           rw[if_neg h5]
           exact⟨rfl,by omega⟩
theorem TreeR.ins {t:List Nod}(ht:TreeR t) {b:Blk}{st:Int}(h:(insT t b st).2=0):TreeR (insT t b st).1:=by
 obtain⟨h1,h2⟩:=yd_ h
 rw[h1]
 have h3:=kx_ h2
 exact ht.snoc (n:=⟨b,findT t b.parent,st⟩) h2 (show findT t b.parent<t.length by omega)
theorem yW_ {t:List Nod}(ht:TreeR t) {i:Nat}(hi:i<t.length):ancT t i i=true:=by
 unfold ancT
 rcases Nat.eq_zero_or_pos i with h | h
 · subst h;rw[show ((0:Nat):Int)=0 from rfl,fc_ hi];simp
 · rw[ia_ ht.ok h hi];simp
theorem EL_ {t:List Nod}(ht:TreeR t) {a b:Int}(h:ancT t a b=true):0≤a∧a≤b∧a<t.length:=by
 unfold ancT at h
 exact dt_ ht.ok (by simpa using h)
theorem Ew_ {t:List Nod}(ht:TreeR t) {a:Int}{k:Nat}(hk:k<t.length) (h:ancT t a k=true) (hne:(k:Int)≠a):0<k∧ancT t a (nod t k).up=true:=by
 unfold ancT at *
 rcases Nat.eq_zero_or_pos k with h0 | h0
 · subst h0
   rw[show ((0:Nat):Int)=0 from rfl,fc_ hk]at h
   simp at h
   exact absurd h.symm hne
 · rw[ia_ ht.ok h0 hk]at h
   simp at h
   refine⟨h0,?_⟩
   rcases h with h | h
   · simpa using h
   · exact absurd h.symm hne
structure PruI (t:List Nod) (i0:Int) (k:Nat) (p:List Nod × List Int):Prop where
 len:p.2.length=k
 kept:∀ m:Nat,m<k→ancT t i0 m=true→0≤p.2.getD m 0∧p.2.getD m 0<p.1.length∧(nod p.1 (p.2.getD m 0).toNat).blk=(nod t m).blk
 up:∀ u:Nat,0<u→u<p.1.length→0≤(nod p.1 u).up∧(nod p.1 u).up<u
 root:0<p.1.length→(nod p.1 0).up<0
 some:0<p.1.length→∃ m:Nat,m<k∧ancT t i0 m=true
 blks:∀ u:Nat,u<p.1.length→∃ m:Nat,m<t.length∧(nod p.1 u).blk=(nod t m).blk
 le:p.1.length≤k
theorem vj_ {l:List Int}{x:Int}{m:Nat}:(l++[x]).getD m 0=if m<l.length then l.getD m 0 else if m=l.length then x else 0:=by
 simp only[List.getD_eq_getElem?_getD]
 by_cases h:m<l.length
 · rw[if_pos h,List.getElem?_append_left h]
 · rw[if_neg h,List.getElem?_append_right (by omega)]
   by_cases h2:m=l.length
   · subst h2;simp
   · rw[if_neg h2,List.getElem?_eq_none (by simp;omega)];rfl
theorem pruI {t:List Nod}(ht:TreeR t) (i0:Int):∀ k,k≤t.length→PruI t i0 k (upto (pruneS t i0) ([],[]) k)
 | 0,_=>⟨rfl,fun m h=>absurd h (Nat.not_lt_zero _),fun u _ h=>absurd h (Nat.not_lt_zero _),fun h=>absurd h (Nat.lt_irrefl _),fun h=>absurd h (Nat.lt_irrefl _),fun u h=>absurd h (Nat.not_lt_zero _),Nat.le_refl _⟩
 | k + 1, hk => by
   have ih:=pruI ht i0 k (by omega)
   rw[aX_]
   generalize upto (pruneS t i0) ([],[]) k=p at *
   obtain⟨kp,ix⟩:=p
   obtain⟨l1,l2,l3,l4,l5,l6,l7⟩:=ih
   dsimp only at l1 l2 l3 l4 l5 l6 l7
   unfold pruneS
   by_cases ha:ancT t i0 k=true
   · rw [if_pos ha]
     dsimp only
     have hup:0<kp.length→(k:Int)≠i0:=by
       intro h he
       obtain⟨m,h1,h2⟩:=l5 h
       have:=EL_ ht h2
       omega
     have hu:(k:Int)≠i0→0≤ix.getD (nod t k).up.toNat 0∧ix.getD (nod t k).up.toNat 0<kp.length:=by
       intro h
       obtain⟨h0,h1⟩:=Ew_ ht (by omega) ha h
       obtain⟨h2,h3⟩:=ht.ok k h0 (by omega)
       have:=l2 (nod t k).up.toNat (by omega) (by rw[Int.toNat_of_nonneg h2];exact h1)
       exact⟨this.1,this.2.1⟩
     refine⟨by simp[l1],fun m hm hm2=>?_,fun u h0 h1=>?_,fun h=>?_,fun _=>⟨k,by omega,ha⟩,fun u h=>?_,by simp;omega⟩
     · rw[vj_]
       by_cases hmk:m<k
       · rw[if_pos (by omega)]
         obtain⟨a1,a2,a3⟩:=l2 m hmk hm2
         refine⟨a1,by simp only[List.length_append,List.length_cons,List.length_nil];omega,?_⟩
         rw[fg_,if_pos (by omega)];exact a3
       · obtain rfl:m=k:=by omega
         rw[if_neg (by omega),if_pos (by omega)]
         refine⟨by omega,by simp only[List.length_append,List.length_cons,List.length_nil];omega,?_⟩
         rw[fg_,if_neg (by simp),if_pos (by simp)]
     · rw[fg_]
       by_cases hu2:u<kp.length
       · rw[if_pos hu2];exact l3 u h0 hu2
       · simp at h1
         obtain rfl:u=kp.length:=by omega
         rw[if_neg hu2,if_pos rfl]
         dsimp only
         have hne:=hup h0
         rw[if_neg hne]
         exact hu hne
     · rw[fg_]
       by_cases hz:0<kp.length
       · rw[if_pos hz];exact l4 hz
       · rw[if_neg hz,if_pos (by omega)]
         dsimp only
         by_cases hne:(k:Int)=i0
         · rw[if_pos hne];omega
         · have:=hu hne;omega
     · rw[fg_]
       by_cases hu2:u<kp.length
       · rw[if_pos hu2];exact l6 u hu2
       · simp at h
         rw[if_neg hu2,if_pos (by omega)]
         exact⟨k,by omega,rfl⟩
   · rw [if_neg ha]
     dsimp only
     refine⟨by simp[l1],fun m hm hm2=>?_,l3,l4,fun h=>?_,l6,show kp.length≤k+1 by omega⟩
     · by_cases hmk:m<k
       · rw[vj_,if_pos (by omega)]
         exact l2 m hmk hm2
       · obtain rfl:m=k:=by omega
         exact absurd hm2 ha
     · obtain⟨m,h1,h2⟩:=l5 h
       exact⟨m,by omega,h2⟩
theorem TreeR.prune {t:List Nod}(ht:TreeR t) {i0:Int}(h0:0≤i0) (h1:i0<t.length):TreeR (pruneT t i0).1:=by
 have h:=pruI ht i0 t.length (Nat.le_refl _)
 have hs:=h.kept i0.toNat (by omega) (by rw[Int.toNat_of_nonneg h0];have:=yW_ ht (i:=i0.toNat) (by omega);rwa [Int.toNat_of_nonneg h0]at this)
 exact⟨h.up,by show 0<(upto (pruneS t i0) ([],[]) t.length).1.length;omega,h.root (by omega)⟩
theorem uc_ {t:List Nod}(ht:TreeR t) {i0:Int}{r:Rt}(h:0≤findT t r) (ha:ancT t i0 (findT t r)=true):0≤findT (pruneT t i0).1 r:=by
 have h1:=pruI ht i0 t.length (Nat.le_refl _)
 obtain⟨h2,h3⟩:=kx_ h
 obtain⟨h4,h5,h6⟩:=h1.kept (findT t r).toNat h2 (by rw[Int.toNat_of_nonneg h];exact ha)
 exact lC_ (k:=((upto (pruneS t i0) ([],[]) t.length).2.getD (findT t r).toNat 0).toNat) (by show _<(upto (pruneS t i0) ([],[]) t.length).1.length;omega) (by show (nod (upto (pruneS t i0) ([],[]) t.length).1 _).blk.root=r;rw[h6];exact h3)
theorem xm_ {t:List Nod}(ht:TreeR t) (i0:Int):∀ u:Nat,u<(pruneT t i0).1.length→∃ m:Nat,m<t.length∧(nod (pruneT t i0).1 u).blk=(nod t m).blk:=(pruI ht i0 t.length (Nat.le_refl _)).blks
theorem jH_ {t:List Nod}(ht:TreeR t) (i0:Int):(pruneT t i0).1.length≤t.length:=(pruI ht i0 t.length (Nat.le_refl _)).le
end Go.FH
namespace Go.Proofs.YtipiipgpnkpejaaGreat
open Go Go.FH Go.RowKit
set_option linter.unusedVariables false
set_option linter.unusedSimpArgs false

theorem tt_:Wk (.agg (stoC sto0)) (.agg (stoC vsto0.a)):=by
 refine Wk.agg ?_
 unfold sto0 vsto0 VSto.a stoC
 dsimp only
 refine WkC.app ?_ ?_
 · unfold cfg0 VCfg.a cfgC
   dsimp only
   exact(WkC.refl _).app (.same _ (.same _ ((WkC.refl _).app ((WkC.refl _).app (.one (Wk.empty _ _ _) fun h=>h)))))
 · exact .cons (Wk.empty _ _ _) (fun h=>h) (.cons (Wk.empty _ _ _) (fun h=>h) ((WkC.refl _).app ((WkC.refl _).app (.cons (Wk.empty _ _ _) (fun h=>h) (.cons (Wk.empty _ _ _) (fun h=>h) (.cons (Wk.empty _ _ _) (fun h=>h) (.same _ ((WkC.refl _).app (.one (Wk.empty _ _ _) fun h=>h)))))))))
def checkB (s:VSto) (b:Blk):Int:=
 if b.root=rt0 then 2 else if knownS s b.root=true then 9 else if s.now<b.slot then 12 else if b.slot≤(startS s s.f.ep).1 then 13
 else if findT s.nodes b.parent<0 then 10 else if b.slot≤(nod s.nodes (findT s.nodes b.parent).toNat).blk.slot then 14
 else if (nod s.nodes (findT s.nodes b.parent).toNat).status=2 then 15 else if fitsS s b=false then 16
 else if fitsM s.cfg.ttd (nod s.nodes (findT s.nodes b.parent).toNat).blk b=false then 17 else if s.cfg.lim.node≤s.nodes.length then 11 else 0
def checkA (s:VSto) (a:VAtt):Bool × Int:=
 if vErr a.vals s.cfg.bals.length≠0 then (false,vErr a.vals s.cfg.bals.length)
 else if a.target.ep≠epochT s a.slot∨(a.target.ep≠epochT s s.now∧(epochT s s.now=0∨a.target.ep≠IntKind.u64.wrap (epochT s s.now-1)))then (false,18)
 else if findT s.nodes a.root<0∨findT s.nodes a.target.rt<0 then (false,10)
 else if a.slot<(nod s.nodes (findT s.nodes a.root).toNat).blk.slot then (false,14)
 else if atT s.nodes (findT s.nodes a.root) (startS s a.target.ep).1≠findT s.nodes a.target.rt then (false,19)
 else (decide (s.now≤a.slot),0)
def castIn (s:VSto) (a:VAtt):VSto:=withL s (castT s.latest a.target.ep a.root a.vals).1
def wit (n lo hi:Int):Bool:=decide (lo≤n)&&decide (n≤hi)
def newE (c:VCfg):Int:=
 if c.spe<1 then 3 else if 64<c.spe then 3 else if 100<c.boost then 3 else if 1024<(c.bals.length:Int)then 3 else if wit c.lim.node 1 4096=false then 3 else if wit c.lim.orph 0 64=false then 3
 else if wit c.lim.early 0 256=false then 3 else if wit c.lim.table 1 64=false then 3 else if wit c.lim.retry 0 256=false then 3 else if c.lim.backoff<1 then 3 else if 1048576<c.lim.backoff then 3
 else if c.gen=rt0 then 2 else vtabE ⟨⟨0,c.gen⟩,c.bals⟩ c.bals.length
def genB (r:Rt):Blk:=⟨⟨⟨0,r⟩,⟨0,r⟩⟩,0,r,rt0,rt0,wd0,wd0,⟨0,r⟩,⟨0,r⟩,false⟩
def newO (c:VCfg):VSto:=⟨c,List.replicate c.bals.length vot0,[],⟨0,c.gen⟩,⟨0,c.gen⟩,[],[],[⟨genB c.gen,-1,1⟩],0,rt0,[⟨⟨0,c.gen⟩,c.bals⟩]⟩
def newS (c:VCfg):VSto × Int:=if newE c=0 then (newO c,0)else (vsto0,newE c)
def attA (l:List VAtt) (i:Nat):VAtt:=l.getD i default
def tickA (s:VSto):VSto:=⟨s.cfg,s.latest,s.eqv,s.j,s.f,s.early,s.orph,s.nodes,IntKind.u64.wrap (s.now+1),rt0,s.tabs⟩
def tickB (s:VSto):VSto:=if IntKind.u64.wrap (Int.tmod s.now s.cfg.spe)=0 then updS s (pendS s).j (pendS s).f else s
def tickR (l:List VAtt) (i:Nat) (s:VSto):VSto:=if s.now≤(attA l i).slot then withE s (s.early++[attA l i])else if (checkA s (attA l i)).2=0 then castIn s (attA l i)else s
def tickC (s:VSto) (l:List VAtt):VSto:=upto (tickR l) (withE s []) l.length
def tickS (s:VSto):VSto × Int:=if 1099511627776≤s.now then (vsto0,3)else (tickC (tickB (tickA s)) (tickB (tickA s)).early,0)
def insS (s:VSto) (b:Blk):VSto:=
 if epochT (updS (withN s (insT s.nodes b (statB b)).1) b.just b.fin) b.slot<epochT (updS (withN s (insT s.nodes b (statB b)).1) b.just b.fin) (updS (withN s (insT s.nodes b (statB b)).1) b.just b.fin).now
 then updS (updS (withN s (insT s.nodes b (statB b)).1) b.just b.fin) b.pul.j b.pul.f else updS (withN s (insT s.nodes b (statB b)).1) b.just b.fin
def waitR (p:VSto × List Rt):VSto × List Rt:=
 if checkB (withO p.1 (takeO p.1.orph (waitT p.1).toNat)) (blkA p.1.orph (waitT p.1).toNat)=0
 then (insS (withO p.1 (takeO p.1.orph (waitT p.1).toNat)) (blkA p.1.orph (waitT p.1).toNat),p.2++[(blkA p.1.orph (waitT p.1).toNat).root])
 else (withO p.1 (takeO p.1.orph (waitT p.1).toNat),p.2)
def waitG:Nat→VSto × List Rt→VSto × List Rt
 | 0,p=>p
 | f+1,p=>if waitT p.1<0 then p else waitG f (waitR p)
def noT (b:Blk):Blk:=⟨b.pul,b.slot,b.root,b.parent,b.payload,b.diff,b.pdiff,b.just,b.fin,false⟩
def blockI (s:VSto) (b:Blk):VSto:=if b.timely=true∧b.slot=s.now∧s.boost=rt0 then withB (insS s b) b.root else insS s b
def blockS (s:VSto) (b:Blk):VSto × List Rt × Int:=
 if checkB s b=10 then (if s.cfg.lim.orph≤s.orph.length then (vsto0,[],11)else (withO s (s.orph++[noT b]),[],0))
 else if checkB s b≠0 then (vsto0,[],checkB s b)
 else ((waitG ((blockI s b).orph.length+1) (blockI s b,[b.root])).1,(waitG ((blockI s b).orph.length+1) (blockI s b,[b.root])).2,0)
def attS (s:VSto) (a:VAtt):VSto × Int:=
 if (checkA s a).2≠0 then (vsto0,(checkA s a).2)else if (checkA s a).1=false then (castIn s a,0)
 else if s.cfg.lim.early≤s.early.length then (vsto0,11)else (withE s (s.early++[a]),0)
def regS (s:VSto) (t:VTab):VSto × Int:=
 if vtabE t s.cfg.bals.length≠0 then (vsto0,vtabE t s.cfg.bals.length)else if t.cp.ep<s.j.ep then (vsto0,13)
 else if (regTab s.tabs t s.cfg.bals.length s.cfg.lim.table).2≠0 then (vsto0,(regTab s.tabs t s.cfg.bals.length s.cfg.lim.table).2)
 else (withT s (regTab s.tabs t s.cfg.bals.length s.cfg.lim.table).1,0)

theorem lr_ (s:VSto):PC Tryz.prog 157 [.agg (stoC s.a)] (.int .i64 s.cfg.bals.length):=by
 refine PC.fact 3 jy_ (by simp) puA puA ?_
 unfold eA_;refine bd ?_
 try refine aa_ ?_
 exact fin0
def pendU (t:List Nod) (k:Nat):Pul × Bool:=upto (pendR t) (pul0,false) k
theorem Eb_ (t:List Nod) (k:Nat):pendU t (k+1)=pendR t k (pendU t k):=rfl
theorem yH_ (s:VSto) (hb:s.nodes.length≤1000000):PC Tryz.prog 146 [.agg (stoC s.a)] (.agg (pulC (pendS s))):=by
 refine PC.fact 7 mv_ (by simp) puA puA ?_
 unfold gA_;refine bd ?_
 show Tri _ _ _ _ (PQ _ (.agg (pulC (pendU s.nodes s.nodes.length).1))) _ _
 have hz:pendU s.nodes 0=(pul0,false):=rfl
 try refine aa_ ?_
 refine au_ (fun i:Nat=>[(4,.bool (pendU s.nodes i).2),(5,.int .i64 i)]) (fun i=>[.var (stoC s.a),.var (pulC pul0),.var (pulC (pendU s.nodes i).1)]) (fun i=>s.nodes.length-i) (fun i=>i≤s.nodes.length) 0 (Nat.zero_le _) ?_ ?_
 · rw[hz]
   refine GC.mk' [] [0,1,2] (by simp) rfl (by simp) (by simp) evd evd
 intro i hi
 (try simp only[as_,av_,List.set_cons_zero,List.set_cons_succ])
 by_cases h1:i<s.nodes.length
 · have e1 : decide ((i : Int) < ((s.nodes.length : Nat) : Int)) = true := decide_eq_true (by omega)
   have hw:=af_ h1 (by omega)
   have hgd:=aW_ h1
   have hs:=Eb_ s.nodes i
   generalize pendU s.nodes i=p at *
   obtain⟨⟨pj,pf⟩,sm⟩:=p
   have hc:pendR s.nodes i (⟨pj,pf⟩,sm)=if (nod s.nodes i).status=2 then (⟨pj,pf⟩,sm)else (⟨if sm=false∨pj.ep<(nod s.nodes i).blk.pul.j.ep then (nod s.nodes i).blk.pul.j else pj,if sm=false∨pf.ep<(nod s.nodes i).blk.pul.f.ep then (nod s.nodes i).blk.pul.f else pf⟩,true):=rfl
   by_cases h2:(nod s.nodes i).status=2
   · have e2:((nod s.nodes i).status==2)=true:=by simp[h2]
     rw[if_pos h2]at hc
     repeat(first | refine aa_ ?_ | simp only[go_sem,e1])
     refine ac_ ?_
     repeat(first | refine aa_ ?_ | simp only[go_sem,hgd,e2])
     refine ac_ ?_
     repeat(first | refine aa_ ?_ | simp only[go_sem,hw])
     refine⟨i+1,h1,by omega,?_⟩
     rw[hs,hc]
     refine GC.mk' [] [0,1,2] (by simp) rfl (by simp) (by simp) evd evd
   · have e2:((nod s.nodes i).status==2)=false:=by simp[h2]
     rw[if_neg h2]at hc
     repeat(first | refine aa_ ?_ | simp only[go_sem,e1])
     refine ac_ ?_
     repeat(first | refine aa_ ?_ | simp only[go_sem,hgd,e2])
     refine ab_ ?_
     cases sm with
     | false =>
       rw[if_pos (.inl rfl),if_pos (.inl rfl)]at hc
       try refine aa_ ?_
       refine ac_ ?_
       try refine aa_ ?_
       refine ac_ ?_
       repeat(first | refine aa_ ?_ | simp only[go_sem,hw])
       refine⟨i+1,h1,by omega,?_⟩
       rw[hs,hc]
       refine GC.mk' [] [0,1,2] (by simp) rfl (by simp) (by simp) evd evd
     | true =>
       by_cases q1:pj.ep<(nod s.nodes i).blk.pul.j.ep
       · have k1:decide ((nod s.nodes i).blk.pul.j.ep > pj.ep)=true:=decide_eq_true q1
         have k1':decide (pj.ep<(nod s.nodes i).blk.pul.j.ep)=true:=decide_eq_true q1
         rw[if_pos (.inr q1)]at hc
         by_cases q2:pf.ep<(nod s.nodes i).blk.pul.f.ep
         · have k2:decide ((nod s.nodes i).blk.pul.f.ep > pf.ep)=true:=decide_eq_true q2
           have k2':decide (pf.ep<(nod s.nodes i).blk.pul.f.ep)=true:=decide_eq_true q2
           rw[if_pos (.inr q2)]at hc
           repeat(first | refine aa_ ?_ | simp only[go_sem,k1,k1'])
           refine ac_ ?_
           repeat(first | refine aa_ ?_ | simp only[go_sem,k2,k2'])
           refine ac_ ?_
           repeat(first | refine aa_ ?_ | simp only[go_sem,hw])
           refine⟨i+1,h1,by omega,?_⟩
           rw[hs,hc]
           refine GC.mk' [] [0,1,2] (by simp) rfl (by simp) (by simp) evd evd
         · have k2:decide ((nod s.nodes i).blk.pul.f.ep > pf.ep)=false:=decide_eq_false q2
           have k2':decide (pf.ep<(nod s.nodes i).blk.pul.f.ep)=false:=decide_eq_false q2
           rw[if_neg (by simp[q2])]at hc
           repeat(first | refine aa_ ?_ | simp only[go_sem,k1,k1'])
           refine ac_ ?_
           repeat(first | refine aa_ ?_ | simp only[go_sem,k2,k2'])
           refine ab_ ?_
           repeat(first | refine aa_ ?_ | simp only[go_sem,hw])
           refine⟨i+1,h1,by omega,?_⟩
           rw[hs,hc]
           refine GC.mk' [] [0,1,2] (by simp) rfl (by simp) (by simp) evd evd
       · have k1:decide ((nod s.nodes i).blk.pul.j.ep > pj.ep)=false:=decide_eq_false q1
         have k1':decide (pj.ep<(nod s.nodes i).blk.pul.j.ep)=false:=decide_eq_false q1
         rw[if_neg (by simp[q1])]at hc
         by_cases q2:pf.ep<(nod s.nodes i).blk.pul.f.ep
         · have k2:decide ((nod s.nodes i).blk.pul.f.ep > pf.ep)=true:=decide_eq_true q2
           have k2':decide (pf.ep<(nod s.nodes i).blk.pul.f.ep)=true:=decide_eq_true q2
           rw[if_pos (.inr q2)]at hc
           repeat(first | refine aa_ ?_ | simp only[go_sem,k1,k1'])
           refine ab_ ?_
           repeat(first | refine aa_ ?_ | simp only[go_sem,k2,k2'])
           refine ac_ ?_
           repeat(first | refine aa_ ?_ | simp only[go_sem,hw])
           refine⟨i+1,h1,by omega,?_⟩
           rw[hs,hc]
           refine GC.mk' [] [0,1,2] (by simp) rfl (by simp) (by simp) evd evd
         · have k2:decide ((nod s.nodes i).blk.pul.f.ep > pf.ep)=false:=decide_eq_false q2
           have k2':decide (pf.ep<(nod s.nodes i).blk.pul.f.ep)=false:=decide_eq_false q2
           rw[if_neg (by simp[q2])]at hc
           repeat(first | refine aa_ ?_ | simp only[go_sem,k1,k1'])
           refine ab_ ?_
           repeat(first | refine aa_ ?_ | simp only[go_sem,k2,k2'])
           refine ab_ ?_
           repeat(first | refine aa_ ?_ | simp only[go_sem,hw])
           refine⟨i+1,h1,by omega,?_⟩
           rw[hs,hc]
           refine GC.mk' [] [0,1,2] (by simp) rfl (by simp) (by simp) evd evd
 · obtain rfl:i=s.nodes.length:=by omega
   have e1:decide (((s.nodes.length:Nat):Int)<((s.nodes.length:Nat):Int))=false:=decide_eq_false (by omega)
   repeat(first | refine aa_ ?_ | simp only[go_sem,e1])
   refine ab_ ?_
   try refine aa_ ?_
   exact fin0
theorem xn_ (s:VSto) (r:Rt) (h:StR s):PC Tryz.prog 174 [.agg (stoC s.a),.agg (rtc r)] (.bool (knownS s r)):=by
 refine PC.fact 6 pG_ (by simp) puA puA ?_
 unfold jb_;refine bd ?_
 have c1:=aS_ s.nodes r h.bn
 have hb:=h.bo
 unfold knownS
 try refine aa_ ?_
 generalize hR:((fstN (fun i=>decide ((blkA s.orph i).root=r)) s.orph.length).isSome || decide (0≤findT s.nodes r))=R
 refine au_ (fun i:Nat=>[(5,.int .i64 i)]) (fun _=>[.var (stoC s.a),.var (rtc r)]) (fun i=>s.orph.length-i) (fun i=>i≤s.orph.length∧R=((fstG (fun i=>decide ((blkA s.orph i).root=r)) (s.orph.length-i) i).isSome || decide (0≤findT s.nodes r))) 0 ⟨Nat.zero_le _,hR.symm⟩ ?_ ?_
 · refine GC.mk' [] [0,1] (by simp) rfl (by simp) (by simp) evd evd
 clear hR
 rintro i ⟨hi,hn⟩
 rw[hn]
 (try simp only[as_,av_,List.set_cons_zero,List.set_cons_succ])
 by_cases h1:i<s.orph.length
 · have e1:decide ((i:Int)<((s.orph.length:Nat):Int))=true:=decide_eq_true (by omega)
   have hw:=af_ h1 (by omega)
   have hgd:(rows blkC s.orph).getD i []=blkC (blkA s.orph i):=bl_ (f:=blkC) blk0 h1
   repeat(first | refine aa_ ?_ | simp only[go_sem,e1])
   refine ac_ ?_
   repeat(first | refine aa_ ?_ | simp only[go_sem,hgd])
   refine aD_ (fun h=>?_) (fun h=>?_)
   · rw[hw_ h1 h]
     try refine aa_ ?_
     exact fin0
   · rw[hm_ h1 h]
     repeat(first | refine aa_ ?_ | simp only[go_sem,hw])
     refine⟨i+1,⟨h1,rfl⟩,by omega,?_⟩
     refine GC.mk' [] [0,1] (by simp) rfl (by simp) (by simp) evd evd
 · obtain rfl:i=s.orph.length:=by omega
   have e1:decide (((s.orph.length:Nat):Int)<((s.orph.length:Nat):Int))=false:=decide_eq_false (by omega)
   rw[hc_]
   repeat(first | refine aa_ ?_ | simp only[go_sem,e1])
   refine ab_ ?_
   try refine aa_ ?_
   refine pcall c1 ?_
   try refine aa_ ?_
   exact fin0
end Go.Proofs.YtipiipgpnkpejaaGreat
