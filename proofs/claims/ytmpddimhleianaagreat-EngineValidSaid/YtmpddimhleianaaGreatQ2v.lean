/- Joined. -/
import Derived.Test.YtmpddimhleianaaGreatQ4v
import Derived.Test.YtmpddimhleianaaGreatI1v
import Derived.Test.YtmpddimhleianaaGreatP4v
import Derived.Test.YtmpddimhleianaaGreatT1v
set_option linter.unusedVariables false
set_option linter.unusedSimpArgs false
set_option maxRecDepth 8000
set_option maxHeartbeats 4000000
namespace Go.Proofs.YtmpddimhleianaaGreat
open Go Go.FH Go.RowKit
theorem Mh{l:List aB}{c:Cp}(h:0<=dr l c):∃i,i<l.length/\(tab l i).cp=c:=by
 unfold dr at h;cases hf:cm (fun i=>decide ((tab l i).cp=c)) l.length with
 |none=>rw[hf]at h;exact absurd h af2
 | some i =>
   obtain⟨h1,h2,_⟩:=cJ hf;exact⟨i,h1,by simpa using h2⟩
theorem abK{l:List aB}{n:Int}(h:yK l n)(c:Cp):∃i,iF l c l.length 0=i/\i<=l.length/\(∀j,j<i->gT (l.getD j default).cp c<0)/\(∀j,i<=j->j<l.length->¬gT (l.getD j default).cp c<0)/\(decide (i<l.length)&&decide (gT (l.getD i default).cp c=0))=decide (0<=dr l c):=by
 obtain⟨p1,p2,p3⟩:=CL l c l.length 0 af0 (fun k hk=>absurd hk (acJ k));refine⟨_,rfl,p1,p2,?_⟩;generalize iF l c l.length 0=i at *;have hpw:=acY.1 h.2;have mO:∀j (hj:j<l.length),tab l j=l[j]:=fun j hj=>by unfold tab;rw[afy,afz hj];rfl
 have hs:∀a b,a<b->b<l.length->gT (tab l a).cp (tab l b).cp<0:=fun a b hab hb=>by rw[mO a af0,mO b hb];exact hpw a b af0 hb hab
 have h2:∀j,i<=j->j<l.length->¬gT (tab l j).cp c<0:=fun j hij hj hlt=>by
  by_cases he:i=j
  ·subst he;exact p3 hj hlt
  ·exact p3 af0 (Bs (hs i j af0 hj) hlt)
 refine⟨h2,?_⟩;have h00:gT c c=0:=by have:=Fs c c;omega
 rw[acU,afL,afJ,afJ,afJ];constructor
 ·rintro⟨k1,k2⟩;have k3:=Tg k2;have:=IP (l:=l) (t:=l.getD i default) (by rw[afy,afz k1];exact afY _);rw[k3]at this;exact this
 ·intro k1
  obtain⟨j,hj,hc⟩:=Mh k1
  have hji:i<=j:=aex fun hlt=>by
   have:=p2 j hlt;rw[hc,h00]at this;exact absurd this af2
  have hij:i=j:=by
   apply ae9
   intro hne;have h5:=hs i j af0 hj;rw[hc]at h5;exact p3 af0 h5
  subst hij;exact⟨hj,by show gT (tab l i).cp c=0;rw[hc];exact h00⟩
theorem CO(set l:List Int)(h:set.Pairwise (· < ·)):∀i,(aH (pV l) set i).Pairwise (· < ·)
 |0=>h
 |i+1=>by rw[bg];exact sd _ _ (CO set l h i)
theorem Vg(l:List Int)(v:Int)(i:Nat)(hi:i<=l.length)(hb:l.length<=2097152)(h1:∀j,j<i->l.getD j 0<v)(h2:∀j,i<=j->j<l.length->¬l.getD j 0<v):
 aJ Tryz.prog 184 [.hs 1 0 0 l.length,.int .i64 v] [.vec 1 (ah .i64 l)] (.tup [.int .i64 i,.bool (decide (i<l.length)&&decide (l.getD i 0=v))]) [.vec 1 (ah .i64 l)]:=by
 refine aJ.lend rfl ?_;have ht:List.take l.length (ah .i64 l)=ah .i64 l:=afD af1;(try simp only[go_sem,ht,afG,afM,acV,adl])
 exact Vh l false v i hi hb h1 h2
theorem KC(s:af)(m:Nat)(h:bi s m)(hq:s.eqv.Pairwise (· < ·))(x:gi)(h1:x.fst.vals.length<=100)(h2:x.snd.vals.length<=100):PC Tryz.prog 109 [.agg (ak s.a),.agg (dU x.a)] (.tup [.agg (ak (d7 s x).1.a),.int .i64 (d7 s x).2]):=by
 refine aQ 28 ?_;have c0:=lH s h.cp;unfold Ki at c0;have c1:=MV x.a x.fst.vals x.snd.vals false false s.cfg.bals.length rfl rfl h1 h2;have c2:=FC x.a x.fst.vals x.snd.vals false false rfl rfl h1 h2;have hcl:(gk x.fst.vals x.snd.vals x.fst.vals.length).length<=x.fst.vals.length:=rS _ _ _;have hqq:=h.qq;have hii:=h.ii;have hln:=Ap s.eqv (gk x.fst.vals x.snd.vals x.fst.vals.length);have hsr:=CO s.eqv (gk x.fst.vals x.snd.vals x.fst.vals.length) hq;unfold d7 ym;generalize evE x.a x.fst.vals x.snd.vals s.cfg.bals.length=V at *;generalize gk x.fst.vals x.snd.vals x.fst.vals.length=C at *;by_cases q1:V=0
 case neg=>
  have e1:(V != 0)=true:=by simp[q1]
  rw[afA q1];refine gon ?_;refine ap c1 ?_;refine aW e1 ?_;exact iG (by first|rfl|exact evd) (by first|rfl|exact evd)
 subst q1;rw[afx af1];refine gon ?_;refine ap c1 ?_;refine bY ?_;refine ocg [] c0 ?_;refine abl c2 ?_
 refine aE (fun i:Nat=>[(27,.int .i64 i),(23,.dead)]) (fun i=>[.var (ak s.a),.var (dU x.a),.var (ak i6),.vec 1 (ah .u64 s.cfg.bals),.vec 34 (rows bJ s.latest),.vec 1 (ah .i64 (aH (pV C) s.eqv i)),.vec 67 (rows aX.c s.early),.vec 238 (rows au s.orph),.vec 240 (rows aT s.nodes),.vec 34 (rows aB.c s.tabs),.var (ak ⟨⟨s.cfg.lim,s.cfg.spe,s.cfg.boost,s.cfg.ttd,s.cfg.gen,.hs 1 3 0 s.cfg.bals.length⟩,.hs 34 4 0 s.latest.length,.hs 1 5 0 (aH (pV C) s.eqv i).length,s.j,s.f,.hs 67 6 0 s.early.length,.hs 238 7 0 s.orph.length,.hs 240 8 0 s.nodes.length,s.now,s.boost,.hs 34 9 0 s.tabs.length⟩)]) (fun i=>C.length-i) (fun i=>i<=C.length) 0 (afK _) ?_ ?_
 ·exact abS [] [0,1,2,3,4,5,6,7,8,9,10]
 intro i hi;refine fM ?_;by_cases h1:i<C.length
 ·have e1:=inT h1
  have hw:=ae h1 af0;have hgd:=gdn (k:=.i64) h1;have hs:aH (pV C) s.eqv (i+1)=kV (aH (pV C) s.eqv i) (C.getD i 0):=bg (pV C) s.eqv i;have hl:=hln i;have hsi:=hsr i;obtain⟨p,p1,p2,p3⟩:=aaU (C.getD i 0) _ hsi;have c3:=Vg _ (C.getD i 0) p p1 af0 p2 p3;have c4:=MX _ p (C.getD i 0) p1 af0;have hin:=Ag _ (C.getD i 0) p p1 p2 (fun hp=>p3 p (afE _) hp);rw[hin]at hs;generalize aH (pV C) s.eqv i=U at *;generalize C.getD i 0=v at *;refine bO e1 ?_;refine aA hgd ?_;refine oce [5] c3 ?_;by_cases q:p<U.length/\U.getD p 0=v
  ·rw[afA q]at hs;have e2:(decide (p<U.length)&&decide (U.getD p 0=v))=true:=by rw[ax q.1,acD];exact ax q.2
   refine da e2 ?_;refine aA hw ?_;refine⟨i+1,h1,af0,?_⟩;rw[hs];exact abS [] [0,1,2,3,4,5,6,7,8,9,10]
  ·rw[afx q]at hs
   have e2:(decide (p<U.length)&&decide (U.getD p 0=v))=false:=by
    rw[<-acE,afL,afJ,afJ];exact q
   have hs2:aH (pV C) s.eqv (i+1)=U.take p++v::U.drop p:=by rw[hs];simp
   have hlu:(U.take p++v::U.drop p).length=U.length+1:=by simp;omega
   refine aW e2 ?_;refine oce [5] c4 ?_;refine aA hw ?_;refine⟨i+1,h1,af0,?_⟩;rw[hs2,hlu];exact abS [] [0,1,2,3,4,11,6,7,8,9,10]
 ·obtain rfl:i=C.length:=af0
  have e1:=inF (C.length);have hl:=hln C.length;generalize aH (pV C) s.eqv C.length=U at *;refine aS e1 ?_;by_cases q2:U.length=s.eqv.length
  ·have e2:(((U.length:Nat):Int)==((s.eqv.length:Nat):Int))=true:=by simp[q2]
   have e3:IntKind.i64.wrap ((U.length:Int)-s.eqv.length)=0:=by rw[q2,Int.sub_self];rfl
   rw[afA e3];refine aW e2 ?_;exact iG (by first|rfl|exact evd) (by first|rfl|exact evd)
  ·have e2:(((U.length:Nat):Int)==((s.eqv.length:Nat):Int))=false:=by simp;omega
   have e3:¬IntKind.i64.wrap ((U.length:Int)-s.eqv.length)=0:=by rw[ar af0 af0];omega
   rw[afx e3];refine aS e2 ?_;unfold Za;exact aj
theorem Ra(s:af)(m:Nat)(h:bi s m)(hv:yK s.tabs s.cfg.bals.length)(t:aB)(ht:t.bals.length<=2097152)(hu:∀x∈t.bals,0<=x/\x<18446744073709551616):PC Tryz.prog 110 [.agg (ak s.a),.agg (bE t.a)] (.tup [.agg (ak (iL s t).1.a),.int .i64 (iL s t).2]):=by
 refine aQ 10 ?_;have c0:=lH s h.cp;unfold Ki at c0;have c1:=ab0 t s.cfg.bals.length ht hu;have htt:=h.tt;obtain⟨p,p0,p1,p2,p3,p4⟩:=abK hv t.cp;have c2:=QR s.tabs false t p p1 af0 p2 p3;rw[p4]at c2;have c3:=Fz t ht;have c4:=MZ s.tabs p t p1 af0;rw[show rows aB.c [t]=[bE t.a]from rfl]at c4;have hL:(s.tabs.take p++t::s.tabs.drop p).length=s.tabs.length+1:=by simp;omega
 have hE:s.tabs.take p++[t]++s.tabs.drop p=s.tabs.take p++t::s.tabs.drop p:=af1
 unfold iL ib mF;rw[p0];generalize fY t s.cfg.bals.length=V at *;by_cases q1:V=0
 case neg=>
  have e1:(V != 0)=true:=by simp[q1]
  rw[afA q1];refine gon ?_;refine ap c1 ?_;refine aW e1 ?_;exact iG (by first|rfl|exact evd) (by first|rfl|exact evd)
 subst q1;simp only[afw,aeq,acq];refine gon ?_;refine ap c1 ?_;refine d6 ?_;by_cases q2:t.cp.ep<s.j.ep
 ·have e2:=ax q2;rw[afA q2];refine aW e2 ?_;exact iG (by first|rfl|exact evd) (by first|rfl|exact evd)
 have e2:=aD q2;rw[afx q2];refine aS e2 ?_;refine ap c2 ?_;by_cases q3:0<=dr s.tabs t.cp
 ·have e3:=ax q3;rw[afA q3];refine aW e3 ?_;exact iG (by first|rfl|exact evd) (by first|rfl|exact evd)
 have e3:=aD q3;rw[afx q3];refine da e3 ?_;by_cases q4:s.cfg.lim.table<=((s.tabs.length:Nat):Int)
 ·have e4:decide (((s.tabs.length:Nat):Int) ≥ s.cfg.lim.table)=true:=ax q4;rw[afA q4];repeat(first|refine aM ?_|simp only[go_sem,e4])
  refine aac ?_;exact iG (by first|rfl|exact evd) (by first|rfl|exact evd)
 have e4:decide (((s.tabs.length:Nat):Int) ≥ s.cfg.lim.table)=false:=aD q4;rw[afx q4];repeat(first|refine aM ?_|simp only[go_sem,e4])
 refine aab ?_;refine ocg [] c0 ?_;refine aP (c3) ?_;refine gon ?_;refine dse [9] c4 ?_;rw[hE];generalize s.tabs.take p++t::s.tabs.drop p=L at *;rw[<-hL];refine gon ?_;unfold withT;exact aj
end Go.Proofs.YtmpddimhleianaaGreat
