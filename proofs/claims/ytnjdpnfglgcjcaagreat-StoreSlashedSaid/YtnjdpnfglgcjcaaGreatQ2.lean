/-
 My texts Ud, Ue, joined.
-/
import Derived.Test.YtnjdpnfglgcjcaaGreatQ4
import Derived.Test.YtnjdpnfglgcjcaaGreatI1
import Derived.Test.YtnjdpnfglgcjcaaGreatP4
import Derived.Test.YtnjdpnfglgcjcaaGreatT3
import Derived.Test.YtnjdpnfglgcjcaaGreatP5
import Derived.Test.YtnjdpnfglgcjcaaGreatS3
set_option linter.unusedVariables false
set_option linter.unusedSimpArgs false
set_option maxRecDepth 8000
set_option maxHeartbeats 4000000
namespace Go.Proofs.YtnjdpnfglgcjcaaGreat
open Go Go.FH Go.RowKit
theorem QS{l:List aH}{c:Cp}(h:0<=cS l c):∃i,i<l.length/\(tab l i).cp=c:=by
 unfold cS at h;cases hf:cE (fun i=>decide ((tab l i).cp=c)) l.length with
 |none=>rw[hf]at h;exact absurd h (by decide)
 | some i =>
   obtain⟨h1,h2,_⟩:=dY hf;exact⟨i,h1,by simpa using h2⟩
theorem ade{l:List aH}{n:Int}(h:AY l n)(c:Cp):∃i,gR l c l.length 0=i/\i<=l.length/\(∀j,j<i->gh (l.getD j default).cp c<0)/\(∀j,i<=j->j<l.length->¬gh (l.getD j default).cp c<0)/\(decide (i<l.length)&&decide (gh (l.getD i default).cp c=0))=decide (0<=cS l c):=by
 obtain⟨p1,p2,p3⟩:=FJ l c l.length 0 (by omega) (fun k hk=>absurd hk (Nat.not_lt_zero k));refine⟨_,rfl,p1,p2,?_⟩;generalize gR l c l.length 0=i at *;have hpw:=List.pairwise_iff_getElem.1 h.2;have kI:∀j (hj:j<l.length),tab l j=l[j]:=fun j hj=>by unfold tab;rw[List.getD_eq_getElem?_getD,List.getElem?_eq_getElem hj];rfl
 have hs:∀a b,a<b->b<l.length->gh (tab l a).cp (tab l b).cp<0:=fun a b hab hb=>by rw[kI a (by omega),kI b hb];exact hpw a b (by omega) hb hab
 have h2:∀j,i<=j->j<l.length->¬gh (tab l j).cp c<0:=fun j hij hj hlt=>by
  by_cases he:i=j
  ·subst he;exact p3 hj hlt
  ·exact p3 (by omega) (D4 (hs i j (by omega) hj) hlt)
 refine⟨h2,?_⟩;have h00:gh c c=0:=by have:=IJ c c;omega
 rw[Bool.eq_iff_iff,Bool.and_eq_true,decide_eq_true_eq,decide_eq_true_eq,decide_eq_true_eq];constructor
 ·rintro⟨k1,k2⟩;have k3:=W8 k2;have:=Dz (l:=l) (t:=l.getD i default) (by rw[List.getD_eq_getElem?_getD,List.getElem?_eq_getElem k1];exact List.getElem_mem _);rw[k3]at this;exact this
 ·intro k1
  obtain⟨j,hj,hc⟩:=QS k1
  have hji:i<=j:=Nat.le_of_not_lt fun hlt=>by
   have:=p2 j hlt;rw[hc,h00]at this;exact absurd this (by decide)
  have hij:i=j:=by
   apply Decidable.byContradiction
   intro hne;have h5:=hs i j (by omega) hj;rw[hc]at h5;exact p3 (by omega) h5
  subst hij;exact⟨hj,by show gh (tab l i).cp c=0;rw[hc];exact h00⟩
theorem xz(set l:List Int)(h:set.Pairwise (· < ·)):∀i,(aL (oz l) set i).Pairwise (· < ·)
 |0=>h
 |i+1=>by rw[bH];exact tn _ _ (xz set l h i)
theorem Yi(l:List Int)(v:Int)(i:Nat)(hi:i<=l.length)(hb:l.length<=1000000)(h1:∀j,j<i->l.getD j 0<v)(h2:∀j,i<=j->j<l.length->¬l.getD j 0<v):
 aI Tryz.prog 104 [.hs 1 0 0 l.length,.int .i64 v] [.vec 1 (ax .i64 l)] (.tup [.int .i64 i,.bool (decide (i<l.length)&&decide (l.getD i 0=v))]) [.vec 1 (ax .i64 l)]:=by
 refine aI.lend rfl ?_;have ht:List.take l.length (ax .i64 l)=ax .i64 l:=List.take_of_length_le (by simp);(try simp only[go_sem,ht,List.length_cons,List.length_nil,List.range_succ,List.range_zero])
 exact Yj l false v i hi hb h1 h2
theorem oV(s:am)(m:Nat)(h:bi s m)(hq:s.eqv.Pairwise (· < ·))(x:eR)(h1:x.fst.vals.length<=100)(h2:x.snd.vals.length<=100):PC Tryz.prog 36 [.agg (aw s.a),.agg (dq x.a)] (.tup [.agg (aw (di s x).1.a),.int .i64 (di s x).2]):=by
 refine PC.fact 28 HD (by simp) puA puA ?_;unfold vM;refine bd ?_;have c0:=kW s h.cp;unfold OO at c0;have c1:=RA x.a x.fst.vals x.snd.vals false false s.cfg.bals.length rfl rfl h1 h2;have c2:=IS x.a x.fst.vals x.snd.vals false false rfl rfl h1 h2;have hcl:(ee x.fst.vals x.snd.vals x.fst.vals.length).length<=x.fst.vals.length:=pY _ _ _;have hqq:=h.qq;have hii:=h.ii;have hln:=Ds s.eqv (ee x.fst.vals x.snd.vals x.fst.vals.length);have hsr:=xz s.eqv (ee x.fst.vals x.snd.vals x.fst.vals.length) hq;unfold di mV;generalize evE x.a x.fst.vals x.snd.vals s.cfg.bals.length=V at *;generalize ee x.fst.vals x.snd.vals x.fst.vals.length=C at *;by_cases q1:V=0
 case neg=>
  have e1:(V != 0)=true:=by simp[q1]
  rw[if_pos q1];refine gon ?_;refine ai c1 ?_;refine aE e1 ?_;exact gS (by first|rfl|exact evd) (by first|rfl|exact evd)
 subst q1;rw[if_neg (by simp)];refine gon ?_;refine ai c1 ?_;refine bh ?_;refine bP [] (c0) evd (bx.mk' (by simp) evd) ?_;refine evg ?_;refine gon ?_;refine acT c2 ?_
 refine ay (fun i:Nat=>[(27,.int .i64 i),(23,.dead)]) (fun i=>[.var (aw s.a),.var (dq x.a),.var (aw gY),.vec 1 (ax .u64 s.cfg.bals),.vec 34 (rows bM s.latest),.vec 1 (ax .i64 (aL (oz C) s.eqv i)),.vec 67 (rows aW.c s.early),.vec 238 (rows aA s.orph),.vec 240 (rows aP s.nodes),.vec 34 (rows aH.c s.tabs),.var (aw ⟨⟨s.cfg.lim,s.cfg.spe,s.cfg.boost,s.cfg.ttd,s.cfg.gen,.hs 1 3 0 s.cfg.bals.length⟩,.hs 34 4 0 s.latest.length,.hs 1 5 0 (aL (oz C) s.eqv i).length,s.j,s.f,.hs 67 6 0 s.early.length,.hs 238 7 0 s.orph.length,.hs 240 8 0 s.nodes.length,s.now,s.boost,.hs 34 9 0 s.tabs.length⟩)]) (fun i=>C.length-i) (fun i=>i<=C.length) 0 (Nat.zero_le _) ?_ ?_
 ·exact adk [] [0,1,2,3,4,5,6,7,8,9,10]
 intro i hi;refine dM ?_;by_cases h1:i<C.length
 ·have e1:=inT h1
  have hw:=ah h1 (by omega);have hgd:=gdn (k:=.i64) h1;have hs:aL (oz C) s.eqv (i+1)=jj (aL (oz C) s.eqv i) (C.getD i 0):=bH (oz C) s.eqv i;have hl:=hln i;have hsi:=hsr i;obtain⟨p,p1,p2,p3⟩:=acq (C.getD i 0) _ hsi;have c3:=Yi _ (C.getD i 0) p p1 (by omega) p2 p3;have c4:=RC _ p (C.getD i 0) p1 (by omega);have hin:=Dq _ (C.getD i 0) p p1 p2 (fun hp=>p3 p (Nat.le_refl _) hp);rw[hin]at hs;generalize aL (oz C) s.eqv i=U at *;generalize C.getD i 0=v at *;refine bg e1 ?_;refine ap hgd ?_;refine bP [5] (c3) evd (bx.mk' (by simp) evd) ?_;refine evg ?_;by_cases q:p<U.length/\U.getD p 0=v
  ·rw[if_pos q]at hs;have e2:(decide (p<U.length)&&decide (U.getD p 0=v))=true:=by rw[ak q.1,Bool.true_and];exact ak q.2
   refine aQ e2 ?_;refine ap hw ?_;refine⟨i+1,h1,by omega,?_⟩;rw[hs];exact adk [] [0,1,2,3,4,5,6,7,8,9,10]
  ·rw[if_neg q]at hs
   have e2:(decide (p<U.length)&&decide (U.getD p 0=v))=false:=by
    rw[<-Bool.not_eq_true,Bool.and_eq_true,decide_eq_true_eq,decide_eq_true_eq];exact q
   have hs2:aL (oz C) s.eqv (i+1)=U.take p++v::U.drop p:=by rw[hs];simp
   have hlu:(U.take p++v::U.drop p).length=U.length+1:=by simp;omega
   refine aE e2 ?_;refine bP [5] (c4) evd (bx.mk' (by simp) evd) ?_;refine evg ?_;refine ap hw ?_;refine⟨i+1,h1,by omega,?_⟩;rw[hs2,hlu];exact adk [] [0,1,2,3,4,11,6,7,8,9,10]
 ·obtain rfl:i=C.length:=by omega
  have e1:=inF (C.length);have hl:=hln C.length;generalize aL (oz C) s.eqv C.length=U at *;refine aD e1 ?_;by_cases q2:U.length=s.eqv.length
  ·have e2:(((U.length:Nat):Int)==((s.eqv.length:Nat):Int))=true:=by simp[q2]
   have e3:IntKind.i64.wrap ((U.length:Int)-s.eqv.length)=0:=by rw[q2,Int.sub_self];rfl
   rw[if_pos e3];refine aE e2 ?_;exact gS (by first|rfl|exact evd) (by first|rfl|exact evd)
  ·have e2:(((U.length:Nat):Int)==((s.eqv.length:Nat):Int))=false:=by simp;omega
   have e3:¬IntKind.i64.wrap ((U.length:Int)-s.eqv.length)=0:=by rw[aK (by omega) (by omega)];omega
   rw[if_neg e3];refine aD e2 ?_;unfold PT;exact af
theorem JC(s:am)(m:Nat)(h:bi s m)(hv:AY s.tabs s.cfg.bals.length)(t:aH)(ht:t.bals.length<=1000000)(hu:∀x∈t.bals,0<=x/\x<18446744073709551616):PC Tryz.prog 51 [.agg (aw s.a),.agg (bE t.a)] (.tup [.agg (aw (iu s t).1.a),.int .i64 (iu s t).2]):=by
 refine PC.fact 10 Af (by simp) puA puA ?_;unfold pV;refine bd ?_;have c0:=kW s h.cp;unfold OO at c0;have c1:=wv t s.cfg.bals.length ht hu;have htt:=h.tt;obtain⟨p,p0,p1,p2,p3,p4⟩:=ade hv t.cp;have c2:=Vl s.tabs false t p p1 (by omega) p2 p3;rw[p4]at c2;have c3:=IQ t ht;have c4:=RD s.tabs p t p1 (by omega);rw[show rows aH.c [t]=[bE t.a]from rfl]at c4;have hL:(s.tabs.take p++t::s.tabs.drop p).length=s.tabs.length+1:=by simp;omega
 have hE:s.tabs.take p++[t]++s.tabs.drop p=s.tabs.take p++t::s.tabs.drop p:=by simp
 unfold iu gu mg;rw[p0];generalize fJ t s.cfg.bals.length=V at *;by_cases q1:V=0
 case neg=>
  have e1:(V != 0)=true:=by simp[q1]
  rw[if_pos q1];refine gon ?_;refine ai c1 ?_;refine aE e1 ?_;exact gS (by first|rfl|exact evd) (by first|rfl|exact evd)
 subst q1;simp only[ne_eq,not_true_eq_false,if_false];refine gon ?_;refine ai c1 ?_;refine dk ?_;by_cases q2:t.cp.ep<s.j.ep
 ·have e2:=ak q2;rw[if_pos q2];refine aE e2 ?_;exact gS (by first|rfl|exact evd) (by first|rfl|exact evd)
 have e2:=au q2;rw[if_neg q2];refine aD e2 ?_;refine ai c2 ?_;by_cases q3:0<=cS s.tabs t.cp
 ·have e3:=ak q3;rw[if_pos q3];refine aE e3 ?_;exact gS (by first|rfl|exact evd) (by first|rfl|exact evd)
 have e3:=au q3;rw[if_neg q3];refine aQ e3 ?_;by_cases q4:s.cfg.lim.table<=((s.tabs.length:Nat):Int)
 ·have e4:decide (((s.tabs.length:Nat):Int) ≥ s.cfg.lim.table)=true:=ak q4;rw[if_pos q4];refine aE e4 ?_;exact gS (by first|rfl|exact evd) (by first|rfl|exact evd)
 have e4:decide (((s.tabs.length:Nat):Int) ≥ s.cfg.lim.table)=false:=au q4;rw[if_neg q4];refine aD e4 ?_;refine bP [] (c0) evd (bx.mk' (by simp) evd) ?_;refine evg ?_;refine gon ?_;refine aC (c3) ?_;refine gon ?_;refine cO [9] (c4) (by simp) evd (dt.mk' (by simp) (by simp) evd) ?_;refine evg ?_;rw[hE];generalize s.tabs.take p++t::s.tabs.drop p=L at *;rw[<-hL];refine gon ?_;unfold withT;exact af
theorem SC{s:am}{x:aW}(h:(i9 s x).2≠0):(i9 s x).1=d9:=by
 unfold i9 at h ⊢;split
 ·rfl
 ·rename_i h1
  rw[if_neg h1]at h;split
  ·rename_i h2;rw[if_pos h2]at h;exact absurd rfl h
  ·rename_i h2;rw[if_neg h2]at h;split
   ·rfl
   ·rename_i h3;rw[if_neg h3]at h;exact absurd rfl h
theorem JU{s:am}{x:eR}(h:(di s x).2≠0):(di s x).1=d9:=by
 unfold di at h ⊢;split
 ·rfl
 ·rename_i h1;rw[if_neg h1]at h;split
  ·rfl
  ·rename_i h2;rw[if_neg h2]at h;exact absurd rfl h
theorem Tp{s:am}{x:aH}(h:(iu s x).2≠0):(iu s x).1=d9:=by
 unfold iu at h ⊢;split
 ·rfl
 ·rename_i h1
  rw[if_neg h1]at h;split
  ·rfl
  ·rename_i h2;rw[if_neg h2]at h;split
   ·rfl
   ·rename_i h3;rw[if_neg h3]at h;exact absurd rfl h
theorem abx{s:am}{i:Nat}(h:bi s i){x:aW}(hx:x.vals.length<=10):CpR (i9 s x).1:=by
 by_cases h0:(i9 s x).2=0
 ·exact(h.att hx h0).cp
 ·rw[SC h0];exact yA
theorem Xg{s:am}{i:Nat}(h:bi s i)(hi:i<30){x:eR}(hx:x.fst.vals.length<=10):CpR (di s x).1:=by
 by_cases h0:(di s x).2=0
 ·exact(h.slash hx hi h0).cp
 ·rw[JU h0];exact yA
theorem aby{s:am}{i:Nat}(h:bi s i){x:aH}:CpR (iu s x).1:=by
 by_cases h0:(iu s x).2=0
 ·exact(h.reg h0).cp
 ·rw[Tp h0];exact yA
theorem StV.eqv_sorted{s:am}(h:StV s):s.eqv.Pairwise (· < ·):=by
 rcases h.w.qv with h5|h5
 ·rw[h5];exact List.Pairwise.nil
 ·exact(Gu h5).2
theorem pc_StoreVotes(l:List Int)(hl:l.length<=maxLen)(hwl:∀z∈l,(Lit.int .i64 z).wf=true)(i:Int)(hwi:(Lit.int .i64 i).wf=true)(j:Int)(hwj:(Lit.int .i64 j).wf=true)(k:Int)(hwk:(Lit.int .i64 k).wf=true):PC Tryz.prog 13 [.sl 1 false (ax .i64 l),.int .i64 i,.int .i64 j,.int .i64 k] (.bool true):=by
 refine PC.fact 17 xf (by simp) puA puA ?_;unfold nz;refine bd ?_;obtain⟨a,⟨ha,hV⟩,ca⟩:=Px l;have hI:=ha.sto;have hcl:=hI.cfg.b1;obtain⟨x,hx,cx⟩:=zI a.sto 24 hI (gr .i64 i 16777215) (E6 i).1;obtain⟨y,hy,cy⟩:=tZ a.sto.cfg.bals.length (gr .i64 j 16777215) (by omega);obtain⟨z,hz,cz⟩:=zL a.sto 24 hI (gr .i64 k 16777215) (E6 k).1;have hx1:=hx.len;have hy1:=hy.l1;have hy2:=hy.l2;have hz1:=hz.len;have c1:=Jz a.sto 24 hI x (by omega);have c2:=Ny a.sto 24 hI x (by omega);have c3:=uu _ (abx hI hx1);have c4:=oV a.sto 24 hI hV.eqv_sorted y (by omega) (by omega);have c5:=F4 a.sto 24 hI y (by omega) (by omega);have c6:=uu _ (Xg hI (by decide) hy1);have c7:=JC a.sto 24 hI hV.w.tv z (by omega) (fun n hn=>⟨(hz.bals n hn).1,(hz.bals n hn).2⟩);have c8:=O2 a.sto 24 hI z (by omega);have c9:=uu _ (aby hI (x:=z));have c10:=qA;have eq1:∀n:Int,(n==n)=true:=fun n=>by simp
 have ne1:∀n:Int,(n != n)=false:=fun n=>by simp
 generalize i9 a.sto x=T at *;generalize di a.sto y=U at *;generalize iu a.sto z=R at *;obtain⟨T1,T2⟩:=T;obtain⟨U1,U2⟩:=U;obtain⟨R1,R2⟩:=R;dsimp only at c1 c2 c3 c4 c5 c6 c7 c8 c9;refine gon ?_;refine acT ca ?_;refine acT cx ?_;refine acT cy ?_;refine acT cz ?_;refine acT c1 ?_;refine ai c2 ?_;refine ap ne1 ?_;refine ai c3 ?_;refine bh ?_;refine acT c4 ?_;refine ai c5 ?_;refine ap ne1 ?_;refine ai c6 ?_;refine bh ?_;refine acT c7 ?_;refine ai c8 ?_;refine ap eq1 ?_;refine acT c9 ?_;refine acT c10 ?_;exact af
end Go.Proofs.YtnjdpnfglgcjcaaGreat
