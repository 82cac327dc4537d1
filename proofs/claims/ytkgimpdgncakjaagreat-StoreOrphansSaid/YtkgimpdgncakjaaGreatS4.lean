/-
 My texts Rj, Rk, joined.
-/
import Derived.Test.YtkgimpdgncakjaaGreatV7
import Derived.Test.YtkgimpdgncakjaaGreatT3
import Derived.Test.YtkgimpdgncakjaaGreatU2
import Derived.Test.YtkgimpdgncakjaaGreatS3
namespace Go.Proofs.YtkgimpdgncakjaaGreat
open Go Go.FH Go.RowKit
set_option linter.unusedVariables false
set_option linter.unusedSimpArgs false
set_option maxRecDepth 4000
def sG_(s:ai_)(j f:Cp)(l:List Blk):List Blk:=
 if iK_ s (bG_ s.j j) (bG_ s.f f)=false then l else if bG_ s.f f=s.f then l else aw_ (iH_ l (bK_ s (bG_ s.f f).ep).1) [] l.length
theorem Av_(s:ai_)(j f:Cp)(l:List Blk):bp_ (withO s l) j f=withO (bp_ s j f) (sG_ s j f l):=by
 have h1:iK_ (withO s l) (bG_ (withO s l).j j) (bG_ (withO s l).f f)=iK_ s (bG_ s.j j) (bG_ s.f f):=rfl;unfold bp_ sG_;rw[h1];by_cases h2:iK_ s (bG_ s.j j) (bG_ s.f f)=false
 ·rw[if_pos h2,if_pos h2,if_pos h2]
 ·rw[if_neg h2,if_neg h2,if_neg h2];by_cases h3:bG_ s.f f=s.f
  ·rw[if_pos h3,if_pos h3,if_pos (show bG_ (withO s l).f f=(withO s l).f from h3)];rfl
  ·rw[if_neg h3,if_neg h3,if_neg (show ¬bG_ (withO s l).f f=(withO s l).f from h3)];rfl
theorem RL_(c:Blk)(a:Int):aw_ (iH_ [c] a) [] [c].length=if a<c.slot then [c]else []:=rfl
theorem RK_(a:Int):aw_ (iH_ [] a) [] ([]:List Blk).length=[]:=rfl
theorem wC_{e p now:Int}(he:0≤e)(hp:1≤p)(hp2:p≤4)(hn:0≤now)(hn2:now<18446744073709551616)(h:e≤IntKind.u64.wrap (Int.tdiv now p)):(bx_ e p).1=e*p:=by
 have h1:=rd_ he hp (by omega) hn hn2 h;have hd:Int.tdiv now p=now / p:=Int.tdiv_eq_ediv_of_nonneg hn;have hq:now / p≤now:=Int.ediv_le_self _ hn;have hq0:0≤now / p:=Int.ediv_nonneg hn (by omega);rw[hd,aF_ hq0 (by omega)]at h
 have h2:e*p≤now:=by
  have h3:=Int.mul_le_mul_of_nonneg_right h (show 0≤p by omega);have h4:=Int.ediv_mul_le now (show p≠0 by omega);omega
 have h5:0≤e*p:=Int.mul_nonneg he (by omega);unfold bx_ at h1 ⊢;split at h1
 ·rename_i hb
  rw[if_pos hb];unfold vT_ at h1 ⊢;split at h1
  ·simp at h1
  ·rename_i hc;rw[if_neg hc];exact aF_ h5 (by omega)
 ·simp at h1
theorem HY_{s:ai_}{i:Nat}(h:aJ_ s i){j f:Cp}(hj:U64 j.ep)(hf:U64 f.ep)(c:Blk):sG_ s j f [c]=[c]∨(sG_ s j f [c]=[]∧c.slot≤(bK_ (bp_ s j f) (bp_ s j f).f.ep).1∧(bp_ s j f).f.ep≤aU_ s s.now):=by
 unfold sG_;by_cases h2:iK_ s (bG_ s.j j) (bG_ s.f f)=false
 ·rw[if_pos h2];exact .inl rfl
 ·rw [if_neg h2]
  by_cases h3:bG_ s.f f=s.f
  ·rw[if_pos h3];exact .inl rfl
  ·rw [if_neg h3, RL_]
   by_cases h4:(bK_ s (bG_ s.f f).ep).1<c.slot
   ·rw[if_pos h4];exact .inl rfl
   ·rw[if_neg h4]
    refine .inr ⟨rfl,?_,?_⟩
    ·unfold bp_;rw[if_neg h2,if_neg h3];show c.slot≤(bK_ s (bG_ s.f f).ep).1
     omega
    ·unfold bp_;rw[if_neg h2,if_neg h3];show (bG_ s.f f).ep≤_
     unfold iK_ at h2;simp only[Bool.and_eq_false_iff,decide_eq_false_iff_not,not_or,Classical.not_not,Bool.not_eq_false]at h2;omega
theorem Kb_(s:ai_)(j f:Cp):sG_ s j f []=[]:=by
 unfold sG_;split
 ·rfl
 ·split
  ·rfl
  ·exact RK_ _
theorem Sc_{s:ai_}{j f:Cp}:(bp_ s j f).f=s.f∨(s.f.ep<(bp_ s j f).f.ep∧(bp_ s j f).f.ep≤aU_ s s.now):=by
 unfold bp_;by_cases h2:iK_ s (bG_ s.j j) (bG_ s.f f)=false
 ·rw[if_pos h2];exact .inl rfl
 ·rw [if_neg h2]
  by_cases h3:bG_ s.f f=s.f
  ·rw[if_pos h3];exact .inl h3
  ·rw[if_neg h3]
   refine .inr ⟨?_,?_⟩
   ·show s.f.ep<(bG_ s.f f).ep
    unfold bG_ at h3 ⊢;split
    ·assumption
    ·rename_i h4;rw[if_neg h4]at h3;exact absurd rfl h3
   ·show (bG_ s.f f).ep≤_
    unfold iK_ at h2;simp only[Bool.and_eq_false_iff,decide_eq_false_iff_not,not_or,Classical.not_not,Bool.not_eq_false]at h2;omega
theorem Op_{s:ai_}(j f:Cp)(h:s.orph=[]):(bp_ s j f).orph=[]:=by
 have:=(rh_ s j f).1;rw[h]at this;exact List.length_eq_zero_iff.1 (Nat.le_zero.1 this)
theorem zD_{s:ai_}(b:Blk)(h:s.orph=[]):(cO_ s b).orph=[]:=by
 unfold cO_;split
 ·exact Op_ _ _ (Op_ _ _ h)
 ·exact Op_ _ _ h
theorem JU_{s:ai_}{i:Nat}(h:aJ_ s i){b:Blk}(hc:aI_ s b=0)(hb:eL_ i b)(c:Blk):
 ∃l,(l=[c]∨(l=[]∧c.slot≤(bK_ (cO_ s b) (cO_ s b).f.ep).1))∧cO_ (withO s [c]) b=withO (cO_ s b) l:=by
 have h0:=h.insN hc hb;have hw:∀t,ch_ (withO s [c]) t=withO (ch_ s t) [c]:=fun _=>rfl
 unfold cO_;rw[hw,show (withO s [c]).nodes=s.nodes from rfl];generalize ch_ s (dM_ s.nodes b (cz_ b)).1=s1 at *;rw[Av_];have h1:=h0.upd hb.just hb.fin;have k1:=HY_ h0 hb.just hb.fin c;have n1:(bp_ s1 b.just b.fin).now=s1.now:=ID_ _ _ _;have e1:∀n,aU_ (bp_ s1 b.just b.fin) n=aU_ s1 n:=fun n=>by unfold aU_;rw[CF_]
 generalize sG_ s1 b.just b.fin [c]=l1 at *;have he:∀x l n,aU_ (withO x l) n=aU_ x n:=fun _ _ _=>rfl
 have hn:∀x l,(withO x l).now=x.now:=fun _ _=>rfl
 simp only[he,hn];by_cases q:aU_ (bp_ s1 b.just b.fin) b.slot<aU_ (bp_ s1 b.just b.fin) (bp_ s1 b.just b.fin).now
 ·rw [if_pos q, if_pos q, Av_]
  refine⟨_,?_,rfl⟩;rcases k1 with k1|⟨k1,k2,k3⟩
  ·rw[k1];rcases HY_ h1 hb.j hb.f c with k|⟨k,k',_⟩
   ·exact .inl k
   ·exact .inr ⟨k,k'⟩
  ·rw[k1,Kb_]
   refine .inr ⟨rfl,?_⟩;have h2:=h1.upd hb.j hb.f;have c2:(bp_ (bp_ s1 b.just b.fin) b.pul.j b.pul.f).cfg=(bp_ s1 b.just b.fin).cfg:=CF_ _ _ _;rcases Sc_ (s:=bp_ s1 b.just b.fin) (j:=b.pul.j) (f:=b.pul.f)with k|⟨k,k'⟩
   ·rw[k];unfold bK_ at k2 ⊢;rw[c2];exact k2
   ·have ha:=h1.uf;have hb':=h1.cfg.s1;have hb4:=h1.cfg.s4;have hnw:=h1.nw.1;have e2:(bp_ s1 b.just b.fin).f.ep≤aU_ (bp_ s1 b.just b.fin) (bp_ s1 b.just b.fin).now:=by rw[e1,n1];exact k3
    have m1:=wC_ ha.lo hb' hb4 hnw.lo hnw.hi e2;have m2:=wC_ (by have:=ha.lo;omega) hb' hb4 hnw.lo hnw.hi k';unfold bK_ at k2 ⊢;rw[c2];dsimp only at k2 ⊢;rw[m1]at k2;rw[m2];have:=Int.mul_le_mul_of_nonneg_right (Int.le_of_lt k) (show 0≤(bp_ s1 b.just b.fin).cfg.spe by omega);omega
 ·rw[if_neg q,if_neg q];refine⟨_,?_,rfl⟩;rcases k1 with k1|⟨k1,k2,k3⟩
  ·exact .inl k1
  ·exact .inr ⟨k1,k2⟩
theorem zl_{s:ai_}{b:Blk}(h2:aI_ s b≠2)(h9:aI_ s b≠9):ek_ s b.root=false:=by
 unfold aI_ at h2 h9;by_cases q:b.root=rt0
 ·rw[if_pos q]at h2;exact absurd rfl h2
 ·by_cases k:ek_ s b.root=true
  ·rw[if_neg q,if_pos k]at h9;exact absurd rfl h9
  ·simpa using k
theorem rM_{s:ai_}(ho:s.orph=[])(r:Rt):ek_ s r=decide (0≤ak_ s.nodes r):=by
 unfold ek_;rw[ho];rfl
theorem Ot_{s:ai_}(ho:s.orph=[]):bC_ s<0:=by
 have:=(nk_ s);rw[ho]at this;simp at this;omega
theorem kv_{s:ai_}(ho:s.orph=[])(l:List Rt)(n:Nat):waitG (n+1) (s,l)=(s,l):=by
 unfold waitG;rw[if_pos (Ot_ ho)]
theorem pa_{s:ai_}{b:Blk}(hb:b.timely=false):blockI s b=cO_ s b:=by
 unfold blockI;rw[if_neg (by rw[hb];simp)]
theorem uq_{s:ai_}{b:Blk}(h:aI_ s b=0):aT_ s b=((waitG ((blockI s b).orph.length+1) (blockI s b,[b.root])).1,(waitG ((blockI s b).orph.length+1) (blockI s b,[b.root])).2,0):=by
 unfold aT_;rw[if_neg (by rw[h];decide),if_neg (by rw[h];simp)]
theorem zg_{s:ai_}{b:Blk}(h:aI_ s b≠0)(h10:aI_ s b≠10):aT_ s b=(dd_,[],aI_ s b):=by
 unfold aT_;rw[if_neg h10,if_pos h]
theorem AV_{s:ai_}{l:List Blk}{b:Blk}(h:ek_ (withO s l) b.root=ek_ s b.root):aI_ (withO s l) b=aI_ s b:=by
 unfold aI_;rw[h];rfl
theorem Ft_{x:ai_}{c:Blk}{L:List Rt}(hxo:x.orph=[])(hp:¬ak_ x.nodes c.parent<0):waitG ([c].length+1) (withO x [c],L)=if aI_ x c=0 then (cO_ x c,L++[c.root])else (x,L):=by
 have hxw:withO x []=x:=by
  obtain⟨x1,x2,x3,x4,x5,x6,x7,x8,x9,x10,x11⟩:=x;dsimp only at hxo;subst hxo;rfl
 have h0:bC_ (withO x [c])=0:=by
  unfold bC_;cases hf:ca_ (fun i=>decide (0≤ak_ (withO x [c]).nodes (ce_ (withO x [c]).orph i).parent)) (withO x [c]).orph.length with
  |none=>exact absurd (of_decide_eq_false (nr_ hf 0 Nat.zero_lt_one)) (by show ¬ ¬0≤ak_ x.nodes c.parent;omega)
  | some k =>
    obtain⟨h1,_⟩:=dt_ hf;obtain rfl:k=0:=by have h1:k<1:=h1;omega
    rfl
 have h1:waitR (withO x [c],L)=if aI_ x c=0 then (cO_ x c,L++[c.root])else (x,L):=by
  unfold waitR;dsimp only;rw[h0];show (if aI_ (withO x []) c=0 then (cO_ (withO x []) c,L++[c.root])else (withO x [],L))=_
  rw[hxw]
 show waitG (1+1) _=_
 unfold waitG;rw[if_neg (by rw[h0];decide),h1];by_cases q:aI_ x c=0
 ·rw[if_pos q,kv_ (zD_ c hxo)]
 ·rw[if_neg q,kv_ hxo]
structure Sw_(s:ai_)(b:Blk):Prop where
 now:b.slot≤s.now
 old:(bK_ s s.f.ep).1<b.slot
theorem uE_{s:ai_}{b:Blk}(h:aI_ s b=0):Sw_ s b:=by
 unfold aI_ at h;split at h
 ·simp at h
 ·split at h
  ·simp at h
  ·split at h
   ·simp at h
   ·split at h
    ·simp at h
    ·exact⟨by omega,by omega⟩
structure Rz_(S:ai_)(b c:Blk)(x u v:ai_)(both:List Rt):Prop where
 hx:aT_ S b=(x,[b.root],0)
 hu:aT_ S c=(u,[],0)
 u1:u.orph.length=1
 hv:aT_ u b=(v,both,0)
 hd:∃l,both=b.root::l
 er:(aT_ x c).2.2≠0→both.length=1∧v=x
 ok:(aT_ x c).2.2=0→(aT_ x c).2.1.length=1∧both.length=2∧v=(aT_ x c).1
theorem No_{S:ai_}(hS:aJ_ S 30)(ho:S.orph=[])(hlim:S.cfg.lim.orph=2){b c:Blk}(hb:eL_ 30 b)(hbt:b.timely=false)(hct:c.timely=false)(hcr:c.root=yq_)(hbr:b.root≠yq_)
 (hcp:c.parent=b.root) (hcs:aI_ S b=0→c.slot=b.slot+1) (hcn:c.slot≤S.now) (hn:∀n∈S.nodes,n.blk.root≠yq_) (he:(aT_ S b).2.2=0) (hx:0≤ak_ (aT_ S b).1.nodes b.root):
 ∃v both,Rz_ S b c (cO_ S b) (withO S [c]) v both:=by
 have h0:aI_ S b=0:=by
  by_cases h10:aI_ S b=10
  ·exfalso
   have hk:=zl_ (s:=S) (b:=b) (by rw[h10];decide) (by rw[h10];decide);rw[rM_ ho]at hk;have hk:=of_decide_eq_false hk;unfold aT_ at hx;rw[if_pos h10,if_neg (by rw[hlim,ho];simp)]at hx;exact hk hx
  ·by_cases h:aI_ S b=0
   ·exact h
   ·rw[zg_ h h10]at he;exact he
 have hz:=uE_ h0;have hs1:=hcs h0;have hnoc:noT c=c:=by unfold noT;rw[←hct]
 have hxx:aT_ S b=(cO_ S b,[b.root],0):=by
  rw[uq_ h0,pa_ hbt,zD_ b ho];show ((waitG (0+1) _).1,(waitG (0+1) _).2,(0:Int))=_
  rw[kv_ (zD_ b ho)]
 have hkb:=zl_ (s:=S) (b:=b) (by rw[h0];decide) (by rw[h0];decide);have hkb':=hkb;rw[rM_ ho]at hkb';have hfb:=of_decide_eq_false hkb'
 have hkc:ek_ S c.root=false:=by
  rw[rM_ ho];refine decide_eq_false fun hf=>?_
  obtain⟨h1,h2⟩:=mM_ hf;exact hn _ (dA_ _ h1) (h2.trans hcr)
 have hc10:aI_ S c=10:=by
  unfold aI_;rw[if_neg (by rw[hcr];decide),if_neg (by rw[hkc];decide),if_neg (by omega),if_neg (by have:=hz.old;omega),if_pos (by rw[hcp];omega)]
 have huu:aT_ S c=(withO S [c],[],0):=by
  unfold aT_;rw[if_pos hc10,if_neg (by rw[hlim,ho];simp),ho,hnoc];rfl
 have hub:aI_ (withO S [c]) b=0:=by
  rw[AV_,h0];rw[hkb];unfold ek_;rw[Bool.or_eq_false_iff];refine⟨?_,hkb'⟩
  have:ca_ (fun i=>decide ((ce_ (withO S [c]).orph i).root=b.root)) (withO S [c]).orph.length=none:=by
   cases hf:ca_ (fun i=>decide ((ce_ (withO S [c]).orph i).root=b.root)) (withO S [c]).orph.length with
   |none=>rfl
   | some k =>
     obtain⟨h1,h2,_⟩:=dt_ hf;obtain rfl:k=0:=by have h1:k<1:=h1;omega
     have h3:c.root=b.root:=of_decide_eq_true h2;exact absurd (h3.symm.trans hcr) hbr
  rw[this];rfl
 obtain⟨l,hl,hi⟩:=JU_ hS h0 hb c;have hX:=hS.ins h0 hb;have hxo:=zD_ b ho;rw[hxx]at hx;dsimp only at hx
 have hvv:aT_ (withO S [c]) b=((waitG (l.length+1) (withO (cO_ S b) l,[b.root])).1,(waitG (l.length+1) (withO (cO_ S b) l,[b.root])).2,0):=by
  rw[uq_ hub,pa_ hbt,hi];rfl
 generalize cO_ S b=x at *
 have hxw:withO x []=x:=by
  clear hvv hi;obtain⟨x1,x2,x3,x4,x5,x6,x7,x8,x9,x10,x11⟩:=x;dsimp only at hxo;subst hxo;rfl
 have hpc:¬ak_ x.nodes c.parent<0:=by rw[hcp];omega
 have hne10:aI_ x c≠10:=by
  unfold aI_;intro h;(repeat' split at h)<;>first|contradiction|(revert h;decide)|skip
 by_cases q:aI_ x c=0
 ·have hl:l=[c]:=by
   rcases hl with hl|⟨_,hl⟩
   ·exact hl
   ·exact absurd (uE_ q).old (by omega)
  subst hl
  have hb1:aT_ x c=(cO_ x c,[c.root],0):=by
   rw[uq_ q,pa_ hct,zD_ c hxo];show ((waitG (0+1) _).1,(waitG (0+1) _).2,(0:Int))=_
   rw[kv_ (zD_ c hxo)]
  rw[Ft_ hxo hpc,if_pos q]at hvv;exact⟨_,_,hxx,huu,rfl,hvv,⟨_,rfl⟩,fun h=>by rw[hb1]at h;exact absurd rfl h,fun _=>by rw[hb1];exact⟨rfl,rfl,rfl⟩⟩
 ·have hb1:=zg_ q hne10
  have hvv':aT_ (withO S [c]) b=(x,[b.root],0):=by
   rw[hvv];rcases hl with rfl|⟨rfl,_⟩
   ·rw[Ft_ hxo hpc,if_neg q]
   ·rw[hxw];show ((waitG (0+1) _).1,(waitG (0+1) _).2,(0:Int))=_
    rw[kv_ hxo]
  exact⟨_,_,hxx,huu,rfl,hvv',⟨_,rfl⟩,fun _=>⟨rfl,rfl⟩,fun h=>by rw[hb1]at h;exact absurd h q⟩
def or0(s:ai_):ai_:=⟨⟨⟨s.cfg.lim.node,2,s.cfg.lim.early,s.cfg.lim.table,s.cfg.lim.retry,s.cfg.lim.backoff⟩,s.cfg.spe,s.cfg.boost,s.cfg.ttd,s.cfg.gen,s.cfg.bals⟩,s.latest,s.eqv,s.j,s.f,s.early,[],s.nodes,s.now,rt0,s.tabs⟩
def orB(b:Blk):Blk:=⟨b.pul,b.slot,fG_ 99,b.parent,b.payload,b.diff,b.pdiff,b.just,b.fin,false⟩
def orC(b:Blk):Blk:=⟨b.pul,IntKind.u64.wrap (b.slot+1),fG_ 100,fG_ 99,b.payload,b.diff,b.pdiff,b.just,b.fin,false⟩
def orN(s:ai_)(n:Int):ai_:=⟨⟨⟨s.cfg.lim.node,2,s.cfg.lim.early,s.cfg.lim.table,s.cfg.lim.retry,s.cfg.lim.backoff⟩,s.cfg.spe,s.cfg.boost,s.cfg.ttd,s.cfg.gen,s.cfg.bals⟩,s.latest,s.eqv,s.j,s.f,s.early,[],s.nodes,n,rt0,s.tabs⟩
def orS(s:ai_)(b:Blk):ai_:=orN s (if s.now<IntKind.u64.wrap (b.slot+1)then IntKind.u64.wrap (b.slot+1)else s.now)
theorem aJ_.or0{s:ai_}(h:aJ_ s 24):aJ_ (or0 s) 24:=
 ⟨⟨h.cfg.s1,h.cfg.s4,h.cfg.b0,h.cfg.b1,h.cfg.ln,by show (2:Int)≤3;decide,h.cfg.la,h.cfg.lt,h.cfg.lr,h.cfg.tt,h.cfg.gn⟩,h.tree,h.jf,h.ll,h.nn,h.un,Nat.zero_le _,fun b hb=>(by cases hb),h.aa,h.av,h.tt,h.tb,h.qq,h.uj,h.uf,h.nw,h.ii⟩
theorem aJ_.orN{s:ai_}(h:aJ_ s 24){n:Int}(hn:U64 n):aJ_ (orN s n) 30:=
 ⟨⟨h.cfg.s1,h.cfg.s4,h.cfg.b0,h.cfg.b1,h.cfg.ln,by show (2:Int)≤3;decide,h.cfg.la,h.cfg.lt,h.cfg.lr,h.cfg.tt,h.cfg.gn⟩,h.tree,h.jf,h.ll,h.nn,fun x hx=>(h.un x hx).up (by decide),Nat.zero_le _,fun b hb=>(by cases hb),h.aa,h.av,h.tt,h.tb,by have:=h.qq;show s.eqv.length≤_;omega,h.uj,h.uf,⟨hn,fun h=>absurd h (by decide)⟩,Nat.le_refl _⟩
theorem ND_:fG_ 100=yq_:=by decide
theorem Qt_{b:Blk}(h:nF_ b):eL_ 30 (orB b):=⟨h.slot,h.just,h.fin,h.j,h.f,fun h=>absurd h (by decide)⟩
theorem RP_{b:Blk}(h:nF_ b):eL_ 30 (orC b):=⟨bf_ _,h.just,h.fin,h.j,h.f,fun h=>absurd h (by decide)⟩
theorem Nn_{s:ai_}(h:aJ_ s 24){b:Blk}(hb:nF_ b)(he:(aT_ (orS s b) (orB b)).2.2=0)(hx:0≤ak_ (aT_ (orS s b) (orB b)).1.nodes (orB b).root):
 ∃v both,Rz_ (orS s b) (orB b) (orC b) (cO_ (orS s b) (orB b)) (withO (orS s b) [orC b]) v both:=by
 have hn:U64 (if s.now<IntKind.u64.wrap (b.slot+1)then IntKind.u64.wrap (b.slot+1)else s.now):=by
  split
  ·exact bf_ _
  ·exact h.nw.1
 refine No_ (h.orN hn) rfl rfl (Qt_ hb) rfl rfl ND_ (BV_ (by decide) (by decide)) rfl (fun hc=>?_) ?_ (fun n hn=>(h.un n hn).rt (Nat.le_refl _)) he hx
 ·have h1:=(uE_ hc).now
  have h2:=h.nw.2 (Nat.le_refl _);have h3:=hb.slot;show IntKind.u64.wrap (b.slot+1)=b.slot+1
  have h4:b.slot≤(if s.now<IntKind.u64.wrap (b.slot+1)then IntKind.u64.wrap (b.slot+1)else s.now):=h1;have h5:=h3.lo;have h6:=h3.hi;by_cases q:b.slot=18446744073709551615
  ·rw[q]at h4;have:IntKind.u64.wrap (18446744073709551615+1)=0:=by decide
   rw[this]at h4;split at h4<;>omega
  ·exact aF_ (by omega) (by omega)
 ·show IntKind.u64.wrap (b.slot+1)≤(if s.now<IntKind.u64.wrap (b.slot+1)then IntKind.u64.wrap (b.slot+1)else s.now)
  split<;>omega
end Go.Proofs.YtkgimpdgncakjaaGreat
namespace Go.Proofs.YtkgimpdgncakjaaGreat
open Go Go.FH Go.RowKit
set_option linter.unusedVariables false
set_option linter.unusedSimpArgs false
set_option maxRecDepth 8000
set_option maxHeartbeats 4000000
def orA(s:ai_)(n:Int):Sto:=⟨⟨⟨s.cfg.lim.node,2,s.cfg.lim.early,s.cfg.lim.table,s.cfg.lim.retry,s.cfg.lim.backoff⟩,s.cfg.spe,s.cfg.boost,s.cfg.ttd,s.cfg.gen,.sl 1 false (aq_ .u64 s.cfg.bals)⟩,.sl 34 false (rows bg_ s.latest),.sl 1 false (aq_ .i64 s.eqv),s.j,s.f,.sl 67 false (rows aG_.c s.early),.sl 0 true [],.sl 240 false (rows aE_ s.nodes),n,rt0,.sl 34 false (rows au_.c s.tabs)⟩
theorem Sf_(s:ai_)(n:Int):Wk (.agg (aj_ (orA s n))) (.agg (aj_ (orN s n).a)):=by
 refine Wk.agg ?_;unfold orA orN ai_.a aj_;dsimp only;exact(WkC.refl _).app (.cons (Wk.refl _) (fun h=>h) (.cons (Wk.refl _) (fun h=>h) ((WkC.refl _).app ((WkC.refl _).app (.cons (Wk.refl _) (fun h=>h) (.cons (Wk.empty _ _ _) (fun h=>h) (WkC.refl _)))))))
theorem RR_(s:ai_)(n:Int):PuL (aj_ (orA s n)):=by
 have h:=ai_.pure (orN s n);exact(jR_ _).2 ⟨h.1,h.2.1,h.2.2.1,h.2.2.2.1,trivial,h.2.2.2.2.2.1,h.2.2.2.2.2.2⟩
theorem Qu_{f:FuncId}{s:ai_}{n:Int}{xs:List AV}{r:AV}(hx:PuL xs)(hw:WkL xs xs)(h:PC Tryz.prog f (.agg (aj_ (orN s n).a)::xs) r):PC Tryz.prog f (.agg (aj_ (orA s n))::xs) r:=⟨h.call.wk ⟨Sf_ s n,hw⟩,⟨RR_ s n,hx⟩,h.pr⟩
theorem pc_StoreOrphans(l:List Int)(hl:l.length≤maxLen)(hwl:∀z∈l,(Lit.int .i64 z).wf=true)(k:Int)(hla:(Lit.int .i64 k).wf=true):PC Tryz.prog 6 [.sl 1 false (aq_ .i64 l),.int .i64 k] (.bool true):=by
 refine PC.fact 20 mD_ (by simp) puA puA ?_;unfold gX_;refine bd ?_;obtain⟨a,ha,ca⟩:=wD_ l;have hs:=ha.sto;have hI:=hs.or0;obtain⟨b,hb,cb⟩:=rr_ (or0 a.sto) 24 hI hI.cfg.tt 99 (fw_ .i64 k 16777215) (MN_ k).1 (by decide) (by decide) (by decide);obtain⟨N,hN⟩:∃N,N=(if a.sto.now<IntKind.u64.wrap (b.slot+1)then IntKind.u64.wrap (b.slot+1)else a.sto.now):=⟨_,rfl⟩
 have hn:U64 N:=by
  rw[hN];split
  ·exact bf_ _
  ·exact hs.nw.1
 have hSN:orS a.sto b=orN a.sto N:=by unfold orS;rw[←hN]
 have hS:aJ_ (orS a.sto b) 30:=by rw[hSN];exact hs.orN hn
 have wB:=Qt_ hb;have wC:=RP_ hb;have law:=fun h1 h2=>Nn_ hs hb h1 h2
 have b99:=dK_ 99;have b100:=dK_ 100;have cw:=pO_;have eq1:∀n:Int,(n==n)=true:=fun n=>by simp
 have cb':=Qu_ (s:=a.sto) (n:=a.sto.now) (xs:=[.int .i64 99,.int .i64 (fw_ .i64 k 16777215)]) ⟨trivial,trivial,trivial⟩ ⟨Wk.refl _,Wk.refl _,trivial⟩ cb
 have cS:∀X Y,eL_ 30 X→aT_ (orS a.sto b) X=Y→PC Tryz.prog 20 [.agg (aj_ (orA a.sto N)),.agg (al_ X)] (.tup [.agg (aj_ Y.1.a),.sl 32 false (rows rtc Y.2.1),.int .i64 Y.2.2]):=fun X Y hX hY=>by
  have c:=jv_ (orS a.sto b) 30 hS X hX;rw[hY,hSN]at c;exact Qu_ ⟨dI_ X,trivial⟩ ⟨Wk.refl _,trivial⟩ c
 have hW1:decide (a.sto.now<IntKind.u64.wrap (b.slot+1))=true→N=IntKind.u64.wrap (b.slot+1):=fun h=>by rw[hN,if_pos (of_decide_eq_true h)]
 have hW2:decide (a.sto.now<IntKind.u64.wrap (b.slot+1))=false→N=a.sto.now:=fun h=>by rw[hN,if_neg (of_decide_eq_false h)]
 have hB:orB b=⟨b.pul,b.slot,fG_ 99,b.parent,b.payload,b.diff,b.pdiff,b.just,b.fin,false⟩:=rfl;have hC:orC b=⟨b.pul,IntKind.u64.wrap (b.slot+1),fG_ 100,fG_ 99,b.payload,b.diff,b.pdiff,b.just,b.fin,false⟩:=rfl
 have hA:∀n,orA a.sto n=⟨⟨⟨a.sto.cfg.lim.node,2,a.sto.cfg.lim.early,a.sto.cfg.lim.table,a.sto.cfg.lim.retry,a.sto.cfg.lim.backoff⟩,a.sto.cfg.spe,a.sto.cfg.boost,a.sto.cfg.ttd,a.sto.cfg.gen,.sl 1 false (aq_ .u64 a.sto.cfg.bals)⟩,.sl 34 false (rows bg_ a.sto.latest),.sl 1 false (aq_ .i64 a.sto.eqv),a.sto.j,a.sto.f,.sl 67 false (rows aG_.c a.sto.early),.sl 0 true [],.sl 240 false (rows aE_ a.sto.nodes),n,rt0,.sl 34 false (rows au_.c a.sto.tabs)⟩:=fun _=>rfl
 have hR:(orB b).root=fG_ 99:=rfl;rw[hA]at cb';generalize fG_ 99=r99 at *;generalize fG_ 100=rr at *;generalize orS a.sto b=S at *;generalize orB b=B at *;generalize orC b=C at *;clear cb hI;try refine aa_ ?_
 refine Sv_ ca ?_
 refine Sv_ cb' ?_
 refine Sv_ b99 ?_
 refine as_ (b100) ?_;try refine aa_ ?_
 refine ks_ (fun _=>[]) (fun _=>[.var (aj_ (orA a.sto N)),.var (al_ B),.var (al_ C)]) (fun hT=>?_) (fun hF=>?_) ?_
 ·rw[hW1 hT,hA,hB,hC];try refine aa_ ?_
  exact ST_ [] [0,1,2]
 ·rw[hW2 hF,hA,hB,hC];try refine aa_ ?_
  exact ST_ [] [0,1,2]
 (try simp only[bz_,bt_,List.set_cons_zero,List.set_cons_succ])
 clear hA hB hC hW1 hW2;generalize orA a.sto N=SA at *;try refine aa_ ?_
 by_cases good:(aT_ S B).2.2=0∧0≤ak_ (aT_ S B).1.nodes B.root
 ·obtain⟨v,both,L⟩:=law good.1 good.2
  have hX:=(hS.block wB good.1).1;have hU:=(hS.block wC (by rw[L.hu])).1;have hV:=(hU.block wB (by rw[L.hu];dsimp only;rw[L.hv])).1;obtain⟨Lx,Lu,u1,Lv,hd,er,ok⟩:=L;have c1:=cS B _ wB Lx;have c3:=cS C _ wC Lu;rw[Lx]at hX;rw[Lu]at hU hV;dsimp only at hU hV;rw[Lv]at hV;dsimp only at c1 c3 hX hU hV;have c2:=jv_ _ 30 hX C wC;have c4:=jv_ _ 30 hU B wB;rw[Lv]at c4;have cf:=by_ _ B.root hX.r.bn;have s1:=Ak_ v hV.cp;have hf:0≤ak_ (cO_ S B).nodes B.root:=by have:=good.2;rw[Lx]at this;exact this
  have f1:decide (ak_ (cO_ S B).nodes B.root<0)=false:=decide_eq_false (by omega);clear good law Lx Lu Lv hX hU hV hS cS;obtain⟨tl,rfl⟩:=hd;generalize aT_ (cO_ S B) C=Y at *;obtain⟨Y1,Y2,Y3⟩:=Y;dsimp only at c2 er ok c4;generalize cO_ S B=x at *;generalize withO S [C]=u at *;have hg:(rows rtc (B.root::tl)).getD 0 []=rtc B.root:=rfl;have hpos:decide (((B.root::tl).length:Int)<1)=false:=decide_eq_false (by simp;omega);have hu1:((u.orph.length:Nat):Int)=1:=by rw[u1];rfl
  have hix:(0:Int)<(((B.root::tl).length:Nat):Int):=Int.ofNat_lt.2 (Nat.zero_lt_succ _);generalize hbo:B.root::tl=both at *;generalize ak_ x.nodes B.root=I at *;refine Sv_ c1 ?_
  refine ae_ cf ?_;repeat(first|refine aa_ ?_|simp only[go_sem,f1])
  refine Rm_ ?_
  refine Sv_ c2 ?_
  refine Sv_ c3 ?_
  refine ae_ c4 ?_;repeat(first|refine aa_ ?_|simp only[go_sem,hu1,hpos,hg,hix])
  refine Rm_ ?_
  by_cases q:Y3=0
  ·obtain⟨k1,k2,k3⟩:=ok q;subst q;have hk1:((Y2.length:Nat):Int)=1:=by rw[k1];rfl
   have hk2:((both.length:Nat):Int)=2:=by rw[k2];rfl
   refine ab_ ?_;repeat(first|refine aa_ ?_|simp only[go_sem,hk1,hk2])
   rw[←k3];refine Sv_ s1 ?_
   refine Sv_ cw ?_
   exact ag_
  ·obtain⟨k1,k3⟩:=er q;have q1:(Y3 != 0)=true:=by simp[q]
   have hk2:((both.length:Nat):Int)=1:=by rw[k1];rfl
   rw[k3]at s1;repeat(first|refine aa_ ?_|simp only[go_sem,q1])
   refine ac_ ?_;repeat(first|refine aa_ ?_|simp only[go_sem,hk2])
   rw[k3];refine Sv_ s1 ?_
   refine Sv_ cw ?_
   exact ag_
 ·have c1:=cS B _ wB rfl
  generalize hT:aT_ S B=T at *
  have hX:T.1.nodes.length≤1000000:=by
   by_cases h0:T.2.2=0
   ·have:=(hS.block wB (by rw[hT];exact h0)).1;rw[hT]at this;exact this.r.bn
   ·obtain⟨h1,_⟩:=zf_ (s:=S) (b:=B) (by rw[hT];exact h0);rw[hT]at h1;rw[h1];simp[dd_]
  have cf:=by_ T.1.nodes B.root hX;obtain⟨T1,T2,T3⟩:=T;dsimp only at c1 cf good;clear hT law cS;refine ae_ c1 ?_;by_cases q:T3=0
  ·have f1:decide (ak_ T1.nodes B.root<0)=true:=decide_eq_true (by have:¬0≤ak_ T1.nodes B.root:=fun h=>good ⟨q,h⟩;omega);subst q;generalize ak_ T1.nodes B.root=I at *;try refine aa_ ?_
   refine ae_ cf ?_;repeat(first|refine aa_ ?_|simp only[go_sem,f1])
   refine Rn_ ?_
   refine Sv_ cw ?_
   exact ag_
  ·have q1:(T3 != 0)=true:=by simp[q]
   repeat(first|refine aa_ ?_|simp only[go_sem,q1])
   refine Rn_ ?_
   refine Sv_ cw ?_
   exact ag_
end Go.Proofs.YtkgimpdgncakjaaGreat
