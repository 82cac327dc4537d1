/-
 My texts Tg, Ti, Th, joined.
-/
import Derived.Test.YtkgimpdgncakjaaGreatP4
import Derived.Test.YtkgimpdgncakjaaGreatU4
import Derived.Test.YtkgimpdgncakjaaGreatP3
namespace Go.Proofs.YtkgimpdgncakjaaGreat
set_option linter.unusedVariables false
set_option linter.unusedSimpArgs false
open Go Go.FH Go.RowKit
theorem Ib_{t u:List Nod}(hl:u.length=t.length)(hu:∀k,(nod u k).up=(nod t k).up):∀ (f:Nat) (i:Int),oU_ u f i=oU_ t f i
 |0,_=>rfl
 | f + 1, i => by
   have h1:isN u i=isN t i:=by unfold isN;rw[hl]
   unfold oU_;rw[h1,hu,Ib_ hl hu f]
theorem QD_{t u:List Nod}(hl:u.length=t.length)(hu:∀k,(nod u k).up=(nod t k).up)(a b:Int):bN_ u a b=bN_ t a b:=by
 unfold bN_ bc_;rw[hl,Ib_ hl hu]
theorem StV.judge{s:ah_}(h:StV s){t:List Nod}(ht:TrV t)(hl:t.length=s.nodes.length)(hu:∀k,(nod t k).up=(nod s.nodes k).up∧(nod t k).blk=(nod s.nodes k).blk)(hj:(nod t (af_ s.nodes s.j.rt).toNat).status≠2):StV (ck_ s t):=by
 obtain⟨w,op⟩:=h;have hf:∀r,af_ t r=af_ s.nodes r:=fun r=>zj_ hl (fun k=>(hu k).2) r
 have hin:∀n∈t,∃m∈s.nodes,n.blk=m.blk:=fun n hn=>by
  obtain⟨k,hk,rfl⟩:=qP_ hn;exact⟨_,qR_ (by omega),(hu k).2⟩
 refine⟨⟨w.ne,ht,by have:=w.z1;show (t.length:Int)≤s.cfg.lim.node;omega,w.z2,w.z3,w.z4,?_,?_,?_,w.fj,w.tj,w.tv,w.ll,w.lv,w.qv,?_,w.nm,w.je,⟨w.ea.1,?_⟩,fun n hn=>?_,w.av,fun b hb=>?_,w.od⟩,fun b hb=>?_⟩
 ·show (nod t 0).blk.root=s.f.rt
  rw[(hu 0).2];exact w.fr
 ·show 0≤af_ t s.j.rt
  rw[hf];exact w.jf
 ·show (nod t (af_ t s.j.rt).toNat).status≠2
  rw[hf];exact hj
 ·show s.boost=rt0∨0≤af_ t s.boost
  rw[hf];exact w.bo
 ·show (nod t 0).blk.slot≤_
  rw[(hu 0).2];exact w.ea.2
 ·obtain⟨m,h1,h2⟩:=hin n hn;rw[h2];exact w.nd m h1
 ·obtain⟨a1,a2,a3,a4,a5⟩:=w.ob b hb;exact⟨a1,by show af_ t b.root<0;rw[hf];exact a2,a3,a4,a5⟩
 ·show af_ t b.parent<0
  rw[hf];exact op b hb
theorem StV.boostV{s:ah_}(h:StV s):StV (boostV s):=by
 unfold Go.Proofs.YtkgimpdgncakjaaGreat.boostV;split
 ·exact⟨h.w.withB (.inl rfl),h.op⟩
 ·exact h
theorem StV.judgeV{s:ah_}(h:StV s){r:Rt}{v:Vdt}(h2:(judgeV s r v).2=0):StV (ck_ s (judgeV s r v).1):=by
 unfold Go.Proofs.YtkgimpdgncakjaaGreat.judgeV at *;have hup:=vy_ h2;obtain⟨j1,_⟩:=cn_ h.w.jf;have hJ:(((af_ s.nodes s.j.rt).toNat:Nat):Int)=af_ s.nodes s.j.rt:=Int.toNat_of_nonneg h.w.jf;generalize af_ s.nodes r=i at *
 have key:TrV (fd_ s.nodes i v [af_ s.nodes s.j.rt,af_ s.nodes s.f.rt]).1∧(nod (fd_ s.nodes i v [af_ s.nodes s.j.rt,af_ s.nodes s.f.rt]).1 (af_ s.nodes s.j.rt).toNat).status≠2:=by
  clear hup;unfold fd_ at *;by_cases q1:isN s.nodes i=false
  ·rw[if_pos q1]at h2;cases h2
  rw[if_neg q1]at h2 ⊢;by_cases q2:v.kind=1
  ·rw[if_pos q2]at h2 ⊢;obtain⟨a,_,b⟩:=h.w.tree.raise h2;exact⟨a,fun hh=>h.w.ji (b _ j1 hh)⟩
  rw[if_neg q2]at h2 ⊢;by_cases q3:v.kind=3∨v.kind=4
  ·rw[if_pos q3];exact⟨h.w.tree,h.w.ji⟩
  rw[if_neg q3]at h2 ⊢;by_cases q4:v.kind≠2
  ·rw[if_pos q4]at h2;cases h2
  rw[if_neg q4]at h2 ⊢;by_cases q5:(bD_ (fun k=>bN_ s.nodes (eo_ s.nodes i v.latest).2 ([af_ s.nodes s.j.rt,af_ s.nodes s.f.rt].getD k 0)) [af_ s.nodes s.j.rt,af_ s.nodes s.f.rt].length).isSome=true
  ·rw[if_pos q5]at h2;cases h2
  rw[if_neg q5]at h2 ⊢
  have hna:bN_ s.nodes (eo_ s.nodes i v.latest).2 (af_ s.nodes s.j.rt)=false:=by
   cases hf:bD_ (fun k=>bN_ s.nodes (eo_ s.nodes i v.latest).2 ([af_ s.nodes s.j.rt,af_ s.nodes s.f.rt].getD k 0)) [af_ s.nodes s.j.rt,af_ s.nodes s.f.rt].length with
   |some k=>rw[hf]at q5;exact absurd rfl q5
   |none=>exact ei_ hf 0 (by show 0<2;decide)
  by_cases q6:0≤(eo_ s.nodes i v.latest).1
  ·rw[if_pos q6]at h2 ⊢;by_cases q7:(cp_ s.nodes (eo_ s.nodes i v.latest).1).2≠0
   ·rw[if_pos q7]at h2;exact absurd h2 q7
   rw[if_neg q7]at h2 ⊢;have q7:(cp_ s.nodes (eo_ s.nodes i v.latest).1).2=0:=by simpa using q7
   obtain⟨a,_,b⟩:=h.w.tree.raise q7;obtain⟨u1,u2⟩:=qV_ q7;obtain⟨c,_,d⟩:=a.cond h2;refine⟨c,fun hh=>?_⟩;rcases d _ (by rw[u1];exact j1) hh with h3|h3
   ·exact h.w.ji (b _ j1 h3)
   ·rw[hJ,QD_ u1 fun k=>(u2 k).1,hna]at h3;cases h3
  ·rw[if_neg q6]at h2 ⊢;obtain⟨c,_,d⟩:=h.w.tree.cond h2;refine⟨c,fun hh=>?_⟩;rcases d _ j1 hh with h3|h3
   ·exact h.w.ji h3
   ·rw[hJ,hna]at h3;cases h3
 exact h.judge key.1 hup.1 hup.2 key.2
theorem zI_(s:aG_)(l:List Rt):(rU_ s l).sto=s.sto:=by
 refine dG_ (f:=fs_ l) (a:=s) (fun _ t=>t.sto=s.sto) rfl l.length (fun k t hk ht=>?_) _ (Nat.le_refl _);unfold fs_;split
 ·exact ht
 ·exact ht
theorem HL_(s:aG_):(Jz_ s).sto=s.sto:=by
 refine dG_ (f:=kM_ s.rets) (a:=et_ s []) (fun _ t=>t.sto=s.sto) rfl s.rets.length (fun k t hk ht=>?_) _ (Nat.le_refl _);unfold kM_;split
 ·exact ht
 ·split
  ·exact ht
  ·exact ht
theorem zy_(s:aG_)(r:Req):(kT_ s r).sto=s.sto:=by
 unfold kT_;split
 ·rfl
 ·split<;>rfl
theorem uJ_(s:aG_):(hq_ s).1.sto=s.sto:=by unfold hq_;split<;>rfl
theorem zB_{s:aG_}{v:Vdt}(h:(bX_ s v).2.2=0):(bX_ s v).2.1.sto=s.sto:=by
 unfold bX_ at *;cases hf:bD_ (fun i=>decide ((dx_ s.reqs i).tag=v.tag)) s.reqs.length with
 |some i=>rfl
 |none=>rw[hf]at h;cases h
theorem StV.verd{s:aG_}(h:StV s.sto){v:Vdt}(h2:(jG_ s v).2=0∨(jG_ s v).2=21):StV (jG_ s v).1.sto:=by
 unfold jG_ at *;by_cases q1:(bX_ s v).2.2≠0
 ·rw[if_pos q1];exact h
 rw[if_neg q1]at h2 ⊢;have hm:=zB_ (s:=s) (v:=v) (by simpa using q1);by_cases q2:v.kind=3∨v.kind=4
 ·rw[if_pos q2];show StV (kT_ (bX_ s v).2.1 (bX_ s v).1).sto
  rw[zy_,hm];exact h
 rw[if_neg q2]at h2 ⊢;by_cases q3:(Go.Proofs.YtkgimpdgncakjaaGreat.judgeV (bX_ s v).2.1.sto (bX_ s v).1.block v).2≠0
 ·rw[if_pos q3];exact h
 rw[if_neg q3];rw[hm]at q3 ⊢;exact(h.judgeV (by simpa using q3)).boostV
theorem StV.perf{s:aG_}{i:Nat}(h:StV s.sto)(hI:aK_ s.sto i){x:VOp}(hx:OpR x)(h2:(es_ s x).2=0∨(es_ s x).2=21):StV (es_ s x).1.sto:=by
 unfold es_ at *;by_cases q1:x.kind=1
 ·rw[if_pos q1]at h2 ⊢
  by_cases q:(dF_ s.sto).2=0
  ·rw[if_pos q];show StV (Jz_ (mz_ (dS_ s (dF_ s.sto).1))).sto
   rw[HL_];exact h.tick hI q
  ·rw[if_neg q]at h2;exact absurd h2 (by intro h5;rcases h5 with h5|h5;exact q h5;exact Cx_ _ h5)
 rw[if_neg q1]at h2 ⊢;by_cases q2:x.kind=2
 ·rw[if_pos q2]at h2 ⊢
  by_cases q:(co_ s.sto x.blk).2.2=0
  ·rw[if_pos q];show StV (rU_ (mz_ (dS_ s (co_ s.sto x.blk).1)) (co_ s.sto x.blk).2.1).sto
   rw[zI_];exact h.block hI (hx.blk.up (Nat.zero_le i)) q
  ·rw[if_neg q]at h2;exact absurd h2 (by intro h5;rcases h5 with h5|h5;exact q h5;exact ur_ _ _ h5)
 rw[if_neg q2]at h2 ⊢;by_cases q3:x.kind=3
 ·rw[if_pos q3]at h2 ⊢;exact h.att (h2.resolve_right (Fu_ _ _))
 rw[if_neg q3]at h2 ⊢;by_cases q4:x.kind=4
 ·rw[if_pos q4]at h2 ⊢;exact h.slash (h2.resolve_right (wr_ _ _))
 rw[if_neg q4]at h2 ⊢;by_cases q5:x.kind=5
 ·rw[if_pos q5]at h2 ⊢;exact h.reg (h2.resolve_right (GZ_ _ _))
 rw[if_neg q5]at h2 ⊢;by_cases q6:x.kind=6
 ·rw[if_pos q6]at h2 ⊢;exact h.verd h2
 rw[if_neg q6];exact h
theorem StV.step{s:aG_}{i:Nat}(h:StV s.sto)(hI:aK_ s.sto i){x:VOp}(hx:OpR x):StV (jb_ s x).1.sto:=by
 unfold jb_;split
 ·exact h
 ·split
  ·exact h
  ·split
   ·rename_i h3;exact h.perf hI hx (.inr h3)
   ·split
    ·exact h
    ·rename_i h3 h4;show StV (hq_ (es_ s x).1).1.sto
     rw[uJ_];exact h.perf hI hx (.inl (by simpa using h4))
theorem StV.new{c:bu_}(h:eR_ c=0):StV (dn_ c):=by
 have hp:=vO_ h
 have hz:eR_ c=0∧(1:Int)≤c.lim.node∧0≤c.lim.orph∧0≤c.lim.early∧(1:Int)≤c.lim.table∧c.gen≠rt0∧dJ_ ⟨⟨0,c.gen⟩,c.bals⟩ c.bals.length=0:=by
  refine⟨h,?_⟩;unfold eR_ at h;by_cases q1:c.spe<1
  ·rw[if_pos q1]at h;cases h
  rw[if_neg q1]at h;by_cases q2:64<c.spe
  ·rw[if_pos q2]at h;cases h
  rw[if_neg q2]at h;by_cases q3:100<c.boost
  ·rw[if_pos q3]at h;cases h
  rw[if_neg q3]at h;by_cases q4:1024<(c.bals.length:Int)
  ·rw[if_pos q4]at h;cases h
  rw[if_neg q4]at h;by_cases q5:wit c.lim.node 1 4096=false
  ·rw[if_pos q5]at h;cases h
  rw[if_neg q5]at h;by_cases q6:wit c.lim.orph 0 64=false
  ·rw[if_pos q6]at h;cases h
  rw[if_neg q6]at h;by_cases q7:wit c.lim.early 0 256=false
  ·rw[if_pos q7]at h;cases h
  rw[if_neg q7]at h;by_cases q8:wit c.lim.table 1 64=false
  ·rw[if_pos q8]at h;cases h
  rw[if_neg q8]at h;by_cases q9:wit c.lim.retry 0 256=false
  ·rw[if_pos q9]at h;cases h
  rw[if_neg q9]at h;by_cases q10:c.lim.backoff<1
  ·rw[if_pos q10]at h;cases h
  rw[if_neg q10]at h;by_cases q11:1048576<c.lim.backoff
  ·rw[if_pos q11]at h;cases h
  rw[if_neg q11]at h;by_cases q12:c.gen=rt0
  ·rw[if_pos q12]at h;cases h
  rw[if_neg q12]at h;unfold wit at q5 q6 q7 q8;simp only[Bool.not_eq_false,Bool.and_eq_true,decide_eq_true_eq]at q5 q6 q7 q8;exact⟨q5.1,q6.1,q7.1,q8.1,q12,h⟩
 obtain⟨_,n1,n2,n3,n4,hg,hv⟩:=hz;have one:∀i,i<(dn_ c).nodes.length→i=0:=fun i hi=>by have:i<1:=hi;omega
 have hfind:af_ (dn_ c).nodes c.gen=0:=by
  have h1:=fO_ (t:=(dn_ c).nodes) (k:=0) (r:=c.gen) Nat.zero_lt_one rfl;obtain⟨h2,_⟩:=cn_ h1;have:=one _ h2;omega
 have hst:bh_ 0 c.spe=(0,0):=by
  unfold bh_ if_;rw[decide_eq_true hp.1,decide_eq_true hp.2];show tw_ 0 c.spe=_
  unfold tw_;rw[if_neg]
  ·rw[Int.zero_mul];rfl
  ·rintro⟨h1,h2⟩;have:Int.tdiv 18446744073709551615 c.spe=18446744073709551615 / c.spe:=Int.tdiv_eq_ediv_of_nonneg (by decide);rw[wF_]at h2;omega
 have tr:TrV (dn_ c).nodes:=⟨Nat.zero_lt_one,fun i hi=>by rw[one i hi];exact⟨show (0:Int)≤1 by decide,show (1:Int)≤2 by decide⟩,rfl,fun i h0 hi=>by have:=one i hi;omega,fun i j hij hj=>by have:=one j hj;omega,fun i h0 hi=>by have:=one i hi;omega,fun i h0 hi=>by have:=one i hi;omega,
  fun i h0 hi=>by have:=one i hi;omega,fun i h0 hi=>by have:=one i hi;omega,fun i hi _=>by rw[one i hi];rfl⟩
 have hep:∀n,aT_ (dn_ c) n=IntKind.u64.wrap (Int.tdiv n c.spe):=fun _=>rfl
 have he0:aT_ (dn_ c) 0=0:=by rw[hep,Int.zero_tdiv];rfl
 refine⟨⟨h,tr,n1,n2,n3,n4,rfl,?_,?_,Int.le_refl _,⟨_,List.mem_singleton.2 rfl,rfl⟩,⟨fun t ht=>?_,by show List.Pairwise _ [_];simp⟩,by show (List.replicate _ _).length=_;simp;rfl,fun v hv hh=>?_,.inl rfl,.inl rfl,by show (0:Int)≤_;decide,?_,?_,fun n hn=>?_,fun a ha=>(by cases ha),fun b hb=>(by cases hb),List.Pairwise.nil⟩,fun b hb=>(by cases hb)⟩
 ·show 0≤af_ (dn_ c).nodes c.gen
  rw[hfind];exact Int.le_refl _
 ·show (nod (dn_ c).nodes (af_ (dn_ c).nodes c.gen).toNat).status≠2
  rw[hfind];show (1:Int)≠2;decide
 ·rw[List.mem_singleton.1 ht];exact hv
 ·rw[List.eq_of_mem_replicate hv]
 ·show (0:Int)≤aT_ (dn_ c) 0
  rw[he0];exact Int.le_refl _
 ·show (bh_ 0 c.spe).2=0∧(0:Int)≤(bh_ 0 c.spe).1
  rw[hst];exact⟨rfl,Int.le_refl _⟩
 ·rw[List.mem_singleton.1 hn];refine⟨Int.le_refl _,?_⟩;unfold jj_;show (decide ((0:Int)≤0)&&decide ((0:Int)≤0)&&decide ((0:Int)≤0)&&decide ((0:Int)≤0)&&decide ((0:Int)≤aT_ (dn_ c) 0))=true
  rw[he0];rfl
def hb_(s t:ah_):Prop:=t.cfg=s.cfg∧∀x∈t.tabs,x∈s.tabs
theorem hb_.refl(s:ah_):hb_ s s:=⟨rfl,fun x hx=>hx⟩
theorem hb_.trans{s t u:ah_}(h:hb_ s t)(g:hb_ t u):hb_ s u:=⟨g.1.trans h.1,fun x hx=>h.2 x (g.2 x hx)⟩
theorem uc_(s:ah_)(j f:Cp):hb_ s (ch_ s j f):=⟨Cy_ s j f,(Fd_ s j f).2⟩
theorem Cu_(s:ah_)(b:Blk):hb_ s (gq_ s b):=by
 have h0:hb_ s (ck_ s (dQ_ s.nodes b (bA_ b)).1):=⟨rfl,fun x hx=>hx⟩;unfold gq_;split
 ·exact(h0.trans (uc_ _ _ _)).trans (uc_ _ _ _)
 ·exact h0.trans (uc_ _ _ _)
theorem KZ_(p:ah_×List Rt):hb_ p.1 (waitR p).1:=by
 have h0:hb_ p.1 (withO p.1 (takeO p.1.orph (by_ p.1).toNat)):=⟨rfl,fun x hx=>hx⟩;have h1:=h0.trans (Cu_ (withO p.1 (takeO p.1.orph (by_ p.1).toNat)) (bF_ p.1.orph (by_ p.1).toNat));unfold waitR;split
 ·exact h1
 ·exact h0
theorem Ah_:∀ (f:Nat) (p:ah_×List Rt),hb_ p.1 (waitG f p).1
 |0,p=>hb_.refl _
 | f + 1, p => by
   unfold waitG;split
   ·exact hb_.refl _
   ·exact(KZ_ p).trans (Ah_ f _)
theorem KX_{s:ah_}{b:Blk}(h:(co_ s b).2.2=0):hb_ s (co_ s b).1:=by
 unfold co_ at *;by_cases h3:bC_ s b=10
 ·rw[if_pos h3]at h ⊢;by_cases h4:s.cfg.lim.orph≤s.orph.length
  ·rw[if_pos h4]at h;cases h
  ·rw[if_neg h4];exact⟨rfl,fun x hx=>hx⟩
 ·rw [if_neg h3] at h ⊢
  by_cases h4:bC_ s b≠0
  ·rw[if_pos h4]at h;exact absurd h h4
  ·rw[if_neg h4]
   have h5:hb_ s (blockI s b):=by
    unfold blockI;split
    ·exact(Cu_ s b).trans ⟨rfl,fun x hx=>hx⟩
    ·exact Cu_ s b
   exact h5.trans (Ah_ _ (blockI s b,[b.root]))
theorem NT_{s:ah_}(h:(dF_ s).2=0):hb_ s (dF_ s).1:=by
 unfold dF_ at *;split at h
 ·cases h
 ·rename_i h3
  rw[if_neg h3]
  have h1:hb_ s (tickB (tickA s)):=by
   refine hb_.trans (t:=tickA s) ⟨rfl,fun x hx=>hx⟩ ?_;unfold tickB;split
   ·exact uc_ _ _ _
   ·exact hb_.refl _
  refine h1.trans ?_;generalize tickB (tickA s)=t;show hb_ t (tickC t t.early)
  refine dG_ (f:=tickR t.early) (a:=withE t []) (fun _ u=>hb_ t u) ⟨rfl,fun x hx=>hx⟩ t.early.length (fun k u hk hu=>?_) _ (Nat.le_refl _);unfold tickR;split
  ·exact hu.trans ⟨rfl,fun x hx=>hx⟩
  ·split
   ·exact hu.trans ⟨rfl,fun x hx=>hx⟩
   ·exact hu
theorem PR_{s:ah_}{a:aD_}(h:(kH_ s a).2=0):hb_ s (kH_ s a).1:=by
 unfold kH_ at *;split at h
 ·rename_i h3;exact absurd h h3
 ·rename_i h3
  rw[if_neg h3];split at h
  ·rename_i h4;rw[if_pos h4];exact⟨rfl,fun x hx=>hx⟩
  ·rename_i h4;rw[if_neg h4];split at h
   ·cases h
   ·rename_i h5;rw[if_neg h5];exact⟨rfl,fun x hx=>hx⟩
theorem KY_{s:ah_}{x:dl_}(h:(eI_ s x).2=0):hb_ s (eI_ s x).1:=by
 unfold eI_ at *;split at h
 ·rename_i h3;exact absurd h h3
 ·rename_i h3;rw[if_neg h3];split at h
  ·cases h
  ·rename_i h4;rw[if_neg h4];exact⟨rfl,fun x hx=>hx⟩
structure jU_(s:ah_):Prop where
 tb:∀t∈s.tabs,∀x∈t.bals,0≤x∧x<18446744073709551616
 cb:∀x∈s.cfg.bals,0≤x∧x<18446744073709551616
theorem jU_.sub{s t:ah_}(h:jU_ s)(g:hb_ s t):jU_ t:=⟨fun x hx=>h.tb x (g.2 x hx),by rw[g.1];exact h.cb⟩
theorem jU_.reg{s:ah_}(h:jU_ s){t:au_}(ht:∀x∈t.bals,0≤x∧x<18446744073709551616)(h2:(ne_ s t).2=0):jU_ (ne_ s t).1:=by
 unfold ne_ at *;split at h2
 ·rename_i h3;exact absurd h2 h3
 ·rename_i h3
  rw[if_neg h3];split at h2
  ·cases h2
  ·rename_i h4
   rw[if_neg h4];split at h2
   ·rename_i h5;exact absurd h2 h5
   ·rename_i h5
    rw[if_neg h5];refine⟨fun x hx=>?_,h.cb⟩
    have:x∈s.tabs∨x=t:=by
     have hx:x∈(ep_ s.tabs t s.cfg.bals.length s.cfg.lim.table).1:=hx;unfold ep_ at hx;split at hx
     ·exact .inl hx
     ·split at hx
      ·exact .inl hx
      ·split at hx
       ·exact .inl hx
       ·exact pf_ _ _ x hx
    rcases this with h6|rfl
    ·exact h.tb x h6
    ·exact ht
theorem jU_.perf{s:aG_}(h:jU_ s.sto){x:VOp}(hx:∀y∈x.tab.bals,0≤y∧y<18446744073709551616)(h2:(es_ s x).2=0∨(es_ s x).2=21):jU_ (es_ s x).1.sto:=by
 unfold es_ at *;by_cases q1:x.kind=1
 ·rw[if_pos q1]at h2 ⊢
  by_cases q:(dF_ s.sto).2=0
  ·rw[if_pos q];show jU_ (Jz_ (mz_ (dS_ s (dF_ s.sto).1))).sto
   rw[HL_];exact h.sub (NT_ q)
  ·rw[if_neg q]at h2;exact absurd h2 (by intro h5;rcases h5 with h5|h5;exact q h5;exact Cx_ _ h5)
 rw[if_neg q1]at h2 ⊢;by_cases q2:x.kind=2
 ·rw[if_pos q2]at h2 ⊢
  by_cases q:(co_ s.sto x.blk).2.2=0
  ·rw[if_pos q];show jU_ (rU_ (mz_ (dS_ s (co_ s.sto x.blk).1)) (co_ s.sto x.blk).2.1).sto
   rw[zI_];exact h.sub (KX_ q)
  ·rw[if_neg q]at h2;exact absurd h2 (by intro h5;rcases h5 with h5|h5;exact q h5;exact ur_ _ _ h5)
 rw[if_neg q2]at h2 ⊢;by_cases q3:x.kind=3
 ·rw[if_pos q3]at h2 ⊢;exact h.sub (PR_ (h2.resolve_right (Fu_ _ _)))
 rw[if_neg q3]at h2 ⊢;by_cases q4:x.kind=4
 ·rw[if_pos q4]at h2 ⊢;exact h.sub (KY_ (h2.resolve_right (wr_ _ _)))
 rw[if_neg q4]at h2 ⊢;by_cases q5:x.kind=5
 ·rw[if_pos q5]at h2 ⊢;exact h.reg hx (h2.resolve_right (GZ_ _ _))
 rw[if_neg q5]at h2 ⊢;by_cases q6:x.kind=6
 ·rw[if_pos q6]at h2 ⊢
  unfold jG_ at *;by_cases p1:(bX_ s x.vdt).2.2≠0
  ·rw[if_pos p1];exact h
  rw[if_neg p1]at h2 ⊢;have hm:=zB_ (s:=s) (v:=x.vdt) (by simpa using p1);by_cases p2:x.vdt.kind=3∨x.vdt.kind=4
  ·rw[if_pos p2];show jU_ (kT_ (bX_ s x.vdt).2.1 (bX_ s x.vdt).1).sto
   rw[zy_,hm];exact h
  rw[if_neg p2]at h2 ⊢;by_cases p3:(Go.Proofs.YtkgimpdgncakjaaGreat.judgeV (bX_ s x.vdt).2.1.sto (bX_ s x.vdt).1.block x.vdt).2≠0
  ·rw[if_pos p3];exact h
  rw[if_neg p3,hm];refine h.sub ?_;show hb_ s.sto (boostV (ck_ s.sto _))
  unfold boostV;split
  ·exact⟨rfl,fun x hx=>hx⟩
  ·exact⟨rfl,fun x hx=>hx⟩
 rw[if_neg q6];exact h
theorem jU_.step{s:aG_}(h:jU_ s.sto){x:VOp}(hx:∀y∈x.tab.bals,0≤y∧y<18446744073709551616):jU_ (jb_ s x).1.sto:=by
 unfold jb_;split
 ·exact h
 ·split
  ·exact h
  ·split
   ·rename_i h3;exact h.perf hx (.inr h3)
   ·split
    ·exact h
    ·rename_i h3 h4;show jU_ (hq_ (es_ s x).1).1.sto
     rw[uJ_];exact h.perf hx (.inl (by simpa using h4))
theorem Hm_(l:List Int):∃s:aG_,(dT_ s 24∧StV s.sto∧jU_ s.sto)∧PC Tryz.prog 10 [.sl 1 false (aq_ .i64 l)] (.agg (aI_ s.a)):=
 state_walk' (fun s=>StV s.sto∧jU_ s.sto) (fun c hc=>by
  have hb:∀x∈c.bals,0≤x∧x<18446744073709551616:=fun x hx=>by have:=hc.bu x hx;omega
  unfold jK_;rw[if_pos hc.new];show StV (hq_ _).1.sto∧jU_ (hq_ _).1.sto
  rw[uJ_];exact⟨StV.new hc.new,⟨fun t ht=>by rw[List.mem_singleton.1 ht];exact hb,hb⟩⟩) (fun s i x hI h hx=>⟨h.1.step hI.sto hx.r,h.2.step fun y hy=>by have:=hx.u.tab.all y hy;exact⟨this.lo,this.hi⟩⟩) l
theorem RW_{s:ah_}{i:Nat}(h:aK_ s i)(hb:jU_ s):Oo_ s:=by
 have hr:=h.r;exact⟨hr.bn,hr.bl,hr.be,hr.bt,hr.bb,hb.tb,hr.bo,hr.ba,fun a ha=>by have:=h.av a ha;omega,by have:=h.cfg.b1;omega,hb.cb,h.uf⟩
theorem StV.valC{s:ah_}(h:StV s):lS_ s:=by
 refine⟨h.w.fr,h.w.jf,h.w.ji,h.w.fj,?_,?_,?_,h.w.bo,h.w.nm,h.w.je,?_,?_,?_⟩
 ·obtain⟨t,h1,h2⟩:=h.w.tj;rw[←h2];exact Ix_ h1
 ·refine oP_.2 fun i _ hi=>?_
  have hi:i<s.tabs.length:=by omega
  unfold hL_;rw[if_neg,if_neg (fun hh=>hh (h.w.tv.1 _ (bH_ _ hi)))];rintro⟨h0,h1⟩;have h2:=List.pairwise_iff_getElem.1 h.w.tv.2 (i-1) i (by omega) hi (by omega);unfold tab at h1;rw[List.getD_eq_getElem?_getD,List.getD_eq_getElem?_getD,List.getElem?_eq_getElem hi,List.getElem?_eq_getElem (by omega)]at h1;exact absurd h2 (by simpa using h1)
 ·rw [decide_eq_true h.w.ll, Bool.true_and]
  have hn:bD_ (fun i=>!(vot s.latest i).has&&decide (vot s.latest i≠do_)) s.latest.length=none:=by
   cases hf:bD_ (fun i=>!(vot s.latest i).has&&decide (vot s.latest i≠do_)) s.latest.length with
   |none=>rfl
   | some k =>
     obtain⟨h1,h2,_⟩:=cD_ hf;simp only[Bool.and_eq_true,Bool.not_eq_true',decide_eq_true_eq]at h2;exact absurd (h.w.lv _ (bH_ _ h1) h2.1) h2.2
  rw[hn];rcases h.w.qv with h1|h1
  ·rw[h1];rfl
  ·rw[decide_eq_true h1];simp
 ·unfold fz_ bw_;rw[show ((0:Int).toNat)=0 from rfl,decide_eq_true h.w.ea.2,Bool.or_true]
 ·have hn:bD_ (fun i=>decide (s.now<(nod s.nodes i).blk.slot) || !jj_ s (nod s.nodes i).blk) s.nodes.length=none:=by
   cases hf:bD_ (fun i=>decide (s.now<(nod s.nodes i).blk.slot) || !jj_ s (nod s.nodes i).blk) s.nodes.length with
   |none=>rfl
   | some k =>
     obtain⟨h1,h2,_⟩:=cD_ hf;obtain⟨h3,h4⟩:=h.w.nd _ (qR_ h1);rw[h4,decide_eq_false (by omega)]at h2;cases h2
  rw[hn];rfl
 ·unfold tA_;rw[Bool.and_eq_true,decide_eq_true_eq,decide_eq_true_eq];refine⟨oP_.2 fun i _ hi=>h.w.av _ (bH_ _ (by omega)),oP_.2 fun i _ hi=>?_⟩;have hi:i<s.orph.length:=by omega
  have hm:bF_ s.orph i∈s.orph:=bH_ _ hi;obtain⟨a1,a2,a3,a4,a5⟩:=h.w.ob _ hm;refine Nc_ a1 (by omega) (by have:=h.op _ hm;omega) a3 (by omega) (by omega) (fun hh=>?_);obtain⟨b,hb,he⟩:=List.mem_map.1 hh;obtain⟨k,hk,hk2⟩:=List.mem_take_iff_getElem.1 hb;have:=List.pairwise_iff_getElem.1 h.w.od k i (by omega) hi (by omega);rw[hk2]at this;unfold bF_ at he;rw[List.getD_eq_getElem?_getD,List.getElem?_eq_getElem hi]at he;exact this he
theorem StV.val{s:ah_}(h:StV s)(hl:s.cfg.lim.node≤4096)(hf:U64 s.f.ep)(hw:U64 s.now):kA_ s=0:=
 (Oc_ h.w.ne (h.w.tree.statV (by have:=h.w.z1;omega)) (by have:=h.w.z1;omega) (by have:=h.w.z2;omega) (by have:=h.w.z3;omega) (by have:=h.w.z4;omega) hf hw).1 h.valC
end Go.Proofs.YtkgimpdgncakjaaGreat
