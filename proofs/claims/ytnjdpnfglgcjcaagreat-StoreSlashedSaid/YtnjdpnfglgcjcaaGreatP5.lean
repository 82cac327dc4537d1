/-
 My texts Tg, Ti, Th, joined.
-/
import Derived.Test.YtnjdpnfglgcjcaaGreatP4
import Derived.Test.YtnjdpnfglgcjcaaGreatU4
import Derived.Test.YtnjdpnfglgcjcaaGreatP3
set_option linter.unusedVariables false
set_option linter.unusedSimpArgs false
namespace Go.Proofs.YtnjdpnfglgcjcaaGreat
open Go Go.FH Go.RowKit
theorem Tj{t u:List Nod}(hl:u.length=t.length)(hu:∀k,(nod u k).up=(nod t k).up):∀ (f:Nat) (i:Int),vZ u f i=vZ t f i
 |0,_=>rfl
 | f + 1, i => by
   have h1:isN u i=isN t i:=by unfold isN;rw[hl]
   unfold vZ;rw[h1,hu,Tj hl hu f]
theorem abq{t u:List Nod}(hl:u.length=t.length)(hu:∀k,(nod u k).up=(nod t k).up)(a b:Int):dv u a b=dv t a b:=by
 unfold dv bW;rw[hl,Tj hl hu]
theorem StV.judge{s:am}(h:StV s){t:List Nod}(ht:TrV t)(hl:t.length=s.nodes.length)(hu:∀k,(nod t k).up=(nod s.nodes k).up/\(nod t k).blk=(nod s.nodes k).blk)(hj:(nod t (aj s.nodes s.j.rt).toNat).status≠2):StV (dh s t):=by
 obtain⟨w,op⟩:=h;have hf:∀r,aj t r=aj s.nodes r:=fun r=>IX hl (fun k=>(hu k).2) r
 have hin:∀n∈t,∃m∈s.nodes,n.blk=m.blk:=fun n hn=>by
  obtain⟨k,hk,rfl⟩:=y7 hn;exact⟨_,za (by omega),(hu k).2⟩
 refine⟨⟨w.ne,ht,by have:=w.z1;show (t.length:Int)<=s.cfg.lim.node;omega,w.z2,w.z3,w.z4,?_,?_,?_,w.fj,w.tj,w.tv,w.ll,w.lv,w.qv,?_,w.nm,w.je,⟨w.ea.1,?_⟩,fun n hn=>?_,w.av,fun b hb=>?_,w.od⟩,fun b hb=>?_⟩
 ·show (nod t 0).blk.root=s.f.rt
  rw[(hu 0).2];exact w.fr
 ·show 0<=aj t s.j.rt
  rw[hf];exact w.jf
 ·show (nod t (aj t s.j.rt).toNat).status≠2
  rw[hf];exact hj
 ·show s.boost=rt0\/0<=aj t s.boost
  rw[hf];exact w.bo
 ·show (nod t 0).blk.slot<=_
  rw[(hu 0).2];exact w.ea.2
 ·obtain⟨m,h1,h2⟩:=hin n hn;rw[h2];exact w.nd m h1
 ·obtain⟨a1,a2,a3,a4,a5⟩:=w.ob b hb;exact⟨a1,by show aj t b.root<0;rw[hf];exact a2,a3,a4,a5⟩
 ·show aj t b.parent<0
  rw[hf];exact op b hb
theorem StV.boostV{s:am}(h:StV s):StV (boostV s):=by
 unfold Go.Proofs.YtnjdpnfglgcjcaaGreat.boostV;split
 ·exact⟨h.w.withB (.inl rfl),h.op⟩
 ·exact h
theorem StV.judgeV{s:am}(h:StV s){r:Rt}{v:Vdt}(h2:(judgeV s r v).2=0):StV (dh s (judgeV s r v).1):=by
 unfold Go.Proofs.YtnjdpnfglgcjcaaGreat.judgeV at *;have hup:=Fc h2;obtain⟨j1,_⟩:=dU h.w.jf;have hJ:(((aj s.nodes s.j.rt).toNat:Nat):Int)=aj s.nodes s.j.rt:=Int.toNat_of_nonneg h.w.jf;generalize aj s.nodes r=i at *
 have key:TrV (iU s.nodes i v [aj s.nodes s.j.rt,aj s.nodes s.f.rt]).1/\(nod (iU s.nodes i v [aj s.nodes s.j.rt,aj s.nodes s.f.rt]).1 (aj s.nodes s.j.rt).toNat).status≠2:=by
  clear hup;unfold iU at *;by_cases q1:isN s.nodes i=false
  ·rw[if_pos q1]at h2;cases h2
  rw[if_neg q1]at h2 ⊢;by_cases q2:v.kind=1
  ·rw[if_pos q2]at h2 ⊢;obtain⟨a,_,b⟩:=h.w.tree.raise h2;exact⟨a,fun hh=>h.w.ji (b _ j1 hh)⟩
  rw[if_neg q2]at h2 ⊢;by_cases q3:v.kind=3\/v.kind=4
  ·rw[if_pos q3];exact⟨h.w.tree,h.w.ji⟩
  rw[if_neg q3]at h2 ⊢;by_cases q4:v.kind≠2
  ·rw[if_pos q4]at h2;cases h2
  rw[if_neg q4]at h2 ⊢;by_cases q5:(cE (fun k=>dv s.nodes (gT s.nodes i v.latest).2 ([aj s.nodes s.j.rt,aj s.nodes s.f.rt].getD k 0)) [aj s.nodes s.j.rt,aj s.nodes s.f.rt].length).isSome=true
  ·rw[if_pos q5]at h2;cases h2
  rw[if_neg q5]at h2 ⊢
  have hna:dv s.nodes (gT s.nodes i v.latest).2 (aj s.nodes s.j.rt)=false:=by
   cases hf:cE (fun k=>dv s.nodes (gT s.nodes i v.latest).2 ([aj s.nodes s.j.rt,aj s.nodes s.f.rt].getD k 0)) [aj s.nodes s.j.rt,aj s.nodes s.f.rt].length with
   |some k=>rw[hf]at q5;exact absurd rfl q5
   |none=>exact gI hf 0 (by show 0<2;decide)
  by_cases q6:0<=(gT s.nodes i v.latest).1
  ·rw[if_pos q6]at h2 ⊢;by_cases q7:(dV s.nodes (gT s.nodes i v.latest).1).2≠0
   ·rw[if_pos q7]at h2;exact absurd h2 q7
   rw[if_neg q7]at h2 ⊢;have q7:(dV s.nodes (gT s.nodes i v.latest).1).2=0:=by simpa using q7
   obtain⟨a,_,b⟩:=h.w.tree.raise q7;obtain⟨u1,u2⟩:=zh q7;obtain⟨c,_,d⟩:=a.cond h2;refine⟨c,fun hh=>?_⟩;rcases d _ (by rw[u1];exact j1) hh with h3|h3
   ·exact h.w.ji (b _ j1 h3)
   ·rw[hJ,abq u1 fun k=>(u2 k).1,hna]at h3;cases h3
  ·rw[if_neg q6]at h2 ⊢;obtain⟨c,_,d⟩:=h.w.tree.cond h2;refine⟨c,fun hh=>?_⟩;rcases d _ j1 hh with h3|h3
   ·exact h.w.ji h3
   ·rw[hJ,hna]at h3;cases h3
 exact h.judge key.1 hup.1 hup.2 key.2
theorem AE(s:aX)(l:List Rt):(xw s l).sto=s.sto:=by
 refine fE (f:=jo l) (a:=s) (fun _ t=>t.sto=s.sto) rfl l.length (fun k t hk ht=>?_) _ (Nat.le_refl _);unfold jo;split
 ·exact ht
 ·exact ht
theorem K5(s:aX):(QF s).sto=s.sto:=by
 refine fE (f:=qG s.rets) (a:=gU s []) (fun _ t=>t.sto=s.sto) rfl s.rets.length (fun k t hk ht=>?_) _ (Nat.le_refl _);unfold qG;split
 ·exact ht
 ·split
  ·exact ht
  ·exact ht
theorem An(s:aX)(r:Req):(pq s r).sto=s.sto:=by
 unfold pq;split
 ·rfl
 ·split<;>rfl
theorem sQ(s:aX):(jK s).1.sto=s.sto:=by unfold jK;split<;>rfl
theorem Ar{s:aX}{v:Vdt}(h:(df s v).2.2=0):(df s v).2.1.sto=s.sto:=by
 unfold df at *;cases hf:cE (fun i=>decide ((fI s.reqs i).tag=v.tag)) s.reqs.length with
 |some i=>rfl
 |none=>rw[hf]at h;cases h
theorem StV.verd{s:aX}(h:StV s.sto){v:Vdt}(h2:(ot s v).2=0\/(ot s v).2=21):StV (ot s v).1.sto:=by
 unfold ot at *;by_cases q1:(df s v).2.2≠0
 ·rw[if_pos q1];exact h
 rw[if_neg q1]at h2 ⊢;have hm:=Ar (s:=s) (v:=v) (by simpa using q1);by_cases q2:v.kind=3\/v.kind=4
 ·rw[if_pos q2];show StV (pq (df s v).2.1 (df s v).1).sto
  rw[An,hm];exact h
 rw[if_neg q2]at h2 ⊢;by_cases q3:(Go.Proofs.YtnjdpnfglgcjcaaGreat.judgeV (df s v).2.1.sto (df s v).1.block v).2≠0
 ·rw[if_pos q3];exact h
 rw[if_neg q3];rw[hm]at q3 ⊢;exact(h.judgeV (by simpa using q3)).boostV
theorem StV.perf{s:aX}{i:Nat}(h:StV s.sto)(hI:bi s.sto i){x:VOp}(hx:OpR x)(h2:(fS s x).2=0\/(fS s x).2=21):StV (fS s x).1.sto:=by
 unfold fS at *;by_cases q1:x.kind=1
 ·rw[if_pos q1]at h2 ⊢
  by_cases q:(dH s.sto).2=0
  ·rw[if_pos q];show StV (QF (pZ (fU s (dH s.sto).1))).sto
   rw[K5];exact h.tick hI q
  ·rw[if_neg q]at h2;exact absurd h2 (by intro h5;rcases h5 with h5|h5;exact q h5;exact DA _ h5)
 rw[if_neg q1]at h2 ⊢;by_cases q2:x.kind=2
 ·rw[if_pos q2]at h2 ⊢
  by_cases q:(cq s.sto x.blk).2.2=0
  ·rw[if_pos q];show StV (xw (pZ (fU s (cq s.sto x.blk).1)) (cq s.sto x.blk).2.1).sto
   rw[AE];exact h.block hI (hx.blk.up (Nat.zero_le i)) q
  ·rw[if_neg q]at h2;exact absurd h2 (by intro h5;rcases h5 with h5|h5;exact q h5;exact xY _ _ h5)
 rw[if_neg q2]at h2 ⊢;by_cases q3:x.kind=3
 ·rw[if_pos q3]at h2 ⊢;exact h.att (h2.resolve_right (KE _ _))
 rw[if_neg q3]at h2 ⊢;by_cases q4:x.kind=4
 ·rw[if_pos q4]at h2 ⊢;exact h.slash (h2.resolve_right (zp _ _))
 rw[if_neg q4]at h2 ⊢;by_cases q5:x.kind=5
 ·rw[if_pos q5]at h2 ⊢;exact h.reg (h2.resolve_right (Mi _ _))
 rw[if_neg q5]at h2 ⊢;by_cases q6:x.kind=6
 ·rw[if_pos q6]at h2 ⊢;exact h.verd h2
 rw[if_neg q6];exact h
theorem StV.step{s:aX}{i:Nat}(h:StV s.sto)(hI:bi s.sto i){x:VOp}(hx:OpR x):StV (kR s x).1.sto:=by
 unfold kR;split
 ·exact h
 ·split
  ·exact h
  ·split
   ·rename_i h3;exact h.perf hI hx (.inr h3)
   ·split
    ·exact h
    ·rename_i h3 h4;show StV (jK (fS s x).1).1.sto
     rw[sQ];exact h.perf hI hx (.inl (by simpa using h4))
theorem StV.new{c:cU}(h:iH c=0):StV (fm c):=by
 have hp:=Fx h
 have hz:iH c=0/\(1:Int)<=c.lim.node/\0<=c.lim.orph/\0<=c.lim.early/\(1:Int)<=c.lim.table/\c.gen≠rt0/\fJ ⟨⟨0,c.gen⟩,c.bals⟩ c.bals.length=0:=by
  refine⟨h,?_⟩;unfold iH at h;by_cases q1:c.spe<1
  ·rw[if_pos q1]at h;cases h
  rw[if_neg q1]at h;by_cases q2:64<c.spe
  ·rw[if_pos q2]at h;cases h
  rw[if_neg q2]at h;by_cases q3:100<c.boost
  ·rw[if_pos q3]at h;cases h
  rw[if_neg q3]at h;by_cases q4:1024<(c.bals.length:Int)
  ·rw[if_pos q4]at h;cases h
  rw[if_neg q4]at h;by_cases q5:wit c.lim.node 1 4096=false
  ·rw[if_pos q5]at h;cases h
  rw[if_neg q5]at h;by_cases q6:wit c.lim.orph 0 64=false
  ·rw[if_pos q6]at h;cases h
  rw[if_neg q6]at h;by_cases q7:wit c.lim.early 0 256=false
  ·rw[if_pos q7]at h;cases h
  rw[if_neg q7]at h;by_cases q8:wit c.lim.table 1 64=false
  ·rw[if_pos q8]at h;cases h
  rw[if_neg q8]at h;by_cases q9:wit c.lim.retry 0 256=false
  ·rw[if_pos q9]at h;cases h
  rw[if_neg q9]at h;by_cases q10:c.lim.backoff<1
  ·rw[if_pos q10]at h;cases h
  rw[if_neg q10]at h;by_cases q11:1048576<c.lim.backoff
  ·rw[if_pos q11]at h;cases h
  rw[if_neg q11]at h;by_cases q12:c.gen=rt0
  ·rw[if_pos q12]at h;cases h
  rw[if_neg q12]at h;unfold wit at q5 q6 q7 q8;simp only[Bool.not_eq_false,Bool.and_eq_true,decide_eq_true_eq]at q5 q6 q7 q8;exact⟨q5.1,q6.1,q7.1,q8.1,q12,h⟩
 obtain⟨_,n1,n2,n3,n4,hg,hv⟩:=hz;have one:∀i,i<(fm c).nodes.length->i=0:=fun i hi=>by have:i<1:=hi;omega
 have hfind:aj (fm c).nodes c.gen=0:=by
  have h1:=jL (t:=(fm c).nodes) (k:=0) (r:=c.gen) Nat.zero_lt_one rfl;obtain⟨h2,_⟩:=dU h1;have:=one _ h2;omega
 have hst:bD 0 c.spe=(0,0):=by
  unfold bD mO;rw[ak hp.1,ak hp.2];show CV 0 c.spe=_
  unfold CV;rw[if_neg]
  ·rw[Int.zero_mul];rfl
  ·rintro⟨h1,h2⟩;have:Int.tdiv 18446744073709551615 c.spe=18446744073709551615 / c.spe:=Int.tdiv_eq_ediv_of_nonneg (by decide);rw[Gy]at h2;omega
 have tr:TrV (fm c).nodes:=⟨Nat.zero_lt_one,fun i hi=>by rw[one i hi];exact⟨show (0:Int)<=1 by decide,show (1:Int)<=2 by decide⟩,rfl,fun i h0 hi=>by have:=one i hi;omega,fun i j hij hj=>by have:=one j hj;omega,fun i h0 hi=>by have:=one i hi;omega,fun i h0 hi=>by have:=one i hi;omega,
  fun i h0 hi=>by have:=one i hi;omega,fun i h0 hi=>by have:=one i hi;omega,fun i hi _=>by rw[one i hi];rfl⟩
 have hep:∀n,bY (fm c) n=IntKind.u64.wrap (Int.tdiv n c.spe):=fun _=>rfl
 have he0:bY (fm c) 0=0:=by rw[hep,Int.zero_tdiv];rfl
 refine⟨⟨h,tr,n1,n2,n3,n4,rfl,?_,?_,Int.le_refl _,⟨_,List.mem_singleton.2 rfl,rfl⟩,⟨fun t ht=>?_,by show List.Pairwise _ [_];simp⟩,by show (List.replicate _ _).length=_;simp;rfl,fun v hv hh=>?_,.inl rfl,.inl rfl,by show (0:Int)<=_;decide,?_,?_,fun n hn=>?_,fun a ha=>(by cases ha),fun b hb=>(by cases hb),List.Pairwise.nil⟩,fun b hb=>(by cases hb)⟩
 ·show 0<=aj (fm c).nodes c.gen
  rw[hfind];exact Int.le_refl _
 ·show (nod (fm c).nodes (aj (fm c).nodes c.gen).toNat).status≠2
  rw[hfind];show (1:Int)≠2;decide
 ·rw[List.mem_singleton.1 ht];exact hv
 ·rw[List.eq_of_mem_replicate hv]
 ·show (0:Int)<=bY (fm c) 0
  rw[he0];exact Int.le_refl _
 ·show (bD 0 c.spe).2=0/\(0:Int)<=(bD 0 c.spe).1
  rw[hst];exact⟨rfl,Int.le_refl _⟩
 ·rw[List.mem_singleton.1 hn];refine⟨Int.le_refl _,?_⟩;unfold lX;show (decide ((0:Int)<=0)&&decide ((0:Int)<=0)&&decide ((0:Int)<=0)&&decide ((0:Int)<=0)&&decide ((0:Int)<=bY (fm c) 0))=true
  rw[he0];rfl
theorem Px(l:List Int):∃s:aX,(fM s 24/\StV s.sto)/\PC Tryz.prog 15 [.sl 1 false (ax .i64 l)] (.agg (bk s.a)):=
 state_walk' (fun s=>StV s.sto) (fun c hc=>by
  unfold mh;rw[if_pos hc.new];show StV (jK _).1.sto
  rw[sQ];exact StV.new hc.new) (fun s i x hI h hx=>h.step hI.sto hx.r) l
structure mf(s u:am):Prop where
 c:u.cfg=s.cfg
 t:∀x∈u.tabs,x∈s.tabs
 n:u.now=s.now
 j:s.j.ep<=u.j.ep
 f:s.f.ep<=u.f.ep
theorem mf.refl(s:am):mf s s:=⟨rfl,fun x hx=>hx,rfl,Int.le_refl _,Int.le_refl _⟩
theorem mf.trans{s t u:am}(h:mf s t)(g:mf t u):mf s u:=⟨g.c.trans h.c,fun x hx=>h.t x (g.t x hx),g.n.trans h.n,Int.le_trans h.j g.j,Int.le_trans h.f g.f⟩
theorem SV(a b:Cp):a.ep<=(dK a b).ep:=by unfold dK;split<;>omega
theorem TK(s:am)(j f:Cp):s.j.ep<=(dl s j f).j.ep/\s.f.ep<=(dl s j f).f.ep:=by
 unfold dl;(repeat' split)<;>first|exact⟨Int.le_refl _,Int.le_refl _⟩|exact⟨SV _ _,SV _ _⟩
theorem Dy(s:am)(j f:Cp):mf s (dl s j f):=⟨M0 s j f,(PJ s j f).2,TL s j f,(TK s j f).1,(TK s j f).2⟩
theorem MV(s:am)(b:Blk):mf s (gi s b):=by
 have h0:mf s (dh s (eP s.nodes b (ck b)).1):=⟨rfl,fun x hx=>hx,rfl,Int.le_refl _,Int.le_refl _⟩;unfold gi;split
 ·exact(h0.trans (Dy _ _ _)).trans (Dy _ _ _)
 ·exact h0.trans (Dy _ _ _)
theorem Wg(p:am×List Rt):mf p.1 (waitR p).1:=by
 have h0:mf p.1 (withO p.1 (takeO p.1.orph (bR p.1).toNat)):=⟨rfl,fun x hx=>hx,rfl,Int.le_refl _,Int.le_refl _⟩;have h1:=h0.trans (MV (withO p.1 (takeO p.1.orph (bR p.1).toNat)) (cF p.1.orph (bR p.1).toNat));unfold waitR;split
 ·exact h1
 ·exact h0
theorem J1:∀ (f:Nat) (p:am×List Rt),mf p.1 (waitG f p).1
 |0,p=>mf.refl _
 | f + 1, p => by
   unfold waitG;split
   ·exact mf.refl _
   ·exact(Wg p).trans (J1 f _)
theorem AS{s:am}{b:Blk}(h:(cq s b).2.2=0):mf s (cq s b).1:=by
 unfold cq at *;by_cases h3:bG s b=10
 ·rw[if_pos h3]at h ⊢;by_cases h4:s.cfg.lim.orph<=s.orph.length
  ·rw[if_pos h4]at h;cases h
  ·rw[if_neg h4];exact⟨rfl,fun x hx=>hx,rfl,Int.le_refl _,Int.le_refl _⟩
 ·rw [if_neg h3] at h ⊢
  by_cases h4:bG s b≠0
  ·rw[if_pos h4]at h;exact absurd h h4
  ·rw[if_neg h4]
   have h5:mf s (blockI s b):=by
    unfold blockI;split
    ·exact(MV s b).trans ⟨rfl,fun x hx=>hx,rfl,Int.le_refl _,Int.le_refl _⟩
    ·exact MV s b
   exact h5.trans (J1 _ (blockI s b,[b.root]))
theorem Gk{s:am}(h:(dH s).2=0):mf (tickA s) (dH s).1:=by
 unfold dH at *;split at h
 ·cases h
 ·rename_i h3
  rw[if_neg h3]
  have h1:mf (tickA s) (tickB (tickA s)):=by
   generalize tickA s=s;unfold tickB;split
   ·exact Dy _ _ _
   ·exact mf.refl _
  refine h1.trans ?_;generalize tickB (tickA s)=t;show mf t (tickC t t.early)
  refine fE (f:=tickR t.early) (a:=withE t []) (fun _ u=>mf t u) ⟨rfl,fun x hx=>hx,rfl,Int.le_refl _,Int.le_refl _⟩ t.early.length (fun k u hk hu=>?_) _ (Nat.le_refl _);unfold tickR;split
  ·exact hu.trans ⟨rfl,fun x hx=>hx,rfl,Int.le_refl _,Int.le_refl _⟩
  ·split
   ·exact hu.trans ⟨rfl,fun x hx=>hx,rfl,Int.le_refl _,Int.le_refl _⟩
   ·exact hu
theorem MU{s:am}{a:aW}(h:(i9 s a).2=0):mf s (i9 s a).1:=by
 unfold i9 at *;split at h
 ·rename_i h3;exact absurd h h3
 ·rename_i h3
  rw[if_neg h3];split at h
  ·rename_i h4;rw[if_pos h4];exact⟨rfl,fun x hx=>hx,rfl,Int.le_refl _,Int.le_refl _⟩
  ·rename_i h4;rw[if_neg h4];split at h
   ·cases h
   ·rename_i h5;rw[if_neg h5];exact⟨rfl,fun x hx=>hx,rfl,Int.le_refl _,Int.le_refl _⟩
theorem qn{s:am}{x:eR}(h:(di s x).2=0):mf s (di s x).1:=by
 unfold di at *;split at h
 ·rename_i h3;exact absurd h h3
 ·rename_i h3;rw[if_neg h3];split at h
  ·cases h
  ·rename_i h4;rw[if_neg h4];exact⟨rfl,fun x hx=>hx,rfl,Int.le_refl _,Int.le_refl _⟩
structure md(s:am):Prop where
 tb:∀t∈s.tabs,∀x∈t.bals,0<=x/\x<18446744073709551616
 cb:∀x∈s.cfg.bals,0<=x/\x<18446744073709551616
theorem md.sub{s t:am}(h:md s)(g:mf s t):md t:=⟨fun x hx=>h.tb x (g.t x hx),by rw[g.c];exact h.cb⟩
theorem md.reg{s:am}(h:md s){t:aH}(ht:∀x∈t.bals,0<=x/\x<18446744073709551616)(h2:(iu s t).2=0):md (iu s t).1:=by
 unfold iu at *;split at h2
 ·rename_i h3;exact absurd h2 h3
 ·rename_i h3
  rw[if_neg h3];split at h2
  ·cases h2
  ·rename_i h4
   rw[if_neg h4];split at h2
   ·rename_i h5;exact absurd h2 h5
   ·rename_i h5
    rw[if_neg h5];refine⟨fun x hx=>?_,h.cb⟩
    have:x∈s.tabs\/x=t:=by
     have hx:x∈(gu s.tabs t s.cfg.bals.length s.cfg.lim.table).1:=hx;unfold gu at hx;split at hx
     ·exact .inl hx
     ·split at hx
      ·exact .inl hx
      ·split at hx
       ·exact .inl hx
       ·exact wt _ _ x hx
    rcases this with h6|rfl
    ·exact h.tb x h6
    ·exact ht
theorem md.perf{s:aX}(h:md s.sto){x:VOp}(hx:∀y∈x.tab.bals,0<=y/\y<18446744073709551616)(h2:(fS s x).2=0\/(fS s x).2=21):md (fS s x).1.sto:=by
 unfold fS at *;by_cases q1:x.kind=1
 ·rw[if_pos q1]at h2 ⊢
  by_cases q:(dH s.sto).2=0
  ·rw[if_pos q];show md (QF (pZ (fU s (dH s.sto).1))).sto
   rw[K5];exact(⟨h.tb,h.cb⟩:md (tickA s.sto)).sub (Gk q)
  ·rw[if_neg q]at h2;exact absurd h2 (by intro h5;rcases h5 with h5|h5;exact q h5;exact DA _ h5)
 rw[if_neg q1]at h2 ⊢;by_cases q2:x.kind=2
 ·rw[if_pos q2]at h2 ⊢
  by_cases q:(cq s.sto x.blk).2.2=0
  ·rw[if_pos q];show md (xw (pZ (fU s (cq s.sto x.blk).1)) (cq s.sto x.blk).2.1).sto
   rw[AE];exact h.sub (AS q)
  ·rw[if_neg q]at h2;exact absurd h2 (by intro h5;rcases h5 with h5|h5;exact q h5;exact xY _ _ h5)
 rw[if_neg q2]at h2 ⊢;by_cases q3:x.kind=3
 ·rw[if_pos q3]at h2 ⊢;exact h.sub (MU (h2.resolve_right (KE _ _)))
 rw[if_neg q3]at h2 ⊢;by_cases q4:x.kind=4
 ·rw[if_pos q4]at h2 ⊢;exact h.sub (qn (h2.resolve_right (zp _ _)))
 rw[if_neg q4]at h2 ⊢;by_cases q5:x.kind=5
 ·rw[if_pos q5]at h2 ⊢;exact h.reg hx (h2.resolve_right (Mi _ _))
 rw[if_neg q5]at h2 ⊢;by_cases q6:x.kind=6
 ·rw[if_pos q6]at h2 ⊢
  unfold ot at *;by_cases p1:(df s x.vdt).2.2≠0
  ·rw[if_pos p1];exact h
  rw[if_neg p1]at h2 ⊢;have hm:=Ar (s:=s) (v:=x.vdt) (by simpa using p1);by_cases p2:x.vdt.kind=3\/x.vdt.kind=4
  ·rw[if_pos p2];show md (pq (df s x.vdt).2.1 (df s x.vdt).1).sto
   rw[An,hm];exact h
  rw[if_neg p2]at h2 ⊢;by_cases p3:(Go.Proofs.YtnjdpnfglgcjcaaGreat.judgeV (df s x.vdt).2.1.sto (df s x.vdt).1.block x.vdt).2≠0
  ·rw[if_pos p3];exact h
  rw[if_neg p3,hm];refine h.sub ?_;show mf s.sto (boostV (dh s.sto _))
  unfold boostV;split
  ·exact⟨rfl,fun x hx=>hx,rfl,Int.le_refl _,Int.le_refl _⟩
  ·exact⟨rfl,fun x hx=>hx,rfl,Int.le_refl _,Int.le_refl _⟩
 rw[if_neg q6];exact h
theorem md.step{s:aX}(h:md s.sto){x:VOp}(hx:∀y∈x.tab.bals,0<=y/\y<18446744073709551616):md (kR s x).1.sto:=by
 unfold kR;split
 ·exact h
 ·split
  ·exact h
  ·split
   ·rename_i h3;exact h.perf hx (.inr h3)
   ·split
    ·exact h
    ·rename_i h3 h4;show md (jK (fS s x).1).1.sto
     rw[sQ];exact h.perf hx (.inl (by simpa using h4))
theorem S4{s:am}{t:aH}(h2:(iu s t).2=0):(iu s t).1.now=s.now/\(iu s t).1.j=s.j/\(iu s t).1.f=s.f:=by
 unfold iu at *;split at h2
 ·rename_i h3;exact absurd h2 h3
 ·rename_i h3
  rw[if_neg h3];split at h2
  ·cases h2
  ·rename_i h4
   rw[if_neg h4];split at h2
   ·rename_i h5;exact absurd h2 h5
   ·rename_i h5;rw[if_neg h5];exact⟨rfl,rfl,rfl⟩
theorem X1{s:am}(hn:U64 s.now)(h:(dH s).2=0):(dH s).1.now=s.now+1:=by
 rw[(Gk h).n];have h3:¬1099511627776<=s.now:=fun h3=>by unfold dH at h;rw[if_pos h3]at h;cases h
 have:=hn.lo;show IntKind.u64.wrap (s.now+1)=_
 rw[aU (by omega) (by omega)]
theorem OL{s:aX}(hn:U64 s.sto.now){x:VOp}(h2:(fS s x).2=0\/(fS s x).2=21):(fS s x).1.sto.now<=s.sto.now+1:=by
 unfold fS at *;by_cases q1:x.kind=1
 ·rw[if_pos q1]at h2 ⊢
  by_cases q:(dH s.sto).2=0
  ·rw[if_pos q];show (QF (pZ (fU s (dH s.sto).1))).sto.now<=_
   rw[K5];show (dH s.sto).1.now<=_
   rw[X1 hn q];omega
  ·rw[if_neg q]at h2;exact absurd h2 (by intro h5;rcases h5 with h5|h5;exact q h5;exact DA _ h5)
 rw[if_neg q1]at h2 ⊢;by_cases q2:x.kind=2
 ·rw[if_pos q2]at h2 ⊢
  by_cases q:(cq s.sto x.blk).2.2=0
  ·rw[if_pos q];show (xw (pZ (fU s (cq s.sto x.blk).1)) (cq s.sto x.blk).2.1).sto.now<=_
   rw[AE];have:=(AS q).n;show (cq s.sto x.blk).1.now<=_
   omega
  ·rw[if_neg q]at h2;exact absurd h2 (by intro h5;rcases h5 with h5|h5;exact q h5;exact xY _ _ h5)
 rw[if_neg q2]at h2 ⊢;by_cases q3:x.kind=3
 ·rw[if_pos q3]at h2 ⊢;have:=(MU (h2.resolve_right (KE _ _))).n;show (i9 s.sto x.att).1.now<=_
  omega
 rw[if_neg q3]at h2 ⊢;by_cases q4:x.kind=4
 ·rw[if_pos q4]at h2 ⊢;have:=(qn (h2.resolve_right (zp _ _))).n;show (di s.sto x.slg).1.now<=_
  omega
 rw[if_neg q4]at h2 ⊢;by_cases q5:x.kind=5
 ·rw[if_pos q5]at h2 ⊢;have:=(S4 (h2.resolve_right (Mi _ _))).1;show (iu s.sto x.tab).1.now<=_
  omega
 rw[if_neg q5]at h2 ⊢;by_cases q6:x.kind=6
 ·rw[if_pos q6]at h2 ⊢
  unfold ot at *;by_cases p1:(df s x.vdt).2.2≠0
  ·rw[if_pos p1];show s.sto.now<=_;omega
  rw[if_neg p1]at h2 ⊢;have hm:=Ar (s:=s) (v:=x.vdt) (by simpa using p1);by_cases p2:x.vdt.kind=3\/x.vdt.kind=4
  ·rw[if_pos p2];show (pq (df s x.vdt).2.1 (df s x.vdt).1).sto.now<=_
   rw[An,hm];omega
  rw[if_neg p2]at h2 ⊢;by_cases p3:(Go.Proofs.YtnjdpnfglgcjcaaGreat.judgeV (df s x.vdt).2.1.sto (df s x.vdt).1.block x.vdt).2≠0
  ·rw[if_pos p3];show s.sto.now<=_;omega
  rw[if_neg p3,hm];show (boostV (dh s.sto _)).now<=_
  unfold boostV;split<;>(show s.sto.now<=_;omega)
 rw[if_neg q6];show s.sto.now<=_;omega
theorem X0{s:aX}(hn:U64 s.sto.now)(x:VOp):(kR s x).1.sto.now<=s.sto.now+1:=by
 unfold kR;split
 ·show s.sto.now<=_;omega
 ·split
  ·show s.sto.now<=_;omega
  ·split
   ·rename_i h3;exact OL hn (.inr h3)
   ·split
    ·show s.sto.now<=_;omega
    ·rename_i h3 h4;show (jK (fS s x).1).1.sto.now<=_
     rw[sQ];exact OL hn (.inl (by simpa using h4))
theorem Ca(l:List Int):∃s:aX,(fM s 24/\StV s.sto/\md s.sto/\s.sto.now<=24)/\PC Tryz.prog 15 [.sl 1 false (ax .i64 l)] (.agg (bk s.a)):=by
 obtain⟨s,⟨h,i,hi,h1,h2,h3⟩,c⟩:=Cc (fun i s=>StV s.sto/\md s.sto/\s.sto.now<=(i:Int)) (fun c hc=>by
  have hb:∀x∈c.bals,0<=x/\x<18446744073709551616:=fun x hx=>by have:=hc.bu x hx;omega
  unfold mh;rw[if_pos hc.new];show StV (jK _).1.sto/\md (jK _).1.sto/\(jK _).1.sto.now<=_
  rw[sQ];exact⟨StV.new hc.new,⟨fun t ht=>by rw[List.mem_singleton.1 ht];exact hb,hb⟩,Int.le_refl _⟩) (fun s i x hI hi h hx=>⟨h.1.step hI.sto hx.r,h.2.1.step fun y hy=>by have:=hx.u.tab.all y hy;exact⟨this.lo,this.hi⟩,by have:=X0 hI.sto.nw.1 x;have:=h.2.2;omega⟩) l
 exact⟨s,⟨h,h1,h2,by omega⟩,c⟩
theorem Sf(l:List Int):∃s:aX,(fM s 24/\StV s.sto/\md s.sto)/\PC Tryz.prog 15 [.sl 1 false (ax .i64 l)] (.agg (bk s.a)):=by
 obtain⟨s,⟨h,h1,h2,_⟩,c⟩:=Ca l;exact⟨s,⟨h,h1,h2⟩,c⟩
theorem acC{s:am}{i:Nat}(h:bi s i)(hb:md s):abl s:=by
 have hr:=h.r;exact⟨hr.bn,hr.bl,hr.be,hr.bt,hr.bb,hb.tb,hr.bo,hr.ba,fun a ha=>by have:=h.av a ha;omega,by have:=h.cfg.b1;omega,hb.cb,h.uf⟩
theorem StV.valC{s:am}(h:StV s):rW s:=by
 refine⟨h.w.fr,h.w.jf,h.w.ji,h.w.fj,?_,?_,?_,h.w.bo,h.w.nm,h.w.je,?_,?_,?_⟩
 ·obtain⟨t,h1,h2⟩:=h.w.tj;rw[<-h2];exact Dz h1
 ·refine vS.2 fun i _ hi=>?_
  have hi:i<s.tabs.length:=by omega
  unfold kI;rw[if_neg,if_neg (fun hh=>hh (h.w.tv.1 _ (cG _ hi)))];rintro⟨h0,h1⟩;have h2:=List.pairwise_iff_getElem.1 h.w.tv.2 (i-1) i (by omega) hi (by omega);unfold tab at h1;rw[List.getD_eq_getElem?_getD,List.getD_eq_getElem?_getD,List.getElem?_eq_getElem hi,List.getElem?_eq_getElem (by omega)]at h1;exact absurd h2 (by simpa using h1)
 ·rw [ak h.w.ll, Bool.true_and]
  have hn:cE (fun i=>!(vot s.latest i).has&&decide (vot s.latest i≠fg)) s.latest.length=none:=by
   cases hf:cE (fun i=>!(vot s.latest i).has&&decide (vot s.latest i≠fg)) s.latest.length with
   |none=>rfl
   | some k =>
     obtain⟨h1,h2,_⟩:=dY hf;simp only[Bool.and_eq_true,Bool.not_eq_true',decide_eq_true_eq]at h2;exact absurd (h.w.lv _ (cG _ h1) h2.1) h2.2
  rw[hn];rcases h.w.qv with h1|h1
  ·rw[h1];rfl
  ·rw[ak h1];simp
 ·unfold jz cR;rw[show ((0:Int).toNat)=0 from rfl,ak h.w.ea.2,Bool.or_true]
 ·have hn:cE (fun i=>decide (s.now<(nod s.nodes i).blk.slot) || !lX s (nod s.nodes i).blk) s.nodes.length=none:=by
   cases hf:cE (fun i=>decide (s.now<(nod s.nodes i).blk.slot) || !lX s (nod s.nodes i).blk) s.nodes.length with
   |none=>rfl
   | some k =>
     obtain⟨h1,h2,_⟩:=dY hf;obtain⟨h3,h4⟩:=h.w.nd _ (za h1);rw[h4,au (by omega)]at h2;cases h2
  rw[hn];rfl
 ·unfold CY;rw[Bool.and_eq_true,decide_eq_true_eq,decide_eq_true_eq];refine⟨vS.2 fun i _ hi=>h.w.av _ (cG _ (by omega)),vS.2 fun i _ hi=>?_⟩;have hi:i<s.orph.length:=by omega
  have hm:cF s.orph i∈s.orph:=cG _ hi;obtain⟨a1,a2,a3,a4,a5⟩:=h.w.ob _ hm;refine Yd a1 (by omega) (by have:=h.op _ hm;omega) a3 (by omega) (by omega) (fun hh=>?_);obtain⟨b,hb,he⟩:=List.mem_map.1 hh;obtain⟨k,hk,hk2⟩:=List.mem_take_iff_getElem.1 hb;have:=List.pairwise_iff_getElem.1 h.w.od k i (by omega) hi (by omega);rw[hk2]at this;unfold cF at he;rw[List.getD_eq_getElem?_getD,List.getElem?_eq_getElem hi]at he;exact this he
theorem StV.val{s:am}(h:StV s)(hl:s.cfg.lim.node<=4096)(hf:U64 s.f.ep)(hw:U64 s.now):rS s=0:=
 (Za h.w.ne (h.w.tree.statV (by have:=h.w.z1;omega)) (by have:=h.w.z1;omega) (by have:=h.w.z2;omega) (by have:=h.w.z3;omega) (by have:=h.w.z4;omega) hf hw).1 h.valC
end Go.Proofs.YtnjdpnfglgcjcaaGreat
