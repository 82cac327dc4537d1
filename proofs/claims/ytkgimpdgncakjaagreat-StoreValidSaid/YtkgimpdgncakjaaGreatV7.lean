/-
 My texts Lw, Lx, Ly, Lz, joined.
-/
import Derived.Test.YtkgimpdgncakjaaGreatV6
import Derived.Test.YtkgimpdgncakjaaGreatW3
namespace Go.Proofs.YtkgimpdgncakjaaGreat
open Go Go.FH Go.RowKit
set_option linter.unusedVariables false
set_option linter.unusedSimpArgs false
def WdG(w:Wd):Prop:=∀n∈w.1,0≤n∧n<18446744073709551616
def Kw_:Rt:=(rt0.set 0 100).set 31 188
structure hF_(i:Nat)(x:Blk):Prop where
 slot:U64 x.slot
 just:U64 x.just.ep
 fin:U64 x.fin.ep
 j:U64 x.pul.j.ep
 f:U64 x.pul.f.ep
 rt:i≤24→x.root≠Kw_
theorem hF_.up{i k:Nat}{b:Blk}(h:hF_ i b)(hk:i≤k):hF_ k b:=⟨h.slot,h.just,h.fin,h.j,h.f,fun h2=>h.rt (by omega)⟩
theorem hF_.u{i:Nat}{b:Blk}(h:hF_ i b):Ol_ b:=⟨h.slot,h.just,h.fin,h.j,h.f⟩
def NwR(i:Nat)(n:Int):Prop:=U64 n∧(i≤24→n≤1099511627776)
theorem NwR.up{i k:Nat}{n:Int}(h:NwR i n)(hk:i≤k):NwR k n:=⟨h.1,fun h2=>h.2 (by omega)⟩
structure Qu_(c:bu_):Prop where
 s1:1≤c.spe
 s4:c.spe≤4
 b0:0<c.bals.length
 b1:c.bals.length≤6
 ln:c.lim.node≤13
 lo:c.lim.orph≤3
 la:c.lim.early≤3
 lt:c.lim.table≤4
 lr:c.lim.retry≤3
 tt:WdG c.ttd
 gn:c.gen≠Kw_
structure aK_(s:ah_)(i:Nat):Prop where
 cfg:Qu_ s.cfg
 tree:bG_ s.nodes
 jf:0≤af_ s.nodes s.j.rt
 ll:s.latest.length=s.cfg.bals.length
 nn:s.nodes.length≤13
 un:∀n∈s.nodes,hF_ i n.blk
 oo:s.orph.length≤3
 uo:∀b∈s.orph,hF_ i b
 aa:s.early.length≤3
 av:∀a∈s.early,a.vals.length≤10
 tt:s.tabs.length≤4
 tb:∀t∈s.tabs,t.bals.length≤6
 qq:s.eqv.length≤10*i
 uj:U64 s.j.ep
 uf:U64 s.f.ep
 nw:NwR i s.now
 ii:i≤30
theorem aK_.r{s:ah_}{i:Nat}(h:aK_ s i):StR s:=by
 have h1:=h.cfg.s1;have h2:=h.cfg.b1;have h3:=h.nn;have h4:=h.qq;have h5:=h.ii;have h6:=h.ll;have h7:=h.tt;have h8:=h.oo;have h9:=h.aa;have h10:=h.cfg.ln;exact⟨h.tree,by omega,by omega,by omega,by omega,by omega,fun t ht=>by have:=h.tb t ht;omega,by omega,by omega,by omega,h6,h.jf⟩
theorem aK_.up{s:ah_}{i k:Nat}(h:aK_ s i)(h1:i≤k)(h2:k≤30):aK_ s k:=by
 obtain⟨a,b,c,d,e,f,g,j,l,m,n,o,p,q,r,t,u⟩:=h;exact⟨a,b,c,d,e,fun x hx=>(f x hx).up h1,g,fun x hx=>(j x hx).up h1,l,m,n,o,by omega,q,r,t.up h1,h2⟩
theorem be_(n:Int):U64 (IntKind.u64.wrap n):=by rw[wF_];exact⟨by omega,by omega⟩
theorem bH_{α:Type}{l:List α}{i:Nat}(d:α)(h:i<l.length):l.getD i d∈l:=by
 rw[List.getD_eq_getElem?_getD,List.getElem?_eq_getElem h];exact List.getElem_mem h
theorem aK_.blk{s:ah_}{i:Nat}(h:aK_ s i){k:Nat}(hk:k<s.nodes.length):hF_ i (nod s.nodes k).blk:=h.un _ (bH_ _ hk)
theorem qP_{t:List Nod}{n:Nod}(h:n∈t):∃k,k<t.length∧nod t k=n:=by
 obtain⟨k,hk,he⟩:=List.getElem_of_mem h;exact⟨k,hk,by unfold nod;rw[List.getD_eq_getElem?_getD,List.getElem?_eq_getElem hk];exact he⟩
theorem Cy_(s:ah_)(j f:Cp):(ch_ s j f).cfg=s.cfg:=by unfold ch_;(repeat' split)<;>rfl
theorem PZ_(s:ah_)(j f:Cp):(ch_ s j f).eqv=s.eqv:=by unfold ch_;(repeat' split)<;>rfl
theorem Am_(s:ah_)(j f:Cp):(ch_ s j f).early=s.early:=by unfold ch_;(repeat' split)<;>rfl
theorem Qa_(s:ah_)(j f:Cp):(ch_ s j f).now=s.now:=by unfold ch_;(repeat' split)<;>rfl
theorem JW_(l:List Blk)(a:Int):∀b∈av_ (iQ_ l a) [] l.length,b∈l:=by
 refine dG_ (f:=iQ_ l a) (a:=[]) (fun _ o=>∀t∈o,t∈l) (by simp) l.length (fun i o hi ho=>?_) _ (Nat.le_refl _);unfold iQ_;split
 ·intro t ht;rw[List.mem_append,List.mem_singleton]at ht;rcases ht with ht|rfl
  ·exact ho t ht
  ·exact bH_ _ hi
 ·exact ho
theorem je_(s:ah_)(j f:Cp):(ch_ s j f).orph.length≤s.orph.length∧∀b∈(ch_ s j f).orph,b∈s.orph:=by
 unfold ch_;split
 ·exact⟨Nat.le_refl _,fun b hb=>hb⟩
 ·split
  ·exact⟨Nat.le_refl _,fun b hb=>hb⟩
  ·exact⟨nw_ _ _ _,JW_ _ _⟩
theorem Fd_(s:ah_)(j f:Cp):(ch_ s j f).tabs.length≤s.tabs.length∧∀b∈(ch_ s j f).tabs,b∈s.tabs:=by
 unfold ch_;split
 ·exact⟨Nat.le_refl _,fun b hb=>hb⟩
 ·split
  ·exact⟨id_ _ _,ie_ _ _⟩
  ·exact⟨id_ _ _,ie_ _ _⟩
theorem An_{s:ah_}(h:bG_ s.nodes)(j f:Cp):(ch_ s j f).nodes.length≤s.nodes.length∧∀n∈(ch_ s j f).nodes,∃m,m<s.nodes.length∧n.blk=(nod s.nodes m).blk:=by
 have key:∀n∈s.nodes,∃m,m<s.nodes.length∧n.blk=(nod s.nodes m).blk:=fun n hn=>by
  obtain⟨k,hk,he⟩:=qP_ hn;exact⟨k,hk,by rw[he]⟩
 unfold ch_;split
 ·exact⟨Nat.le_refl _,key⟩
 ·split
  ·exact⟨Nat.le_refl _,key⟩
  ·refine⟨kX_ h _,fun n hn=>?_⟩;obtain⟨k,hk,he⟩:=qP_ hn;obtain⟨m,hm,hb⟩:=GN_ h _ k hk;exact⟨m,hm,by rw[←he];exact hb⟩
theorem iT_{a b:Cp}(h1:U64 a.ep)(h2:U64 b.ep):U64 (cf_ a b).ep:=by unfold cf_;split<;>assumption
theorem Oa_{s:ah_}(j f:Cp)(h1:U64 s.j.ep)(h2:U64 s.f.ep)(h3:U64 j.ep)(h4:U64 f.ep):U64 (ch_ s j f).j.ep∧U64 (ch_ s j f).f.ep:=by
 unfold ch_;split
 ·exact⟨h1,h2⟩
 ·split
  ·exact⟨iT_ h1 h3,iT_ h2 h4⟩
  ·exact⟨iT_ h1 h3,iT_ h2 h4⟩
theorem aK_.upd{s:ah_}{i:Nat}(h:aK_ s i){j f:Cp}(hj:U64 j.ep)(hf:U64 f.ep):aK_ (ch_ s j f) i:=by
 have h1:=h.r.upd j f;have h2:=An_ h.tree j f;have h3:=je_ s j f;have h4:=Fd_ s j f;have h5:=Oa_ j f h.uj h.uf hj hf;refine⟨by rw[Cy_];exact h.cfg,h1.tree,h1.jf,h1.ll,Nat.le_trans h2.1 h.nn,fun n hn=>?_,Nat.le_trans h3.1 h.oo,fun b hb=>h.uo b (h3.2 b hb),by rw[Am_];exact h.aa,by rw[Am_];exact h.av,Nat.le_trans h4.1 h.tt,fun t ht=>h.tb t (h4.2 t ht),by rw[PZ_];exact h.qq,h5.1,h5.2,by rw[Qa_];exact h.nw,h.ii⟩;obtain⟨m,hm,he⟩:=h2.2 n hn;rw[he];exact h.blk hm
theorem aK_.withE{s:ah_}{i:Nat}(h:aK_ s i){l:List aD_}(h1:l.length≤3)(h2:∀a∈l,a.vals.length≤10):aK_ (withE s l) i:=
 ⟨h.cfg,h.tree,h.jf,h.ll,h.nn,h.un,h.oo,h.uo,h1,h2,h.tt,h.tb,h.qq,h.uj,h.uf,h.nw,h.ii⟩
theorem aK_.withL{s:ah_}{i:Nat}(h:aK_ s i){l:List Vot}(h1:l.length=s.latest.length):aK_ (withL s l) i:=
 ⟨h.cfg,h.tree,h.jf,h1.trans h.ll,h.nn,h.un,h.oo,h.uo,h.aa,h.av,h.tt,h.tb,h.qq,h.uj,h.uf,h.nw,h.ii⟩
theorem aK_.withB{s:ah_}{i:Nat}(h:aK_ s i)(r:Rt):aK_ (withB s r) i:=
 ⟨h.cfg,h.tree,h.jf,h.ll,h.nn,h.un,h.oo,h.uo,h.aa,h.av,h.tt,h.tb,h.qq,h.uj,h.uf,h.nw,h.ii⟩
theorem aK_.withO{s:ah_}{i:Nat}(h:aK_ s i){l:List Blk}(h1:l.length≤3)(h2:∀b∈l,hF_ i b):aK_ (withO s l) i:=
 ⟨h.cfg,h.tree,h.jf,h.ll,h.nn,h.un,h1,h2,h.aa,h.av,h.tt,h.tb,h.qq,h.uj,h.uf,h.nw,h.ii⟩
theorem aK_.withT{s:ah_}{i:Nat}(h:aK_ s i){l:List au_}(h1:l.length≤4)(h2:∀t∈l,t.bals.length≤6):aK_ (withT s l) i:=
 ⟨h.cfg,h.tree,h.jf,h.ll,h.nn,h.un,h.oo,h.uo,h.aa,h.av,h1,h2,h.qq,h.uj,h.uf,h.nw,h.ii⟩
theorem aK_.castIn{s:ah_}{i:Nat}(h:aK_ s i)(a:aD_):aK_ (castIn s a) i:=h.withL (iM_ _ _ _ _ _)
theorem aK_.tickA{s:ah_}{i:Nat}(h:aK_ s i)(h3:¬1099511627776≤s.now):aK_ (tickA s) i:=
 ⟨h.cfg,h.tree,h.jf,h.ll,h.nn,h.un,h.oo,h.uo,h.aa,h.av,h.tt,h.tb,h.qq,h.uj,h.uf,⟨be_ _,fun _=>by have:=h.nw.1.lo;show IntKind.u64.wrap (s.now+1)≤_;rw[aH_ (by omega) (by omega)];omega⟩,h.ii⟩
theorem BD_{i:Nat}{s:ah_}(h:∀k,k<s.nodes.length→hF_ i (nod s.nodes k).blk):U64 (ft_ s).j.ep∧U64 (ft_ s).f.ep:=by
 refine dG_ (f:=vU_ s.nodes) (a:=(yb_,false)) (fun _ p=>U64 p.1.j.ep∧U64 p.1.f.ep) ⟨⟨by decide,by decide⟩,⟨by decide,by decide⟩⟩ s.nodes.length (fun k p hk hp=>?_) _ (Nat.le_refl _);unfold vU_;split
 ·exact hp
 ·refine⟨?_,?_⟩
  ·dsimp only;split
   ·exact(h k hk).j
   ·exact hp.1
  ·dsimp only;split
   ·exact(h k hk).f
   ·exact hp.2
theorem aK_.tickB{s:ah_}{i:Nat}(h:aK_ s i):aK_ (tickB s) i:=by
 unfold Go.Proofs.YtkgimpdgncakjaaGreat.tickB;split
 ·have:=BD_ (s:=s) fun k hk=>h.blk hk
  exact h.upd this.1 this.2
 ·exact h
theorem pT_{l:List aD_}{k:Nat}(h:k<l.length):dM_ l k∈l:=bH_ _ h
theorem aK_.tickR{l:List aD_}(hl:∀a∈l,a.vals.length≤10)(h3:l.length≤3){s:ah_}{i:Nat}(h:aK_ s i):∀k,k≤l.length→aK_ (av_ (tickR l) (Go.FH.withE s []) k) i∧(av_ (tickR l) (Go.FH.withE s []) k).early.length≤k
 |0,_=>⟨h.withE (by simp) (by simp),Nat.le_refl _⟩
 | k + 1, hk => by
   obtain⟨h1,h2⟩:=aK_.tickR hl h3 h k (by omega);rw[bi_];generalize av_ (Go.Proofs.YtkgimpdgncakjaaGreat.tickR l) (Go.FH.withE s []) k=t at *;unfold Go.Proofs.YtkgimpdgncakjaaGreat.tickR;split
   ·refine⟨h1.withE (by simp;omega) (fun a ha=>?_),by show (t.early++[dM_ l k]).length≤k+1;simp;omega⟩;rw[List.mem_append,List.mem_singleton]at ha;rcases ha with ha|rfl
    ·exact h1.av a ha
    ·exact hl _ (pT_ (by omega))
   ·split
    ·exact⟨h1.castIn _,Nat.le_succ_of_le h2⟩
    ·exact⟨h1,Nat.le_succ_of_le h2⟩
theorem aK_.tickC{s:ah_}{i:Nat}(h:aK_ s i):aK_ (tickC s s.early) i:=(aK_.tickR h.av h.aa h _ (Nat.le_refl _)).1
theorem aK_.tick{s:ah_}{i:Nat}(h:aK_ s i)(h2:(dF_ s).2=0):aK_ (dF_ s).1 i:=by
 unfold dF_ at *;split at h2
 ·simp at h2
 ·rename_i h3;rw[if_neg h3];exact(h.tickA h3).tickB.tickC
structure Rt_(s:ah_)(b:Blk):Prop where
 root:b.root≠rt0
 kn:gL_ s b.root=false
 par:0≤af_ s.nodes b.parent
 slot:(nod s.nodes (af_ s.nodes b.parent).toNat).blk.slot<b.slot
 lim:(s.nodes.length:Int)<s.cfg.lim.node
theorem yY_ {s : ah_} {b : Blk} (h : bC_ s b = 0) : Rt_ s b := by
 unfold bC_ at h;split at h
 ·simp at h
 ·split at h
  ·simp at h
  ·split at h
   ·simp at h
   ·split at h
    ·simp at h
    ·split at h
     ·simp at h
     ·split at h
      ·simp at h
      ·split at h
       ·simp at h
       ·split at h
        ·simp at h
        ·split at h
         ·simp at h
         ·split at h
          ·simp at h
          ·exact⟨by assumption,by simpa using ‹¬gL_ s b.root=true›,by omega,by omega,by omega⟩
theorem EQ_(b:Blk):0≤bA_ b∧bA_ b≤2:=by unfold bA_;split<;>exact⟨by decide,by decide⟩
theorem HP_{s:ah_}{b:Blk}(h:Rt_ s b)(hn:s.cfg.lim.node≤4096):(dQ_ s.nodes b (bA_ b)).2=0:=by
 have h1:=h.kn;unfold gL_ at h1;have h2:decide (0≤af_ s.nodes b.root)=false:=by simp at h1;simpa using h1.2
 have h3:=of_decide_eq_false h2;have h4:=h.par;have h5:=h.slot;have h6:=h.lim;unfold dQ_;rw[if_neg (by simp[EQ_ b]),if_neg h3,if_neg (by omega),if_neg (by omega),if_neg (by omega)]
theorem rL_{t:List Nod}{n:Nod}{r:Rt}(h:0≤af_ t r):0≤af_ (t++[n]) r:=by
 obtain⟨h1,h2⟩:=cn_ h;exact fO_ (k:=(af_ t r).toNat) (by simp;omega) (by rw[cU_,if_pos h1];exact h2)
theorem aK_.insN{s:ah_}{i:Nat}(h:aK_ s i){b:Blk}(hc:bC_ s b=0)(hb:hF_ i b):aK_ (ck_ s (dQ_ s.nodes b (bA_ b)).1) i:=by
 have h1:=yY_ hc;have h2:=HP_ h1 (by have:=h.cfg.ln;omega);have h3:=(Bw_ h2).1;have h4:=h.tree.ins h2;have h5:=h1.lim;have h6:=h.cfg.ln;rw[h3]at h4 ⊢;refine⟨h.cfg,h4,rL_ h.jf,h.ll,by show (s.nodes++[_]).length≤13;simp;omega,fun n hn=>?_,h.oo,h.uo,h.aa,h.av,h.tt,h.tb,h.qq,h.uj,h.uf,h.nw,h.ii⟩;rcases List.mem_append.1 hn with hn|hn
 ·exact h.un n hn
 ·rw[List.mem_singleton]at hn;rw[hn];exact hb
theorem aK_.ins{s:ah_}{i:Nat}(h:aK_ s i){b:Blk}(hc:bC_ s b=0)(hb:hF_ i b):aK_ (gq_ s b) i:=by
 have h1:=(h.insN hc hb).upd hb.just hb.fin;unfold gq_;split
 ·exact h1.upd hb.j hb.f
 ·exact h1
theorem Le_(l:List Blk)(i:Nat):∀b∈takeO l i,b∈l:=fun b hb=>by
 unfold takeO at hb;rcases List.mem_append.1 hb with hb|hb
 ·exact List.mem_of_mem_take hb
 ·exact List.mem_of_mem_drop hb
theorem NU_(l:List Blk)(i:Nat):(takeO l i).length≤l.length:=by
 unfold takeO;rw[List.length_append,List.length_take,List.length_drop];omega
theorem aK_.takeO{s:ah_}{i:Nat}(h:aK_ s i)(k:Nat):aK_ (Go.FH.withO s (takeO s.orph k)) i:=h.withO (Nat.le_trans (NU_ _ _) h.oo) fun b hb=>h.uo b (Le_ _ _ b hb)
theorem aK_.waitR{p:ah_×List Rt}{i:Nat}(h:aK_ p.1 i)(h0:0≤by_ p.1):aK_ (waitR p).1 i:=by
 have h1:=no_ p.1;have h2:=h.takeO (by_ p.1).toNat
 unfold Go.Proofs.YtkgimpdgncakjaaGreat.waitR;split
 ·rename_i hc;exact h2.ins hc (h.uo _ (bH_ _ (by omega)))
 ·exact h2
theorem aK_.waitG{i:Nat}:∀ (f:Nat) {p:ah_×List Rt},aK_ p.1 i→aK_ (waitG f p).1 i
 |0,_,h=>h
 | f + 1, p, h => by
   unfold Go.Proofs.YtkgimpdgncakjaaGreat.waitG;split
   ·exact h
   ·exact aK_.waitG f (h.waitR (by omega))
theorem Lw_(p:ah_×List Rt):(waitR p).2.length≤p.2.length+1:=by
 unfold waitR;split<;>simp
theorem Aq_:∀ (f:Nat) (p:ah_×List Rt),(waitG f p).2.length≤p.2.length+f
 |0,p=>Nat.le_refl _
 | f + 1, p => by
   unfold waitG;split
   ·omega
   ·have h1:=Aq_ f (waitR p);have h2:=Lw_ p;omega
theorem RI_{i:Nat}{b:Blk}(h:hF_ i b):hF_ i (noT b):=⟨h.slot,h.just,h.fin,h.j,h.f,h.rt⟩
theorem aK_.blockI{s:ah_}{i:Nat}(h:aK_ s i){b:Blk}(hc:bC_ s b=0)(hb:hF_ i b):aK_ (blockI s b) i:=by
 unfold Go.Proofs.YtkgimpdgncakjaaGreat.blockI;split
 ·exact(h.ins hc hb).withB _
 ·exact h.ins hc hb
theorem aK_.block{s:ah_}{i:Nat}(h:aK_ s i){b:Blk}(hb:hF_ i b)(h2:(co_ s b).2.2=0):aK_ (co_ s b).1 i∧(co_ s b).2.1.length≤5:=by
 unfold co_ at *;split at h2
 ·rename_i h3
  rw[if_pos h3];split at h2
  ·simp at h2
  ·rename_i h4;rw[if_neg h4];have:=h.cfg.lo;refine⟨h.withO (by simp;omega) (fun x hx=>?_),by simp⟩;rw[List.mem_append,List.mem_singleton]at hx;rcases hx with hx|rfl
   ·exact h.uo x hx
   ·exact RI_ hb
 ·rename_i h3
  rw[if_neg h3];split at h2
  ·rename_i h4;exact absurd h2 h4
  ·rename_i h4;rw[if_neg h4];have h5:=h.blockI (by simpa using h4) hb;have h6:=h5.oo;refine⟨aK_.waitG _ h5,?_⟩;have:=Aq_ ((Go.Proofs.YtkgimpdgncakjaaGreat.blockI s b).orph.length+1) (Go.Proofs.YtkgimpdgncakjaaGreat.blockI s b,[b.root]);dsimp only at this ⊢;simp at this;omega
theorem aK_.att{s:ah_}{i:Nat}(h:aK_ s i){a:aD_}(ha:a.vals.length≤10)(h2:(kH_ s a).2=0):aK_ (kH_ s a).1 i:=by
 unfold kH_ at *;split at h2
 ·rename_i h3;exact absurd h2 h3
 ·rename_i h3
  rw[if_neg h3];split at h2
  ·rename_i h4;rw[if_pos h4];exact h.castIn a
  ·rename_i h4
   rw[if_neg h4];split at h2
   ·simp at h2
   ·rename_i h5;rw[if_neg h5];have:=h.cfg.la;refine h.withE (by simp;omega) (fun x hx=>?_);rw[List.mem_append,List.mem_singleton]at hx;rcases hx with hx|rfl
    ·exact h.av x hx
    ·exact ha
theorem aK_.slash{s:ah_}{i:Nat}(h:aK_ s i){x:dl_}(hx:x.fst.vals.length≤10)(hi:i<30)(h2:(eI_ s x).2=0):aK_ (eI_ s x).1 (i+1):=by
 unfold eI_ at *;split at h2
 ·rename_i h3;exact absurd h2 h3
 ·rename_i h3
  rw[if_neg h3];split at h2
  ·simp at h2
  ·rename_i h4;rw[if_neg h4];have h5:=qr_ x.fst.vals x.snd.vals x.fst.vals.length;have h6:=BF_ s.eqv (fp_ x.fst.vals x.snd.vals x.fst.vals.length) (fp_ x.fst.vals x.snd.vals x.fst.vals.length).length;have h7:=h.qq;exact⟨h.cfg,h.tree,h.jf,h.ll,h.nn,fun x hx=>(h.un x hx).up (Nat.le_succ i),h.oo,fun x hx=>(h.uo x hx).up (Nat.le_succ i),h.aa,h.av,h.tt,h.tb,by show (tz_ s.eqv _).length≤_;unfold tz_;omega,h.uj,h.uf,h.nw.up (Nat.le_succ i),by omega⟩
theorem ui_(l:List au_)(t:au_):(iy_ l t).length=l.length+1:=by
 unfold iy_;simp only[List.length_append,List.length_take,List.length_drop,List.length_cons,List.length_nil];omega
theorem pf_(l:List au_)(t:au_):∀x∈iy_ l t,x∈l∨x=t:=fun x hx=>by
 unfold iy_ at hx;simp only[List.mem_append,List.mem_singleton]at hx;rcases hx with (hx|hx)|hx
 ·exact .inl (List.mem_of_mem_take hx)
 ·exact .inr hx
 ·exact .inl (List.mem_of_mem_drop hx)
theorem aK_.reg{s:ah_}{i:Nat}(h:aK_ s i){t:au_}(h2:(ne_ s t).2=0):aK_ (ne_ s t).1 i:=by
 unfold ne_ at *;split at h2
 ·rename_i h3;exact absurd h2 h3
 ·rename_i h3
  rw[if_neg h3];split at h2
  ·simp at h2
  ·rename_i h4
   rw[if_neg h4];split at h2
   ·rename_i h5;exact absurd h2 h5
   ·rename_i h5
    rw[if_neg h5];have hv:dJ_ t s.cfg.bals.length=0:=by simpa using h3
    have hb:t.bals.length≤6:=by
     have:=h.cfg.b1;unfold dJ_ at hv;split at hv
     ·simp at hv
     ·omega
    have hr:(ep_ s.tabs t s.cfg.bals.length s.cfg.lim.table).1.length≤4∧∀x∈(ep_ s.tabs t s.cfg.bals.length s.cfg.lim.table).1,x∈s.tabs∨x=t:=by
     have:=h.cfg.lt;unfold ep_;rw[if_neg (by simpa using hv)];split
     ·exact⟨h.tt,fun x hx=>.inl hx⟩
     ·split
      ·exact⟨h.tt,fun x hx=>.inl hx⟩
      ·exact⟨by rw[ui_];omega,pf_ _ _⟩
    refine h.withT hr.1 fun x hx=>?_
    rcases hr.2 x hx with hx|rfl
    ·exact h.tb x hx
    ·exact hb
theorem qV_{t:List Nod}{i:Int}(h:(cp_ t i).2=0):(cp_ t i).1.length=t.length∧∀k,(nod (cp_ t i).1 k).up=(nod t k).up∧(nod (cp_ t i).1 k).blk=(nod t k).blk:=by
 unfold cp_ at *;split at h
 ·rename_i h1;rw[if_pos h1];cases h2:rb_ t (bc_ t i) 1 2 with
  |none=>rw[h2]at h;simp at h
  |some u=>exact⟨hy_ h2,fun k=>ra_ h2 k⟩
 ·simp at h
theorem AW_{t:List Nod}{i:Int}(h:(gj_ t i).2=0):(gj_ t i).1.length=t.length∧∀k,(nod (gj_ t i).1 k).up=(nod t k).up∧(nod (gj_ t i).1 k).blk=(nod t k).blk:=by
 unfold gj_ at *;split at h
 ·rename_i h1;rw[if_pos h1];cases h2:rb_ t (eB_ t i) 2 1 with
  |none=>rw[h2]at h;simp at h
  |some u=>exact⟨hy_ h2,fun k=>ra_ h2 k⟩
 ·simp at h
theorem vy_{t:List Nod}{i:Int}{v:Vdt}{keep:List Int}(h:(fd_ t i v keep).2=0):(fd_ t i v keep).1.length=t.length∧∀k,(nod (fd_ t i v keep).1 k).up=(nod t k).up∧(nod (fd_ t i v keep).1 k).blk=(nod t k).blk:=by
 unfold fd_ at *;split at h
 ·simp at h
 rename_i h1;rw[if_neg h1];split at h
 ·rename_i h2;rw[if_pos h2];exact qV_ h
 rename_i h2;rw[if_neg h2];split at h
 ·rename_i h3;rw[if_pos h3];exact⟨rfl,fun k=>⟨rfl,rfl⟩⟩
 rename_i h3;rw[if_neg h3];split at h
 ·simp at h
 rename_i h4;rw[if_neg h4];split at h
 ·simp at h
 rename_i h5;rw[if_neg h5];split at h
 ·rename_i h6
  rw[if_pos h6];split at h
  ·rename_i h7;exact absurd h h7
  ·rename_i h7;rw[if_neg h7];have a:=qV_ (show (cp_ t (eo_ t i v.latest).1).2=0 by simpa using h7);have b:=AW_ h;exact⟨b.1.trans a.1,fun k=>⟨(b.2 k).1.trans (a.2 k).1,(b.2 k).2.trans (a.2 k).2⟩⟩
 ·rename_i h6;rw[if_neg h6];exact AW_ h
theorem zj_{t u:List Nod}(hl:u.length=t.length)(hb:∀k,(nod u k).blk=(nod t k).blk)(r:Rt):af_ u r=af_ t r:=by
 unfold af_;rw[hl];congr 2;funext k
 rw[hb k]
theorem aK_.judge{s:ah_}{i:Nat}(h:aK_ s i){t:List Nod}(hl:t.length=s.nodes.length)(hu:∀k,(nod t k).up=(nod s.nodes k).up∧(nod t k).blk=(nod s.nodes k).blk):aK_ (ck_ s t) i:=by
 refine⟨h.cfg,⟨h.tree.ok.of_up hl fun k=>(hu k).1,by have:=h.tree.pos;show 0<t.length;omega,by show (nod t 0).up<0;rw[(hu 0).1];exact h.tree.root⟩,?_,h.ll,by have:=h.nn;show t.length≤13;omega,fun n hn=>?_,h.oo,h.uo,h.aa,h.av,h.tt,h.tb,h.qq,h.uj,h.uf,h.nw,h.ii⟩
 ·show 0≤af_ t s.j.rt
  rw[zj_ hl fun k=>(hu k).2];exact h.jf
 ·obtain⟨k,hk,he⟩:=qP_ hn;rw[←he];show hF_ i (nod t k).blk;rw[(hu k).2]
  exact h.blk (show k<s.nodes.length by have:k<t.length:=hk;omega)
theorem Cz_(l:List Int)(n:Int):cd_ l n≠21:=by
 unfold cd_;split
 ·decide
 ·generalize (0:Nat)=i
  have key:∀k i,l.length-i=k→jF_ l n i≠21:=by
   intro k;induction k with
   |zero=>intro i hi;rw[nH_ (by omega)];decide
   | succ k ih =>
     intro i hi;rw[jf_ (by omega)];split
     ·decide
     ·split
      ·decide
      ·exact ih (i+1) (by omega)
  exact key _ i rfl
theorem IC_(t:au_)(n:Int):dJ_ t n≠21:=by unfold dJ_;(repeat' split)<;>decide
theorem Cx_(s:ah_):(dF_ s).2≠21:=by unfold dF_;split<;>simp
theorem Jk_(s:ah_)(b:Blk):bC_ s b≠21:=by
 unfold bC_;repeat'(split;· decide)
 decide
theorem ur_(s:ah_)(b:Blk):(co_ s b).2.2≠21:=by
 unfold co_;split
 ·split<;>simp
 ·split
  ·exact Jk_ s b
  ·simp
theorem Jh_(s:ah_)(a:aD_):(cm_ s a).2≠21:=by
 unfold cm_;split
 ·exact Cz_ _ _
 ·split
  ·simp
  ·split
   ·simp
   ·split
    ·simp
    ·split<;>simp
theorem Fu_(s:ah_)(a:aD_):(kH_ s a).2≠21:=by
 unfold kH_;split
 ·exact Jh_ s a
 ·split
  ·simp
  ·split<;>simp
theorem wr_(s:ah_)(x:dl_):(eI_ s x).2≠21:=by
 unfold eI_;split
 ·unfold evE
  dsimp only;split
  ·exact Cz_ _ _
  ·split
   ·exact Cz_ _ _
   ·split
    ·decide
    ·split<;>decide
 ·split<;>simp
theorem GZ_(s:ah_)(t:au_):(ne_ s t).2≠21:=by
 unfold ne_;split
 ·exact IC_ _ _
 ·split
  ·simp
  ·split
   ·unfold ep_
    dsimp only;split
    ·exact IC_ _ _
    ·split
     ·simp
     ·split<;>simp
   ·simp
structure dT_(s:aG_)(i:Nat):Prop where
 sto:aK_ s.sto i
 rq:s.reqs.length≤10*i
 ut:∀r∈s.reqs,U64 r.tag
 yl:s.rets.length≤3
 tg:U64 s.tag
theorem dT_.up{s:aG_}{i k:Nat}(h:dT_ s i)(h1:i≤k)(h2:k≤30):dT_ s k:=⟨h.sto.up h1 h2,by have:=h.rq;omega,h.ut,h.yl,h.tg⟩
theorem Ew_{l:List Req}{k:Nat}(h:k<l.length):dx_ l k∈l:=bH_ _ h
theorem mR_(t:List Nod)(l:List Req):(iS_ t l).length≤l.length∧∀r∈iS_ t l,r∈l:=by
 refine⟨by have:=hC_ (f:=fe_ t l) (a:=[]) (fun i o=>by unfold fe_;split<;>simp) l.length;unfold iS_;simpa using this,?_⟩;refine dG_ (f:=fe_ t l) (a:=[]) (fun _ o=>∀r∈o,r∈l) (by simp) l.length (fun i o hi ho=>?_) _ (Nat.le_refl _);unfold fe_;split
 ·intro r hr;rw[List.mem_append,List.mem_singleton]at hr;rcases hr with hr|rfl
  ·exact ho r hr
  ·exact Ew_ hi
 ·exact ho
structure hG_(s:aG_)(i n:Nat):Prop where
 sto:aK_ s.sto i
 rq:s.reqs.length≤n
 ut:∀r∈s.reqs,U64 r.tag
 yl:s.rets.length≤3
 tg:U64 s.tag
theorem hG_.a{s:aG_}{i n:Nat}(h:hG_ s i n)(hn:n≤10*i):dT_ s i:=⟨h.sto,Nat.le_trans h.rq hn,h.ut,h.yl,h.tg⟩
theorem dT_.q{s:aG_}{i:Nat}(h:dT_ s i):hG_ s i (10*i):=⟨h.sto,h.rq,h.ut,h.yl,h.tg⟩
theorem hG_.drop{s:aG_}{i n:Nat}(h:hG_ s i n):hG_ (mz_ s) i n:=by
 have h1:=mR_ s.sto.nodes s.reqs;have h2:=mR_ s.sto.nodes s.rets;exact⟨h.sto,Nat.le_trans h1.1 h.rq,fun r hr=>h.ut r (h1.2 r hr),Nat.le_trans h2.1 h.yl,h.tg⟩
theorem hG_.open1{s:aG_}{i n:Nat}(h:hG_ s i n)(r:Rt)(k:Int):hG_ (oT_ s r k) i (n+1):=by
 refine⟨h.sto,by show (s.reqs++[_]).length≤_;have:=h.rq;simp;omega,fun x hx=>?_,h.yl,be_ _⟩;rcases List.mem_append.1 hx with hx|hx
 ·exact h.ut x hx
 ·rw[List.mem_singleton]at hx;rw[hx];exact h.tg
theorem hG_.le{s:aG_}{i n m:Nat}(h:hG_ s i n)(hn:n≤m):hG_ s i m:=⟨h.sto,Nat.le_trans h.rq hn,h.ut,h.yl,h.tg⟩
theorem hG_.opens{s:aG_}{i n:Nat}(h:hG_ s i n)(l:List Rt):hG_ (rU_ s l) i (n+l.length):=by
 refine dG_ (f:=fs_ l) (a:=s) (fun k t=>hG_ t i (n+k)) h l.length (fun k t hk ht=>?_) _ (Nat.le_refl _);unfold fs_;split
 ·exact ht.open1 _ _
 ·exact ht.le (by omega)
theorem hG_.rets{s:aG_}{i n:Nat}(h:hG_ s i n){l:List Req}(hl:l.length≤3):hG_ (et_ s l) i n:=⟨h.sto,h.rq,h.ut,hl,h.tg⟩
theorem hG_.due{s:aG_}{i n:Nat}(h:hG_ s i n):hG_ (Jz_ s) i (n+3):=by
 have key:=dG_ (f:=kM_ s.rets) (a:=et_ s []) (fun k t=>hG_ t i (n+k)∧t.rets.length≤k) ⟨h.rets (by simp),Nat.le_refl _⟩ s.rets.length (fun k t hk ht=>by
  have:=h.yl;unfold kM_;split
  ·exact⟨(ht.1.rets (by have:=ht.2;simp;omega)).le (by omega),by show (t.rets++[_]).length≤k+1;have:=ht.2;simp;omega⟩
  ·split
   ·exact⟨ht.1.open1 _ _,Nat.le_succ_of_le ht.2⟩
   ·exact⟨ht.1.le (by omega),Nat.le_succ_of_le ht.2⟩) _ (Nat.le_refl _)
 exact key.1.le (by have:=h.yl;omega)
theorem Ac_:∀ (k:Nat) (l:List Req),(oY_ l k).length=l.length
 |0,l=>rfl
 | k + 1, l => by
   unfold oY_;split
   ·rw[Ac_ k];simp
   ·rfl
theorem dT_.later{s:aG_}{i:Nat}(h:dT_ s i)(r:Req):dT_ (kT_ s r) i:=by
 unfold kT_;split
 ·exact h
 ·split
  ·exact⟨h.sto,h.rq,h.ut,h.yl,h.tg⟩
  ·rename_i h2;have:=h.sto.cfg.lr;exact⟨h.sto,h.rq,h.ut,by show (oY_ _ _).length≤3;rw[Ac_];simp;omega,h.tg⟩
theorem Iy_(l:List Req)(i:Nat):(rh_ l i).length≤l.length∧∀r∈rh_ l i,r∈l:=by
 unfold rh_;refine⟨by rw[List.length_append,List.length_take,List.length_drop];omega,fun r hr=>?_⟩;rcases List.mem_append.1 hr with hr|hr
 ·exact List.mem_of_mem_take hr
 ·exact List.mem_of_mem_drop hr
theorem dT_.mat{s:aG_}{i:Nat}(h:dT_ s i){v:Vdt}(h2:(bX_ s v).2.2=0):dT_ (bX_ s v).2.1 i:=by
 unfold bX_ at *;split at h2
 ·rename_i k hk;have h1:=Iy_ s.reqs k;exact⟨h.sto,Nat.le_trans h1.1 h.rq,fun r hr=>h.ut r (h1.2 r hr),h.yl,h.tg⟩
 ·simp at h2
theorem aK_.boostV{s:ah_}{i:Nat}(h:aK_ s i):aK_ (boostV s) i:=by
 unfold Go.Proofs.YtkgimpdgncakjaaGreat.boostV;split
 ·exact h.withB _
 ·exact h
theorem dT_.verd{s:aG_}{i:Nat}(h:dT_ s i){v:Vdt}(h2:(jG_ s v).2=0∨(jG_ s v).2=21):dT_ (jG_ s v).1 i:=by
 unfold jG_ at *;split at h2
 ·rename_i h3;rw[if_pos h3];exact h
 ·rename_i h3
  rw[if_neg h3];have hm:=h.mat (v:=v) (by simpa using h3);split at h2
  ·rename_i h4;rw[if_pos h4];exact hm.later _
  ·rename_i h4
   rw[if_neg h4];split at h2
   ·rename_i h5;rw[if_pos h5];exact⟨h.sto,h.rq,h.ut,h.yl,h.tg⟩
   ·rename_i h5;rw[if_neg h5];unfold judgeV at *;have h6:=vy_ (show (fd_ (bX_ s v).2.1.sto.nodes _ v _).2=0 by simpa using h5);exact⟨(hm.sto.judge h6.1 h6.2).boostV,hm.rq,hm.ut,hm.yl,hm.tg⟩
structure OpR(x:VOp):Prop where
 blk:hF_ 0 x.blk
 att:x.att.vals.length≤10
 fst:x.slg.fst.vals.length≤10
 snd:x.slg.snd.vals.length≤10
 tab:x.tab.bals.length≤10
theorem dT_.perf{s:aG_}{i:Nat}(h:dT_ s i)(hi:i<30){x:VOp}(hx:OpR x)(h2:(es_ s x).2=0∨(es_ s x).2=21):dT_ (es_ s x).1 (i+1):=by
 have hu:=h.up (Nat.le_succ i) (by omega);unfold es_ at *;split at h2
 ·rename_i h3
  rw[if_pos h3];split at h2
  ·rename_i h4;rw[if_pos h4];have ht:=h.sto.tick h4;have hq:hG_ (dS_ s (dF_ s.sto).1) i (10*i):=⟨ht,h.rq,h.ut,h.yl,h.tg⟩;have hd:=hq.drop.due;exact⟨hd.sto.up (Nat.le_succ i) (by omega),by have:=hd.rq;dsimp only;omega,hd.ut,hd.yl,hd.tg⟩
  ·rename_i h4;exact absurd h2 (by intro h5;rcases h5 with h5|h5;exact h4 h5;exact Cx_ _ h5)
 rename_i h3;rw[if_neg h3];clear h3;split at h2
 ·rename_i h3
  rw[if_pos h3];split at h2
  ·rename_i h4;rw[if_pos h4];have ht:=h.sto.block (hx.blk.up (Nat.zero_le i)) h4;have hq:hG_ (dS_ s (co_ s.sto x.blk).1) i (10*i):=⟨ht.1,h.rq,h.ut,h.yl,h.tg⟩;have hd:=hq.drop.opens (co_ s.sto x.blk).2.1;have:=ht.2;exact⟨hd.sto.up (Nat.le_succ i) (by omega),by have:=hd.rq;dsimp only;omega,hd.ut,hd.yl,hd.tg⟩
  ·rename_i h4;exact absurd h2 (by intro h5;rcases h5 with h5|h5;exact h4 h5;exact ur_ _ _ h5)
 rename_i h3;rw[if_neg h3];clear h3;split at h2
 ·rename_i h3;rw[if_pos h3];exact⟨(h.sto.att hx.att (h2.resolve_right (Fu_ _ _))).up (Nat.le_succ i) (by omega),hu.rq,hu.ut,hu.yl,hu.tg⟩
 rename_i h3;rw[if_neg h3];clear h3;split at h2
 ·rename_i h3;rw[if_pos h3];exact⟨h.sto.slash hx.fst hi (h2.resolve_right (wr_ _ _)),hu.rq,hu.ut,hu.yl,hu.tg⟩
 rename_i h3;rw[if_neg h3];clear h3;split at h2
 ·rename_i h3;rw[if_pos h3];exact⟨(h.sto.reg (h2.resolve_right (GZ_ _ _))).up (Nat.le_succ i) (by omega),hu.rq,hu.ut,hu.yl,hu.tg⟩
 rename_i h3;rw[if_neg h3];clear h3;split at h2
 ·rename_i h3;rw[if_pos h3];exact(h.verd h2).up (Nat.le_succ i) (by omega)
 rename_i h3;rw[if_neg h3];exact hu
theorem dT_.emit{s:aG_}{i:Nat}(h:dT_ s i):dT_ (hq_ s).1 i:=by
 unfold hq_;split
 ·exact h
 ·exact⟨h.sto,h.rq,h.ut,h.yl,h.tg⟩
theorem dT_.step{s:aG_}{i:Nat}(h:dT_ s i)(hi:i<30){x:VOp}(hx:OpR x):dT_ (jb_ s x).1 (i+1):=by
 have hu:=h.up (Nat.le_succ i) (by omega);unfold jb_;split
 ·exact hu
 ·split
  ·exact hu
  ·split
   ·rename_i h3;exact h.perf hi hx (.inr h3)
   ·split
    ·exact hu
    ·rename_i h3 h4;exact(h.perf hi hx (.inl (by simpa using h4))).emit
end Go.Proofs.YtkgimpdgncakjaaGreat
namespace Go.Proofs.YtkgimpdgncakjaaGreat
open Go Go.FH Go.RowKit
set_option linter.unusedVariables false
set_option linter.unusedSimpArgs false
set_option maxRecDepth 8000
set_option maxHeartbeats 4000000
theorem Sm.val{α:Type}{v:α}{F:α→Prop}(h:Sm (fun r=>r=v) F):F v:=by
 obtain⟨r,rfl,h⟩:=h;exact h
theorem Ap_(n:Nat):List.replicate n (aV_ do_)=rows aV_ (List.replicate n do_):=No_ aV_ n do_
theorem NF_{fr:Fr}{σ:St}{rs:List eu_}{l:List AV}{n:Int}{S:ah_×Int}(hl:cq_ fr σ rs=some l)(hv:fz σ (List.range σ.length) (eH_ l)=.tup [.agg (ak_ eW_),.int .i64 n])(hs:(fV_,n)=S):
 Sm (fun r:ah_×Int=>r=S) fun r=>PQ rs (.tup [.agg (ak_ r.1.a),.int .i64 r.2]) .ret fr σ:=
 ⟨(fV_,n),hs,l,hl,.inr ⟨_,hv,(by simp[PuL,Pu,dH_,eW_,ak_,cR_,gZ_,cw_,gT_,dK_,nK_,bn_,cp0]),Wk.tup ⟨CH_,Wk.refl _,trivial⟩⟩⟩
theorem Cd_(x:Sto)(p:Pul):spl (ak_ x) 47 (dh_ p)=ak_ { x with j:=p.j,f:=p.f }:=rf_ x p.j p.f
theorem Oe_(x:Sto)(l:List (List AV)):Wk (.agg (ak_ { x with eqv:=.sl 0 true [],early:=.sl 0 true [],orph:=.sl 0 true [],tabs:=.sl 34 true l })) (.agg (ak_ { x with eqv:=.sl 1 false [],early:=.sl 67 false [],orph:=.sl 238 false [],tabs:=.sl 34 false l })):=by
 refine Wk.agg ?_;unfold ak_;dsimp only;exact(WkC.refl _).app (.same _ (.cons (Wk.empty _ _ _) (fun h=>h) ((WkC.refl _).app ((WkC.refl _).app (.cons (Wk.empty _ _ _) (fun h=>h) (.cons (Wk.empty _ _ _) (fun h=>h) (.same _ (.same _ ((WkC.refl _).app (.one (Wk.open_ _ _ _) fun h=>h))))))))))
theorem If_(s:ah_):PuL (ak_ { s.a with eqv:=.sl 0 true [],early:=.sl 0 true [],orph:=.sl 0 true [],tabs:=.sl 34 true (rows au_.c s.tabs) }):=by
 have h:=(ha_ _).1 s.pul;refine(ha_ _).2 ?_;simp only[Sto.Pure,Pu,dH_,and_true,true_and]at *;simp[h,fZ_]
theorem Ee_(c:bu_)(hb:c.bals.length≤1000000):PC Tryz.prog 66 [.agg (bn_ c.a)] (.tup [.agg (ak_ (qQ_ c).1.a),.int .i64 (qQ_ c).2]):=by
 refine Sm.val (F:=fun r:ah_×Int=>PC Tryz.prog 66 [.agg (bn_ c.a)] (.tup [.agg (ak_ r.1.a),.int .i64 r.2])) ?_;refine gX_ 9 Du_ (by simp) puA (fun r _=>puA) ?_;unfold so_;refine bd ?_;have c1:=nI_ ⟨⟨0,c.gen⟩,c.bals⟩ c.bals.length hb;have c2:=Kd_ (xT_ c.gen) 1;have c3:=uG_ ⟨⟨0,c.gen⟩,c.bals⟩ hb;generalize hV:dJ_ ⟨⟨0,c.gen⟩,c.bals⟩ c.bals.length=V at *;have lt:∀ (a b:Int),decide (a > b)=decide (b<a):=fun _ _=>rfl
 iterate 5 (repeat'(first|refine bq_ ?_|(refine aQ_ (fun h=>?_) (fun h=>?_)<;>try(exact absurd h (by decide)))|refine cK_ (fun h=>?_) (fun h=>?_));all_goals try refine bz_ (Fn_ _ _ _) ?_)
 repeat'(first|refine bq_ ?_|(refine aQ_ (fun h=>?_) (fun h=>?_)<;>try(exact absurd h (by decide)))|refine cK_ (fun h=>?_) (fun h=>?_))
 all_goals try(refine NF_ (by first|rfl|exact evd) (by first|rfl|exact evd) ?_)
 rotate_left 2
 ·refine bz_ c1 ?_
  repeat'(first|refine bq_ ?_|(refine aQ_ (fun h=>?_) (fun h=>?_)<;>try(exact absurd h (by decide)))|refine cK_ (fun h=>?_) (fun h=>?_))
  ·refine NF_ (by first|rfl|exact evd) (by first|rfl|exact evd) ?_;(try simp only[Bool.not_false,Bool.not_true,decide_eq_true_eq,decide_eq_false_iff_not,Bool.not_eq_true',Bool.not_eq_false',beq_iff_eq,bne_iff_ne,beq_eq_false_iff_ne,bne_eq_false_iff_eq,ne_eq,Bool.not_eq_true,Bool.not_eq_false,Bool.or_eq_true,Bool.and_eq_true,Bool.or_eq_false_iff]at *)
   (simp only[qQ_,eR_, *,reduceIte,Bool.true_eq_false,Bool.false_eq_true,not_true_eq_false,not_false_eq_true,ne_eq,true_and,and_true,false_and,and_false,true_or,or_true,false_or,or_false,Int.reduceEq,if_false,if_true,eq_self,reduceCtorEq,decide_true,decide_false,Bool.and_true,Bool.true_and,Bool.and_false,Bool.false_and,Bool.or_true,Bool.true_or,Bool.or_false,Bool.false_or,Bool.not_true,Bool.not_false])
  ·refine cu_ c2 ?_
   refine bq_ ?_;refine cu_ c3 ?_;have hrep:List.replicate c.bals.length (aV_ ⟨false,0,rt0⟩)=rows aV_ (List.replicate c.bals.length do_):=Ap_ _;have ht:List.take c.bals.length (rows aV_ (List.replicate c.bals.length ⟨false,0,rt0⟩))=rows aV_ (List.replicate c.bals.length ⟨false,0,rt0⟩):=List.take_of_length_le (by simp);repeat(first|refine bq_ ?_|simp only[go_sem,hrep,Cd_])
   refine Ip_ (dn_ c,0) ?_ ⟨_,(by first|rfl|exact evd),.inr ⟨.tup [.agg (ak_ { (dn_ c).a with eqv:=.sl 0 true [],early:=.sl 0 true [],orph:=.sl 0 true [],tabs:=.sl 34 true (rows au_.c (dn_ c).tabs) }),.int .i64 0],?_,⟨If_ _,trivial,trivial⟩,Wk.tup ⟨Oe_ _ _,Wk.refl _,trivial⟩⟩⟩
   ·(try simp only[Bool.not_false,Bool.not_true,decide_eq_true_eq,decide_eq_false_iff_not,Bool.not_eq_true',Bool.not_eq_false',beq_iff_eq,bne_iff_ne,beq_eq_false_iff_ne,bne_eq_false_iff_eq,ne_eq,Bool.not_eq_true,Bool.not_eq_false,Bool.or_eq_true,Bool.and_eq_true,Bool.or_eq_false_iff]at *)
    (simp only[qQ_,eR_, *,reduceIte,Bool.true_eq_false,Bool.false_eq_true,not_true_eq_false,not_false_eq_true,ne_eq,true_and,and_true,false_and,and_false,true_or,or_true,false_or,or_false,Int.reduceEq,if_false,if_true,eq_self,reduceCtorEq,decide_true,decide_false,Bool.and_true,Bool.true_and,Bool.and_false,Bool.false_and,Bool.or_true,Bool.true_or,Bool.or_false,Bool.false_or,Bool.not_true,Bool.not_false])
   ·(try simp only[go_sem,Nat.reduceAdd,Nat.reduceSub,Nat.reduceMul,Nat.reduceLT,Nat.reduceLeDiff,Nat.reduceEqDiff,reduceIte,Int.reduceToNat,Int.reduceLT,Int.reduceLE,Int.reduceEq,Int.reduceNeg,reduceCtorEq,Int.reduceBEq,Int.reduceBNe,List.length_replicate,ht])
    rfl
 all_goals(try simp only[Bool.not_false,Bool.not_true,decide_eq_true_eq,decide_eq_false_iff_not,Bool.not_eq_true',Bool.not_eq_false',beq_iff_eq,bne_iff_ne,beq_eq_false_iff_ne,bne_eq_false_iff_eq,ne_eq,Bool.not_eq_true,Bool.not_eq_false,Bool.or_eq_true,Bool.and_eq_true,Bool.or_eq_false_iff]at *)
 all_goals(simp only[qQ_,eR_, *,reduceIte,Bool.true_eq_false,Bool.false_eq_true,not_true_eq_false,not_false_eq_true,ne_eq,true_and,and_true,false_and,and_false,true_or,or_true,false_or,or_false,Int.reduceEq,if_false,if_true,eq_self,reduceCtorEq,decide_true,decide_false,Bool.and_true,Bool.true_and,Bool.and_false,Bool.false_and,Bool.or_true,Bool.true_or,Bool.or_false,Bool.false_or,Bool.not_true,Bool.not_false])
theorem pb_(x:Sto)(v:AV):(ak_ x).set 113 v=ak_ { x with early:=v }:=by
 simp only[ak_,List.set_append,aF_,am_,List.length_cons,Nat.reduceSub,Nat.reduceLT,if_false,List.set_cons_succ,List.set_cons_zero]
theorem pa_(x:Sto):(ak_ x).getD 113 .dead=x.early:=by
 simp only[ak_,List.getD_eq_getElem?_getD,List.getElem?_append,aF_,am_,List.length_cons,Nat.reduceSub,Nat.reduceLT,if_false,List.getElem?_cons_succ,List.getElem?_cons_zero,Option.getD_some]
theorem FB_(s:ah_)(a:aD_)(h:StR s)(ha:a.vals.length≤1000000)(hj:∀j∈a.vals,0≤j∧j<s.latest.length)(l:List aD_)(n:Nat):
 ar_ Tryz.prog 47 [.agg (ak_ { s.a with early:=.hs 67 0 0 n }),.agg (bl_ a.a)] [.vec 67 (rows aD_.c l)] (.agg (ak_ { (castIn s a).a with early:=.hs 67 0 0 n })) [.vec 67 (rows aD_.c l)]:=by
 refine ar_.fact 6 mG_ (by simp) ?_ (by simp);unfold iE_;refine bd ?_;have c1:=yX_ s.latest a.target.ep a.root a.vals h.bl ha hj;unfold castIn;generalize su_ s.latest a.target.ep a.root a.vals=C at *;obtain⟨C1,C2⟩:=C;dsimp only at c1 ⊢;try refine aa_ ?_
 refine So_ c1 ?_
 exact SG_ [] [0]
theorem Db_(s:ah_)(a:aD_)(h:StR s)(ha:a.vals.length≤1000000):
 ar_ Tryz.prog 46 [.agg (ak_ { s.a with early:=.hs 67 0 0 s.early.length }),.agg (bl_ a.a)] [.vec 67 (rows aD_.c s.early)] (.tup [.bool (cm_ s a).1,.int .i64 (cm_ s a).2]) [.vec 67 (rows aD_.c s.early)]:=by
 refine ar_.lend rfl ?_;have ht:List.take s.early.length (rows aD_.c s.early)=rows aD_.c s.early:=List.take_of_length_le (by simp);(try simp only[go_sem,ht,List.length_cons,List.length_nil,List.range_succ,List.range_zero])
 exact sv_ s a h ha
theorem jR_{fr:Fr}{σ:St}{rs:List eu_}{l:List AV}{n:Int}(hl:cq_ fr σ rs=some l)(hv:fz σ (List.range σ.length) (eH_ l)=.tup [.agg (ak_ eW_),.int .i64 n]):PQ rs (.tup [.agg (ak_ fV_.a),.int .i64 n]) .ret fr σ:=
 ⟨l,hl,.inr ⟨_,hv,(by simp[PuL,Pu,dH_,eW_,ak_,cR_,gZ_,cw_,gT_,dK_,nK_,bn_,cp0]),Wk.tup ⟨CH_,Wk.refl _,trivial⟩⟩⟩
def bK_(s:ah_)(k:Nat):ah_:=av_ (tickR s.early) (withE s []) k
theorem Iz_(s:ah_)(k:Nat):bK_ s (k+1)=tickR s.early k (bK_ s k):=rfl
theorem Lj_(s:ah_)(m:Nat)(h:aK_ s m):PC Tryz.prog 12 [.agg (ak_ s.a)] (.tup [.agg (ak_ (dF_ s).1.a),.int .i64 (dF_ s).2]):=by
 refine PC.fact 9 Bj_ (by simp) puA puA ?_;unfold qf_;refine bd ?_;unfold dF_;have hsp:=h.cfg.s1;have hs4:=h.cfg.s4;by_cases q1:1099511627776≤s.now
 ·have e1:decide ((1099511627776:Int)≤s.now)=true:=decide_eq_true q1;rw[if_pos q1];repeat(first|refine aa_ ?_|simp only[go_sem,e1])
  refine Ri_ ?_
  exact jR_ (by first|rfl|exact evd) (by first|rfl|exact evd)
 have e1:decide ((1099511627776:Int)≤s.now)=false:=decide_eq_false q1;rw[if_neg q1];have hA:=h.tickA q1;have hB:=hA.tickB;have c1:=Kn_ (tickA s) hA.r.bn;have c2:=wC_ (tickA s) (ft_ (tickA s)).j (ft_ (tickA s)).f hA.r
 have hmod:IntKind.u64.wrap (Int.tmod (tickA s).now (tickA s).cfg.spe)=Int.tmod (tickA s).now (tickA s).cfg.spe:=by
  have hn:=hA.nw.1;have hsp':1≤(tickA s).cfg.spe:=hsp;rw[Int.tmod_eq_emod_of_nonneg hn.lo];have h1:=Int.emod_nonneg (tickA s).now (show (tickA s).cfg.spe≠0 by omega);have h2:=Int.emod_lt_of_pos (tickA s).now (show 0<(tickA s).cfg.spe by omega);have hs4':(tickA s).cfg.spe≤4:=hs4;exact aH_ h1 (by omega)
 have hT1:Int.tmod (tickA s).now (tickA s).cfg.spe=0→tickB (tickA s)=ch_ (tickA s) (ft_ (tickA s)).j (ft_ (tickA s)).f:=fun hz=>by unfold tickB;rw[hmod,if_pos hz]
 have hT2:Int.tmod (tickA s).now (tickA s).cfg.spe≠0→tickB (tickA s)=tickA s:=fun hz=>by unfold tickB;rw[hmod,if_neg hz]
 show Tri _ _ _ _ (PQ _ (.tup [.agg (ak_ (bK_ (tickB (tickA s)) (tickB (tickA s)).early.length).a),.int .i64 0])) _ _
 generalize tickB (tickA s)=S2 at *;repeat(first|refine aa_ ?_|simp only[go_sem,e1])
 refine Rh_ ?_
 refine nG_ (fun _=>[]) (fun _=>[.var (ak_ S2.a),.var (ak_ eW_)]) (fun hT=>?_) (fun hF=>?_) ?_
 ·rw[hT1 (by rw[beq_iff_eq]at hT;exact hT)];try refine aa_ ?_
  refine So_ c1 ?_
  refine So_ c2 ?_
  exact SN_ [] [0,1]
 ·rw[hT2 (by rw[beq_eq_false_iff_ne]at hF;exact hF)];try refine aa_ ?_
  exact SN_ [] [0,1]
 clear hT1 hT2 hmod c1 c2;try refine aa_ ?_
 refine jd_ 0 113 67 ?_ (by rfl) (by exact pa_ _);simp only[go_sem,pb_];have hK:∀k,k≤S2.early.length→aK_ (bK_ S2 k) m∧(bK_ S2 k).early.length≤k:=aK_.tickR hB.av hB.aa hB
 have hz:bK_ S2 0=withE S2 []:=rfl;have haa:=hB.aa;refine an_ (fun i:Nat=>[(6,.int .i64 i)]) (fun i=>[.var (ak_ { (bK_ S2 i).a with early:=.hs 67 2 0 (bK_ S2 i).early.length }),.var (ak_ eW_),.vec 67 (rows aD_.c (bK_ S2 i).early)]) (fun i=>S2.early.length-i) (fun i=>i≤S2.early.length) 0 (Nat.zero_le _) ?_ ?_
 ·rw[hz];unfold withE;exact SN_ [] [0,1,2]
 intro i hk;obtain⟨hki,hkl⟩:=hK i hk;have hsk:=Iz_ S2 i;refine cJ_ ?_;by_cases h1:i<S2.early.length
 ·have e1:=inT h1
  have hw:=ag_ h1 (by omega);have hgd:(rows aD_.c S2.early).getD i []=bl_ (dM_ S2.early i).a:=aA_ (f:=aD_.c) default h1;have hav:=hB.av _ (pT_ h1);have hc:tickR S2.early i (bK_ S2 i)=if (bK_ S2 i).now≤(dM_ S2.early i).slot then withE (bK_ S2 i) ((bK_ S2 i).early++[dM_ S2.early i])else if (cm_ (bK_ S2 i) (dM_ S2.early i)).2=0 then castIn (bK_ S2 i) (dM_ S2.early i)else bK_ S2 i:=rfl
  have c1:=Db_ (bK_ S2 i) (dM_ S2.early i) hki.r (by omega);have c2:=fun hj=>FB_ (bK_ S2 i) (dM_ S2.early i) hki.r (by omega) hj (bK_ S2 i).early (bK_ S2 i).early.length
  have hj:(cm_ (bK_ S2 i) (dM_ S2.early i)).2=0→∀j∈(dM_ S2.early i).vals,0≤j∧j<(bK_ S2 i).latest.length:=fun hq j hjm=>by
   have hv:cd_ (dM_ S2.early i).vals (bK_ S2 i).cfg.bals.length=0:=by
    unfold cm_ at hq;split at hq
    ·rename_i h1;exact absurd hq h1
    ·rename_i h1;simpa using h1
   obtain⟨u,hm,rfl⟩:=List.getElem_of_mem hjm;have:=(gw_ hv).2 u hm;rw[List.getD_eq_getElem?_getD,List.getElem?_eq_getElem hm,Option.getD_some]at this;have hll:=hki.ll;omega
  clear hK;have hcl:(castIn (bK_ S2 i) (dM_ S2.early i)).early=(bK_ S2 i).early:=rfl;rw[hc]at hsk;generalize hs:bK_ S2 i=s1 at *;generalize dM_ S2.early i=a at *;have hr:rows aD_.c s1.early++[bl_ a.a]=rows aD_.c (s1.early++[a]):=bB_ aD_.c s1.early a;generalize hR:cm_ s1 a=R at *;obtain⟨R1,R2⟩:=R;dsimp only at c1 hsk hj;repeat(first|refine aa_ ?_|simp only[go_sem,e1])
  refine ac_ ?_;repeat(first|refine aa_ ?_|simp only[go_sem,hgd])
  by_cases q2:s1.now≤a.slot
  ·have e2:decide (s1.now≤a.slot)=true:=decide_eq_true q2;rw[if_pos q2]at hsk;repeat(first|refine aa_ ?_|simp only[go_sem,e2])
   refine ac_ ?_;repeat(first|refine aa_ ?_|simp only[go_sem,hgd,hr,hw])
   refine⟨i+1,h1,by omega,?_⟩;rw[hsk];unfold withE;exact SN_ [] [0,1,3]
  ·have e2:decide (s1.now≤a.slot)=false:=decide_eq_false q2
   rw[if_neg q2]at hsk;repeat(first|refine aa_ ?_|simp only[go_sem,e2])
   refine ab_ ?_;repeat(first|refine aa_ ?_|simp only[go_sem,hgd])
   refine FQ_ [2] (c1) evd (br_.mk' (by simp) evd) ?_;refine evg ?_;try refine aa_ ?_
   by_cases q3:R2=0
   ·rw[if_pos q3]at hsk;subst q3;have c3:=c2 (hj rfl);generalize hcs:castIn s1 a=s3 at *;try refine aa_ ?_
    refine ac_ ?_;repeat(first|refine aa_ ?_|simp only[go_sem,hgd])
    refine Qh_ [2] (c3) (by simp) evd (br_.mk' (by simp) evd) ?_;refine evg ?_;repeat(first|refine aa_ ?_|simp only[go_sem,hw])
    refine⟨i+1,h1,by omega,?_⟩;rw[hsk,hcl];exact SN_ [] [0,1,2]
   ·have e3:(R2==0)=false:=by simp[q3]
    rw[if_neg q3]at hsk;repeat(first|refine aa_ ?_|simp only[go_sem,e3])
    refine ab_ ?_;repeat(first|refine aa_ ?_|simp only[go_sem,hw])
    refine⟨i+1,h1,by omega,?_⟩;rw[hsk];exact SN_ [] [0,1,2]
 ·obtain rfl:i=S2.early.length:=by omega
  have e1:=inF (S2.early.length);generalize bK_ S2 S2.early.length=s1 at *;have ht:List.take s1.early.length (rows aD_.c s1.early)=rows aD_.c s1.early:=List.take_of_length_le (by simp);repeat(first|refine aa_ ?_|simp only[go_sem,e1])
  refine Rh_ ?_
  refine⟨_,(by first|rfl|exact evd),.inl ?_⟩;(try simp only[go_sem,Nat.reduceAdd,Nat.reduceSub,Nat.reduceMul,Nat.reduceLT,Nat.reduceLeDiff,Nat.reduceEqDiff,reduceIte,Int.reduceToNat,Int.reduceLT,Int.reduceLE,Int.reduceEq,Int.reduceNeg,reduceCtorEq,Int.reduceBEq,Int.reduceBNe,ht])
  rfl
end Go.Proofs.YtkgimpdgncakjaaGreat
