/-
 My texts Lw, Lx, Ly, Lz, joined.
-/
import Derived.Test.YtkgimpdgncakjaaGreatV6
import Derived.Test.YtkgimpdgncakjaaGreatW3
namespace Go.Proofs.YtkgimpdgncakjaaGreat
open Go Go.FH Go.RowKit
set_option linter.unusedVariables false
set_option linter.unusedSimpArgs false
def WdG(w:Wd):Prop:=∀n∈w.1,0≤n∧n<18446744073709551616
def yq_:Rt:=(rt0.set 0 100).set 31 188
structure eL_(i:Nat)(x:Blk):Prop where
 slot:U64 x.slot
 just:U64 x.just.ep
 fin:U64 x.fin.ep
 j:U64 x.pul.j.ep
 f:U64 x.pul.f.ep
 rt:i≤24→x.root≠yq_
theorem eL_.up{i k:Nat}{b:Blk}(h:eL_ i b)(hk:i≤k):eL_ k b:=⟨h.slot,h.just,h.fin,h.j,h.f,fun h2=>h.rt (by omega)⟩
theorem eL_.u{i:Nat}{b:Blk}(h:eL_ i b):LH_ b:=⟨h.slot,h.just,h.fin,h.j,h.f⟩
def NwR(i:Nat)(n:Int):Prop:=U64 n∧(i≤24→n≤1099511627776)
theorem NwR.up{i k:Nat}{n:Int}(h:NwR i n)(hk:i≤k):NwR k n:=⟨h.1,fun h2=>h.2 (by omega)⟩
structure QF_(c:bD_):Prop where
 s1:1≤c.spe
 s4:c.spe≤4
 b0:0<c.bals.length
 b1:c.bals.length≤6
 ln:c.lim.node≤13
 lo:c.lim.orph≤3
 la:c.lim.early≤3
 lt:c.lim.table≤4
 lr:c.lim.retry≤3
 tt:WdG c.ttd
 gn:c.gen≠yq_
structure aJ_(s:ai_)(i:Nat):Prop where
 cfg:QF_ s.cfg
 tree:cj_ s.nodes
 jf:0≤ak_ s.nodes s.j.rt
 ll:s.latest.length=s.cfg.bals.length
 nn:s.nodes.length≤13
 un:∀n∈s.nodes,eL_ i n.blk
 oo:s.orph.length≤3
 uo:∀b∈s.orph,eL_ i b
 aa:s.early.length≤3
 av:∀a∈s.early,a.vals.length≤10
 tt:s.tabs.length≤4
 tb:∀t∈s.tabs,t.bals.length≤6
 qq:s.eqv.length≤10*i
 uj:U64 s.j.ep
 uf:U64 s.f.ep
 nw:NwR i s.now
 ii:i≤30
theorem aJ_.r{s:ai_}{i:Nat}(h:aJ_ s i):StR s:=by
 have h1:=h.cfg.s1;have h2:=h.cfg.b1;have h3:=h.nn;have h4:=h.qq;have h5:=h.ii;have h6:=h.ll;have h7:=h.tt;have h8:=h.oo;have h9:=h.aa;have h10:=h.cfg.ln;exact⟨h.tree,by omega,by omega,by omega,by omega,by omega,fun t ht=>by have:=h.tb t ht;omega,by omega,by omega,by omega,h6,h.jf⟩
theorem aJ_.up{s:ai_}{i k:Nat}(h:aJ_ s i)(h1:i≤k)(h2:k≤30):aJ_ s k:=by
 obtain⟨a,b,c,d,e,f,g,j,l,m,n,o,p,q,r,t,u⟩:=h;exact⟨a,b,c,d,e,fun x hx=>(f x hx).up h1,g,fun x hx=>(j x hx).up h1,l,m,n,o,by omega,q,r,t.up h1,h2⟩
theorem bf_(n:Int):U64 (IntKind.u64.wrap n):=by rw[Fx_];exact⟨by omega,by omega⟩
theorem dA_{α:Type}{l:List α}{i:Nat}(d:α)(h:i<l.length):l.getD i d∈l:=by
 rw[List.getD_eq_getElem?_getD,List.getElem?_eq_getElem h];exact List.getElem_mem h
theorem aJ_.blk{s:ai_}{i:Nat}(h:aJ_ s i){k:Nat}(hk:k<s.nodes.length):eL_ i (nod s.nodes k).blk:=h.un _ (dA_ _ hk)
theorem BH_{t:List Nod}{n:Nod}(h:n∈t):∃k,k<t.length∧nod t k=n:=by
 obtain⟨k,hk,he⟩:=List.getElem_of_mem h;exact⟨k,hk,by unfold nod;rw[List.getD_eq_getElem?_getD,List.getElem?_eq_getElem hk];exact he⟩
theorem CF_(s:ai_)(j f:Cp):(bp_ s j f).cfg=s.cfg:=by unfold bp_;(repeat' split)<;>rfl
theorem Qk_(s:ai_)(j f:Cp):(bp_ s j f).eqv=s.eqv:=by unfold bp_;(repeat' split)<;>rfl
theorem Au_(s:ai_)(j f:Cp):(bp_ s j f).early=s.early:=by unfold bp_;(repeat' split)<;>rfl
theorem ID_(s:ai_)(j f:Cp):(bp_ s j f).now=s.now:=by unfold bp_;(repeat' split)<;>rfl
theorem Ka_(l:List Blk)(a:Int):∀b∈aw_ (iH_ l a) [] l.length,b∈l:=by
 refine hr_ (f:=iH_ l a) (a:=[]) (fun _ o=>∀t∈o,t∈l) (by simp) l.length (fun i o hi ho=>?_) _ (Nat.le_refl _);unfold iH_;split
 ·intro t ht;rw[List.mem_append,List.mem_singleton]at ht;rcases ht with ht|rfl
  ·exact ho t ht
  ·exact dA_ _ hi
 ·exact ho
theorem rh_(s:ai_)(j f:Cp):(bp_ s j f).orph.length≤s.orph.length∧∀b∈(bp_ s j f).orph,b∈s.orph:=by
 unfold bp_;split
 ·exact⟨Nat.le_refl _,fun b hb=>hb⟩
 ·split
  ·exact⟨Nat.le_refl _,fun b hb=>hb⟩
  ·exact⟨nu_ _ _ _,Ka_ _ _⟩
theorem Oq_(s:ai_)(j f:Cp):(bp_ s j f).tabs.length≤s.tabs.length∧∀b∈(bp_ s j f).tabs,b∈s.tabs:=by
 unfold bp_;split
 ·exact⟨Nat.le_refl _,fun b hb=>hb⟩
 ·split
  ·exact⟨kF_ _ _,kG_ _ _⟩
  ·exact⟨kF_ _ _,kG_ _ _⟩
theorem Lw_{s:ai_}(h:cj_ s.nodes)(j f:Cp):(bp_ s j f).nodes.length≤s.nodes.length∧∀n∈(bp_ s j f).nodes,∃m,m<s.nodes.length∧n.blk=(nod s.nodes m).blk:=by
 have key:∀n∈s.nodes,∃m,m<s.nodes.length∧n.blk=(nod s.nodes m).blk:=fun n hn=>by
  obtain⟨k,hk,he⟩:=BH_ hn;exact⟨k,hk,by rw[he]⟩
 unfold bp_;split
 ·exact⟨Nat.le_refl _,key⟩
 ·split
  ·exact⟨Nat.le_refl _,key⟩
  ·refine⟨pt_ h _,fun n hn=>?_⟩;obtain⟨k,hk,he⟩:=BH_ hn;obtain⟨m,hm,hb⟩:=Ha_ h _ k hk;exact⟨m,hm,by rw[←he];exact hb⟩
theorem jJ_{a b:Cp}(h1:U64 a.ep)(h2:U64 b.ep):U64 (bG_ a b).ep:=by unfold bG_;split<;>assumption
theorem Rp_{s:ai_}(j f:Cp)(h1:U64 s.j.ep)(h2:U64 s.f.ep)(h3:U64 j.ep)(h4:U64 f.ep):U64 (bp_ s j f).j.ep∧U64 (bp_ s j f).f.ep:=by
 unfold bp_;split
 ·exact⟨h1,h2⟩
 ·split
  ·exact⟨jJ_ h1 h3,jJ_ h2 h4⟩
  ·exact⟨jJ_ h1 h3,jJ_ h2 h4⟩
theorem aJ_.upd{s:ai_}{i:Nat}(h:aJ_ s i){j f:Cp}(hj:U64 j.ep)(hf:U64 f.ep):aJ_ (bp_ s j f) i:=by
 have h1:=h.r.upd j f;have h2:=Lw_ h.tree j f;have h3:=rh_ s j f;have h4:=Oq_ s j f;have h5:=Rp_ j f h.uj h.uf hj hf;refine⟨by rw[CF_];exact h.cfg,h1.tree,h1.jf,h1.ll,Nat.le_trans h2.1 h.nn,fun n hn=>?_,Nat.le_trans h3.1 h.oo,fun b hb=>h.uo b (h3.2 b hb),by rw[Au_];exact h.aa,by rw[Au_];exact h.av,Nat.le_trans h4.1 h.tt,fun t ht=>h.tb t (h4.2 t ht),by rw[Qk_];exact h.qq,h5.1,h5.2,by rw[ID_];exact h.nw,h.ii⟩;obtain⟨m,hm,he⟩:=h2.2 n hn;rw[he];exact h.blk hm
theorem aJ_.withE{s:ai_}{i:Nat}(h:aJ_ s i){l:List aG_}(h1:l.length≤3)(h2:∀a∈l,a.vals.length≤10):aJ_ (withE s l) i:=
 ⟨h.cfg,h.tree,h.jf,h.ll,h.nn,h.un,h.oo,h.uo,h1,h2,h.tt,h.tb,h.qq,h.uj,h.uf,h.nw,h.ii⟩
theorem aJ_.withL{s:ai_}{i:Nat}(h:aJ_ s i){l:List Vot}(h1:l.length=s.latest.length):aJ_ (withL s l) i:=
 ⟨h.cfg,h.tree,h.jf,h1.trans h.ll,h.nn,h.un,h.oo,h.uo,h.aa,h.av,h.tt,h.tb,h.qq,h.uj,h.uf,h.nw,h.ii⟩
theorem aJ_.withB{s:ai_}{i:Nat}(h:aJ_ s i)(r:Rt):aJ_ (withB s r) i:=
 ⟨h.cfg,h.tree,h.jf,h.ll,h.nn,h.un,h.oo,h.uo,h.aa,h.av,h.tt,h.tb,h.qq,h.uj,h.uf,h.nw,h.ii⟩
theorem aJ_.withO{s:ai_}{i:Nat}(h:aJ_ s i){l:List Blk}(h1:l.length≤3)(h2:∀b∈l,eL_ i b):aJ_ (withO s l) i:=
 ⟨h.cfg,h.tree,h.jf,h.ll,h.nn,h.un,h1,h2,h.aa,h.av,h.tt,h.tb,h.qq,h.uj,h.uf,h.nw,h.ii⟩
theorem aJ_.withT{s:ai_}{i:Nat}(h:aJ_ s i){l:List au_}(h1:l.length≤4)(h2:∀t∈l,t.bals.length≤6):aJ_ (withT s l) i:=
 ⟨h.cfg,h.tree,h.jf,h.ll,h.nn,h.un,h.oo,h.uo,h.aa,h.av,h1,h2,h.qq,h.uj,h.uf,h.nw,h.ii⟩
theorem aJ_.castIn{s:ai_}{i:Nat}(h:aJ_ s i)(a:aG_):aJ_ (castIn s a) i:=h.withL (kj_ _ _ _ _ _)
theorem aJ_.tickA{s:ai_}{i:Nat}(h:aJ_ s i)(h3:¬1099511627776≤s.now):aJ_ (tickA s) i:=
 ⟨h.cfg,h.tree,h.jf,h.ll,h.nn,h.un,h.oo,h.uo,h.aa,h.av,h.tt,h.tb,h.qq,h.uj,h.uf,⟨bf_ _,fun _=>by have:=h.nw.1.lo;show IntKind.u64.wrap (s.now+1)≤_;rw[aF_ (by omega) (by omega)];omega⟩,h.ii⟩
theorem Ij_{i:Nat}{s:ai_}(h:∀k,k<s.nodes.length→eL_ i (nod s.nodes k).blk):U64 (fp_ s).j.ep∧U64 (fp_ s).f.ep:=by
 refine hr_ (f:=wb_ s.nodes) (a:=(yo_,false)) (fun _ p=>U64 p.1.j.ep∧U64 p.1.f.ep) ⟨⟨by decide,by decide⟩,⟨by decide,by decide⟩⟩ s.nodes.length (fun k p hk hp=>?_) _ (Nat.le_refl _);unfold wb_;split
 ·exact hp
 ·refine⟨?_,?_⟩
  ·dsimp only;split
   ·exact(h k hk).j
   ·exact hp.1
  ·dsimp only;split
   ·exact(h k hk).f
   ·exact hp.2
theorem aJ_.tickB{s:ai_}{i:Nat}(h:aJ_ s i):aJ_ (tickB s) i:=by
 unfold Go.Proofs.YtkgimpdgncakjaaGreat.tickB;split
 ·have:=Ij_ (s:=s) fun k hk=>h.blk hk
  exact h.upd this.1 this.2
 ·exact h
theorem uj_{l:List aG_}{k:Nat}(h:k<l.length):dD_ l k∈l:=dA_ _ h
theorem aJ_.tickR{l:List aG_}(hl:∀a∈l,a.vals.length≤10)(h3:l.length≤3){s:ai_}{i:Nat}(h:aJ_ s i):∀k,k≤l.length→aJ_ (aw_ (tickR l) (Go.FH.withE s []) k) i∧(aw_ (tickR l) (Go.FH.withE s []) k).early.length≤k
 |0,_=>⟨h.withE (by simp) (by simp),Nat.le_refl _⟩
 | k + 1, hk => by
   obtain⟨h1,h2⟩:=aJ_.tickR hl h3 h k (by omega);rw[bA_];generalize aw_ (Go.Proofs.YtkgimpdgncakjaaGreat.tickR l) (Go.FH.withE s []) k=t at *;unfold Go.Proofs.YtkgimpdgncakjaaGreat.tickR;split
   ·refine⟨h1.withE (by simp;omega) (fun a ha=>?_),by show (t.early++[dD_ l k]).length≤k+1;simp;omega⟩;rw[List.mem_append,List.mem_singleton]at ha;rcases ha with ha|rfl
    ·exact h1.av a ha
    ·exact hl _ (uj_ (by omega))
   ·split
    ·exact⟨h1.castIn _,Nat.le_succ_of_le h2⟩
    ·exact⟨h1,Nat.le_succ_of_le h2⟩
theorem aJ_.tickC{s:ai_}{i:Nat}(h:aJ_ s i):aJ_ (tickC s s.early) i:=(aJ_.tickR h.av h.aa h _ (Nat.le_refl _)).1
theorem aJ_.tick{s:ai_}{i:Nat}(h:aJ_ s i)(h2:(gi_ s).2=0):aJ_ (gi_ s).1 i:=by
 unfold gi_ at *;split at h2
 ·simp at h2
 ·rename_i h3;rw[if_neg h3];exact(h.tickA h3).tickB.tickC
structure Rx_(s:ai_)(b:Blk):Prop where
 root:b.root≠rt0
 kn:ek_ s b.root=false
 par:0≤ak_ s.nodes b.parent
 slot:(nod s.nodes (ak_ s.nodes b.parent).toNat).blk.slot<b.slot
 lim:(s.nodes.length:Int)<s.cfg.lim.node
theorem Jo_ {s : ai_} {b : Blk} (h : aI_ s b = 0) : Rx_ s b := by
 unfold aI_ at h;split at h
 ·simp at h
 ·split at h
  ·simp at h
  ·split at h
   ·simp at h
   ·split at h
    ·simp at h
    ·split at h
     ·simp at h
     ·split at h
      ·simp at h
      ·split at h
       ·simp at h
       ·split at h
        ·simp at h
        ·split at h
         ·simp at h
         ·split at h
          ·simp at h
          ·exact⟨by assumption,by simpa using ‹¬ek_ s b.root=true›,by omega,by omega,by omega⟩
theorem Oi_(b:Blk):0≤cz_ b∧cz_ b≤2:=by unfold cz_;split<;>exact⟨by decide,by decide⟩
theorem OV_{s:ai_}{b:Blk}(h:Rx_ s b)(hn:s.cfg.lim.node≤4096):(dM_ s.nodes b (cz_ b)).2=0:=by
 have h1:=h.kn;unfold ek_ at h1;have h2:decide (0≤ak_ s.nodes b.root)=false:=by simp at h1;simpa using h1.2
 have h3:=of_decide_eq_false h2;have h4:=h.par;have h5:=h.slot;have h6:=h.lim;unfold dM_;rw[if_neg (by simp[Oi_ b]),if_neg h3,if_neg (by omega),if_neg (by omega),if_neg (by omega)]
theorem JF_{t:List Nod}{n:Nod}{r:Rt}(h:0≤ak_ t r):0≤ak_ (t++[n]) r:=by
 obtain⟨h1,h2⟩:=mM_ h;exact nq_ (k:=(ak_ t r).toNat) (by simp;omega) (by rw[js_,if_pos h1];exact h2)
theorem aJ_.insN{s:ai_}{i:Nat}(h:aJ_ s i){b:Blk}(hc:aI_ s b=0)(hb:eL_ i b):aJ_ (ch_ s (dM_ s.nodes b (cz_ b)).1) i:=by
 have h1:=Jo_ hc;have h2:=OV_ h1 (by have:=h.cfg.ln;omega);have h3:=(HX_ h2).1;have h4:=h.tree.ins h2;have h5:=h1.lim;have h6:=h.cfg.ln;rw[h3]at h4 ⊢;refine⟨h.cfg,h4,JF_ h.jf,h.ll,by show (s.nodes++[_]).length≤13;simp;omega,fun n hn=>?_,h.oo,h.uo,h.aa,h.av,h.tt,h.tb,h.qq,h.uj,h.uf,h.nw,h.ii⟩;rcases List.mem_append.1 hn with hn|hn
 ·exact h.un n hn
 ·rw[List.mem_singleton]at hn;rw[hn];exact hb
theorem aJ_.ins{s:ai_}{i:Nat}(h:aJ_ s i){b:Blk}(hc:aI_ s b=0)(hb:eL_ i b):aJ_ (cO_ s b) i:=by
 have h1:=(h.insN hc hb).upd hb.just hb.fin;unfold cO_;split
 ·exact h1.upd hb.j hb.f
 ·exact h1
theorem Lm_(l:List Blk)(i:Nat):∀b∈takeO l i,b∈l:=fun b hb=>by
 unfold takeO at hb;rcases List.mem_append.1 hb with hb|hb
 ·exact List.mem_of_mem_take hb
 ·exact List.mem_of_mem_drop hb
theorem Ok_(l:List Blk)(i:Nat):(takeO l i).length≤l.length:=by
 unfold takeO;rw[List.length_append,List.length_take,List.length_drop];omega
theorem aJ_.takeO{s:ai_}{i:Nat}(h:aJ_ s i)(k:Nat):aJ_ (Go.FH.withO s (takeO s.orph k)) i:=h.withO (Nat.le_trans (Ok_ _ _) h.oo) fun b hb=>h.uo b (Lm_ _ _ b hb)
theorem aJ_.waitR{p:ai_×List Rt}{i:Nat}(h:aJ_ p.1 i)(h0:0≤bC_ p.1):aJ_ (waitR p).1 i:=by
 have h1:=nk_ p.1;have h2:=h.takeO (bC_ p.1).toNat
 unfold Go.Proofs.YtkgimpdgncakjaaGreat.waitR;split
 ·rename_i hc;exact h2.ins hc (h.uo _ (dA_ _ (by omega)))
 ·exact h2
theorem aJ_.waitG{i:Nat}:∀ (f:Nat) {p:ai_×List Rt},aJ_ p.1 i→aJ_ (waitG f p).1 i
 |0,_,h=>h
 | f + 1, p, h => by
   unfold Go.Proofs.YtkgimpdgncakjaaGreat.waitG;split
   ·exact h
   ·exact aJ_.waitG f (h.waitR (by omega))
theorem LD_(p:ai_×List Rt):(waitR p).2.length≤p.2.length+1:=by
 unfold waitR;split<;>simp
theorem Ay_:∀ (f:Nat) (p:ai_×List Rt),(waitG f p).2.length≤p.2.length+f
 |0,p=>Nat.le_refl _
 | f + 1, p => by
   unfold waitG;split
   ·omega
   ·have h1:=Ay_ f (waitR p);have h2:=LD_ p;omega
theorem RN_{i:Nat}{b:Blk}(h:eL_ i b):eL_ i (noT b):=⟨h.slot,h.just,h.fin,h.j,h.f,h.rt⟩
theorem aJ_.blockI{s:ai_}{i:Nat}(h:aJ_ s i){b:Blk}(hc:aI_ s b=0)(hb:eL_ i b):aJ_ (blockI s b) i:=by
 unfold Go.Proofs.YtkgimpdgncakjaaGreat.blockI;split
 ·exact(h.ins hc hb).withB _
 ·exact h.ins hc hb
theorem aJ_.block{s:ai_}{i:Nat}(h:aJ_ s i){b:Blk}(hb:eL_ i b)(h2:(aT_ s b).2.2=0):aJ_ (aT_ s b).1 i∧(aT_ s b).2.1.length≤5:=by
 unfold aT_ at *;split at h2
 ·rename_i h3
  rw[if_pos h3];split at h2
  ·simp at h2
  ·rename_i h4;rw[if_neg h4];have:=h.cfg.lo;refine⟨h.withO (by simp;omega) (fun x hx=>?_),by simp⟩;rw[List.mem_append,List.mem_singleton]at hx;rcases hx with hx|rfl
   ·exact h.uo x hx
   ·exact RN_ hb
 ·rename_i h3
  rw[if_neg h3];split at h2
  ·rename_i h4;exact absurd h2 h4
  ·rename_i h4;rw[if_neg h4];have h5:=h.blockI (by simpa using h4) hb;have h6:=h5.oo;refine⟨aJ_.waitG _ h5,?_⟩;have:=Ay_ ((Go.Proofs.YtkgimpdgncakjaaGreat.blockI s b).orph.length+1) (Go.Proofs.YtkgimpdgncakjaaGreat.blockI s b,[b.root]);dsimp only at this ⊢;simp at this;omega
theorem aJ_.att{s:ai_}{i:Nat}(h:aJ_ s i){a:aG_}(ha:a.vals.length≤10)(h2:(rq_ s a).2=0):aJ_ (rq_ s a).1 i:=by
 unfold rq_ at *;split at h2
 ·rename_i h3;exact absurd h2 h3
 ·rename_i h3
  rw[if_neg h3];split at h2
  ·rename_i h4;rw[if_pos h4];exact h.castIn a
  ·rename_i h4
   rw[if_neg h4];split at h2
   ·simp at h2
   ·rename_i h5;rw[if_neg h5];have:=h.cfg.la;refine h.withE (by simp;omega) (fun x hx=>?_);rw[List.mem_append,List.mem_singleton]at hx;rcases hx with hx|rfl
    ·exact h.av x hx
    ·exact ha
theorem aJ_.slash{s:ai_}{i:Nat}(h:aJ_ s i){x:dm_}(hx:x.fst.vals.length≤10)(hi:i<30)(h2:(iT_ s x).2=0):aJ_ (iT_ s x).1 (i+1):=by
 unfold iT_ at *;split at h2
 ·rename_i h3;exact absurd h2 h3
 ·rename_i h3
  rw[if_neg h3];split at h2
  ·simp at h2
  ·rename_i h4;rw[if_neg h4];have h5:=qp_ x.fst.vals x.snd.vals x.fst.vals.length;have h6:=BO_ s.eqv (gy_ x.fst.vals x.snd.vals x.fst.vals.length) (gy_ x.fst.vals x.snd.vals x.fst.vals.length).length;have h7:=h.qq;exact⟨h.cfg,h.tree,h.jf,h.ll,h.nn,fun x hx=>(h.un x hx).up (Nat.le_succ i),h.oo,fun x hx=>(h.uo x hx).up (Nat.le_succ i),h.aa,h.av,h.tt,h.tb,by show (EA_ s.eqv _).length≤_;unfold EA_;omega,h.uj,h.uf,h.nw.up (Nat.le_succ i),by omega⟩
theorem Fy_(l:List au_)(t:au_):(lO_ l t).length=l.length+1:=by
 unfold lO_;simp only[List.length_append,List.length_take,List.length_drop,List.length_cons,List.length_nil];omega
theorem Fz_(l:List au_)(t:au_):∀x∈lO_ l t,x∈l∨x=t:=fun x hx=>by
 unfold lO_ at hx;simp only[List.mem_append,List.mem_singleton]at hx;rcases hx with (hx|hx)|hx
 ·exact .inl (List.mem_of_mem_take hx)
 ·exact .inr hx
 ·exact .inl (List.mem_of_mem_drop hx)
theorem aJ_.reg{s:ai_}{i:Nat}(h:aJ_ s i){t:au_}(h2:(wi_ s t).2=0):aJ_ (wi_ s t).1 i:=by
 unfold wi_ at *;split at h2
 ·rename_i h3;exact absurd h2 h3
 ·rename_i h3
  rw[if_neg h3];split at h2
  ·simp at h2
  ·rename_i h4
   rw[if_neg h4];split at h2
   ·rename_i h5;exact absurd h2 h5
   ·rename_i h5
    rw[if_neg h5];have hv:eF_ t s.cfg.bals.length=0:=by simpa using h3
    have hb:t.bals.length≤6:=by
     have:=h.cfg.b1;unfold eF_ at hv;split at hv
     ·simp at hv
     ·omega
    have hr:(iQ_ s.tabs t s.cfg.bals.length s.cfg.lim.table).1.length≤4∧∀x∈(iQ_ s.tabs t s.cfg.bals.length s.cfg.lim.table).1,x∈s.tabs∨x=t:=by
     have:=h.cfg.lt;unfold iQ_;rw[if_neg (by simpa using hv)];split
     ·exact⟨h.tt,fun x hx=>.inl hx⟩
     ·split
      ·exact⟨h.tt,fun x hx=>.inl hx⟩
      ·exact⟨by rw[Fy_];omega,Fz_ _ _⟩
    refine h.withT hr.1 fun x hx=>?_
    rcases hr.2 x hx with hx|rfl
    ·exact h.tb x hx
    ·exact hb
theorem ED_{t:List Nod}{i:Int}(h:(dg_ t i).2=0):(dg_ t i).1.length=t.length∧∀k,(nod (dg_ t i).1 k).up=(nod t k).up∧(nod (dg_ t i).1 k).blk=(nod t k).blk:=by
 unfold dg_ at *;split at h
 ·rename_i h1;rw[if_pos h1];cases h2:wy_ t (bS_ t i) 1 2 with
  |none=>rw[h2]at h;simp at h
  |some u=>exact⟨iR_ h2,fun k=>ra_ h2 k⟩
 ·simp at h
theorem HP_{t:List Nod}{i:Int}(h:(jm_ t i).2=0):(jm_ t i).1.length=t.length∧∀k,(nod (jm_ t i).1 k).up=(nod t k).up∧(nod (jm_ t i).1 k).blk=(nod t k).blk:=by
 unfold jm_ at *;split at h
 ·rename_i h1;rw[if_pos h1];cases h2:wy_ t (iC_ t i) 2 1 with
  |none=>rw[h2]at h;simp at h
  |some u=>exact⟨iR_ h2,fun k=>ra_ h2 k⟩
 ·simp at h
theorem Eb_{t:List Nod}{i:Int}{v:Vdt}{keep:List Int}(h:(gA_ t i v keep).2=0):(gA_ t i v keep).1.length=t.length∧∀k,(nod (gA_ t i v keep).1 k).up=(nod t k).up∧(nod (gA_ t i v keep).1 k).blk=(nod t k).blk:=by
 unfold gA_ at *;split at h
 ·simp at h
 rename_i h1;rw[if_neg h1];split at h
 ·rename_i h2;rw[if_pos h2];exact ED_ h
 rename_i h2;rw[if_neg h2];split at h
 ·rename_i h3;rw[if_pos h3];exact⟨rfl,fun k=>⟨rfl,rfl⟩⟩
 rename_i h3;rw[if_neg h3];split at h
 ·simp at h
 rename_i h4;rw[if_neg h4];split at h
 ·simp at h
 rename_i h5;rw[if_neg h5];split at h
 ·rename_i h6
  rw[if_pos h6];split at h
  ·rename_i h7;exact absurd h h7
  ·rename_i h7;rw[if_neg h7];have a:=ED_ (show (dg_ t (hA_ t i v.latest).1).2=0 by simpa using h7);have b:=HP_ h;exact⟨b.1.trans a.1,fun k=>⟨(b.2 k).1.trans (a.2 k).1,(b.2 k).2.trans (a.2 k).2⟩⟩
 ·rename_i h6;rw[if_neg h6];exact HP_ h
theorem JG_{t u:List Nod}(hl:u.length=t.length)(hb:∀k,(nod u k).blk=(nod t k).blk)(r:Rt):ak_ u r=ak_ t r:=by
 unfold ak_;rw[hl];congr 2;funext k
 rw[hb k]
theorem aJ_.judge{s:ai_}{i:Nat}(h:aJ_ s i){t:List Nod}(hl:t.length=s.nodes.length)(hu:∀k,(nod t k).up=(nod s.nodes k).up∧(nod t k).blk=(nod s.nodes k).blk):aJ_ (ch_ s t) i:=by
 refine⟨h.cfg,⟨h.tree.ok.of_up hl fun k=>(hu k).1,by have:=h.tree.pos;show 0<t.length;omega,by show (nod t 0).up<0;rw[(hu 0).1];exact h.tree.root⟩,?_,h.ll,by have:=h.nn;show t.length≤13;omega,fun n hn=>?_,h.oo,h.uo,h.aa,h.av,h.tt,h.tb,h.qq,h.uj,h.uf,h.nw,h.ii⟩
 ·show 0≤ak_ t s.j.rt
  rw[JG_ hl fun k=>(hu k).2];exact h.jf
 ·obtain⟨k,hk,he⟩:=BH_ hn;rw[←he];show eL_ i (nod t k).blk;rw[(hu k).2]
  exact h.blk (show k<s.nodes.length by have:k<t.length:=hk;omega)
theorem CG_(l:List Int)(n:Int):cV_ l n≠21:=by
 unfold cV_;split
 ·decide
 ·generalize (0:Nat)=i
  have key:∀k i,l.length-i=k→ku_ l n i≠21:=by
   intro k;induction k with
   |zero=>intro i hi;rw[si_ (by omega)];decide
   | succ k ih =>
     intro i hi;rw[kT_ (by omega)];split
     ·decide
     ·split
      ·decide
      ·exact ih (i+1) (by omega)
  exact key _ i rfl
theorem IG_(t:au_)(n:Int):eF_ t n≠21:=by unfold eF_;(repeat' split)<;>decide
theorem Qf_(s:ai_):(gi_ s).2≠21:=by unfold gi_;split<;>simp
theorem Jn_(s:ai_)(b:Blk):aI_ s b≠21:=by
 unfold aI_;repeat'(split;· decide)
 decide
theorem LW_(s:ai_)(b:Blk):(aT_ s b).2.2≠21:=by
 unfold aT_;split
 ·split<;>simp
 ·split
  ·exact Jn_ s b
  ·simp
theorem Jm_(s:ai_)(a:aG_):(cq_ s a).2≠21:=by
 unfold cq_;split
 ·exact CG_ _ _
 ·split
  ·simp
  ·split
   ·simp
   ·split
    ·simp
    ·split<;>simp
theorem QO_(s:ai_)(a:aG_):(rq_ s a).2≠21:=by
 unfold rq_;split
 ·exact Jm_ s a
 ·split
  ·simp
  ·split<;>simp
theorem NS_(s:ai_)(x:dm_):(iT_ s x).2≠21:=by
 unfold iT_;split
 ·unfold evE
  dsimp only;split
  ·exact CG_ _ _
  ·split
   ·exact CG_ _ _
   ·split
    ·decide
    ·split<;>decide
 ·split<;>simp
theorem Rg_(s:ai_)(t:au_):(wi_ s t).2≠21:=by
 unfold wi_;split
 ·exact IG_ _ _
 ·split
  ·simp
  ·split
   ·unfold iQ_
    dsimp only;split
    ·exact IG_ _ _
    ·split
     ·simp
     ·split<;>simp
   ·simp
structure dO_(s:aH_)(i:Nat):Prop where
 sto:aJ_ s.sto i
 rq:s.reqs.length≤10*i
 ut:∀r∈s.reqs,U64 r.tag
 yl:s.rets.length≤3
 tg:U64 s.tag
theorem dO_.up{s:aH_}{i k:Nat}(h:dO_ s i)(h1:i≤k)(h2:k≤30):dO_ s k:=⟨h.sto.up h1 h2,by have:=h.rq;omega,h.ut,h.yl,h.tg⟩
theorem EG_{l:List Req}{k:Nat}(h:k<l.length):dr_ l k∈l:=dA_ _ h
theorem mQ_(t:List Nod)(l:List Req):(iJ_ t l).length≤l.length∧∀r∈iJ_ t l,r∈l:=by
 refine⟨by have:=hs_ (f:=fb_ t l) (a:=[]) (fun i o=>by unfold fb_;split<;>simp) l.length;unfold iJ_;simpa using this,?_⟩;refine hr_ (f:=fb_ t l) (a:=[]) (fun _ o=>∀r∈o,r∈l) (by simp) l.length (fun i o hi ho=>?_) _ (Nat.le_refl _);unfold fb_;split
 ·intro r hr;rw[List.mem_append,List.mem_singleton]at hr;rcases hr with hr|rfl
  ·exact ho r hr
  ·exact EG_ hi
 ·exact ho
structure hu_(s:aH_)(i n:Nat):Prop where
 sto:aJ_ s.sto i
 rq:s.reqs.length≤n
 ut:∀r∈s.reqs,U64 r.tag
 yl:s.rets.length≤3
 tg:U64 s.tag
theorem hu_.a{s:aH_}{i n:Nat}(h:hu_ s i n)(hn:n≤10*i):dO_ s i:=⟨h.sto,Nat.le_trans h.rq hn,h.ut,h.yl,h.tg⟩
theorem dO_.q{s:aH_}{i:Nat}(h:dO_ s i):hu_ s i (10*i):=⟨h.sto,h.rq,h.ut,h.yl,h.tg⟩
theorem hu_.drop{s:aH_}{i n:Nat}(h:hu_ s i n):hu_ (uL_ s) i n:=by
 have h1:=mQ_ s.sto.nodes s.reqs;have h2:=mQ_ s.sto.nodes s.rets;exact⟨h.sto,Nat.le_trans h1.1 h.rq,fun r hr=>h.ut r (h1.2 r hr),Nat.le_trans h2.1 h.yl,h.tg⟩
theorem hu_.open1{s:aH_}{i n:Nat}(h:hu_ s i n)(r:Rt)(k:Int):hu_ (oM_ s r k) i (n+1):=by
 refine⟨h.sto,by show (s.reqs++[_]).length≤_;have:=h.rq;simp;omega,fun x hx=>?_,h.yl,bf_ _⟩;rcases List.mem_append.1 hx with hx|hx
 ·exact h.ut x hx
 ·rw[List.mem_singleton]at hx;rw[hx];exact h.tg
theorem hu_.le{s:aH_}{i n m:Nat}(h:hu_ s i n)(hn:n≤m):hu_ s i m:=⟨h.sto,Nat.le_trans h.rq hn,h.ut,h.yl,h.tg⟩
theorem hu_.opens{s:aH_}{i n:Nat}(h:hu_ s i n)(l:List Rt):hu_ (GL_ s l) i (n+l.length):=by
 refine hr_ (f:=ge_ l) (a:=s) (fun k t=>hu_ t i (n+k)) h l.length (fun k t hk ht=>?_) _ (Nat.le_refl _);unfold ge_;split
 ·exact ht.open1 _ _
 ·exact ht.le (by omega)
theorem hu_.rets{s:aH_}{i n:Nat}(h:hu_ s i n){l:List Req}(hl:l.length≤3):hu_ (eH_ s l) i n:=⟨h.sto,h.rq,h.ut,hl,h.tg⟩
theorem hu_.due{s:aH_}{i n:Nat}(h:hu_ s i n):hu_ (QT_ s) i (n+3):=by
 have key:=hr_ (f:=mw_ s.rets) (a:=eH_ s []) (fun k t=>hu_ t i (n+k)∧t.rets.length≤k) ⟨h.rets (by simp),Nat.le_refl _⟩ s.rets.length (fun k t hk ht=>by
  have:=h.yl;unfold mw_;split
  ·exact⟨(ht.1.rets (by have:=ht.2;simp;omega)).le (by omega),by show (t.rets++[_]).length≤k+1;have:=ht.2;simp;omega⟩
  ·split
   ·exact⟨ht.1.open1 _ _,Nat.le_succ_of_le ht.2⟩
   ·exact⟨ht.1.le (by omega),Nat.le_succ_of_le ht.2⟩) _ (Nat.le_refl _)
 exact key.1.le (by have:=h.yl;omega)
theorem Am_:∀ (k:Nat) (l:List Req),(oQ_ l k).length=l.length
 |0,l=>rfl
 | k + 1, l => by
   unfold oQ_;split
   ·rw[Am_ k];simp
   ·rfl
theorem dO_.later{s:aH_}{i:Nat}(h:dO_ s i)(r:Req):dO_ (vG_ s r) i:=by
 unfold vG_;split
 ·exact h
 ·split
  ·exact⟨h.sto,h.rq,h.ut,h.yl,h.tg⟩
  ·rename_i h2;have:=h.sto.cfg.lr;exact⟨h.sto,h.rq,h.ut,by show (oQ_ _ _).length≤3;rw[Am_];simp;omega,h.tg⟩
theorem IB_(l:List Req)(i:Nat):(rg_ l i).length≤l.length∧∀r∈rg_ l i,r∈l:=by
 unfold rg_;refine⟨by rw[List.length_append,List.length_take,List.length_drop];omega,fun r hr=>?_⟩;rcases List.mem_append.1 hr with hr|hr
 ·exact List.mem_of_mem_take hr
 ·exact List.mem_of_mem_drop hr
theorem dO_.mat{s:aH_}{i:Nat}(h:dO_ s i){v:Vdt}(h2:(dq_ s v).2.2=0):dO_ (dq_ s v).2.1 i:=by
 unfold dq_ at *;split at h2
 ·rename_i k hk;have h1:=IB_ s.reqs k;exact⟨h.sto,Nat.le_trans h1.1 h.rq,fun r hr=>h.ut r (h1.2 r hr),h.yl,h.tg⟩
 ·simp at h2
theorem aJ_.boostV{s:ai_}{i:Nat}(h:aJ_ s i):aJ_ (boostV s) i:=by
 unfold Go.Proofs.YtkgimpdgncakjaaGreat.boostV;split
 ·exact h.withB _
 ·exact h
theorem dO_.verd{s:aH_}{i:Nat}(h:dO_ s i){v:Vdt}(h2:(rj_ s v).2=0∨(rj_ s v).2=21):dO_ (rj_ s v).1 i:=by
 unfold rj_ at *;split at h2
 ·rename_i h3;rw[if_pos h3];exact h
 ·rename_i h3
  rw[if_neg h3];have hm:=h.mat (v:=v) (by simpa using h3);split at h2
  ·rename_i h4;rw[if_pos h4];exact hm.later _
  ·rename_i h4
   rw[if_neg h4];split at h2
   ·rename_i h5;rw[if_pos h5];exact⟨h.sto,h.rq,h.ut,h.yl,h.tg⟩
   ·rename_i h5;rw[if_neg h5];unfold BE_ at *;have h6:=Eb_ (show (gA_ (dq_ s v).2.1.sto.nodes _ v _).2=0 by simpa using h5);exact⟨(hm.sto.judge h6.1 h6.2).boostV,hm.rq,hm.ut,hm.yl,hm.tg⟩
structure OpR(x:VOp):Prop where
 blk:eL_ 0 x.blk
 att:x.att.vals.length≤10
 fst:x.slg.fst.vals.length≤10
 snd:x.slg.snd.vals.length≤10
 tab:x.tab.bals.length≤10
theorem dO_.perf{s:aH_}{i:Nat}(h:dO_ s i)(hi:i<30){x:VOp}(hx:OpR x)(h2:(jw_ s x).2=0∨(jw_ s x).2=21):dO_ (jw_ s x).1 (i+1):=by
 have hu:=h.up (Nat.le_succ i) (by omega);unfold jw_ at *;split at h2
 ·rename_i h3
  rw[if_pos h3];split at h2
  ·rename_i h4;rw[if_pos h4];have ht:=h.sto.tick h4;have hq:hu_ (eG_ s (gi_ s.sto).1) i (10*i):=⟨ht,h.rq,h.ut,h.yl,h.tg⟩;have hd:=hq.drop.due;exact⟨hd.sto.up (Nat.le_succ i) (by omega),by have:=hd.rq;dsimp only;omega,hd.ut,hd.yl,hd.tg⟩
  ·rename_i h4;exact absurd h2 (by intro h5;rcases h5 with h5|h5;exact h4 h5;exact Qf_ _ h5)
 rename_i h3;rw[if_neg h3];clear h3;split at h2
 ·rename_i h3
  rw[if_pos h3];split at h2
  ·rename_i h4;rw[if_pos h4];have ht:=h.sto.block (hx.blk.up (Nat.zero_le i)) h4;have hq:hu_ (eG_ s (aT_ s.sto x.blk).1) i (10*i):=⟨ht.1,h.rq,h.ut,h.yl,h.tg⟩;have hd:=hq.drop.opens (aT_ s.sto x.blk).2.1;have:=ht.2;exact⟨hd.sto.up (Nat.le_succ i) (by omega),by have:=hd.rq;dsimp only;omega,hd.ut,hd.yl,hd.tg⟩
  ·rename_i h4;exact absurd h2 (by intro h5;rcases h5 with h5|h5;exact h4 h5;exact LW_ _ _ h5)
 rename_i h3;rw[if_neg h3];clear h3;split at h2
 ·rename_i h3;rw[if_pos h3];exact⟨(h.sto.att hx.att (h2.resolve_right (QO_ _ _))).up (Nat.le_succ i) (by omega),hu.rq,hu.ut,hu.yl,hu.tg⟩
 rename_i h3;rw[if_neg h3];clear h3;split at h2
 ·rename_i h3;rw[if_pos h3];exact⟨h.sto.slash hx.fst hi (h2.resolve_right (NS_ _ _)),hu.rq,hu.ut,hu.yl,hu.tg⟩
 rename_i h3;rw[if_neg h3];clear h3;split at h2
 ·rename_i h3;rw[if_pos h3];exact⟨(h.sto.reg (h2.resolve_right (Rg_ _ _))).up (Nat.le_succ i) (by omega),hu.rq,hu.ut,hu.yl,hu.tg⟩
 rename_i h3;rw[if_neg h3];clear h3;split at h2
 ·rename_i h3;rw[if_pos h3];exact(h.verd h2).up (Nat.le_succ i) (by omega)
 rename_i h3;rw[if_neg h3];exact hu
theorem dO_.emit{s:aH_}{i:Nat}(h:dO_ s i):dO_ (mx_ s).1 i:=by
 unfold mx_;split
 ·exact h
 ·exact⟨h.sto,h.rq,h.ut,h.yl,h.tg⟩
theorem dO_.step{s:aH_}{i:Nat}(h:dO_ s i)(hi:i<30){x:VOp}(hx:OpR x):dO_ (ni_ s x).1 (i+1):=by
 have hu:=h.up (Nat.le_succ i) (by omega);unfold ni_;split
 ·exact hu
 ·split
  ·exact hu
  ·split
   ·rename_i h3;exact h.perf hi hx (.inr h3)
   ·split
    ·exact hu
    ·rename_i h3 h4;exact(h.perf hi hx (.inl (by simpa using h4))).emit
end Go.Proofs.YtkgimpdgncakjaaGreat
namespace Go.Proofs.YtkgimpdgncakjaaGreat
open Go Go.FH Go.RowKit
set_option linter.unusedVariables false
set_option linter.unusedSimpArgs false
set_option maxRecDepth 8000
set_option maxHeartbeats 4000000
theorem Sm.val{α:Type}{v:α}{F:α→Prop}(h:Sm (fun r=>r=v) F):F v:=by
 obtain⟨r,rfl,h⟩:=h;exact h
theorem Ax_(n:Nat):List.replicate n (bg_ gj_)=rows bg_ (List.replicate n gj_):=NF_ bg_ n gj_
theorem NV_{fr:Fr}{σ:St}{rs:List ep_}{l:List AV}{n:Int}{S:ai_×Int}(hl:ci_ fr σ rs=some l)(hv:fz σ (List.range σ.length) (eD_ l)=.tup [.agg (aj_ eS_),.int .i64 n])(hs:(dd_,n)=S):
 Sm (fun r:ai_×Int=>r=S) fun r=>PQ rs (.tup [.agg (aj_ r.1.a),.int .i64 r.2]) .ret fr σ:=
 ⟨(dd_,n),hs,l,hl,.inr ⟨_,hv,(by simp[PuL,Pu,du_,eS_,aj_,cM_,gP_,cf_,gJ_,dv_,lz_,bm_,cp0]),Wk.tup ⟨CO_,Wk.refl _,trivial⟩⟩⟩
theorem Cm_(x:Sto)(p:Pul):spl (aj_ x) 47 (da_ p)=aj_ { x with j:=p.j,f:=p.f }:=re_ x p.j p.f
theorem Ov_(x:Sto)(l:List (List AV)):Wk (.agg (aj_ { x with eqv:=.sl 0 true [],early:=.sl 0 true [],orph:=.sl 0 true [],tabs:=.sl 34 true l })) (.agg (aj_ { x with eqv:=.sl 1 false [],early:=.sl 67 false [],orph:=.sl 238 false [],tabs:=.sl 34 false l })):=by
 refine Wk.agg ?_;unfold aj_;dsimp only;exact(WkC.refl _).app (.same _ (.cons (Wk.empty _ _ _) (fun h=>h) ((WkC.refl _).app ((WkC.refl _).app (.cons (Wk.empty _ _ _) (fun h=>h) (.cons (Wk.empty _ _ _) (fun h=>h) (.same _ (.same _ ((WkC.refl _).app (.one (Wk.open_ _ _ _) fun h=>h))))))))))
theorem Im_(s:ai_):PuL (aj_ { s.a with eqv:=.sl 0 true [],early:=.sl 0 true [],orph:=.sl 0 true [],tabs:=.sl 34 true (rows au_.c s.tabs) }):=by
 have h:=(jR_ _).1 s.pul;refine(jR_ _).2 ?_;simp only[Sto.Pure,Pu,du_,and_true,true_and]at *;simp[h,fO_]
theorem Nd_(c:bD_)(hb:c.bals.length≤1000000):PC Tryz.prog 66 [.agg (bm_ c.a)] (.tup [.agg (aj_ (vU_ c).1.a),.int .i64 (vU_ c).2]):=by
 refine Sm.val (F:=fun r:ai_×Int=>PC Tryz.prog 66 [.agg (bm_ c.a)] (.tup [.agg (aj_ r.1.a),.int .i64 r.2])) ?_;refine gM_ 9 Dv_ (by simp) puA (fun r _=>puA) ?_;unfold ss_;refine bd ?_;have c1:=sl_ ⟨⟨0,c.gen⟩,c.bals⟩ c.bals.length hb;have c2:=Ki_ (yg_ c.gen) 1;have c3:=uI_ ⟨⟨0,c.gen⟩,c.bals⟩ hb;generalize hV:eF_ ⟨⟨0,c.gen⟩,c.bals⟩ c.bals.length=V at *;have lt:∀ (a b:Int),decide (a > b)=decide (b<a):=fun _ _=>rfl
 iterate 5 (repeat'(first|refine bu_ ?_|(refine aS_ (fun h=>?_) (fun h=>?_)<;>try(exact absurd h (by decide)))|refine cD_ (fun h=>?_) (fun h=>?_));all_goals try refine bE_ (Fv_ _ _ _) ?_)
 repeat'(first|refine bu_ ?_|(refine aS_ (fun h=>?_) (fun h=>?_)<;>try(exact absurd h (by decide)))|refine cD_ (fun h=>?_) (fun h=>?_))
 all_goals try(refine NV_ (by first|rfl|exact evd) (by first|rfl|exact evd) ?_)
 rotate_left 2
 ·refine bE_ c1 ?_
  repeat'(first|refine bu_ ?_|(refine aS_ (fun h=>?_) (fun h=>?_)<;>try(exact absurd h (by decide)))|refine cD_ (fun h=>?_) (fun h=>?_))
  ·refine NV_ (by first|rfl|exact evd) (by first|rfl|exact evd) ?_;(try simp only[Bool.not_false,Bool.not_true,decide_eq_true_eq,decide_eq_false_iff_not,Bool.not_eq_true',Bool.not_eq_false',beq_iff_eq,bne_iff_ne,beq_eq_false_iff_ne,bne_eq_false_iff_eq,ne_eq,Bool.not_eq_true,Bool.not_eq_false,Bool.or_eq_true,Bool.and_eq_true,Bool.or_eq_false_iff]at *)
   (simp only[vU_,hy_, *,reduceIte,Bool.true_eq_false,Bool.false_eq_true,not_true_eq_false,not_false_eq_true,ne_eq,true_and,and_true,false_and,and_false,true_or,or_true,false_or,or_false,Int.reduceEq,if_false,if_true,eq_self,reduceCtorEq,decide_true,decide_false,Bool.and_true,Bool.true_and,Bool.and_false,Bool.false_and,Bool.or_true,Bool.true_or,Bool.or_false,Bool.false_or,Bool.not_true,Bool.not_false])
  ·refine co_ c2 ?_
   refine bu_ ?_;refine co_ c3 ?_;have hrep:List.replicate c.bals.length (bg_ ⟨false,0,rt0⟩)=rows bg_ (List.replicate c.bals.length gj_):=Ax_ _;have ht:List.take c.bals.length (rows bg_ (List.replicate c.bals.length ⟨false,0,rt0⟩))=rows bg_ (List.replicate c.bals.length ⟨false,0,rt0⟩):=List.take_of_length_le (by simp);repeat(first|refine bu_ ?_|simp only[go_sem,hrep,Cm_])
   refine It_ (el_ c,0) ?_ ⟨_,(by first|rfl|exact evd),.inr ⟨.tup [.agg (aj_ { (el_ c).a with eqv:=.sl 0 true [],early:=.sl 0 true [],orph:=.sl 0 true [],tabs:=.sl 34 true (rows au_.c (el_ c).tabs) }),.int .i64 0],?_,⟨Im_ _,trivial,trivial⟩,Wk.tup ⟨Ov_ _ _,Wk.refl _,trivial⟩⟩⟩
   ·(try simp only[Bool.not_false,Bool.not_true,decide_eq_true_eq,decide_eq_false_iff_not,Bool.not_eq_true',Bool.not_eq_false',beq_iff_eq,bne_iff_ne,beq_eq_false_iff_ne,bne_eq_false_iff_eq,ne_eq,Bool.not_eq_true,Bool.not_eq_false,Bool.or_eq_true,Bool.and_eq_true,Bool.or_eq_false_iff]at *)
    (simp only[vU_,hy_, *,reduceIte,Bool.true_eq_false,Bool.false_eq_true,not_true_eq_false,not_false_eq_true,ne_eq,true_and,and_true,false_and,and_false,true_or,or_true,false_or,or_false,Int.reduceEq,if_false,if_true,eq_self,reduceCtorEq,decide_true,decide_false,Bool.and_true,Bool.true_and,Bool.and_false,Bool.false_and,Bool.or_true,Bool.true_or,Bool.or_false,Bool.false_or,Bool.not_true,Bool.not_false])
   ·(try simp only[go_sem,Nat.reduceAdd,Nat.reduceSub,Nat.reduceMul,Nat.reduceLT,Nat.reduceLeDiff,Nat.reduceEqDiff,reduceIte,Int.reduceToNat,Int.reduceLT,Int.reduceLE,Int.reduceEq,Int.reduceNeg,reduceCtorEq,Int.reduceBEq,Int.reduceBNe,List.length_replicate,ht])
    rfl
 all_goals(try simp only[Bool.not_false,Bool.not_true,decide_eq_true_eq,decide_eq_false_iff_not,Bool.not_eq_true',Bool.not_eq_false',beq_iff_eq,bne_iff_ne,beq_eq_false_iff_ne,bne_eq_false_iff_eq,ne_eq,Bool.not_eq_true,Bool.not_eq_false,Bool.or_eq_true,Bool.and_eq_true,Bool.or_eq_false_iff]at *)
 all_goals(simp only[vU_,hy_, *,reduceIte,Bool.true_eq_false,Bool.false_eq_true,not_true_eq_false,not_false_eq_true,ne_eq,true_and,and_true,false_and,and_false,true_or,or_true,false_or,or_false,Int.reduceEq,if_false,if_true,eq_self,reduceCtorEq,decide_true,decide_false,Bool.and_true,Bool.true_and,Bool.and_false,Bool.false_and,Bool.or_true,Bool.true_or,Bool.or_false,Bool.false_or,Bool.not_true,Bool.not_false])
theorem oU_(x:Sto)(v:AV):(aj_ x).set 113 v=aj_ { x with early:=v }:=by
 simp only[aj_,List.set_append,aD_,an_,List.length_cons,Nat.reduceSub,Nat.reduceLT,if_false,List.set_cons_succ,List.set_cons_zero]
theorem oT_(x:Sto):(aj_ x).getD 113 .dead=x.early:=by
 simp only[aj_,List.getD_eq_getElem?_getD,List.getElem?_append,aD_,an_,List.length_cons,Nat.reduceSub,Nat.reduceLT,if_false,List.getElem?_cons_succ,List.getElem?_cons_zero,Option.getD_some]
theorem FL_(s:ai_)(a:aG_)(h:StR s)(ha:a.vals.length≤1000000)(hj:∀j∈a.vals,0≤j∧j<s.latest.length)(l:List aG_)(n:Nat):
 ap_ Tryz.prog 47 [.agg (aj_ { s.a with early:=.hs 67 0 0 n }),.agg (bi_ a.a)] [.vec 67 (rows aG_.c l)] (.agg (aj_ { (castIn s a).a with early:=.hs 67 0 0 n })) [.vec 67 (rows aG_.c l)]:=by
 refine ap_.fact 6 mG_ (by simp) ?_ (by simp);unfold it_;refine bd ?_;have c1:=zk_ s.latest a.target.ep a.root a.vals h.bl ha hj;unfold castIn;generalize uB_ s.latest a.target.ep a.root a.vals=C at *;obtain⟨C1,C2⟩:=C;dsimp only at c1 ⊢;try refine aa_ ?_
 refine Sv_ c1 ?_
 exact SM_ [] [0]
theorem Dg_(s:ai_)(a:aG_)(h:StR s)(ha:a.vals.length≤1000000):
 ap_ Tryz.prog 46 [.agg (aj_ { s.a with early:=.hs 67 0 0 s.early.length }),.agg (bi_ a.a)] [.vec 67 (rows aG_.c s.early)] (.tup [.bool (cq_ s a).1,.int .i64 (cq_ s a).2]) [.vec 67 (rows aG_.c s.early)]:=by
 refine ap_.lend rfl ?_;have ht:List.take s.early.length (rows aG_.c s.early)=rows aG_.c s.early:=List.take_of_length_le (by simp);(try simp only[go_sem,ht,List.length_cons,List.length_nil,List.range_succ,List.range_zero])
 exact sy_ s a h ha
theorem jM_{fr:Fr}{σ:St}{rs:List ep_}{l:List AV}{n:Int}(hl:ci_ fr σ rs=some l)(hv:fz σ (List.range σ.length) (eD_ l)=.tup [.agg (aj_ eS_),.int .i64 n]):PQ rs (.tup [.agg (aj_ dd_.a),.int .i64 n]) .ret fr σ:=
 ⟨l,hl,.inr ⟨_,hv,(by simp[PuL,Pu,du_,eS_,aj_,cM_,gP_,cf_,gJ_,dv_,lz_,bm_,cp0]),Wk.tup ⟨CO_,Wk.refl _,trivial⟩⟩⟩
def bI_(s:ai_)(k:Nat):ai_:=aw_ (tickR s.early) (withE s []) k
theorem IC_(s:ai_)(k:Nat):bI_ s (k+1)=tickR s.early k (bI_ s k):=rfl
theorem Lq_(s:ai_)(m:Nat)(h:aJ_ s m):PC Tryz.prog 12 [.agg (aj_ s.a)] (.tup [.agg (aj_ (gi_ s).1.a),.int .i64 (gi_ s).2]):=by
 refine PC.fact 9 Br_ (by simp) puA puA ?_;unfold qd_;refine bd ?_;unfold gi_;have hsp:=h.cfg.s1;have hs4:=h.cfg.s4;by_cases q1:1099511627776≤s.now
 ·have e1:decide ((1099511627776:Int)≤s.now)=true:=decide_eq_true q1;rw[if_pos q1];repeat(first|refine aa_ ?_|simp only[go_sem,e1])
  refine Rn_ ?_
  exact jM_ (by first|rfl|exact evd) (by first|rfl|exact evd)
 have e1:decide ((1099511627776:Int)≤s.now)=false:=decide_eq_false q1;rw[if_neg q1];have hA:=h.tickA q1;have hB:=hA.tickB;have c1:=Kr_ (tickA s) hA.r.bn;have c2:=wO_ (tickA s) (fp_ (tickA s)).j (fp_ (tickA s)).f hA.r
 have hmod:IntKind.u64.wrap (Int.tmod (tickA s).now (tickA s).cfg.spe)=Int.tmod (tickA s).now (tickA s).cfg.spe:=by
  have hn:=hA.nw.1;have hsp':1≤(tickA s).cfg.spe:=hsp;rw[Int.tmod_eq_emod_of_nonneg hn.lo];have h1:=Int.emod_nonneg (tickA s).now (show (tickA s).cfg.spe≠0 by omega);have h2:=Int.emod_lt_of_pos (tickA s).now (show 0<(tickA s).cfg.spe by omega);have hs4':(tickA s).cfg.spe≤4:=hs4;exact aF_ h1 (by omega)
 have hT1:Int.tmod (tickA s).now (tickA s).cfg.spe=0→tickB (tickA s)=bp_ (tickA s) (fp_ (tickA s)).j (fp_ (tickA s)).f:=fun hz=>by unfold tickB;rw[hmod,if_pos hz]
 have hT2:Int.tmod (tickA s).now (tickA s).cfg.spe≠0→tickB (tickA s)=tickA s:=fun hz=>by unfold tickB;rw[hmod,if_neg hz]
 show Tri _ _ _ _ (PQ _ (.tup [.agg (aj_ (bI_ (tickB (tickA s)) (tickB (tickA s)).early.length).a),.int .i64 0])) _ _
 generalize tickB (tickA s)=S2 at *;repeat(first|refine aa_ ?_|simp only[go_sem,e1])
 refine Rm_ ?_
 refine ks_ (fun _=>[]) (fun _=>[.var (aj_ S2.a),.var (aj_ eS_)]) (fun hT=>?_) (fun hF=>?_) ?_
 ·rw[hT1 (by rw[beq_iff_eq]at hT;exact hT)];try refine aa_ ?_
  refine Sv_ c1 ?_
  refine Sv_ c2 ?_
  exact ST_ [] [0,1]
 ·rw[hT2 (by rw[beq_eq_false_iff_ne]at hF;exact hF)];try refine aa_ ?_
  exact ST_ [] [0,1]
 clear hT1 hT2 hmod c1 c2;try refine aa_ ?_
 refine iW_ 0 113 67 ?_ (by rfl) (by exact oT_ _);simp only[go_sem,oU_];have hK:∀k,k≤S2.early.length→aJ_ (bI_ S2 k) m∧(bI_ S2 k).early.length≤k:=aJ_.tickR hB.av hB.aa hB
 have hz:bI_ S2 0=withE S2 []:=rfl;have haa:=hB.aa;refine ao_ (fun i:Nat=>[(6,.int .i64 i)]) (fun i=>[.var (aj_ { (bI_ S2 i).a with early:=.hs 67 2 0 (bI_ S2 i).early.length }),.var (aj_ eS_),.vec 67 (rows aG_.c (bI_ S2 i).early)]) (fun i=>S2.early.length-i) (fun i=>i≤S2.early.length) 0 (Nat.zero_le _) ?_ ?_
 ·rw[hz];unfold withE;exact ST_ [] [0,1,2]
 intro i hk;obtain⟨hki,hkl⟩:=hK i hk;have hsk:=IC_ S2 i;refine cC_ ?_;by_cases h1:i<S2.early.length
 ·have e1:=inT h1
  have hw:=af_ h1 (by omega);have hgd:(rows aG_.c S2.early).getD i []=bi_ (dD_ S2.early i).a:=aB_ (f:=aG_.c) default h1;have hav:=hB.av _ (uj_ h1);have hc:tickR S2.early i (bI_ S2 i)=if (bI_ S2 i).now≤(dD_ S2.early i).slot then withE (bI_ S2 i) ((bI_ S2 i).early++[dD_ S2.early i])else if (cq_ (bI_ S2 i) (dD_ S2.early i)).2=0 then castIn (bI_ S2 i) (dD_ S2.early i)else bI_ S2 i:=rfl
  have c1:=Dg_ (bI_ S2 i) (dD_ S2.early i) hki.r (by omega);have c2:=fun hj=>FL_ (bI_ S2 i) (dD_ S2.early i) hki.r (by omega) hj (bI_ S2 i).early (bI_ S2 i).early.length
  have hj:(cq_ (bI_ S2 i) (dD_ S2.early i)).2=0→∀j∈(dD_ S2.early i).vals,0≤j∧j<(bI_ S2 i).latest.length:=fun hq j hjm=>by
   have hv:cV_ (dD_ S2.early i).vals (bI_ S2 i).cfg.bals.length=0:=by
    unfold cq_ at hq;split at hq
    ·rename_i h1;exact absurd hq h1
    ·rename_i h1;simpa using h1
   obtain⟨u,hm,rfl⟩:=List.getElem_of_mem hjm;have:=(gN_ hv).2 u hm;rw[List.getD_eq_getElem?_getD,List.getElem?_eq_getElem hm,Option.getD_some]at this;have hll:=hki.ll;omega
  clear hK;have hcl:(castIn (bI_ S2 i) (dD_ S2.early i)).early=(bI_ S2 i).early:=rfl;rw[hc]at hsk;generalize hs:bI_ S2 i=s1 at *;generalize dD_ S2.early i=a at *;have hr:rows aG_.c s1.early++[bi_ a.a]=rows aG_.c (s1.early++[a]):=bF_ aG_.c s1.early a;generalize hR:cq_ s1 a=R at *;obtain⟨R1,R2⟩:=R;dsimp only at c1 hsk hj;repeat(first|refine aa_ ?_|simp only[go_sem,e1])
  refine ac_ ?_;repeat(first|refine aa_ ?_|simp only[go_sem,hgd])
  by_cases q2:s1.now≤a.slot
  ·have e2:decide (s1.now≤a.slot)=true:=decide_eq_true q2;rw[if_pos q2]at hsk;repeat(first|refine aa_ ?_|simp only[go_sem,e2])
   refine ac_ ?_;repeat(first|refine aa_ ?_|simp only[go_sem,hgd,hr,hw])
   refine⟨i+1,h1,by omega,?_⟩;rw[hsk];unfold withE;exact ST_ [] [0,1,3]
  ·have e2:decide (s1.now≤a.slot)=false:=decide_eq_false q2
   rw[if_neg q2]at hsk;repeat(first|refine aa_ ?_|simp only[go_sem,e2])
   refine ab_ ?_;repeat(first|refine aa_ ?_|simp only[go_sem,hgd])
   refine FY_ [2] (c1) evd (aV_.mk' (by simp) evd) ?_;refine evg ?_;try refine aa_ ?_
   by_cases q3:R2=0
   ·rw[if_pos q3]at hsk;subst q3;have c3:=c2 (hj rfl);generalize hcs:castIn s1 a=s3 at *;try refine aa_ ?_
    refine ac_ ?_;repeat(first|refine aa_ ?_|simp only[go_sem,hgd])
    refine Qq_ [2] (c3) (by simp) evd (aV_.mk' (by simp) evd) ?_;refine evg ?_;repeat(first|refine aa_ ?_|simp only[go_sem,hw])
    refine⟨i+1,h1,by omega,?_⟩;rw[hsk,hcl];exact ST_ [] [0,1,2]
   ·have e3:(R2==0)=false:=by simp[q3]
    rw[if_neg q3]at hsk;repeat(first|refine aa_ ?_|simp only[go_sem,e3])
    refine ab_ ?_;repeat(first|refine aa_ ?_|simp only[go_sem,hw])
    refine⟨i+1,h1,by omega,?_⟩;rw[hsk];exact ST_ [] [0,1,2]
 ·obtain rfl:i=S2.early.length:=by omega
  have e1:=inF (S2.early.length);generalize bI_ S2 S2.early.length=s1 at *;have ht:List.take s1.early.length (rows aG_.c s1.early)=rows aG_.c s1.early:=List.take_of_length_le (by simp);repeat(first|refine aa_ ?_|simp only[go_sem,e1])
  refine Rm_ ?_
  refine⟨_,(by first|rfl|exact evd),.inl ?_⟩;(try simp only[go_sem,Nat.reduceAdd,Nat.reduceSub,Nat.reduceMul,Nat.reduceLT,Nat.reduceLeDiff,Nat.reduceEqDiff,reduceIte,Int.reduceToNat,Int.reduceLT,Int.reduceLE,Int.reduceEq,Int.reduceNeg,reduceCtorEq,Int.reduceBEq,Int.reduceBNe,ht])
  rfl
end Go.Proofs.YtkgimpdgncakjaaGreat
