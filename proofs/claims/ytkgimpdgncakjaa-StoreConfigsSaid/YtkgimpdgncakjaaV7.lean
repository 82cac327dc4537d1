/-
 My texts Lw, Lx, Ly, Lz, joined.
-/
import Derived.Test.YtkgimpdgncakjaaV6
import Derived.Test.YtkgimpdgncakjaaW3
namespace Go.Proofs.Ytkgimpdgncakjaa
open Go Go.FH Go.RowKit
set_option linter.unusedVariables false
set_option linter.unusedSimpArgs false
def WdG(w:Wd):Prop:=∀n∈w.1,0≤n∧n<18446744073709551616
def ys_:Rt:=(rt0.set 0 100).set 31 188
structure gN_(i:Nat)(x:Blk):Prop where
 slot:U64 x.slot
 just:U64 x.just.ep
 fin:U64 x.fin.ep
 j:U64 x.pul.j.ep
 f:U64 x.pul.f.ep
 rt:i≤24→x.root≠ys_
theorem gN_.up{i k:Nat}{b:Blk}(h:gN_ i b)(hk:i≤k):gN_ k b:=⟨h.slot,h.just,h.fin,h.j,h.f,fun h2=>h.rt (by omega)⟩
theorem gN_.u{i:Nat}{b:Blk}(h:gN_ i b):DR_ b:=⟨h.slot,h.just,h.fin,h.j,h.f⟩
def NwR(i:Nat)(n:Int):Prop:=U64 n∧(i≤24→n≤1099511627776)
theorem NwR.up{i k:Nat}{n:Int}(h:NwR i n)(hk:i≤k):NwR k n:=⟨h.1,fun h2=>h.2 (by omega)⟩
structure DS_(c:aX_):Prop where
 s1:1≤c.spe
 s4:c.spe≤4
 b0:0<c.bals.length
 b1:c.bals.length≤6
 ln:c.lim.node≤13
 lo:c.lim.orph≤3
 la:c.lim.early≤3
 lt:c.lim.table≤4
 lr:c.lim.retry≤3
 tt:WdG c.ttd
 gn:c.gen≠ys_
structure aH_(s:ag_)(i:Nat):Prop where
 cfg:DS_ s.cfg
 tree:cd_ s.nodes
 jf:0≤al_ s.nodes s.j.rt
 ll:s.latest.length=s.cfg.bals.length
 nn:s.nodes.length≤13
 un:∀n∈s.nodes,gN_ i n.blk
 oo:s.orph.length≤3
 uo:∀b∈s.orph,gN_ i b
 aa:s.early.length≤3
 av:∀a∈s.early,a.vals.length≤10
 tt:s.tabs.length≤4
 tb:∀t∈s.tabs,t.bals.length≤6
 qq:s.eqv.length≤10*i
 uj:U64 s.j.ep
 uf:U64 s.f.ep
 nw:NwR i s.now
 ii:i≤30
theorem aH_.r{s:ag_}{i:Nat}(h:aH_ s i):StR s:=by
 have h1:=h.cfg.s1;have h2:=h.cfg.b1;have h3:=h.nn;have h4:=h.qq;have h5:=h.ii;have h6:=h.ll;have h7:=h.tt;have h8:=h.oo;have h9:=h.aa;have h10:=h.cfg.ln;exact⟨h.tree,by omega,by omega,by omega,by omega,by omega,fun t ht=>by have:=h.tb t ht;omega,by omega,by omega,by omega,h6,h.jf⟩
theorem aH_.up{s:ag_}{i k:Nat}(h:aH_ s i)(h1:i≤k)(h2:k≤30):aH_ s k:=by
 obtain⟨a,b,c,d,e,f,g,j,l,m,n,o,p,q,r,t,u⟩:=h;exact⟨a,b,c,d,e,fun x hx=>(f x hx).up h1,g,fun x hx=>(j x hx).up h1,l,m,n,o,by omega,q,r,t.up h1,h2⟩
theorem gM_(n:Int):U64 (IntKind.u64.wrap n):=by rw[uB_];exact⟨by omega,by omega⟩
theorem dy_{α:Type}{l:List α}{i:Nat}(d:α)(h:i<l.length):l.getD i d∈l:=by
 rw[List.getD_eq_getElem?_getD,List.getElem?_eq_getElem h];exact List.getElem_mem h
theorem aH_.blk{s:ag_}{i:Nat}(h:aH_ s i){k:Nat}(hk:k<s.nodes.length):gN_ i (nod s.nodes k).blk:=h.un _ (dy_ _ hk)
theorem rI_{t:List Nod}{n:Nod}(h:n∈t):∃k,k<t.length∧nod t k=n:=by
 obtain⟨k,hk,he⟩:=List.getElem_of_mem h;exact⟨k,hk,by unfold nod;rw[List.getD_eq_getElem?_getD,List.getElem?_eq_getElem hk];exact he⟩
theorem Dr_(s:ag_)(j f:Cp):(cN_ s j f).cfg=s.cfg:=by unfold cN_;(repeat' split)<;>rfl
theorem Ds_(s:ag_)(j f:Cp):(cN_ s j f).eqv=s.eqv:=by unfold cN_;(repeat' split)<;>rfl
theorem qS_(s:ag_)(j f:Cp):(cN_ s j f).early=s.early:=by unfold cN_;(repeat' split)<;>rfl
theorem Dt_(s:ag_)(j f:Cp):(cN_ s j f).now=s.now:=by unfold cN_;(repeat' split)<;>rfl
theorem xZ_(l:List Blk)(a:Int):∀b∈bd_ (kE_ l a) [] l.length,b∈l:=by
 refine fU_ (f:=kE_ l a) (a:=[]) (fun _ o=>∀t∈o,t∈l) (by simp) l.length (fun i o hi ho=>?_) _ (Nat.le_refl _);unfold kE_;split
 ·intro t ht;rw[List.mem_append,List.mem_singleton]at ht;rcases ht with ht|rfl
  ·exact ho t ht
  ·exact dy_ _ hi
 ·exact ho
theorem BF_(s:ag_)(j f:Cp):(cN_ s j f).orph.length≤s.orph.length∧∀b∈(cN_ s j f).orph,b∈s.orph:=by
 unfold cN_;split
 ·exact⟨Nat.le_refl _,fun b hb=>hb⟩
 ·split
  ·exact⟨Nat.le_refl _,fun b hb=>hb⟩
  ·exact⟨li_ _ _ _,xZ_ _ _⟩
theorem BG_(s:ag_)(j f:Cp):(cN_ s j f).tabs.length≤s.tabs.length∧∀b∈(cN_ s j f).tabs,b∈s.tabs:=by
 unfold cN_;split
 ·exact⟨Nat.le_refl _,fun b hb=>hb⟩
 ·split
  ·exact⟨gV_ _ _,gW_ _ _⟩
  ·exact⟨gV_ _ _,gW_ _ _⟩
theorem zg_{s:ag_}(h:cd_ s.nodes)(j f:Cp):(cN_ s j f).nodes.length≤s.nodes.length∧∀n∈(cN_ s j f).nodes,∃m,m<s.nodes.length∧n.blk=(nod s.nodes m).blk:=by
 have key:∀n∈s.nodes,∃m,m<s.nodes.length∧n.blk=(nod s.nodes m).blk:=fun n hn=>by
  obtain⟨k,hk,he⟩:=rI_ hn;exact⟨k,hk,by rw[he]⟩
 unfold cN_;split
 ·exact⟨Nat.le_refl _,key⟩
 ·split
  ·exact⟨Nat.le_refl _,key⟩
  ·refine⟨nW_ h _,fun n hn=>?_⟩;obtain⟨k,hk,he⟩:=rI_ hn;obtain⟨m,hm,hb⟩:=vK_ h _ k hk;exact⟨m,hm,by rw[←he];exact hb⟩
theorem gr_{a b:Cp}(h1:U64 a.ep)(h2:U64 b.ep):U64 (cA_ a b).ep:=by unfold cA_;split<;>assumption
theorem ED_{s:ag_}(j f:Cp)(h1:U64 s.j.ep)(h2:U64 s.f.ep)(h3:U64 j.ep)(h4:U64 f.ep):U64 (cN_ s j f).j.ep∧U64 (cN_ s j f).f.ep:=by
 unfold cN_;split
 ·exact⟨h1,h2⟩
 ·split
  ·exact⟨gr_ h1 h3,gr_ h2 h4⟩
  ·exact⟨gr_ h1 h3,gr_ h2 h4⟩
theorem aH_.upd{s:ag_}{i:Nat}(h:aH_ s i){j f:Cp}(hj:U64 j.ep)(hf:U64 f.ep):aH_ (cN_ s j f) i:=by
 have h1:=h.r.upd j f;have h2:=zg_ h.tree j f;have h3:=BF_ s j f;have h4:=BG_ s j f;have h5:=ED_ j f h.uj h.uf hj hf;refine⟨by rw[Dr_];exact h.cfg,h1.tree,h1.jf,h1.ll,Nat.le_trans h2.1 h.nn,fun n hn=>?_,Nat.le_trans h3.1 h.oo,fun b hb=>h.uo b (h3.2 b hb),by rw[qS_];exact h.aa,by rw[qS_];exact h.av,Nat.le_trans h4.1 h.tt,fun t ht=>h.tb t (h4.2 t ht),by rw[Ds_];exact h.qq,h5.1,h5.2,by rw[Dt_];exact h.nw,h.ii⟩;obtain⟨m,hm,he⟩:=h2.2 n hn;rw[he];exact h.blk hm
theorem aH_.withE{s:ag_}{i:Nat}(h:aH_ s i){l:List aB_}(h1:l.length≤3)(h2:∀a∈l,a.vals.length≤10):aH_ (withE s l) i:=
 ⟨h.cfg,h.tree,h.jf,h.ll,h.nn,h.un,h.oo,h.uo,h1,h2,h.tt,h.tb,h.qq,h.uj,h.uf,h.nw,h.ii⟩
theorem aH_.withL{s:ag_}{i:Nat}(h:aH_ s i){l:List Vot}(h1:l.length=s.latest.length):aH_ (withL s l) i:=
 ⟨h.cfg,h.tree,h.jf,h1.trans h.ll,h.nn,h.un,h.oo,h.uo,h.aa,h.av,h.tt,h.tb,h.qq,h.uj,h.uf,h.nw,h.ii⟩
theorem aH_.withB{s:ag_}{i:Nat}(h:aH_ s i)(r:Rt):aH_ (withB s r) i:=
 ⟨h.cfg,h.tree,h.jf,h.ll,h.nn,h.un,h.oo,h.uo,h.aa,h.av,h.tt,h.tb,h.qq,h.uj,h.uf,h.nw,h.ii⟩
theorem aH_.withO{s:ag_}{i:Nat}(h:aH_ s i){l:List Blk}(h1:l.length≤3)(h2:∀b∈l,gN_ i b):aH_ (withO s l) i:=
 ⟨h.cfg,h.tree,h.jf,h.ll,h.nn,h.un,h1,h2,h.aa,h.av,h.tt,h.tb,h.qq,h.uj,h.uf,h.nw,h.ii⟩
theorem aH_.withT{s:ag_}{i:Nat}(h:aH_ s i){l:List as_}(h1:l.length≤4)(h2:∀t∈l,t.bals.length≤6):aH_ (withT s l) i:=
 ⟨h.cfg,h.tree,h.jf,h.ll,h.nn,h.un,h.oo,h.uo,h.aa,h.av,h1,h2,h.qq,h.uj,h.uf,h.nw,h.ii⟩
theorem aH_.castIn{s:ag_}{i:Nat}(h:aH_ s i)(a:aB_):aH_ (castIn s a) i:=h.withL (kr_ _ _ _ _ _)
theorem aH_.tickA{s:ag_}{i:Nat}(h:aH_ s i)(h3:¬1099511627776≤s.now):aH_ (tickA s) i:=
 ⟨h.cfg,h.tree,h.jf,h.ll,h.nn,h.un,h.oo,h.uo,h.aa,h.av,h.tt,h.tb,h.qq,h.uj,h.uf,⟨gM_ _,fun _=>by have:=h.nw.1.lo;show IntKind.u64.wrap (s.now+1)≤_;rw[aW_ (by omega) (by omega)];omega⟩,h.ii⟩
theorem wJ_{i:Nat}{s:ag_}(h:∀k,k<s.nodes.length→gN_ i (nod s.nodes k).blk):U64 (fd_ s).j.ep∧U64 (fd_ s).f.ep:=by
 refine fU_ (f:=qA_ s.nodes) (a:=(tU_,false)) (fun _ p=>U64 p.1.j.ep∧U64 p.1.f.ep) ⟨⟨by decide,by decide⟩,⟨by decide,by decide⟩⟩ s.nodes.length (fun k p hk hp=>?_) _ (Nat.le_refl _);unfold qA_;split
 ·exact hp
 ·refine⟨?_,?_⟩
  ·dsimp only;split
   ·exact(h k hk).j
   ·exact hp.1
  ·dsimp only;split
   ·exact(h k hk).f
   ·exact hp.2
theorem aH_.tickB{s:ag_}{i:Nat}(h:aH_ s i):aH_ (tickB s) i:=by
 unfold Go.Proofs.Ytkgimpdgncakjaa.tickB;split
 ·have:=wJ_ (s:=s) fun k hk=>h.blk hk
  exact h.upd this.1 this.2
 ·exact h
theorem sN_{l:List aB_}{k:Nat}(h:k<l.length):dG_ l k∈l:=dy_ _ h
theorem aH_.tickR{l:List aB_}(hl:∀a∈l,a.vals.length≤10)(h3:l.length≤3){s:ag_}{i:Nat}(h:aH_ s i):∀k,k≤l.length→aH_ (bd_ (tickR l) (Go.FH.withE s []) k) i∧(bd_ (tickR l) (Go.FH.withE s []) k).early.length≤k
 |0,_=>⟨h.withE (by simp) (by simp),Nat.le_refl _⟩
 | k + 1, hk => by
   obtain⟨h1,h2⟩:=aH_.tickR hl h3 h k (by omega);rw[dq_];generalize bd_ (Go.Proofs.Ytkgimpdgncakjaa.tickR l) (Go.FH.withE s []) k=t at *;unfold Go.Proofs.Ytkgimpdgncakjaa.tickR;split
   ·refine⟨h1.withE (by simp;omega) (fun a ha=>?_),by show (t.early++[dG_ l k]).length≤k+1;simp;omega⟩;rw[List.mem_append,List.mem_singleton]at ha;rcases ha with ha|rfl
    ·exact h1.av a ha
    ·exact hl _ (sN_ (by omega))
   ·split
    ·exact⟨h1.castIn _,Nat.le_succ_of_le h2⟩
    ·exact⟨h1,Nat.le_succ_of_le h2⟩
theorem aH_.tickC{s:ag_}{i:Nat}(h:aH_ s i):aH_ (tickC s s.early) i:=(aH_.tickR h.av h.aa h _ (Nat.le_refl _)).1
theorem aH_.tick{s:ag_}{i:Nat}(h:aH_ s i)(h2:(fT_ s).2=0):aH_ (fT_ s).1 i:=by
 unfold fT_ at *;split at h2
 ·simp at h2
 ·rename_i h3;rw[if_neg h3];exact(h.tickA h3).tickB.tickC
structure EM_(s:ag_)(b:Blk):Prop where
 root:b.root≠rt0
 kn:rG_ s b.root=false
 par:0≤al_ s.nodes b.parent
 slot:(nod s.nodes (al_ s.nodes b.parent).toNat).blk.slot<b.slot
 lim:(s.nodes.length:Int)<s.cfg.lim.node
theorem xx_ {s : ag_} {b : Blk} (h : fG_ s b = 0) : EM_ s b := by
 unfold fG_ at h;split at h
 ·simp at h
 ·split at h
  ·simp at h
  ·split at h
   ·simp at h
   ·split at h
    ·simp at h
    ·split at h
     ·simp at h
     ·split at h
      ·simp at h
      ·split at h
       ·simp at h
       ·split at h
        ·simp at h
        ·split at h
         ·simp at h
         ·split at h
          ·simp at h
          ·exact⟨by assumption,by simpa using ‹¬rG_ s b.root=true›,by omega,by omega,by omega⟩
theorem Bx_(b:Blk):0≤jC_ b∧jC_ b≤2:=by unfold jC_;split<;>exact⟨by decide,by decide⟩
theorem Cl_{s:ag_}{b:Blk}(h:EM_ s b)(hn:s.cfg.lim.node≤4096):(lh_ s.nodes b (jC_ b)).2=0:=by
 have h1:=h.kn;unfold rG_ at h1;have h2:decide (0≤al_ s.nodes b.root)=false:=by simp at h1;simpa using h1.2
 have h3:=of_decide_eq_false h2;have h4:=h.par;have h5:=h.slot;have h6:=h.lim;unfold lh_;rw[if_neg (by simp[Bx_ b]),if_neg h3,if_neg (by omega),if_neg (by omega),if_neg (by omega)]
theorem xK_{t:List Nod}{n:Nod}{r:Rt}(h:0≤al_ t r):0≤al_ (t++[n]) r:=by
 obtain⟨h1,h2⟩:=kz_ h;exact iE_ (k:=(al_ t r).toNat) (by simp;omega) (by rw[gg_,if_pos h1];exact h2)
theorem aH_.insN{s:ag_}{i:Nat}(h:aH_ s i){b:Blk}(hc:fG_ s b=0)(hb:gN_ i b):aH_ (lR_ s (lh_ s.nodes b (jC_ b)).1) i:=by
 have h1:=xx_ hc;have h2:=Cl_ h1 (by have:=h.cfg.ln;omega);have h3:=(wB_ h2).1;have h4:=h.tree.ins h2;have h5:=h1.lim;have h6:=h.cfg.ln;rw[h3]at h4 ⊢;refine⟨h.cfg,h4,xK_ h.jf,h.ll,by show (s.nodes++[_]).length≤13;simp;omega,fun n hn=>?_,h.oo,h.uo,h.aa,h.av,h.tt,h.tb,h.qq,h.uj,h.uf,h.nw,h.ii⟩;rcases List.mem_append.1 hn with hn|hn
 ·exact h.un n hn
 ·rw[List.mem_singleton]at hn;rw[hn];exact hb
theorem aH_.ins{s:ag_}{i:Nat}(h:aH_ s i){b:Blk}(hc:fG_ s b=0)(hb:gN_ i b):aH_ (Aq_ s b) i:=by
 have h1:=(h.insN hc hb).upd hb.just hb.fin;unfold Aq_;split
 ·exact h1.upd hb.j hb.f
 ·exact h1
theorem yV_(l:List Blk)(i:Nat):∀b∈takeO l i,b∈l:=fun b hb=>by
 unfold takeO at hb;rcases List.mem_append.1 hb with hb|hb
 ·exact List.mem_of_mem_take hb
 ·exact List.mem_of_mem_drop hb
theorem BA_(l:List Blk)(i:Nat):(takeO l i).length≤l.length:=by
 unfold takeO;rw[List.length_append,List.length_take,List.length_drop];omega
theorem aH_.takeO{s:ag_}{i:Nat}(h:aH_ s i)(k:Nat):aH_ (Go.FH.withO s (takeO s.orph k)) i:=h.withO (Nat.le_trans (BA_ _ _) h.oo) fun b hb=>h.uo b (yV_ _ _ b hb)
theorem aH_.waitR{p:ag_×List Rt}{i:Nat}(h:aH_ p.1 i)(h0:0≤ht_ p.1):aH_ (waitR p).1 i:=by
 have h1:=BJ_ p.1;have h2:=h.takeO (ht_ p.1).toNat
 unfold Go.Proofs.Ytkgimpdgncakjaa.waitR;split
 ·rename_i hc;exact h2.ins hc (h.uo _ (dy_ _ (by omega)))
 ·exact h2
theorem aH_.waitG{i:Nat}:∀ (f:Nat) {p:ag_×List Rt},aH_ p.1 i→aH_ (waitG f p).1 i
 |0,_,h=>h
 | f + 1, p, h => by
   unfold Go.Proofs.Ytkgimpdgncakjaa.waitG;split
   ·exact h
   ·exact aH_.waitG f (h.waitR (by omega))
theorem zn_(p:ag_×List Rt):(waitR p).2.length≤p.2.length+1:=by
 unfold waitR;split<;>simp
theorem qV_:∀ (f:Nat) (p:ag_×List Rt),(waitG f p).2.length≤p.2.length+f
 |0,p=>Nat.le_refl _
 | f + 1, p => by
   unfold waitG;split
   ·omega
   ·have h1:=qV_ f (waitR p);have h2:=zn_ p;omega
theorem Fo_{i:Nat}{b:Blk}(h:gN_ i b):gN_ i (noT b):=⟨h.slot,h.just,h.fin,h.j,h.f,h.rt⟩
theorem aH_.blockI{s:ag_}{i:Nat}(h:aH_ s i){b:Blk}(hc:fG_ s b=0)(hb:gN_ i b):aH_ (blockI s b) i:=by
 unfold Go.Proofs.Ytkgimpdgncakjaa.blockI;split
 ·exact(h.ins hc hb).withB _
 ·exact h.ins hc hb
theorem aH_.block{s:ag_}{i:Nat}(h:aH_ s i){b:Blk}(hb:gN_ i b)(h2:(en_ s b).2.2=0):aH_ (en_ s b).1 i∧(en_ s b).2.1.length≤5:=by
 unfold en_ at *;split at h2
 ·rename_i h3
  rw[if_pos h3];split at h2
  ·simp at h2
  ·rename_i h4;rw[if_neg h4];have:=h.cfg.lo;refine⟨h.withO (by simp;omega) (fun x hx=>?_),by simp⟩;rw[List.mem_append,List.mem_singleton]at hx;rcases hx with hx|rfl
   ·exact h.uo x hx
   ·exact Fo_ hb
 ·rename_i h3
  rw[if_neg h3];split at h2
  ·rename_i h4;exact absurd h2 h4
  ·rename_i h4;rw[if_neg h4];have h5:=h.blockI (by simpa using h4) hb;have h6:=h5.oo;refine⟨aH_.waitG _ h5,?_⟩;have:=qV_ ((Go.Proofs.Ytkgimpdgncakjaa.blockI s b).orph.length+1) (Go.Proofs.Ytkgimpdgncakjaa.blockI s b,[b.root]);dsimp only at this ⊢;simp at this;omega
theorem aH_.att{s:ag_}{i:Nat}(h:aH_ s i){a:aB_}(ha:a.vals.length≤10)(h2:(re_ s a).2=0):aH_ (re_ s a).1 i:=by
 unfold re_ at *;split at h2
 ·rename_i h3;exact absurd h2 h3
 ·rename_i h3
  rw[if_neg h3];split at h2
  ·rename_i h4;rw[if_pos h4];exact h.castIn a
  ·rename_i h4
   rw[if_neg h4];split at h2
   ·simp at h2
   ·rename_i h5;rw[if_neg h5];have:=h.cfg.la;refine h.withE (by simp;omega) (fun x hx=>?_);rw[List.mem_append,List.mem_singleton]at hx;rcases hx with hx|rfl
    ·exact h.av x hx
    ·exact ha
theorem aH_.slash{s:ag_}{i:Nat}(h:aH_ s i){x:cn_}(hx:x.fst.vals.length≤10)(hi:i<30)(h2:(jZ_ s x).2=0):aH_ (jZ_ s x).1 (i+1):=by
 unfold jZ_ at *;split at h2
 ·rename_i h3;exact absurd h2 h3
 ·rename_i h3
  rw[if_neg h3];split at h2
  ·simp at h2
  ·rename_i h4;rw[if_neg h4];have h5:=sU_ x.fst.vals x.snd.vals x.fst.vals.length;have h6:=wM_ s.eqv (jJ_ x.fst.vals x.snd.vals x.fst.vals.length) (jJ_ x.fst.vals x.snd.vals x.fst.vals.length).length;have h7:=h.qq;exact⟨h.cfg,h.tree,h.jf,h.ll,h.nn,fun x hx=>(h.un x hx).up (Nat.le_succ i),h.oo,fun x hx=>(h.uo x hx).up (Nat.le_succ i),h.aa,h.av,h.tt,h.tb,by show (CA_ s.eqv _).length≤_;unfold CA_;omega,h.uj,h.uf,h.nw.up (Nat.le_succ i),by omega⟩
theorem uE_(l:List as_)(t:as_):(mP_ l t).length=l.length+1:=by
 unfold mP_;simp only[List.length_append,List.length_take,List.length_drop,List.length_cons,List.length_nil];omega
theorem uF_(l:List as_)(t:as_):∀x∈mP_ l t,x∈l∨x=t:=fun x hx=>by
 unfold mP_ at hx;simp only[List.mem_append,List.mem_singleton]at hx;rcases hx with (hx|hx)|hx
 ·exact .inl (List.mem_of_mem_take hx)
 ·exact .inr hx
 ·exact .inl (List.mem_of_mem_drop hx)
theorem aH_.reg{s:ag_}{i:Nat}(h:aH_ s i){t:as_}(h2:(vU_ s t).2=0):aH_ (vU_ s t).1 i:=by
 unfold vU_ at *;split at h2
 ·rename_i h3;exact absurd h2 h3
 ·rename_i h3
  rw[if_neg h3];split at h2
  ·simp at h2
  ·rename_i h4
   rw[if_neg h4];split at h2
   ·rename_i h5;exact absurd h2 h5
   ·rename_i h5
    rw[if_neg h5];have hv:dD_ t s.cfg.bals.length=0:=by simpa using h3
    have hb:t.bals.length≤6:=by
     have:=h.cfg.b1;unfold dD_ at hv;split at hv
     ·simp at hv
     ·omega
    have hr:(jU_ s.tabs t s.cfg.bals.length s.cfg.lim.table).1.length≤4∧∀x∈(jU_ s.tabs t s.cfg.bals.length s.cfg.lim.table).1,x∈s.tabs∨x=t:=by
     have:=h.cfg.lt;unfold jU_;rw[if_neg (by simpa using hv)];split
     ·exact⟨h.tt,fun x hx=>.inl hx⟩
     ·split
      ·exact⟨h.tt,fun x hx=>.inl hx⟩
      ·exact⟨by rw[uE_];omega,uF_ _ _⟩
    refine h.withT hr.1 fun x hx=>?_
    rcases hr.2 x hx with hx|rfl
    ·exact h.tb x hx
    ·exact hb
theorem tW_{t:List Nod}{i:Int}(h:(gt_ t i).2=0):(gt_ t i).1.length=t.length∧∀k,(nod (gt_ t i).1 k).up=(nod t k).up∧(nod (gt_ t i).1 k).blk=(nod t k).blk:=by
 unfold gt_ at *;split at h
 ·rename_i h1;rw[if_pos h1];cases h2:CI_ t (cr_ t i) 1 2 with
  |none=>rw[h2]at h;simp at h
  |some u=>exact⟨ol_ h2,fun k=>sb_ h2 k⟩
 ·simp at h
theorem wr_{t:List Nod}{i:Int}(h:(nc_ t i).2=0):(nc_ t i).1.length=t.length∧∀k,(nod (nc_ t i).1 k).up=(nod t k).up∧(nod (nc_ t i).1 k).blk=(nod t k).blk:=by
 unfold nc_ at *;split at h
 ·rename_i h1;rw[if_pos h1];cases h2:CI_ t (wx_ t i) 2 1 with
  |none=>rw[h2]at h;simp at h
  |some u=>exact⟨ol_ h2,fun k=>sb_ h2 k⟩
 ·simp at h
theorem Au_{t:List Nod}{i:Int}{v:Vdt}{keep:List Int}(h:(jQ_ t i v keep).2=0):(jQ_ t i v keep).1.length=t.length∧∀k,(nod (jQ_ t i v keep).1 k).up=(nod t k).up∧(nod (jQ_ t i v keep).1 k).blk=(nod t k).blk:=by
 unfold jQ_ at *;split at h
 ·simp at h
 rename_i h1;rw[if_neg h1];split at h
 ·rename_i h2;rw[if_pos h2];exact tW_ h
 rename_i h2;rw[if_neg h2];split at h
 ·rename_i h3;rw[if_pos h3];exact⟨rfl,fun k=>⟨rfl,rfl⟩⟩
 rename_i h3;rw[if_neg h3];split at h
 ·simp at h
 rename_i h4;rw[if_neg h4];split at h
 ·simp at h
 rename_i h5;rw[if_neg h5];split at h
 ·rename_i h6
  rw[if_pos h6];split at h
  ·rename_i h7;exact absurd h h7
  ·rename_i h7;rw[if_neg h7];have a:=tW_ (show (gt_ t (iq_ t i v.latest).1).2=0 by simpa using h7);have b:=wr_ h;exact⟨b.1.trans a.1,fun k=>⟨(b.2 k).1.trans (a.2 k).1,(b.2 k).2.trans (a.2 k).2⟩⟩
 ·rename_i h6;rw[if_neg h6];exact wr_ h
theorem xL_{t u:List Nod}(hl:u.length=t.length)(hb:∀k,(nod u k).blk=(nod t k).blk)(r:Rt):al_ u r=al_ t r:=by
 unfold al_;rw[hl];congr 2;funext k
 rw[hb k]
theorem aH_.judge{s:ag_}{i:Nat}(h:aH_ s i){t:List Nod}(hl:t.length=s.nodes.length)(hu:∀k,(nod t k).up=(nod s.nodes k).up∧(nod t k).blk=(nod s.nodes k).blk):aH_ (lR_ s t) i:=by
 refine⟨h.cfg,⟨h.tree.ok.of_up hl fun k=>(hu k).1,by have:=h.tree.pos;show 0<t.length;omega,by show (nod t 0).up<0;rw[(hu 0).1];exact h.tree.root⟩,?_,h.ll,by have:=h.nn;show t.length≤13;omega,fun n hn=>?_,h.oo,h.uo,h.aa,h.av,h.tt,h.tb,h.qq,h.uj,h.uf,h.nw,h.ii⟩
 ·show 0≤al_ t s.j.rt
  rw[xL_ hl fun k=>(hu k).2];exact h.jf
 ·obtain⟨k,hk,he⟩:=rI_ hn;rw[←he];show gN_ i (nod t k).blk;rw[(hu k).2]
  exact h.blk (show k<s.nodes.length by have:k<t.length:=hk;omega)
theorem sy_(l:List Int)(n:Int):fV_ l n≠21:=by
 unfold fV_;split
 ·decide
 ·generalize (0:Nat)=i
  have key:∀k i,l.length-i=k→iA_ l n i≠21:=by
   intro k;induction k with
   |zero=>intro i hi;rw[qT_ (by omega)];decide
   | succ k ih =>
     intro i hi;rw[kc_ (by omega)];split
     ·decide
     ·split
      ·decide
      ·exact ih (i+1) (by omega)
  exact key _ i rfl
theorem wX_(t:as_)(n:Int):dD_ t n≠21:=by unfold dD_;(repeat' split)<;>decide
theorem Dp_(s:ag_):(fT_ s).2≠21:=by unfold fT_;split<;>simp
theorem xw_(s:ag_)(b:Blk):fG_ s b≠21:=by
 unfold fG_;repeat'(split;· decide)
 decide
theorem zC_(s:ag_)(b:Blk):(en_ s b).2.2≠21:=by
 unfold en_;split
 ·split<;>simp
 ·split
  ·exact xw_ s b
  ·simp
theorem xv_(s:ag_)(a:aB_):(dm_ s a).2≠21:=by
 unfold dm_;split
 ·exact sy_ _ _
 ·split
  ·simp
  ·split
   ·simp
   ·split
    ·simp
    ·split<;>simp
theorem DZ_(s:ag_)(a:aB_):(re_ s a).2≠21:=by
 unfold re_;split
 ·exact xv_ s a
 ·split
  ·simp
  ·split<;>simp
theorem Bf_(s:ag_)(x:cn_):(jZ_ s x).2≠21:=by
 unfold jZ_;split
 ·unfold evE
  dsimp only;split
  ·exact sy_ _ _
  ·split
   ·exact sy_ _ _
   ·split
    ·decide
    ·split<;>decide
 ·split<;>simp
theorem Es_(s:ag_)(t:as_):(vU_ s t).2≠21:=by
 unfold vU_;split
 ·exact wX_ _ _
 ·split
  ·simp
  ·split
   ·unfold jU_
    dsimp only;split
    ·exact wX_ _ _
    ·split
     ·simp
     ·split<;>simp
   ·simp
structure fg_(s:aI_)(i:Nat):Prop where
 sto:aH_ s.sto i
 rq:s.reqs.length≤10*i
 ut:∀r∈s.reqs,U64 r.tag
 yl:s.rets.length≤3
 tg:U64 s.tag
theorem fg_.up{s:aI_}{i k:Nat}(h:fg_ s i)(h1:i≤k)(h2:k≤30):fg_ s k:=⟨h.sto.up h1 h2,by have:=h.rq;omega,h.ut,h.yl,h.tg⟩
theorem AU_{l:List Req}{k:Nat}(h:k<l.length):kN_ l k∈l:=dy_ _ h
theorem tB_(t:List Nod)(l:List Req):(nF_ t l).length≤l.length∧∀r∈nF_ t l,r∈l:=by
 refine⟨by have:=oB_ (f:=nG_ t l) (a:=[]) (fun i o=>by unfold nG_;split<;>simp) l.length;unfold nF_;simpa using this,?_⟩;refine fU_ (f:=nG_ t l) (a:=[]) (fun _ o=>∀r∈o,r∈l) (by simp) l.length (fun i o hi ho=>?_) _ (Nat.le_refl _);unfold nG_;split
 ·intro r hr;rw[List.mem_append,List.mem_singleton]at hr;rcases hr with hr|rfl
  ·exact ho r hr
  ·exact AU_ hi
 ·exact ho
structure eV_(s:aI_)(i n:Nat):Prop where
 sto:aH_ s.sto i
 rq:s.reqs.length≤n
 ut:∀r∈s.reqs,U64 r.tag
 yl:s.rets.length≤3
 tg:U64 s.tag
theorem eV_.a{s:aI_}{i n:Nat}(h:eV_ s i n)(hn:n≤10*i):fg_ s i:=⟨h.sto,Nat.le_trans h.rq hn,h.ut,h.yl,h.tg⟩
theorem fg_.q{s:aI_}{i:Nat}(h:fg_ s i):eV_ s i (10*i):=⟨h.sto,h.rq,h.ut,h.yl,h.tg⟩
theorem eV_.drop{s:aI_}{i n:Nat}(h:eV_ s i n):eV_ (zZ_ s) i n:=by
 have h1:=tB_ s.sto.nodes s.reqs;have h2:=tB_ s.sto.nodes s.rets;exact⟨h.sto,Nat.le_trans h1.1 h.rq,fun r hr=>h.ut r (h1.2 r hr),Nat.le_trans h2.1 h.yl,h.tg⟩
theorem eV_.open1{s:aI_}{i n:Nat}(h:eV_ s i n)(r:Rt)(k:Int):eV_ (AG_ s r k) i (n+1):=by
 refine⟨h.sto,by show (s.reqs++[_]).length≤_;have:=h.rq;simp;omega,fun x hx=>?_,h.yl,gM_ _⟩;rcases List.mem_append.1 hx with hx|hx
 ·exact h.ut x hx
 ·rw[List.mem_singleton]at hx;rw[hx];exact h.tg
theorem eV_.le{s:aI_}{i n m:Nat}(h:eV_ s i n)(hn:n≤m):eV_ s i m:=⟨h.sto,Nat.le_trans h.rq hn,h.ut,h.yl,h.tg⟩
theorem eV_.opens{s:aI_}{i n:Nat}(h:eV_ s i n)(l:List Rt):eV_ (AJ_ s l) i (n+l.length):=by
 refine fU_ (f:=AF_ l) (a:=s) (fun k t=>eV_ t i (n+k)) h l.length (fun k t hk ht=>?_) _ (Nat.le_refl _);unfold AF_;split
 ·exact ht.open1 _ _
 ·exact ht.le (by omega)
theorem eV_.rets{s:aI_}{i n:Nat}(h:eV_ s i n){l:List Req}(hl:l.length≤3):eV_ (uz_ s l) i n:=⟨h.sto,h.rq,h.ut,hl,h.tg⟩
theorem eV_.due{s:aI_}{i n:Nat}(h:eV_ s i n):eV_ (EZ_ s) i (n+3):=by
 have key:=fU_ (f:=Eg_ s.rets) (a:=uz_ s []) (fun k t=>eV_ t i (n+k)∧t.rets.length≤k) ⟨h.rets (by simp),Nat.le_refl _⟩ s.rets.length (fun k t hk ht=>by
  have:=h.yl;unfold Eg_;split
  ·exact⟨(ht.1.rets (by have:=ht.2;simp;omega)).le (by omega),by show (t.rets++[_]).length≤k+1;have:=ht.2;simp;omega⟩
  ·split
   ·exact⟨ht.1.open1 _ _,Nat.le_succ_of_le ht.2⟩
   ·exact⟨ht.1.le (by omega),Nat.le_succ_of_le ht.2⟩) _ (Nat.le_refl _)
 exact key.1.le (by have:=h.yl;omega)
theorem qP_:∀ (k:Nat) (l:List Req),(ud_ l k).length=l.length
 |0,l=>rfl
 | k + 1, l => by
   unfold ud_;split
   ·rw[qP_ k];simp
   ·rfl
theorem fg_.later{s:aI_}{i:Nat}(h:fg_ s i)(r:Req):fg_ (vr_ s r) i:=by
 unfold vr_;split
 ·exact h
 ·split
  ·exact⟨h.sto,h.rq,h.ut,h.yl,h.tg⟩
  ·rename_i h2;have:=h.sto.cfg.lr;exact⟨h.sto,h.rq,h.ut,by show (ud_ _ _).length≤3;rw[qP_];simp;omega,h.tg⟩
theorem Dn_(l:List Req)(i:Nat):(wW_ l i).length≤l.length∧∀r∈wW_ l i,r∈l:=by
 unfold wW_;refine⟨by rw[List.length_append,List.length_take,List.length_drop];omega,fun r hr=>?_⟩;rcases List.mem_append.1 hr with hr|hr
 ·exact List.mem_of_mem_take hr
 ·exact List.mem_of_mem_drop hr
theorem fg_.mat{s:aI_}{i:Nat}(h:fg_ s i){v:Vdt}(h2:(ee_ s v).2.2=0):fg_ (ee_ s v).2.1 i:=by
 unfold ee_ at *;split at h2
 ·rename_i k hk;have h1:=Dn_ s.reqs k;exact⟨h.sto,Nat.le_trans h1.1 h.rq,fun r hr=>h.ut r (h1.2 r hr),h.yl,h.tg⟩
 ·simp at h2
theorem aH_.boostV{s:ag_}{i:Nat}(h:aH_ s i):aH_ (boostV s) i:=by
 unfold Go.Proofs.Ytkgimpdgncakjaa.boostV;split
 ·exact h.withB _
 ·exact h
theorem fg_.verd{s:aI_}{i:Nat}(h:fg_ s i){v:Vdt}(h2:(uw_ s v).2=0∨(uw_ s v).2=21):fg_ (uw_ s v).1 i:=by
 unfold uw_ at *;split at h2
 ·rename_i h3;rw[if_pos h3];exact h
 ·rename_i h3
  rw[if_neg h3];have hm:=h.mat (v:=v) (by simpa using h3);split at h2
  ·rename_i h4;rw[if_pos h4];exact hm.later _
  ·rename_i h4
   rw[if_neg h4];split at h2
   ·rename_i h5;rw[if_pos h5];exact⟨h.sto,h.rq,h.ut,h.yl,h.tg⟩
   ·rename_i h5;rw[if_neg h5];unfold vk_ at *;have h6:=Au_ (show (jQ_ (ee_ s v).2.1.sto.nodes _ v _).2=0 by simpa using h5);exact⟨(hm.sto.judge h6.1 h6.2).boostV,hm.rq,hm.ut,hm.yl,hm.tg⟩
structure OpR(x:VOp):Prop where
 blk:gN_ 0 x.blk
 att:x.att.vals.length≤10
 fst:x.slg.fst.vals.length≤10
 snd:x.slg.snd.vals.length≤10
 tab:x.tab.bals.length≤10
theorem fg_.perf{s:aI_}{i:Nat}(h:fg_ s i)(hi:i<30){x:VOp}(hx:OpR x)(h2:(jt_ s x).2=0∨(jt_ s x).2=21):fg_ (jt_ s x).1 (i+1):=by
 have hu:=h.up (Nat.le_succ i) (by omega);unfold jt_ at *;split at h2
 ·rename_i h3
  rw[if_pos h3];split at h2
  ·rename_i h4;rw[if_pos h4];have ht:=h.sto.tick h4;have hq:eV_ (jF_ s (fT_ s.sto).1) i (10*i):=⟨ht,h.rq,h.ut,h.yl,h.tg⟩;have hd:=hq.drop.due;exact⟨hd.sto.up (Nat.le_succ i) (by omega),by have:=hd.rq;dsimp only;omega,hd.ut,hd.yl,hd.tg⟩
  ·rename_i h4;exact absurd h2 (by intro h5;rcases h5 with h5|h5;exact h4 h5;exact Dp_ _ h5)
 rename_i h3;rw[if_neg h3];clear h3;split at h2
 ·rename_i h3
  rw[if_pos h3];split at h2
  ·rename_i h4;rw[if_pos h4];have ht:=h.sto.block (hx.blk.up (Nat.zero_le i)) h4;have hq:eV_ (jF_ s (en_ s.sto x.blk).1) i (10*i):=⟨ht.1,h.rq,h.ut,h.yl,h.tg⟩;have hd:=hq.drop.opens (en_ s.sto x.blk).2.1;have:=ht.2;exact⟨hd.sto.up (Nat.le_succ i) (by omega),by have:=hd.rq;dsimp only;omega,hd.ut,hd.yl,hd.tg⟩
  ·rename_i h4;exact absurd h2 (by intro h5;rcases h5 with h5|h5;exact h4 h5;exact zC_ _ _ h5)
 rename_i h3;rw[if_neg h3];clear h3;split at h2
 ·rename_i h3;rw[if_pos h3];exact⟨(h.sto.att hx.att (h2.resolve_right (DZ_ _ _))).up (Nat.le_succ i) (by omega),hu.rq,hu.ut,hu.yl,hu.tg⟩
 rename_i h3;rw[if_neg h3];clear h3;split at h2
 ·rename_i h3;rw[if_pos h3];exact⟨h.sto.slash hx.fst hi (h2.resolve_right (Bf_ _ _)),hu.rq,hu.ut,hu.yl,hu.tg⟩
 rename_i h3;rw[if_neg h3];clear h3;split at h2
 ·rename_i h3;rw[if_pos h3];exact⟨(h.sto.reg (h2.resolve_right (Es_ _ _))).up (Nat.le_succ i) (by omega),hu.rq,hu.ut,hu.yl,hu.tg⟩
 rename_i h3;rw[if_neg h3];clear h3;split at h2
 ·rename_i h3;rw[if_pos h3];exact(h.verd h2).up (Nat.le_succ i) (by omega)
 rename_i h3;rw[if_neg h3];exact hu
theorem fg_.emit{s:aI_}{i:Nat}(h:fg_ s i):fg_ (wy_ s).1 i:=by
 unfold wy_;split
 ·exact h
 ·exact⟨h.sto,h.rq,h.ut,h.yl,h.tg⟩
theorem fg_.step{s:aI_}{i:Nat}(h:fg_ s i)(hi:i<30){x:VOp}(hx:OpR x):fg_ (DP_ s x).1 (i+1):=by
 have hu:=h.up (Nat.le_succ i) (by omega);unfold DP_;split
 ·exact hu
 ·split
  ·exact hu
  ·split
   ·rename_i h3;exact h.perf hi hx (.inr h3)
   ·split
    ·exact hu
    ·rename_i h3 h4;exact(h.perf hi hx (.inl (by simpa using h4))).emit
end Go.Proofs.Ytkgimpdgncakjaa
namespace Go.Proofs.Ytkgimpdgncakjaa
open Go Go.FH Go.RowKit
set_option linter.unusedVariables false
set_option linter.unusedSimpArgs false
set_option maxRecDepth 8000
set_option maxHeartbeats 4000000
theorem Sm.val{α:Type}{v:α}{F:α→Prop}(h:Sm (fun r=>r=v) F):F v:=by
 obtain⟨r,rfl,h⟩:=h;exact h
theorem qU_(n:Nat):List.replicate n (aV_ eu_)=rows aV_ (List.replicate n eu_):=AW_ aV_ n eu_
theorem Bj_{fr:Fr}{σ:St}{rs:List dd_}{l:List AV}{n:Int}{S:ag_×Int}(hl:bW_ fr σ rs=some l)(hv:fz σ (List.range σ.length) (fe_ l)=.tup [.agg (ak_ kQ_),.int .i64 n])(hs:(ct_,n)=S):
 Sm (fun r:ag_×Int=>r=S) fun r=>PQ rs (.tup [.agg (ak_ r.1.a),.int .i64 r.2]) .ret fr σ:=
 ⟨(ct_,n),hs,l,hl,.inr ⟨_,hv,(by simp[PuL,Pu,cy_,kQ_,ak_,bS_,gv_,bT_,gO_,cO_,mZ_,aU_,cp0]),Wk.tup ⟨wY_,Wk.refl _,trivial⟩⟩⟩
theorem sh_(x:Sto)(p:Pul):spl (ak_ x) 47 (cc_ p)=ak_ { x with j:=p.j,f:=p.f }:=kR_ x p.j p.f
theorem BN_(x:Sto)(l:List (List AV)):Wk (.agg (ak_ { x with eqv:=.sl 0 true [],early:=.sl 0 true [],orph:=.sl 0 true [],tabs:=.sl 34 true l })) (.agg (ak_ { x with eqv:=.sl 1 false [],early:=.sl 67 false [],orph:=.sl 238 false [],tabs:=.sl 34 false l })):=by
 refine Wk.agg ?_;unfold ak_;dsimp only;exact(WkC.refl _).app (.same _ (.cons (Wk.empty _ _ _) (fun h=>h) ((WkC.refl _).app ((WkC.refl _).app (.cons (Wk.empty _ _ _) (fun h=>h) (.cons (Wk.empty _ _ _) (fun h=>h) (.same _ (.same _ ((WkC.refl _).app (.one (Wk.open_ _ _ _) fun h=>h))))))))))
theorem wL_(s:ag_):PuL (ak_ { s.a with eqv:=.sl 0 true [],early:=.sl 0 true [],orph:=.sl 0 true [],tabs:=.sl 34 true (rows as_.c s.tabs) }):=by
 have h:=(kg_ _).1 s.pul;refine(kg_ _).2 ?_;simp only[Sto.Pure,Pu,cy_,and_true,true_and]at *;simp[h,dS_]
theorem tF_(c:aX_)(hb:c.bals.length≤1000000):PC Try.prog 7 [.agg (aU_ c.a)] (.tup [.agg (ak_ (kJ_ c).1.a),.int .i64 (kJ_ c).2]):=by
 refine Sm.val (F:=fun r:ag_×Int=>PC Try.prog 7 [.agg (aU_ c.a)] (.tup [.agg (ak_ r.1.a),.int .i64 r.2])) ?_;refine wQ_ 9 tb_ (by simp) puA (fun r _=>puA) ?_;unfold lH_;refine bd ?_;have c1:=zm_ ⟨⟨0,c.gen⟩,c.bals⟩ c.bals.length hb;have c2:=yd_ (pr_ c.gen) 1;have c3:=uQ_ ⟨⟨0,c.gen⟩,c.bals⟩ hb;generalize hV:dD_ ⟨⟨0,c.gen⟩,c.bals⟩ c.bals.length=V at *;have lt:∀ (a b:Int),decide (a > b)=decide (b<a):=fun _ _=>rfl
 iterate 5 (repeat'(first|refine jA_ ?_|(refine fP_ (fun h=>?_) (fun h=>?_)<;>try(exact absurd h (by decide)))|refine oo_ (fun h=>?_) (fun h=>?_));all_goals try refine iw_ (uA_ _ _ _) ?_)
 repeat'(first|refine jA_ ?_|(refine fP_ (fun h=>?_) (fun h=>?_)<;>try(exact absurd h (by decide)))|refine oo_ (fun h=>?_) (fun h=>?_))
 all_goals try(refine Bj_ (by first|rfl|exact evd) (by first|rfl|exact evd) ?_)
 rotate_left 2
 ·refine iw_ c1 ?_
  repeat'(first|refine jA_ ?_|(refine fP_ (fun h=>?_) (fun h=>?_)<;>try(exact absurd h (by decide)))|refine oo_ (fun h=>?_) (fun h=>?_))
  ·refine Bj_ (by first|rfl|exact evd) (by first|rfl|exact evd) ?_;(try simp only[Bool.not_false,Bool.not_true,decide_eq_true_eq,decide_eq_false_iff_not,Bool.not_eq_true',Bool.not_eq_false',beq_iff_eq,bne_iff_ne,beq_eq_false_iff_ne,bne_eq_false_iff_eq,ne_eq,Bool.not_eq_true,Bool.not_eq_false,Bool.or_eq_true,Bool.and_eq_true,Bool.or_eq_false_iff]at *)
   (simp only[kJ_,hg_, *,reduceIte,Bool.true_eq_false,Bool.false_eq_true,not_true_eq_false,not_false_eq_true,ne_eq,true_and,and_true,false_and,and_false,true_or,or_true,false_or,or_false,Int.reduceEq,if_false,if_true,eq_self,reduceCtorEq,decide_true,decide_false,Bool.and_true,Bool.true_and,Bool.and_false,Bool.false_and,Bool.or_true,Bool.true_or,Bool.or_false,Bool.false_or,Bool.not_true,Bool.not_false])
  ·refine cg_ c2 ?_
   refine jA_ ?_;refine cg_ c3 ?_;have hrep:List.replicate c.bals.length (aV_ ⟨false,0,rt0⟩)=rows aV_ (List.replicate c.bals.length eu_):=qU_ _;have ht:List.take c.bals.length (rows aV_ (List.replicate c.bals.length ⟨false,0,rt0⟩))=rows aV_ (List.replicate c.bals.length ⟨false,0,rt0⟩):=List.take_of_length_le (by simp);repeat(first|refine jA_ ?_|simp only[go_sem,hrep,sh_])
   refine Bl_ (cv_ c,0) ?_ ⟨_,(by first|rfl|exact evd),.inr ⟨.tup [.agg (ak_ { (cv_ c).a with eqv:=.sl 0 true [],early:=.sl 0 true [],orph:=.sl 0 true [],tabs:=.sl 34 true (rows as_.c (cv_ c).tabs) }),.int .i64 0],?_,⟨wL_ _,trivial,trivial⟩,Wk.tup ⟨BN_ _ _,Wk.refl _,trivial⟩⟩⟩
   ·(try simp only[Bool.not_false,Bool.not_true,decide_eq_true_eq,decide_eq_false_iff_not,Bool.not_eq_true',Bool.not_eq_false',beq_iff_eq,bne_iff_ne,beq_eq_false_iff_ne,bne_eq_false_iff_eq,ne_eq,Bool.not_eq_true,Bool.not_eq_false,Bool.or_eq_true,Bool.and_eq_true,Bool.or_eq_false_iff]at *)
    (simp only[kJ_,hg_, *,reduceIte,Bool.true_eq_false,Bool.false_eq_true,not_true_eq_false,not_false_eq_true,ne_eq,true_and,and_true,false_and,and_false,true_or,or_true,false_or,or_false,Int.reduceEq,if_false,if_true,eq_self,reduceCtorEq,decide_true,decide_false,Bool.and_true,Bool.true_and,Bool.and_false,Bool.false_and,Bool.or_true,Bool.true_or,Bool.or_false,Bool.false_or,Bool.not_true,Bool.not_false])
   ·(try simp only[go_sem,Nat.reduceAdd,Nat.reduceSub,Nat.reduceMul,Nat.reduceLT,Nat.reduceLeDiff,Nat.reduceEqDiff,reduceIte,Int.reduceToNat,Int.reduceLT,Int.reduceLE,Int.reduceEq,Int.reduceNeg,reduceCtorEq,Int.reduceBEq,Int.reduceBNe,List.length_replicate,ht])
    rfl
 all_goals(try simp only[Bool.not_false,Bool.not_true,decide_eq_true_eq,decide_eq_false_iff_not,Bool.not_eq_true',Bool.not_eq_false',beq_iff_eq,bne_iff_ne,beq_eq_false_iff_ne,bne_eq_false_iff_eq,ne_eq,Bool.not_eq_true,Bool.not_eq_false,Bool.or_eq_true,Bool.and_eq_true,Bool.or_eq_false_iff]at *)
 all_goals(simp only[kJ_,hg_, *,reduceIte,Bool.true_eq_false,Bool.false_eq_true,not_true_eq_false,not_false_eq_true,ne_eq,true_and,and_true,false_and,and_false,true_or,or_true,false_or,or_false,Int.reduceEq,if_false,if_true,eq_self,reduceCtorEq,decide_true,decide_false,Bool.and_true,Bool.true_and,Bool.and_false,Bool.false_and,Bool.or_true,Bool.true_or,Bool.or_false,Bool.false_or,Bool.not_true,Bool.not_false])
theorem pU_(x:Sto)(v:AV):(ak_ x).set 113 v=ak_ { x with early:=v }:=by
 simp only[ak_,List.set_append,ar_,af_,List.length_cons,Nat.reduceSub,Nat.reduceLT,if_false,List.set_cons_succ,List.set_cons_zero]
theorem pT_(x:Sto):(ak_ x).getD 113 .dead=x.early:=by
 simp only[ak_,List.getD_eq_getElem?_getD,List.getElem?_append,ar_,af_,List.length_cons,Nat.reduceSub,Nat.reduceLT,if_false,List.getElem?_cons_succ,List.getElem?_cons_zero,Option.getD_some]
theorem AQ_{fr:Fr}{σ:St}{rs:List dd_}{l:List AV}{n:Int}(hl:bW_ fr σ rs=some l)(hv:fz σ (List.range σ.length) (fe_ l)=.tup [.agg (ak_ kQ_),.int .i64 n]):PQ rs (.tup [.agg (ak_ ct_.a),.int .i64 n]) .ret fr σ:=
 ⟨l,hl,.inr ⟨_,hv,(by simp[PuL,Pu,cy_,kQ_,ak_,bS_,gv_,bT_,gO_,cO_,mZ_,aU_,cp0]),Wk.tup ⟨wY_,Wk.refl _,trivial⟩⟩⟩
def cG_(s:ag_)(k:Nat):ag_:=bd_ (tickR s.early) (withE s []) k
theorem Do_(s:ag_)(k:Nat):cG_ s (k+1)=tickR s.early k (cG_ s k):=rfl
end Go.Proofs.Ytkgimpdgncakjaa
