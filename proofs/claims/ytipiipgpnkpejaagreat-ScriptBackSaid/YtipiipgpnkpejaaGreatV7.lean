/-
 My texts Lw, Lx, Ly, Lz, joined.
-/
import Derived.Test.YtipiipgpnkpejaaGreatV6
import Derived.Test.YtipiipgpnkpejaaGreatW3
namespace Go.Proofs.YtipiipgpnkpejaaGreat
open Go Go.FH Go.RowKit
set_option linter.unusedVariables false
set_option linter.unusedSimpArgs false
def WdG(w:Wd):Prop:=∀n∈w.1,0≤n∧n<18446744073709551616
structure Qw_(c:bV_):Prop where
 s1:1≤c.spe
 s4:c.spe≤4
 b0:0<c.bals.length
 b1:c.bals.length≤6
 ln:c.lim.node≤13
 lo:c.lim.orph≤3
 la:c.lim.early≤3
 lt:c.lim.table≤4
 lr:c.lim.retry≤3
 tt:WdG c.ttd
structure bg_(s:al_)(i:Nat):Prop where
 cfg:Qw_ s.cfg
 tree:dB_ s.nodes
 jf:0≤av_ s.nodes s.j.rt
 ll:s.latest.length=s.cfg.bals.length
 nn:s.nodes.length≤13
 un:∀n∈s.nodes,hZ_ n.blk
 oo:s.orph.length≤3
 uo:∀b∈s.orph,hZ_ b
 aa:s.early.length≤3
 av:∀a∈s.early,a.vals.length≤10
 tt:s.tabs.length≤4
 tb:∀t∈s.tabs,t.bals.length≤6
 qq:s.eqv.length≤10*i
 uj:U64 s.j.ep
 uf:U64 s.f.ep
 nw:U64 s.now
 ii:i≤30
theorem bg_.r{s:al_}{i:Nat}(h:bg_ s i):StR s:=by
 have h1:=h.cfg.s1;have h2:=h.cfg.b1;have h3:=h.nn;have h4:=h.qq;have h5:=h.ii;have h6:=h.ll;have h7:=h.tt;have h8:=h.oo;have h9:=h.aa;have h10:=h.cfg.ln;exact⟨h.tree,by omega,by omega,by omega,by omega,by omega,fun t ht=>by have:=h.tb t ht;omega,by omega,by omega,by omega,h6,h.jf⟩
theorem bg_.up{s:al_}{i k:Nat}(h:bg_ s i)(h1:i≤k)(h2:k≤30):bg_ s k:=by
 obtain⟨a,b,c,d,e,f,g,j,l,m,n,o,p,q,r,t,u⟩:=h;exact⟨a,b,c,d,e,f,g,j,l,m,n,o,by omega,q,r,t,h2⟩
theorem bG_(n:Int):U64 (IntKind.u64.wrap n):=by rw[xt_];exact⟨by omega,by omega⟩
theorem gT_{α:Type}{l:List α}{i:Nat}(d:α)(h:i<l.length):l.getD i d∈l:=by
 rw[List.getD_eq_getElem?_getD,List.getElem?_eq_getElem h];exact List.getElem_mem h
theorem bg_.blk{s:al_}{i:Nat}(h:bg_ s i){k:Nat}(hk:k<s.nodes.length):hZ_ (nod s.nodes k).blk:=h.un _ (gT_ _ hk)
theorem Cp_{t:List Nod}{n:Nod}(h:n∈t):∃k,k<t.length∧nod t k=n:=by
 obtain⟨k,hk,he⟩:=List.getElem_of_mem h;exact⟨k,hk,by unfold nod;rw[List.getD_eq_getElem?_getD,List.getElem?_eq_getElem hk];exact he⟩
theorem Qe_(s:al_)(j f:Cp):(cW_ s j f).cfg=s.cfg:=by unfold cW_;(repeat' split)<;>rfl
theorem Qg_(s:al_)(j f:Cp):(cW_ s j f).eqv=s.eqv:=by unfold cW_;(repeat' split)<;>rfl
theorem Bc_(s:al_)(j f:Cp):(cW_ s j f).early=s.early:=by unfold cW_;(repeat' split)<;>rfl
theorem Qh_(s:al_)(j f:Cp):(cW_ s j f).now=s.now:=by unfold cW_;(repeat' split)<;>rfl
theorem Kb_(l:List Blk)(a:Int):∀b∈aK_ (qZ_ l a) [] l.length,b∈l:=by
 refine hf_ (f:=qZ_ l a) (a:=[]) (fun _ o=>∀t∈o,t∈l) (by simp) l.length (fun i o hi ho=>?_) _ (Nat.le_refl _);unfold qZ_;split
 ·intro t ht;rw[List.mem_append,List.mem_singleton]at ht;rcases ht with ht|rfl
  ·exact ho t ht
  ·exact gT_ _ hi
 ·exact ho
theorem xo_(s:al_)(j f:Cp):(cW_ s j f).orph.length≤s.orph.length∧∀b∈(cW_ s j f).orph,b∈s.orph:=by
 unfold cW_;split
 ·exact⟨Nat.le_refl _,fun b hb=>hb⟩
 ·split
  ·exact⟨Nat.le_refl _,fun b hb=>hb⟩
  ·exact⟨nC_ _ _ _,Kb_ _ _⟩
theorem Om_(s:al_)(j f:Cp):(cW_ s j f).tabs.length≤s.tabs.length∧∀b∈(cW_ s j f).tabs,b∈s.tabs:=by
 unfold cW_;split
 ·exact⟨Nat.le_refl _,fun b hb=>hb⟩
 ·split
  ·exact⟨lb_ _ _,lc_ _ _⟩
  ·exact⟨lb_ _ _,lc_ _ _⟩
theorem Lj_{s:al_}(h:dB_ s.nodes)(j f:Cp):(cW_ s j f).nodes.length≤s.nodes.length∧∀n∈(cW_ s j f).nodes,∃m,m<s.nodes.length∧n.blk=(nod s.nodes m).blk:=by
 have key:∀n∈s.nodes,∃m,m<s.nodes.length∧n.blk=(nod s.nodes m).blk:=fun n hn=>by
  obtain⟨k,hk,he⟩:=Cp_ hn;exact⟨k,hk,by rw[he]⟩
 unfold cW_;split
 ·exact⟨Nat.le_refl _,key⟩
 ·split
  ·exact⟨Nat.le_refl _,key⟩
  ·refine⟨pG_ h _,fun n hn=>?_⟩;obtain⟨k,hk,he⟩:=Cp_ hn;obtain⟨m,hm,hb⟩:=Hj_ h _ k hk;exact⟨m,hm,by rw[←he];exact hb⟩
theorem Co_{a b:Cp}(h1:U64 a.ep)(h2:U64 b.ep):U64 (eV_ a b).ep:=by unfold eV_;split<;>assumption
theorem Rg_{s:al_}(j f:Cp)(h1:U64 s.j.ep)(h2:U64 s.f.ep)(h3:U64 j.ep)(h4:U64 f.ep):U64 (cW_ s j f).j.ep∧U64 (cW_ s j f).f.ep:=by
 unfold cW_;split
 ·exact⟨h1,h2⟩
 ·split
  ·exact⟨Co_ h1 h3,Co_ h2 h4⟩
  ·exact⟨Co_ h1 h3,Co_ h2 h4⟩
theorem bg_.upd{s:al_}{i:Nat}(h:bg_ s i){j f:Cp}(hj:U64 j.ep)(hf:U64 f.ep):bg_ (cW_ s j f) i:=by
 have h1:=h.r.upd j f;have h2:=Lj_ h.tree j f;have h3:=xo_ s j f;have h4:=Om_ s j f;have h5:=Rg_ j f h.uj h.uf hj hf;refine⟨by rw[Qe_];exact h.cfg,h1.tree,h1.jf,h1.ll,Nat.le_trans h2.1 h.nn,fun n hn=>?_,Nat.le_trans h3.1 h.oo,fun b hb=>h.uo b (h3.2 b hb),by rw[Bc_];exact h.aa,by rw[Bc_];exact h.av,Nat.le_trans h4.1 h.tt,fun t ht=>h.tb t (h4.2 t ht),by rw[Qg_];exact h.qq,h5.1,h5.2,by rw[Qh_];exact h.nw,h.ii⟩;obtain⟨m,hm,he⟩:=h2.2 n hn;rw[he];exact h.blk hm
theorem bg_.withE{s:al_}{i:Nat}(h:bg_ s i){l:List aW_}(h1:l.length≤3)(h2:∀a∈l,a.vals.length≤10):bg_ (withE s l) i:=
 ⟨h.cfg,h.tree,h.jf,h.ll,h.nn,h.un,h.oo,h.uo,h1,h2,h.tt,h.tb,h.qq,h.uj,h.uf,h.nw,h.ii⟩
theorem bg_.withL{s:al_}{i:Nat}(h:bg_ s i){l:List Vot}(h1:l.length=s.latest.length):bg_ (withL s l) i:=
 ⟨h.cfg,h.tree,h.jf,h1.trans h.ll,h.nn,h.un,h.oo,h.uo,h.aa,h.av,h.tt,h.tb,h.qq,h.uj,h.uf,h.nw,h.ii⟩
theorem bg_.withB{s:al_}{i:Nat}(h:bg_ s i)(r:Rt):bg_ (withB s r) i:=
 ⟨h.cfg,h.tree,h.jf,h.ll,h.nn,h.un,h.oo,h.uo,h.aa,h.av,h.tt,h.tb,h.qq,h.uj,h.uf,h.nw,h.ii⟩
theorem bg_.withO{s:al_}{i:Nat}(h:bg_ s i){l:List Blk}(h1:l.length≤3)(h2:∀b∈l,hZ_ b):bg_ (withO s l) i:=
 ⟨h.cfg,h.tree,h.jf,h.ll,h.nn,h.un,h1,h2,h.aa,h.av,h.tt,h.tb,h.qq,h.uj,h.uf,h.nw,h.ii⟩
theorem bg_.withT{s:al_}{i:Nat}(h:bg_ s i){l:List aR_}(h1:l.length≤4)(h2:∀t∈l,t.bals.length≤6):bg_ (withT s l) i:=
 ⟨h.cfg,h.tree,h.jf,h.ll,h.nn,h.un,h.oo,h.uo,h.aa,h.av,h1,h2,h.qq,h.uj,h.uf,h.nw,h.ii⟩
theorem bg_.castIn{s:al_}{i:Nat}(h:bg_ s i)(a:aW_):bg_ (castIn s a) i:=h.withL (qr_ _ _ _ _ _)
theorem bg_.tickA{s:al_}{i:Nat}(h:bg_ s i):bg_ (tickA s) i:=
 ⟨h.cfg,h.tree,h.jf,h.ll,h.nn,h.un,h.oo,h.uo,h.aa,h.av,h.tt,h.tb,h.qq,h.uj,h.uf,bG_ _,h.ii⟩
theorem Pm_{s:al_}(h:∀k,k<s.nodes.length→hZ_ (nod s.nodes k).blk):U64 (ri_ s).j.ep∧U64 (ri_ s).f.ep:=by
 refine hf_ (f:=Ar_ s.nodes) (a:=(ug_,false)) (fun _ p=>U64 p.1.j.ep∧U64 p.1.f.ep) ⟨⟨by decide,by decide⟩,⟨by decide,by decide⟩⟩ s.nodes.length (fun k p hk hp=>?_) _ (Nat.le_refl _);unfold Ar_;split
 ·exact hp
 ·refine⟨?_,?_⟩
  ·dsimp only;split
   ·exact(h k hk).j
   ·exact hp.1
  ·dsimp only;split
   ·exact(h k hk).f
   ·exact hp.2
theorem bg_.tickB{s:al_}{i:Nat}(h:bg_ s i):bg_ (tickB s) i:=by
 unfold Go.Proofs.YtipiipgpnkpejaaGreat.tickB;split
 ·have:=Pm_ (s:=s) fun k hk=>h.blk hk
  exact h.upd this.1 this.2
 ·exact h
theorem DE_{l:List aW_}{k:Nat}(h:k<l.length):lY_ l k∈l:=gT_ _ h
theorem bg_.tickR{l:List aW_}(hl:∀a∈l,a.vals.length≤10)(h3:l.length≤3){s:al_}{i:Nat}(h:bg_ s i):∀k,k≤l.length→bg_ (aK_ (tickR l) (Go.FH.withE s []) k) i∧(aK_ (tickR l) (Go.FH.withE s []) k).early.length≤k
 |0,_=>⟨h.withE (by simp) (by simp),Nat.le_refl _⟩
 | k + 1, hk => by
   obtain⟨h1,h2⟩:=bg_.tickR hl h3 h k (by omega);rw[bT_];generalize aK_ (Go.Proofs.YtipiipgpnkpejaaGreat.tickR l) (Go.FH.withE s []) k=t at *;unfold Go.Proofs.YtipiipgpnkpejaaGreat.tickR;split
   ·refine⟨h1.withE (by simp;omega) (fun a ha=>?_),by show (t.early++[lY_ l k]).length≤k+1;simp;omega⟩;rw[List.mem_append,List.mem_singleton]at ha;rcases ha with ha|rfl
    ·exact h1.av a ha
    ·exact hl _ (DE_ (by omega))
   ·split
    ·exact⟨h1.castIn _,Nat.le_succ_of_le h2⟩
    ·exact⟨h1,Nat.le_succ_of_le h2⟩
theorem bg_.tickC{s:al_}{i:Nat}(h:bg_ s i):bg_ (tickC s s.early) i:=(bg_.tickR h.av h.aa h _ (Nat.le_refl _)).1
theorem bg_.tick{s:al_}{i:Nat}(h:bg_ s i)(h2:(jI_ s).2=0):bg_ (jI_ s).1 i:=by
 unfold jI_ at *;split at h2
 ·simp at h2
 ·rename_i h3;rw[if_neg h3];exact h.tickA.tickB.tickC
structure Rs_(s:al_)(b:Blk):Prop where
 root:b.root≠rt0
 kn:pC_ s b.root=false
 par:0≤av_ s.nodes b.parent
 slot:(nod s.nodes (av_ s.nodes b.parent).toNat).blk.slot<b.slot
 lim:(s.nodes.length:Int)<s.cfg.lim.node
theorem Jr_ {s : al_} {b : Blk} (h : cE_ s b = 0) : Rs_ s b := by
 unfold cE_ at h;split at h
 ·simp at h
 ·split at h
  ·simp at h
  ·split at h
   ·simp at h
   ·split at h
    ·simp at h
    ·split at h
     ·simp at h
     ·split at h
      ·simp at h
      ·split at h
       ·simp at h
       ·split at h
        ·simp at h
        ·split at h
         ·simp at h
         ·split at h
          ·simp at h
          ·exact⟨by assumption,by simpa using ‹¬pC_ s b.root=true›,by omega,by omega,by omega⟩
theorem Oj_(b:Blk):0≤dZ_ b∧dZ_ b≤2:=by unfold dZ_;split<;>exact⟨by decide,by decide⟩
theorem ON_{s:al_}{b:Blk}(h:Rs_ s b)(hn:s.cfg.lim.node≤4096):(ga_ s.nodes b (dZ_ b)).2=0:=by
 have h1:=h.kn;unfold pC_ at h1;have h2:decide (0≤av_ s.nodes b.root)=false:=by simp at h1;simpa using h1.2
 have h3:=of_decide_eq_false h2;have h4:=h.par;have h5:=h.slot;have h6:=h.lim;unfold ga_;rw[if_neg (by simp[Oj_ b]),if_neg h3,if_neg (by omega),if_neg (by omega),if_neg (by omega)]
theorem JJ_{t:List Nod}{n:Nod}{r:Rt}(h:0≤av_ t r):0≤av_ (t++[n]) r:=by
 obtain⟨h1,h2⟩:=qU_ h;exact so_ (k:=(av_ t r).toNat) (by simp;omega) (by rw[jA_,if_pos h1];exact h2)
theorem bg_.insN{s:al_}{i:Nat}(h:bg_ s i){b:Blk}(hc:cE_ s b=0)(hb:hZ_ b):bg_ (dg_ s (ga_ s.nodes b (dZ_ b)).1) i:=by
 have h1:=Jr_ hc;have h2:=ON_ h1 (by have:=h.cfg.ln;omega);have h3:=(Ic_ h2).1;have h4:=h.tree.ins h2;have h5:=h1.lim;have h6:=h.cfg.ln;rw[h3]at h4 ⊢;refine⟨h.cfg,h4,JJ_ h.jf,h.ll,by show (s.nodes++[_]).length≤13;simp;omega,fun n hn=>?_,h.oo,h.uo,h.aa,h.av,h.tt,h.tb,h.qq,h.uj,h.uf,h.nw,h.ii⟩;rcases List.mem_append.1 hn with hn|hn
 ·exact h.un n hn
 ·rw[List.mem_singleton]at hn;rw[hn];exact hb
theorem bg_.ins{s:al_}{i:Nat}(h:bg_ s i){b:Blk}(hc:cE_ s b=0)(hb:hZ_ b):bg_ (jW_ s b) i:=by
 have h1:=(h.insN hc hb).upd hb.just hb.fin;unfold jW_;split
 ·exact h1.upd hb.j hb.f
 ·exact h1
theorem Lf_(l:List Blk)(i:Nat):∀b∈takeO l i,b∈l:=fun b hb=>by
 unfold takeO at hb;rcases List.mem_append.1 hb with hb|hb
 ·exact List.mem_of_mem_take hb
 ·exact List.mem_of_mem_drop hb
theorem Ok_(l:List Blk)(i:Nat):(takeO l i).length≤l.length:=by
 unfold takeO;rw[List.length_append,List.length_take,List.length_drop];omega
theorem bg_.takeO{s:al_}{i:Nat}(h:bg_ s i)(k:Nat):bg_ (Go.FH.withO s (takeO s.orph k)) i:=h.withO (Nat.le_trans (Ok_ _ _) h.oo) fun b hb=>h.uo b (Lf_ _ _ b hb)
theorem bg_.waitR{p:al_×List Rt}{i:Nat}(h:bg_ p.1 i)(h0:0≤cA_ p.1):bg_ (waitR p).1 i:=by
 have h1:=xs_ p.1;have h2:=h.takeO (cA_ p.1).toNat
 unfold Go.Proofs.YtipiipgpnkpejaaGreat.waitR;split
 ·rename_i hc;exact h2.ins hc (h.uo _ (gT_ _ (by omega)))
 ·exact h2
theorem bg_.waitG{i:Nat}:∀ (f:Nat) {p:al_×List Rt},bg_ p.1 i→bg_ (waitG f p).1 i
 |0,_,h=>h
 | f + 1, p, h => by
   unfold Go.Proofs.YtipiipgpnkpejaaGreat.waitG;split
   ·exact h
   ·exact bg_.waitG f (h.waitR (by omega))
theorem Lq_(p:al_×List Rt):(waitR p).2.length≤p.2.length+1:=by
 unfold waitR;split<;>simp
theorem Bd_:∀ (f:Nat) (p:al_×List Rt),(waitG f p).2.length≤p.2.length+f
 |0,p=>Nat.le_refl _
 | f + 1, p => by
   unfold waitG;split
   ·omega
   ·have h1:=Bd_ f (waitR p);have h2:=Lq_ p;omega
theorem RD_{b:Blk}(h:hZ_ b):hZ_ (noT b):=⟨h.slot,h.just,h.fin,h.j,h.f⟩
theorem bg_.blockI{s:al_}{i:Nat}(h:bg_ s i){b:Blk}(hc:cE_ s b=0)(hb:hZ_ b):bg_ (blockI s b) i:=by
 unfold Go.Proofs.YtipiipgpnkpejaaGreat.blockI;split
 ·exact(h.ins hc hb).withB _
 ·exact h.ins hc hb
theorem bg_.block{s:al_}{i:Nat}(h:bg_ s i){b:Blk}(hb:hZ_ b)(h2:(dL_ s b).2.2=0):bg_ (dL_ s b).1 i∧(dL_ s b).2.1.length≤5:=by
 unfold dL_ at *;split at h2
 ·rename_i h3
  rw[if_pos h3];split at h2
  ·simp at h2
  ·rename_i h4;rw[if_neg h4];have:=h.cfg.lo;refine⟨h.withO (by simp;omega) (fun x hx=>?_),by simp⟩;rw[List.mem_append,List.mem_singleton]at hx;rcases hx with hx|rfl
   ·exact h.uo x hx
   ·exact RD_ hb
 ·rename_i h3
  rw[if_neg h3];split at h2
  ·rename_i h4;exact absurd h2 h4
  ·rename_i h4;rw[if_neg h4];have h5:=h.blockI (by simpa using h4) hb;have h6:=h5.oo;refine⟨bg_.waitG _ h5,?_⟩;have:=Bd_ ((Go.Proofs.YtipiipgpnkpejaaGreat.blockI s b).orph.length+1) (Go.Proofs.YtipiipgpnkpejaaGreat.blockI s b,[b.root]);dsimp only at this ⊢;simp at this;omega
theorem bg_.att{s:al_}{i:Nat}(h:bg_ s i){a:aW_}(ha:a.vals.length≤10)(h2:(rO_ s a).2=0):bg_ (rO_ s a).1 i:=by
 unfold rO_ at *;split at h2
 ·rename_i h3;exact absurd h2 h3
 ·rename_i h3
  rw[if_neg h3];split at h2
  ·rename_i h4;rw[if_pos h4];exact h.castIn a
  ·rename_i h4
   rw[if_neg h4];split at h2
   ·simp at h2
   ·rename_i h5;rw[if_neg h5];have:=h.cfg.la;refine h.withE (by simp;omega) (fun x hx=>?_);rw[List.mem_append,List.mem_singleton]at hx;rcases hx with hx|rfl
    ·exact h.av x hx
    ·exact ha
theorem bg_.slash{s:al_}{i:Nat}(h:bg_ s i){x:df_}(hx:x.fst.vals.length≤10)(hi:i<30)(h2:(iY_ s x).2=0):bg_ (iY_ s x).1 (i+1):=by
 unfold iY_ at *;split at h2
 ·rename_i h3;exact absurd h2 h3
 ·rename_i h3
  rw[if_neg h3];split at h2
  ·simp at h2
  ·rename_i h4;rw[if_neg h4];have h5:=qx_ x.fst.vals x.snd.vals x.fst.vals.length;have h6:=Cu_ s.eqv (gt_ x.fst.vals x.snd.vals x.fst.vals.length) (gt_ x.fst.vals x.snd.vals x.fst.vals.length).length;have h7:=h.qq;exact⟨h.cfg,h.tree,h.jf,h.ll,h.nn,h.un,h.oo,h.uo,h.aa,h.av,h.tt,h.tb,by show (EQ_ s.eqv _).length≤_;unfold EQ_;omega,h.uj,h.uf,h.nw,by omega⟩
theorem FY_(l:List aR_)(t:aR_):(mj_ l t).length=l.length+1:=by
 unfold mj_;simp only[List.length_append,List.length_take,List.length_drop,List.length_cons,List.length_nil];omega
theorem FZ_(l:List aR_)(t:aR_):∀x∈mj_ l t,x∈l∨x=t:=fun x hx=>by
 unfold mj_ at hx;simp only[List.mem_append,List.mem_singleton]at hx;rcases hx with (hx|hx)|hx
 ·exact .inl (List.mem_of_mem_take hx)
 ·exact .inr hx
 ·exact .inl (List.mem_of_mem_drop hx)
theorem bg_.reg{s:al_}{i:Nat}(h:bg_ s i){t:aR_}(h2:(wH_ s t).2=0):bg_ (wH_ s t).1 i:=by
 unfold wH_ at *;split at h2
 ·rename_i h3;exact absurd h2 h3
 ·rename_i h3
  rw[if_neg h3];split at h2
  ·simp at h2
  ·rename_i h4
   rw[if_neg h4];split at h2
   ·rename_i h5;exact absurd h2 h5
   ·rename_i h5
    rw[if_neg h5];have hv:hA_ t s.cfg.bals.length=0:=by simpa using h3
    have hb:t.bals.length≤6:=by
     have:=h.cfg.b1;unfold hA_ at hv;split at hv
     ·simp at hv
     ·omega
    have hr:(iU_ s.tabs t s.cfg.bals.length s.cfg.lim.table).1.length≤4∧∀x∈(iU_ s.tabs t s.cfg.bals.length s.cfg.lim.table).1,x∈s.tabs∨x=t:=by
     have:=h.cfg.lt;unfold iU_;rw[if_neg (by simpa using hv)];split
     ·exact⟨h.tt,fun x hx=>.inl hx⟩
     ·split
      ·exact⟨h.tt,fun x hx=>.inl hx⟩
      ·exact⟨by rw[FY_];omega,FZ_ _ _⟩
    refine h.withT hr.1 fun x hx=>?_
    rcases hr.2 x hx with hx|rfl
    ·exact h.tb x hx
    ·exact hb
theorem Fa_{t:List Nod}{i:Int}(h:(cY_ t i).2=0):(cY_ t i).1.length=t.length∧∀k,(nod (cY_ t i).1 k).up=(nod t k).up∧(nod (cY_ t i).1 k).blk=(nod t k).blk:=by
 unfold cY_ at *;split at h
 ·rename_i h1;rw[if_pos h1];cases h2:xa_ t (bZ_ t i) 1 2 with
  |none=>rw[h2]at h;simp at h
  |some u=>exact⟨iW_ h2,fun k=>rx_ h2 k⟩
 ·simp at h
theorem HV_{t:List Nod}{i:Int}(h:(ju_ t i).2=0):(ju_ t i).1.length=t.length∧∀k,(nod (ju_ t i).1 k).up=(nod t k).up∧(nod (ju_ t i).1 k).blk=(nod t k).blk:=by
 unfold ju_ at *;split at h
 ·rename_i h1;rw[if_pos h1];cases h2:xa_ t (iF_ t i) 2 1 with
  |none=>rw[h2]at h;simp at h
  |some u=>exact⟨iW_ h2,fun k=>rx_ h2 k⟩
 ·simp at h
theorem EC_{t:List Nod}{i:Int}{v:Vdt}{keep:List Int}(h:(gu_ t i v keep).2=0):(gu_ t i v keep).1.length=t.length∧∀k,(nod (gu_ t i v keep).1 k).up=(nod t k).up∧(nod (gu_ t i v keep).1 k).blk=(nod t k).blk:=by
 unfold gu_ at *;split at h
 ·simp at h
 rename_i h1;rw[if_neg h1];split at h
 ·rename_i h2;rw[if_pos h2];exact Fa_ h
 rename_i h2;rw[if_neg h2];split at h
 ·rename_i h3;rw[if_pos h3];exact⟨rfl,fun k=>⟨rfl,rfl⟩⟩
 rename_i h3;rw[if_neg h3];split at h
 ·simp at h
 rename_i h4;rw[if_neg h4];split at h
 ·simp at h
 rename_i h5;rw[if_neg h5];split at h
 ·rename_i h6
  rw[if_pos h6];split at h
  ·rename_i h7;exact absurd h h7
  ·rename_i h7;rw[if_neg h7];have a:=Fa_ (show (cY_ t (hq_ t i v.latest).1).2=0 by simpa using h7);have b:=HV_ h;exact⟨b.1.trans a.1,fun k=>⟨(b.2 k).1.trans (a.2 k).1,(b.2 k).2.trans (a.2 k).2⟩⟩
 ·rename_i h6;rw[if_neg h6];exact HV_ h
theorem JK_{t u:List Nod}(hl:u.length=t.length)(hb:∀k,(nod u k).blk=(nod t k).blk)(r:Rt):av_ u r=av_ t r:=by
 unfold av_;rw[hl];congr 2;funext k
 rw[hb k]
theorem bg_.judge{s:al_}{i:Nat}(h:bg_ s i){t:List Nod}(hl:t.length=s.nodes.length)(hu:∀k,(nod t k).up=(nod s.nodes k).up∧(nod t k).blk=(nod s.nodes k).blk):bg_ (dg_ s t) i:=by
 refine⟨h.cfg,⟨h.tree.ok.of_up hl fun k=>(hu k).1,by have:=h.tree.pos;show 0<t.length;omega,by show (nod t 0).up<0;rw[(hu 0).1];exact h.tree.root⟩,?_,h.ll,by have:=h.nn;show t.length≤13;omega,fun n hn=>?_,h.oo,h.uo,h.aa,h.av,h.tt,h.tb,h.qq,h.uj,h.uf,h.nw,h.ii⟩
 ·show 0≤av_ t s.j.rt
  rw[JK_ hl fun k=>(hu k).2];exact h.jf
 ·obtain⟨k,hk,he⟩:=Cp_ hn;rw[←he];show hZ_ (nod t k).blk;rw[(hu k).2]
  exact h.blk (show k<s.nodes.length by have:k<t.length:=hk;omega)
theorem Dk_(l:List Int)(n:Int):bt_ l n≠21:=by
 unfold bt_;split
 ·decide
 ·generalize (0:Nat)=i
  have key:∀k i,l.length-i=k→kS_ l n i≠21:=by
   intro k;induction k with
   |zero=>intro i hi;rw[sP_ (by omega)];decide
   | succ k ih =>
     intro i hi;rw[lu_ (by omega)];split
     ·decide
     ·split
      ·decide
      ·exact ih (i+1) (by omega)
  exact key _ i rfl
theorem IL_(t:aR_)(n:Int):hA_ t n≠21:=by unfold hA_;(repeat' split)<;>decide
theorem Qa_(s:al_):(jI_ s).2≠21:=by unfold jI_;split<;>simp
theorem Jq_(s:al_)(b:Blk):cE_ s b≠21:=by
 unfold cE_;repeat'(split;· decide)
 decide
theorem LK_(s:al_)(b:Blk):(dL_ s b).2.2≠21:=by
 unfold dL_;split
 ·split<;>simp
 ·split
  ·exact Jq_ s b
  ·simp
theorem Jp_(s:al_)(a:aW_):(dC_ s a).2≠21:=by
 unfold dC_;split
 ·exact Dk_ _ _
 ·split
  ·simp
  ·split
   ·simp
   ·split
    ·simp
    ·split<;>simp
theorem QD_(s:al_)(a:aW_):(rO_ s a).2≠21:=by
 unfold rO_;split
 ·exact Jp_ s a
 ·split
  ·simp
  ·split<;>simp
theorem NT_(s:al_)(x:df_):(iY_ s x).2≠21:=by
 unfold iY_;split
 ·unfold evE
  dsimp only;split
  ·exact Dk_ _ _
  ·split
   ·exact Dk_ _ _
   ·split
    ·decide
    ·split<;>decide
 ·split<;>simp
theorem QY_(s:al_)(t:aR_):(wH_ s t).2≠21:=by
 unfold wH_;split
 ·exact IL_ _ _
 ·split
  ·simp
  ·split
   ·unfold iU_
    dsimp only;split
    ·exact IL_ _ _
    ·split
     ·simp
     ·split<;>simp
   ·simp
structure ej_(s:aN_)(i:Nat):Prop where
 sto:bg_ s.sto i
 rq:s.reqs.length≤10*i
 ut:∀r∈s.reqs,U64 r.tag
 yl:s.rets.length≤3
 tg:U64 s.tag
theorem ej_.up{s:aN_}{i k:Nat}(h:ej_ s i)(h1:i≤k)(h2:k≤30):ej_ s k:=⟨h.sto.up h1 h2,by have:=h.rq;omega,h.ut,h.yl,h.tg⟩
theorem Fe_{l:List Req}{k:Nat}(h:k<l.length):dl_ l k∈l:=gT_ _ h
theorem mW_(t:List Nod)(l:List Req):(iM_ t l).length≤l.length∧∀r∈iM_ t l,r∈l:=by
 refine⟨by have:=hg_ (f:=eT_ t l) (a:=[]) (fun i o=>by unfold eT_;split<;>simp) l.length;unfold iM_;simpa using this,?_⟩;refine hf_ (f:=eT_ t l) (a:=[]) (fun _ o=>∀r∈o,r∈l) (by simp) l.length (fun i o hi ho=>?_) _ (Nat.le_refl _);unfold eT_;split
 ·intro r hr;rw[List.mem_append,List.mem_singleton]at hr;rcases hr with hr|rfl
  ·exact ho r hr
  ·exact Fe_ hi
 ·exact ho
structure hi_(s:aN_)(i n:Nat):Prop where
 sto:bg_ s.sto i
 rq:s.reqs.length≤n
 ut:∀r∈s.reqs,U64 r.tag
 yl:s.rets.length≤3
 tg:U64 s.tag
theorem hi_.a{s:aN_}{i n:Nat}(h:hi_ s i n)(hn:n≤10*i):ej_ s i:=⟨h.sto,Nat.le_trans h.rq hn,h.ut,h.yl,h.tg⟩
theorem ej_.q{s:aN_}{i:Nat}(h:ej_ s i):hi_ s i (10*i):=⟨h.sto,h.rq,h.ut,h.yl,h.tg⟩
theorem hi_.drop{s:aN_}{i n:Nat}(h:hi_ s i n):hi_ (vo_ s) i n:=by
 have h1:=mW_ s.sto.nodes s.reqs;have h2:=mW_ s.sto.nodes s.rets;exact⟨h.sto,Nat.le_trans h1.1 h.rq,fun r hr=>h.ut r (h1.2 r hr),Nat.le_trans h2.1 h.yl,h.tg⟩
theorem hi_.open1{s:aN_}{i n:Nat}(h:hi_ s i n)(r:Rt)(k:Int):hi_ (oU_ s r k) i (n+1):=by
 refine⟨h.sto,by show (s.reqs++[_]).length≤_;have:=h.rq;simp;omega,fun x hx=>?_,h.yl,bG_ _⟩;rcases List.mem_append.1 hx with hx|hx
 ·exact h.ut x hx
 ·rw[List.mem_singleton]at hx;rw[hx];exact h.tg
theorem hi_.le{s:aN_}{i n m:Nat}(h:hi_ s i n)(hn:n≤m):hi_ s i m:=⟨h.sto,Nat.le_trans h.rq hn,h.ut,h.yl,h.tg⟩
theorem hi_.opens{s:aN_}{i n:Nat}(h:hi_ s i n)(l:List Rt):hi_ (Hf_ s l) i (n+l.length):=by
 refine hf_ (f:=fV_ l) (a:=s) (fun k t=>hi_ t i (n+k)) h l.length (fun k t hk ht=>?_) _ (Nat.le_refl _);unfold fV_;split
 ·exact ht.open1 _ _
 ·exact ht.le (by omega)
theorem hi_.rets{s:aN_}{i n:Nat}(h:hi_ s i n){l:List Req}(hl:l.length≤3):hi_ (eF_ s l) i n:=⟨h.sto,h.rq,h.ut,hl,h.tg⟩
theorem hi_.due{s:aN_}{i n:Nat}(h:hi_ s i n):hi_ (QJ_ s) i (n+3):=by
 have key:=hf_ (f:=mG_ s.rets) (a:=eF_ s []) (fun k t=>hi_ t i (n+k)∧t.rets.length≤k) ⟨h.rets (by simp),Nat.le_refl _⟩ s.rets.length (fun k t hk ht=>by
  have:=h.yl;unfold mG_;split
  ·exact⟨(ht.1.rets (by have:=ht.2;simp;omega)).le (by omega),by show (t.rets++[_]).length≤k+1;have:=ht.2;simp;omega⟩
  ·split
   ·exact⟨ht.1.open1 _ _,Nat.le_succ_of_le ht.2⟩
   ·exact⟨ht.1.le (by omega),Nat.le_succ_of_le ht.2⟩) _ (Nat.le_refl _)
 exact key.1.le (by have:=h.yl;omega)
theorem AV_:∀ (k:Nat) (l:List Req),(oX_ l k).length=l.length
 |0,l=>rfl
 | k + 1, l => by
   unfold oX_;split
   ·rw[AV_ k];simp
   ·rfl
theorem ej_.later{s:aN_}{i:Nat}(h:ej_ s i)(r:Req):ej_ (wa_ s r) i:=by
 unfold wa_;split
 ·exact h
 ·split
  ·exact⟨h.sto,h.rq,h.ut,h.yl,h.tg⟩
  ·rename_i h2;have:=h.sto.cfg.lr;exact⟨h.sto,h.rq,h.ut,by show (oX_ _ _).length≤3;rw[AV_];simp;omega,h.tg⟩
theorem II_(l:List Req)(i:Nat):(rD_ l i).length≤l.length∧∀r∈rD_ l i,r∈l:=by
 unfold rD_;refine⟨by rw[List.length_append,List.length_take,List.length_drop];omega,fun r hr=>?_⟩;rcases List.mem_append.1 hr with hr|hr
 ·exact List.mem_of_mem_take hr
 ·exact List.mem_of_mem_drop hr
theorem ej_.mat{s:aN_}{i:Nat}(h:ej_ s i){v:Vdt}(h2:(dk_ s v).2.2=0):ej_ (dk_ s v).2.1 i:=by
 unfold dk_ at *;split at h2
 ·rename_i k hk;have h1:=II_ s.reqs k;exact⟨h.sto,Nat.le_trans h1.1 h.rq,fun r hr=>h.ut r (h1.2 r hr),h.yl,h.tg⟩
 ·simp at h2
theorem bg_.boostV{s:al_}{i:Nat}(h:bg_ s i):bg_ (boostV s) i:=by
 unfold Go.Proofs.YtipiipgpnkpejaaGreat.boostV;split
 ·exact h.withB _
 ·exact h
theorem ej_.verd{s:aN_}{i:Nat}(h:ej_ s i){v:Vdt}(h2:(rI_ s v).2=0∨(rI_ s v).2=21):ej_ (rI_ s v).1 i:=by
 unfold rI_ at *;split at h2
 ·rename_i h3;rw[if_pos h3];exact h
 ·rename_i h3
  rw[if_neg h3];have hm:=h.mat (v:=v) (by simpa using h3);split at h2
  ·rename_i h4;rw[if_pos h4];exact hm.later _
  ·rename_i h4
   rw[if_neg h4];split at h2
   ·rename_i h5;rw[if_pos h5];exact⟨h.sto,h.rq,h.ut,h.yl,h.tg⟩
   ·rename_i h5;rw[if_neg h5];unfold Cm_ at *;have h6:=EC_ (show (gu_ (dk_ s v).2.1.sto.nodes _ v _).2=0 by simpa using h5);exact⟨(hm.sto.judge h6.1 h6.2).boostV,hm.rq,hm.ut,hm.yl,hm.tg⟩
structure OpR(x:VOp):Prop where
 blk:hZ_ x.blk
 att:x.att.vals.length≤10
 fst:x.slg.fst.vals.length≤10
 snd:x.slg.snd.vals.length≤10
 tab:x.tab.bals.length≤10
theorem ej_.perf{s:aN_}{i:Nat}(h:ej_ s i)(hi:i<30){x:VOp}(hx:OpR x)(h2:(jC_ s x).2=0∨(jC_ s x).2=21):ej_ (jC_ s x).1 (i+1):=by
 have hu:=h.up (Nat.le_succ i) (by omega);unfold jC_ at *;split at h2
 ·rename_i h3
  rw[if_pos h3];split at h2
  ·rename_i h4;rw[if_pos h4];have ht:=h.sto.tick h4;have hq:hi_ (eE_ s (jI_ s.sto).1) i (10*i):=⟨ht,h.rq,h.ut,h.yl,h.tg⟩;have hd:=hq.drop.due;exact⟨hd.sto.up (Nat.le_succ i) (by omega),by have:=hd.rq;dsimp only;omega,hd.ut,hd.yl,hd.tg⟩
  ·rename_i h4;exact absurd h2 (by intro h5;rcases h5 with h5|h5;exact h4 h5;exact Qa_ _ h5)
 rename_i h3;rw[if_neg h3];clear h3;split at h2
 ·rename_i h3
  rw[if_pos h3];split at h2
  ·rename_i h4;rw[if_pos h4];have ht:=h.sto.block hx.blk h4;have hq:hi_ (eE_ s (dL_ s.sto x.blk).1) i (10*i):=⟨ht.1,h.rq,h.ut,h.yl,h.tg⟩;have hd:=hq.drop.opens (dL_ s.sto x.blk).2.1;have:=ht.2;exact⟨hd.sto.up (Nat.le_succ i) (by omega),by have:=hd.rq;dsimp only;omega,hd.ut,hd.yl,hd.tg⟩
  ·rename_i h4;exact absurd h2 (by intro h5;rcases h5 with h5|h5;exact h4 h5;exact LK_ _ _ h5)
 rename_i h3;rw[if_neg h3];clear h3;split at h2
 ·rename_i h3;rw[if_pos h3];exact⟨(h.sto.att hx.att (h2.resolve_right (QD_ _ _))).up (Nat.le_succ i) (by omega),hu.rq,hu.ut,hu.yl,hu.tg⟩
 rename_i h3;rw[if_neg h3];clear h3;split at h2
 ·rename_i h3;rw[if_pos h3];exact⟨h.sto.slash hx.fst hi (h2.resolve_right (NT_ _ _)),hu.rq,hu.ut,hu.yl,hu.tg⟩
 rename_i h3;rw[if_neg h3];clear h3;split at h2
 ·rename_i h3;rw[if_pos h3];exact⟨(h.sto.reg (h2.resolve_right (QY_ _ _))).up (Nat.le_succ i) (by omega),hu.rq,hu.ut,hu.yl,hu.tg⟩
 rename_i h3;rw[if_neg h3];clear h3;split at h2
 ·rename_i h3;rw[if_pos h3];exact(h.verd h2).up (Nat.le_succ i) (by omega)
 rename_i h3;rw[if_neg h3];exact hu
theorem ej_.emit{s:aN_}{i:Nat}(h:ej_ s i):ej_ (mH_ s).1 i:=by
 unfold mH_;split
 ·exact h
 ·exact⟨h.sto,h.rq,h.ut,h.yl,h.tg⟩
theorem ej_.step{s:aN_}{i:Nat}(h:ej_ s i)(hi:i<30){x:VOp}(hx:OpR x):ej_ (rB_ s x).1 (i+1):=by
 have hu:=h.up (Nat.le_succ i) (by omega);unfold rB_;split
 ·exact hu
 ·split
  ·exact hu
  ·split
   ·rename_i h3;exact h.perf hi hx (.inr h3)
   ·split
    ·exact hu
    ·rename_i h3 h4;exact(h.perf hi hx (.inl (by simpa using h4))).emit
end Go.Proofs.YtipiipgpnkpejaaGreat
namespace Go.Proofs.YtipiipgpnkpejaaGreat
open Go Go.FH Go.RowKit
set_option linter.unusedVariables false
set_option linter.unusedSimpArgs false
set_option maxRecDepth 8000
set_option maxHeartbeats 4000000
theorem Sm.val{α:Type}{v:α}{F:α→Prop}(h:Sm (fun r=>r=v) F):F v:=by
 obtain⟨r,rfl,h⟩:=h;exact h
theorem Ln_(n:Nat):List.replicate n (cc_ uu_)=rows cc_ (List.replicate n uu_):=NB_ cc_ n uu_
theorem NW_{fr:Fr}{σ:St}{rs:List eG_}{l:List AV}{n:Int}{S:al_×Int}(hl:cg_ fr σ rs=some l)(hv:fz σ (List.range σ.length) (es_ l)=.tup [.agg (ao_ cQ_),.int .i64 n])(hs:(fA_,n)=S):
 Sm (fun r:al_×Int=>r=S) fun r=>PQ rs (.tup [.agg (ao_ r.1.a),.int .i64 r.2]) .ret fr σ:=
 ⟨(fA_,n),hs,l,hl,.inr ⟨_,hv,(by simp[PuL,Pu,dx_,cQ_,ao_,cH_,gF_,ci_,eH_,el_,hl_,bm_,cp0]),Wk.tup ⟨Ds_,Wk.refl _,trivial⟩⟩⟩
theorem PV_(x:Sto)(p:Pul):spl (ao_ x) 47 (cT_ p)=ao_ { x with j:=p.j,f:=p.f }:=rC_ x p.j p.f
theorem Rk_(x:Sto)(l:List (List AV)):Wk (.agg (ao_ { x with eqv:=.sl 0 true [],early:=.sl 0 true [],orph:=.sl 0 true [],tabs:=.sl 34 true l })) (.agg (ao_ { x with eqv:=.sl 1 false [],early:=.sl 67 false [],orph:=.sl 238 false [],tabs:=.sl 34 false l })):=by
 refine Wk.agg ?_;unfold ao_;dsimp only;exact(WkC.refl _).app (.same _ (.cons (Wk.empty _ _ _) (fun h=>h) ((WkC.refl _).app ((WkC.refl _).app (.cons (Wk.empty _ _ _) (fun h=>h) (.cons (Wk.empty _ _ _) (fun h=>h) (.same _ (.same _ ((WkC.refl _).app (.one (Wk.open_ _ _ _) fun h=>h))))))))))
theorem Po_(s:al_):PuL (ao_ { s.a with eqv:=.sl 0 true [],early:=.sl 0 true [],orph:=.sl 0 true [],tabs:=.sl 34 true (rows aR_.c s.tabs) }):=by
 have h:=(mi_ _).1 s.pul;refine(mi_ _).2 ?_;simp only[Sto.Pure,Pu,dx_,and_true,true_and]at *;simp[h,fC_]
theorem MQ_(c:bV_)(hb:c.bals.length≤1000000):PC Tryz.prog 112 [.agg (bm_ c.a)] (.tup [.agg (ao_ (Kg_ c).1.a),.int .i64 (Kg_ c).2]):=by
 refine Sm.val (F:=fun r:al_×Int=>PC Tryz.prog 112 [.agg (bm_ c.a)] (.tup [.agg (ao_ r.1.a),.int .i64 r.2])) ?_;refine fX_ 9 Ed_ (by simp) puA (fun r _=>puA) ?_;unfold sY_;refine bd ?_;have c1:=sR_ ⟨⟨0,c.gen⟩,c.bals⟩ c.bals.length hb;have c2:=Kh_ (QK_ c.gen) 1;have c3:=vk_ ⟨⟨0,c.gen⟩,c.bals⟩ hb;generalize hV:hA_ ⟨⟨0,c.gen⟩,c.bals⟩ c.bals.length=V at *;have lt:∀ (a b:Int),decide (a > b)=decide (b<a):=fun _ _=>rfl
 iterate 5 (repeat'(first|refine bq_ ?_|(refine aT_ (fun h=>?_) (fun h=>?_)<;>try(exact absurd h (by decide)))|refine cD_ (fun h=>?_) (fun h=>?_));all_goals try refine bE_ (FV_ _ _ _) ?_)
 repeat'(first|refine bq_ ?_|(refine aT_ (fun h=>?_) (fun h=>?_)<;>try(exact absurd h (by decide)))|refine cD_ (fun h=>?_) (fun h=>?_))
 all_goals try(refine NW_ (by first|rfl|exact evd) (by first|rfl|exact evd) ?_)
 rotate_left 2
 ·refine bE_ c1 ?_
  repeat'(first|refine bq_ ?_|(refine aT_ (fun h=>?_) (fun h=>?_)<;>try(exact absurd h (by decide)))|refine cD_ (fun h=>?_) (fun h=>?_))
  ·refine NW_ (by first|rfl|exact evd) (by first|rfl|exact evd) ?_;(try simp only[Bool.not_false,Bool.not_true,decide_eq_true_eq,decide_eq_false_iff_not,Bool.not_eq_true',Bool.not_eq_false',beq_iff_eq,bne_iff_ne,beq_eq_false_iff_ne,bne_eq_false_iff_eq,ne_eq,Bool.not_eq_true,Bool.not_eq_false,Bool.or_eq_true,Bool.and_eq_true,Bool.or_eq_false_iff]at *)
   (simp only[Kg_,rf_, *,reduceIte,Bool.true_eq_false,Bool.false_eq_true,not_true_eq_false,not_false_eq_true,ne_eq,true_and,and_true,false_and,and_false,true_or,or_true,false_or,or_false,Int.reduceEq,if_false,if_true,eq_self,reduceCtorEq,decide_true,decide_false,Bool.and_true,Bool.true_and,Bool.and_false,Bool.false_and,Bool.or_true,Bool.true_or,Bool.or_false,Bool.false_or,Bool.not_true,Bool.not_false])
  ·refine cp_ c2 ?_
   refine bq_ ?_;refine cp_ c3 ?_;have hrep:List.replicate c.bals.length (cc_ ⟨false,0,rt0⟩)=rows cc_ (List.replicate c.bals.length uu_):=Ln_ _;have ht:List.take c.bals.length (rows cc_ (List.replicate c.bals.length ⟨false,0,rt0⟩))=rows cc_ (List.replicate c.bals.length ⟨false,0,rt0⟩):=List.take_of_length_le (by simp);repeat(first|refine bq_ ?_|simp only[go_sem,hrep,PV_])
   refine ID_ (pE_ c,0) ?_ ⟨_,(by first|rfl|exact evd),.inr ⟨.tup [.agg (ao_ { (pE_ c).a with eqv:=.sl 0 true [],early:=.sl 0 true [],orph:=.sl 0 true [],tabs:=.sl 34 true (rows aR_.c (pE_ c).tabs) }),.int .i64 0],?_,⟨Po_ _,trivial,trivial⟩,Wk.tup ⟨Rk_ _ _,Wk.refl _,trivial⟩⟩⟩
   ·(try simp only[Bool.not_false,Bool.not_true,decide_eq_true_eq,decide_eq_false_iff_not,Bool.not_eq_true',Bool.not_eq_false',beq_iff_eq,bne_iff_ne,beq_eq_false_iff_ne,bne_eq_false_iff_eq,ne_eq,Bool.not_eq_true,Bool.not_eq_false,Bool.or_eq_true,Bool.and_eq_true,Bool.or_eq_false_iff]at *)
    (simp only[Kg_,rf_, *,reduceIte,Bool.true_eq_false,Bool.false_eq_true,not_true_eq_false,not_false_eq_true,ne_eq,true_and,and_true,false_and,and_false,true_or,or_true,false_or,or_false,Int.reduceEq,if_false,if_true,eq_self,reduceCtorEq,decide_true,decide_false,Bool.and_true,Bool.true_and,Bool.and_false,Bool.false_and,Bool.or_true,Bool.true_or,Bool.or_false,Bool.false_or,Bool.not_true,Bool.not_false])
   ·(try simp only[go_sem,Nat.reduceAdd,Nat.reduceSub,Nat.reduceMul,Nat.reduceLT,Nat.reduceLeDiff,Nat.reduceEqDiff,reduceIte,Int.reduceToNat,Int.reduceLT,Int.reduceLE,Int.reduceEq,Int.reduceNeg,reduceCtorEq,Int.reduceBEq,Int.reduceBNe,List.length_replicate,ht])
    rfl
 all_goals(try simp only[Bool.not_false,Bool.not_true,decide_eq_true_eq,decide_eq_false_iff_not,Bool.not_eq_true',Bool.not_eq_false',beq_iff_eq,bne_iff_ne,beq_eq_false_iff_ne,bne_eq_false_iff_eq,ne_eq,Bool.not_eq_true,Bool.not_eq_false,Bool.or_eq_true,Bool.and_eq_true,Bool.or_eq_false_iff]at *)
 all_goals(simp only[Kg_,rf_, *,reduceIte,Bool.true_eq_false,Bool.false_eq_true,not_true_eq_false,not_false_eq_true,ne_eq,true_and,and_true,false_and,and_false,true_or,or_true,false_or,or_false,Int.reduceEq,if_false,if_true,eq_self,reduceCtorEq,decide_true,decide_false,Bool.and_true,Bool.true_and,Bool.and_false,Bool.false_and,Bool.or_true,Bool.true_or,Bool.or_false,Bool.false_or,Bool.not_true,Bool.not_false])
theorem zl_(x:Sto)(v:AV):(ao_ x).set 113 v=ao_ { x with early:=v }:=by
 simp only[ao_,List.set_append,aD_,ak_,List.length_cons,Nat.reduceSub,Nat.reduceLT,if_false,List.set_cons_succ,List.set_cons_zero]
theorem zk_(x:Sto):(ao_ x).getD 113 .dead=x.early:=by
 simp only[ao_,List.getD_eq_getElem?_getD,List.getElem?_append,aD_,ak_,List.length_cons,Nat.reduceSub,Nat.reduceLT,if_false,List.getElem?_cons_succ,List.getElem?_cons_zero,Option.getD_some]
theorem Gk_(s:al_)(a:aW_)(h:StR s)(ha:a.vals.length≤1000000)(hj:∀j∈a.vals,0≤j∧j<s.latest.length)(l:List aW_)(n:Nat):
 ar_ Tryz.prog 149 [.agg (ao_ { s.a with early:=.hs 67 0 0 n }),.agg (aX_ a.a)] [.vec 67 (rows aW_.c l)] (.agg (ao_ { (castIn s a).a with early:=.hs 67 0 0 n })) [.vec 67 (rows aW_.c l)]:=by
 refine ar_.fact 6 mN_ (by simp) ?_ (by simp);unfold ik_;refine bd ?_;have c1:=zJ_ s.latest a.target.ep a.root a.vals h.bl ha hj;unfold castIn;generalize zI_ s.latest a.target.ep a.root a.vals=C at *;obtain⟨C1,C2⟩:=C;dsimp only at c1 ⊢;try refine aa_ ?_
 refine RV_ c1 ?_
 exact Sg_ [] [0]
theorem DL_(s:al_)(a:aW_)(h:StR s)(ha:a.vals.length≤1000000):
 ar_ Tryz.prog 148 [.agg (ao_ { s.a with early:=.hs 67 0 0 s.early.length }),.agg (aX_ a.a)] [.vec 67 (rows aW_.c s.early)] (.tup [.bool (dC_ s a).1,.int .i64 (dC_ s a).2]) [.vec 67 (rows aW_.c s.early)]:=by
 refine ar_.lend rfl ?_;have ht:List.take s.early.length (rows aW_.c s.early)=rows aW_.c s.early:=List.take_of_length_le (by simp);(try simp only[go_sem,ht,List.length_cons,List.length_nil,List.range_succ,List.range_zero])
 exact td_ s a h ha
theorem ng_{fr:Fr}{σ:St}{rs:List eG_}{l:List AV}{n:Int}(hl:cg_ fr σ rs=some l)(hv:fz σ (List.range σ.length) (es_ l)=.tup [.agg (ao_ cQ_),.int .i64 n]):PQ rs (.tup [.agg (ao_ fA_.a),.int .i64 n]) .ret fr σ:=
 ⟨l,hl,.inr ⟨_,hv,(by simp[PuL,Pu,dx_,cQ_,ao_,cH_,gF_,ci_,eH_,el_,hl_,bm_,cp0]),Wk.tup ⟨Ds_,Wk.refl _,trivial⟩⟩⟩
def dH_(s:al_)(k:Nat):al_:=aK_ (tickR s.early) (withE s []) k
theorem PZ_(s:al_)(k:Nat):dH_ s (k+1)=tickR s.early k (dH_ s k):=rfl
theorem Lg_(s:al_)(m:Nat)(h:bg_ s m):PC Tryz.prog 132 [.agg (ao_ s.a)] (.tup [.agg (ao_ (jI_ s).1.a),.int .i64 (jI_ s).2]):=by
 refine PC.fact 9 BZ_ (by simp) puA puA ?_;unfold qi_;refine bd ?_;unfold jI_;have hsp:=h.cfg.s1;have hs4:=h.cfg.s4;by_cases q1:1099511627776≤s.now
 ·have e1:decide ((1099511627776:Int)≤s.now)=true:=decide_eq_true q1;rw[if_pos q1];repeat(first|refine aa_ ?_|simp only[go_sem,e1])
  refine Rf_ ?_
  exact ng_ (by first|rfl|exact evd) (by first|rfl|exact evd)
 have e1:decide ((1099511627776:Int)≤s.now)=false:=decide_eq_false q1;rw[if_neg q1];have hA:=h.tickA;have hB:=hA.tickB;have c1:=Kn_ (tickA s) hA.r.bn;have c2:=xp_ (tickA s) (ri_ (tickA s)).j (ri_ (tickA s)).f hA.r
 have hmod:IntKind.u64.wrap (Int.tmod (tickA s).now (tickA s).cfg.spe)=Int.tmod (tickA s).now (tickA s).cfg.spe:=by
  have hn:=hA.nw;have hsp':1≤(tickA s).cfg.spe:=hsp;rw[Int.tmod_eq_emod_of_nonneg hn.lo];have h1:=Int.emod_nonneg (tickA s).now (show (tickA s).cfg.spe≠0 by omega);have h2:=Int.emod_lt_of_pos (tickA s).now (show 0<(tickA s).cfg.spe by omega);have hs4':(tickA s).cfg.spe≤4:=hs4;exact aH_ h1 (by omega)
 have hT1:Int.tmod (tickA s).now (tickA s).cfg.spe=0→tickB (tickA s)=cW_ (tickA s) (ri_ (tickA s)).j (ri_ (tickA s)).f:=fun hz=>by unfold tickB;rw[hmod,if_pos hz]
 have hT2:Int.tmod (tickA s).now (tickA s).cfg.spe≠0→tickB (tickA s)=tickA s:=fun hz=>by unfold tickB;rw[hmod,if_neg hz]
 show Tri _ _ _ _ (PQ _ (.tup [.agg (ao_ (dH_ (tickB (tickA s)) (tickB (tickA s)).early.length).a),.int .i64 0])) _ _
 generalize tickB (tickA s)=S2 at *;repeat(first|refine aa_ ?_|simp only[go_sem,e1])
 refine Re_ ?_
 refine sO_ (fun _=>[]) (fun _=>[.var (ao_ S2.a),.var (ao_ cQ_)]) (fun hT=>?_) (fun hF=>?_) ?_
 ·rw[hT1 (by rw[beq_iff_eq]at hT;exact hT)];try refine aa_ ?_
  refine RV_ c1 ?_
  refine RV_ c2 ?_
  exact Sn_ [] [0,1]
 ·rw[hT2 (by rw[beq_eq_false_iff_ne]at hF;exact hF)];try refine aa_ ?_
  exact Sn_ [] [0,1]
 clear hT1 hT2 hmod c1 c2;try refine aa_ ?_
 refine nt_ 0 113 67 ?_ (by rfl) (by exact zk_ _);simp only[go_sem,zl_];have hK:∀k,k≤S2.early.length→bg_ (dH_ S2 k) m∧(dH_ S2 k).early.length≤k:=bg_.tickR hB.av hB.aa hB
 have hz:dH_ S2 0=withE S2 []:=rfl;have haa:=hB.aa;refine aG_ (fun i:Nat=>[(6,.int .i64 i)]) (fun i=>[.var (ao_ { (dH_ S2 i).a with early:=.hs 67 2 0 (dH_ S2 i).early.length }),.var (ao_ cQ_),.vec 67 (rows aW_.c (dH_ S2 i).early)]) (fun i=>S2.early.length-i) (fun i=>i≤S2.early.length) 0 (Nat.zero_le _) ?_ ?_
 ·rw[hz];unfold withE;exact Sn_ [] [0,1,2]
 intro i hk;obtain⟨hki,hkl⟩:=hK i hk;have hsk:=PZ_ S2 i;(try simp only[aF_,aA_,List.set_cons_zero,List.set_cons_succ])
 by_cases h1:i<S2.early.length
 ·have e1:decide ((i:Int)<((S2.early.length:Nat):Int))=true:=decide_eq_true (by omega)
  have hw:=ag_ h1 (by omega);have hgd:(rows aW_.c S2.early).getD i []=aX_ (lY_ S2.early i).a:=cw_ (f:=aW_.c) default h1;have hav:=hB.av _ (DE_ h1);have hc:tickR S2.early i (dH_ S2 i)=if (dH_ S2 i).now≤(lY_ S2.early i).slot then withE (dH_ S2 i) ((dH_ S2 i).early++[lY_ S2.early i])else if (dC_ (dH_ S2 i) (lY_ S2.early i)).2=0 then castIn (dH_ S2 i) (lY_ S2.early i)else dH_ S2 i:=rfl
  have c1:=DL_ (dH_ S2 i) (lY_ S2.early i) hki.r (by omega);have c2:=fun hj=>Gk_ (dH_ S2 i) (lY_ S2.early i) hki.r (by omega) hj (dH_ S2 i).early (dH_ S2 i).early.length
  have hj:(dC_ (dH_ S2 i) (lY_ S2.early i)).2=0→∀j∈(lY_ S2.early i).vals,0≤j∧j<(dH_ S2 i).latest.length:=fun hq j hjm=>by
   have hv:bt_ (lY_ S2.early i).vals (dH_ S2 i).cfg.bals.length=0:=by
    unfold dC_ at hq;split at hq
    ·rename_i h1;exact absurd hq h1
    ·rename_i h1;simpa using h1
   obtain⟨u,hm,rfl⟩:=List.getElem_of_mem hjm;have:=(fZ_ hv).2 u hm;rw[List.getD_eq_getElem?_getD,List.getElem?_eq_getElem hm,Option.getD_some]at this;have hll:=hki.ll;omega
  clear hK;have hcl:(castIn (dH_ S2 i) (lY_ S2.early i)).early=(dH_ S2 i).early:=rfl;rw[hc]at hsk;generalize hs:dH_ S2 i=s1 at *;generalize lY_ S2.early i=a at *;have hr:rows aW_.c s1.early++[aX_ a.a]=rows aW_.c (s1.early++[a]):=cx_ aW_.c s1.early a;generalize hR:dC_ s1 a=R at *;obtain⟨R1,R2⟩:=R;dsimp only at c1 hsk hj;repeat(first|refine aa_ ?_|simp only[go_sem,e1])
  refine ac_ ?_;repeat(first|refine aa_ ?_|simp only[go_sem,hgd])
  by_cases q2:s1.now≤a.slot
  ·have e2:decide (s1.now≤a.slot)=true:=decide_eq_true q2;rw[if_pos q2]at hsk;repeat(first|refine aa_ ?_|simp only[go_sem,e2])
   refine ac_ ?_;repeat(first|refine aa_ ?_|simp only[go_sem,hgd,hr,hw])
   refine⟨i+1,h1,by omega,?_⟩;rw[hsk];unfold withE;exact Sn_ [] [0,1,3]
  ·have e2:decide (s1.now≤a.slot)=false:=decide_eq_false q2
   rw[if_neg q2]at hsk;repeat(first|refine aa_ ?_|simp only[go_sem,e2])
   refine ab_ ?_;repeat(first|refine aa_ ?_|simp only[go_sem,hgd])
   refine iD_ [2] (c1) evd (aj_.mk' (by simp) evd) ?_;refine evg ?_;try refine aa_ ?_
   by_cases q3:R2=0
   ·rw[if_pos q3]at hsk;subst q3;have c3:=c2 (hj rfl);generalize hcs:castIn s1 a=s3 at *;try refine aa_ ?_
    refine ac_ ?_;repeat(first|refine aa_ ?_|simp only[go_sem,hgd])
    refine iC_ [2] (c3) (by simp) evd (aj_.mk' (by simp) evd) ?_;refine evg ?_;repeat(first|refine aa_ ?_|simp only[go_sem,hw])
    refine⟨i+1,h1,by omega,?_⟩;rw[hsk,hcl];exact Sn_ [] [0,1,2]
   ·have e3:(R2==0)=false:=by simp[q3]
    rw[if_neg q3]at hsk;repeat(first|refine aa_ ?_|simp only[go_sem,e3])
    refine ab_ ?_;repeat(first|refine aa_ ?_|simp only[go_sem,hw])
    refine⟨i+1,h1,by omega,?_⟩;rw[hsk];exact Sn_ [] [0,1,2]
 ·obtain rfl:i=S2.early.length:=by omega
  have e1:decide (((S2.early.length:Nat):Int)<((S2.early.length:Nat):Int))=false:=decide_eq_false (by omega);generalize dH_ S2 S2.early.length=s1 at *;have ht:List.take s1.early.length (rows aW_.c s1.early)=rows aW_.c s1.early:=List.take_of_length_le (by simp);repeat(first|refine aa_ ?_|simp only[go_sem,e1])
  refine Re_ ?_
  refine⟨_,(by first|rfl|exact evd),.inl ?_⟩;(try simp only[go_sem,Nat.reduceAdd,Nat.reduceSub,Nat.reduceMul,Nat.reduceLT,Nat.reduceLeDiff,Nat.reduceEqDiff,reduceIte,Int.reduceToNat,Int.reduceLT,Int.reduceLE,Int.reduceEq,Int.reduceNeg,reduceCtorEq,Int.reduceBEq,Int.reduceBNe,ht])
  rfl
end Go.Proofs.YtipiipgpnkpejaaGreat
