/-
 My texts Lw, Lx, Ly, Lz, joined.
-/
import Derived.Test.YtkgimpdgncakjaaGreatV6
import Derived.Test.YtkgimpdgncakjaaGreatW3
namespace Go.Proofs.YtkgimpdgncakjaaGreat
open Go Go.FH Go.RowKit
set_option linter.unusedVariables false
set_option linter.unusedSimpArgs false
def WdG(w:Wd):Prop:=∀n∈w.1,0≤n∧n<18446744073709551616
structure OX_(c:bt_):Prop where
 s1:1≤c.spe
 s4:c.spe≤4
 b0:0<c.bals.length
 b1:c.bals.length≤6
 ln:c.lim.node≤13
 lo:c.lim.orph≤3
 la:c.lim.early≤3
 lt:c.lim.table≤4
 lr:c.lim.retry≤3
 tt:WdG c.ttd
structure aR_(s:aj_)(i:Nat):Prop where
 cfg:OX_ s.cfg
 tree:cm_ s.nodes
 jf:0≤an_ s.nodes s.j.rt
 ll:s.latest.length=s.cfg.bals.length
 nn:s.nodes.length≤13
 un:∀n∈s.nodes,jW_ n.blk
 oo:s.orph.length≤3
 uo:∀b∈s.orph,jW_ b
 aa:s.early.length≤3
 av:∀a∈s.early,a.vals.length≤10
 tt:s.tabs.length≤4
 tb:∀t∈s.tabs,t.bals.length≤6
 qq:s.eqv.length≤10*i
 uj:U64 s.j.ep
 uf:U64 s.f.ep
 nw:U64 s.now
 ii:i≤30
theorem aR_.r{s:aj_}{i:Nat}(h:aR_ s i):StR s:=by
 have h1:=h.cfg.s1;have h2:=h.cfg.b1;have h3:=h.nn;have h4:=h.qq;have h5:=h.ii;have h6:=h.ll;have h7:=h.tt;have h8:=h.oo;have h9:=h.aa;have h10:=h.cfg.ln;exact⟨h.tree,by omega,by omega,by omega,by omega,by omega,fun t ht=>by have:=h.tb t ht;omega,by omega,by omega,by omega,h6,h.jf⟩
theorem aR_.up{s:aj_}{i k:Nat}(h:aR_ s i)(h1:i≤k)(h2:k≤30):aR_ s k:=by
 obtain⟨a,b,c,d,e,f,g,j,l,m,n,o,p,q,r,t,u⟩:=h;exact⟨a,b,c,d,e,f,g,j,l,m,n,o,by omega,q,r,t,h2⟩
theorem bg_(n:Int):U64 (IntKind.u64.wrap n):=by rw[DO_];exact⟨by omega,by omega⟩
theorem dN_{α:Type}{l:List α}{i:Nat}(d:α)(h:i<l.length):l.getD i d∈l:=by
 rw[List.getD_eq_getElem?_getD,List.getElem?_eq_getElem h];exact List.getElem_mem h
theorem aR_.blk{s:aj_}{i:Nat}(h:aR_ s i){k:Nat}(hk:k<s.nodes.length):jW_ (nod s.nodes k).blk:=h.un _ (dN_ _ hk)
theorem Ad_{t:List Nod}{n:Nod}(h:n∈t):∃k,k<t.length∧nod t k=n:=by
 obtain⟨k,hk,he⟩:=List.getElem_of_mem h;exact⟨k,hk,by unfold nod;rw[List.getD_eq_getElem?_getD,List.getElem?_eq_getElem hk];exact he⟩
theorem OA_(s:aj_)(j f:Cp):(cp_ s j f).cfg=s.cfg:=by unfold cp_;(repeat' split)<;>rfl
theorem OC_(s:aj_)(j f:Cp):(cp_ s j f).eqv=s.eqv:=by unfold cp_;(repeat' split)<;>rfl
theorem yS_(s:aj_)(j f:Cp):(cp_ s j f).early=s.early:=by unfold cp_;(repeat' split)<;>rfl
theorem OD_(s:aj_)(j f:Cp):(cp_ s j f).now=s.now:=by unfold cp_;(repeat' split)<;>rfl
theorem Is_(l:List Blk)(a:Int):∀b∈ay_ (kW_ l a) [] l.length,b∈l:=by
 refine ha_ (f:=kW_ l a) (a:=[]) (fun _ o=>∀t∈o,t∈l) (by simp) l.length (fun i o hi ho=>?_) _ (Nat.le_refl _);unfold kW_;split
 ·intro t ht;rw[List.mem_append,List.mem_singleton]at ht;rcases ht with ht|rfl
  ·exact ho t ht
  ·exact dN_ _ hi
 ·exact ho
theorem vy_(s:aj_)(j f:Cp):(cp_ s j f).orph.length≤s.orph.length∧∀b∈(cp_ s j f).orph,b∈s.orph:=by
 unfold cp_;split
 ·exact⟨Nat.le_refl _,fun b hb=>hb⟩
 ·split
  ·exact⟨Nat.le_refl _,fun b hb=>hb⟩
  ·exact⟨mG_ _ _ _,Is_ _ _⟩
theorem MF_(s:aj_)(j f:Cp):(cp_ s j f).tabs.length≤s.tabs.length∧∀b∈(cp_ s j f).tabs,b∈s.tabs:=by
 unfold cp_;split
 ·exact⟨Nat.le_refl _,fun b hb=>hb⟩
 ·split
  ·exact⟨kf_ _ _,kg_ _ _⟩
  ·exact⟨kf_ _ _,kg_ _ _⟩
theorem JP_{s:aj_}(h:cm_ s.nodes)(j f:Cp):(cp_ s j f).nodes.length≤s.nodes.length∧∀n∈(cp_ s j f).nodes,∃m,m<s.nodes.length∧n.blk=(nod s.nodes m).blk:=by
 have key:∀n∈s.nodes,∃m,m<s.nodes.length∧n.blk=(nod s.nodes m).blk:=fun n hn=>by
  obtain⟨k,hk,he⟩:=Ad_ hn;exact⟨k,hk,by rw[he]⟩
 unfold cp_;split
 ·exact⟨Nat.le_refl _,key⟩
 ·split
  ·exact⟨Nat.le_refl _,key⟩
  ·refine⟨oE_ h _,fun n hn=>?_⟩;obtain⟨k,hk,he⟩:=Ad_ hn;obtain⟨m,hm,hb⟩:=Fr_ h _ k hk;exact⟨m,hm,by rw[←he];exact hb⟩
theorem jl_{a b:Cp}(h1:U64 a.ep)(h2:U64 b.ep):U64 (cL_ a b).ep:=by unfold cL_;split<;>assumption
theorem PJ_{s:aj_}(j f:Cp)(h1:U64 s.j.ep)(h2:U64 s.f.ep)(h3:U64 j.ep)(h4:U64 f.ep):U64 (cp_ s j f).j.ep∧U64 (cp_ s j f).f.ep:=by
 unfold cp_;split
 ·exact⟨h1,h2⟩
 ·split
  ·exact⟨jl_ h1 h3,jl_ h2 h4⟩
  ·exact⟨jl_ h1 h3,jl_ h2 h4⟩
theorem aR_.upd{s:aj_}{i:Nat}(h:aR_ s i){j f:Cp}(hj:U64 j.ep)(hf:U64 f.ep):aR_ (cp_ s j f) i:=by
 have h1:=h.r.upd j f;have h2:=JP_ h.tree j f;have h3:=vy_ s j f;have h4:=MF_ s j f;have h5:=PJ_ j f h.uj h.uf hj hf;refine⟨by rw[OA_];exact h.cfg,h1.tree,h1.jf,h1.ll,Nat.le_trans h2.1 h.nn,fun n hn=>?_,Nat.le_trans h3.1 h.oo,fun b hb=>h.uo b (h3.2 b hb),by rw[yS_];exact h.aa,by rw[yS_];exact h.av,Nat.le_trans h4.1 h.tt,fun t ht=>h.tb t (h4.2 t ht),by rw[OC_];exact h.qq,h5.1,h5.2,by rw[OD_];exact h.nw,h.ii⟩;obtain⟨m,hm,he⟩:=h2.2 n hn;rw[he];exact h.blk hm
theorem aR_.withE{s:aj_}{i:Nat}(h:aR_ s i){l:List aH_}(h1:l.length≤3)(h2:∀a∈l,a.vals.length≤10):aR_ (withE s l) i:=
 ⟨h.cfg,h.tree,h.jf,h.ll,h.nn,h.un,h.oo,h.uo,h1,h2,h.tt,h.tb,h.qq,h.uj,h.uf,h.nw,h.ii⟩
theorem aR_.withL{s:aj_}{i:Nat}(h:aR_ s i){l:List Vot}(h1:l.length=s.latest.length):aR_ (withL s l) i:=
 ⟨h.cfg,h.tree,h.jf,h1.trans h.ll,h.nn,h.un,h.oo,h.uo,h.aa,h.av,h.tt,h.tb,h.qq,h.uj,h.uf,h.nw,h.ii⟩
theorem aR_.withB{s:aj_}{i:Nat}(h:aR_ s i)(r:Rt):aR_ (withB s r) i:=
 ⟨h.cfg,h.tree,h.jf,h.ll,h.nn,h.un,h.oo,h.uo,h.aa,h.av,h.tt,h.tb,h.qq,h.uj,h.uf,h.nw,h.ii⟩
theorem aR_.withO{s:aj_}{i:Nat}(h:aR_ s i){l:List Blk}(h1:l.length≤3)(h2:∀b∈l,jW_ b):aR_ (withO s l) i:=
 ⟨h.cfg,h.tree,h.jf,h.ll,h.nn,h.un,h1,h2,h.aa,h.av,h.tt,h.tb,h.qq,h.uj,h.uf,h.nw,h.ii⟩
theorem aR_.withT{s:aj_}{i:Nat}(h:aR_ s i){l:List aw_}(h1:l.length≤4)(h2:∀t∈l,t.bals.length≤6):aR_ (withT s l) i:=
 ⟨h.cfg,h.tree,h.jf,h.ll,h.nn,h.un,h.oo,h.uo,h.aa,h.av,h1,h2,h.qq,h.uj,h.uf,h.nw,h.ii⟩
theorem aR_.castIn{s:aj_}{i:Nat}(h:aR_ s i)(a:aH_):aR_ (castIn s a) i:=h.withL (jL_ _ _ _ _ _)
theorem aR_.tickA{s:aj_}{i:Nat}(h:aR_ s i):aR_ (tickA s) i:=
 ⟨h.cfg,h.tree,h.jf,h.ll,h.nn,h.un,h.oo,h.uo,h.aa,h.av,h.tt,h.tb,h.qq,h.uj,h.uf,bg_ _,h.ii⟩
theorem GC_{s:aj_}(h:∀k,k<s.nodes.length→jW_ (nod s.nodes k).blk):U64 (fa_ s).j.ep∧U64 (fa_ s).f.ep:=by
 refine ha_ (f:=uN_ s.nodes) (a:=(ks_,false)) (fun _ p=>U64 p.1.j.ep∧U64 p.1.f.ep) ⟨⟨by decide,by decide⟩,⟨by decide,by decide⟩⟩ s.nodes.length (fun k p hk hp=>?_) _ (Nat.le_refl _);unfold uN_;split
 ·exact hp
 ·refine⟨?_,?_⟩
  ·dsimp only;split
   ·exact(h k hk).j
   ·exact hp.1
  ·dsimp only;split
   ·exact(h k hk).f
   ·exact hp.2
theorem aR_.tickB{s:aj_}{i:Nat}(h:aR_ s i):aR_ (tickB s) i:=by
 unfold Go.Proofs.YtkgimpdgncakjaaGreat.tickB;split
 ·have:=GC_ (s:=s) fun k hk=>h.blk hk
  exact h.upd this.1 this.2
 ·exact h
theorem tf_{l:List aH_}{k:Nat}(h:k<l.length):dt_ l k∈l:=dN_ _ h
theorem aR_.tickR{l:List aH_}(hl:∀a∈l,a.vals.length≤10)(h3:l.length≤3){s:aj_}{i:Nat}(h:aR_ s i):∀k,k≤l.length→aR_ (ay_ (tickR l) (Go.FH.withE s []) k) i∧(ay_ (tickR l) (Go.FH.withE s []) k).early.length≤k
 |0,_=>⟨h.withE (by simp) (by simp),Nat.le_refl _⟩
 | k + 1, hk => by
   obtain⟨h1,h2⟩:=aR_.tickR hl h3 h k (by omega);rw[br_];generalize ay_ (Go.Proofs.YtkgimpdgncakjaaGreat.tickR l) (Go.FH.withE s []) k=t at *;unfold Go.Proofs.YtkgimpdgncakjaaGreat.tickR;split
   ·refine⟨h1.withE (by simp;omega) (fun a ha=>?_),by show (t.early++[dt_ l k]).length≤k+1;simp;omega⟩;rw[List.mem_append,List.mem_singleton]at ha;rcases ha with ha|rfl
    ·exact h1.av a ha
    ·exact hl _ (tf_ (by omega))
   ·split
    ·exact⟨h1.castIn _,Nat.le_succ_of_le h2⟩
    ·exact⟨h1,Nat.le_succ_of_le h2⟩
theorem aR_.tickC{s:aj_}{i:Nat}(h:aR_ s i):aR_ (tickC s s.early) i:=(aR_.tickR h.av h.aa h _ (Nat.le_refl _)).1
theorem aR_.tick{s:aj_}{i:Nat}(h:aR_ s i)(h2:(dd_ s).2=0):aR_ (dd_ s).1 i:=by
 unfold dd_ at *;split at h2
 ·simp at h2
 ·rename_i h3;rw[if_neg h3];exact h.tickA.tickB.tickC
structure PS_(s:aj_)(b:Blk):Prop where
 root:b.root≠rt0
 kn:oA_ s b.root=false
 par:0≤an_ s.nodes b.parent
 slot:(nod s.nodes (an_ s.nodes b.parent).toNat).blk.slot<b.slot
 lim:(s.nodes.length:Int)<s.cfg.lim.node
theorem HG_ {s : aj_} {b : Blk} (h : cs_ s b = 0) : PS_ s b := by
 unfold cs_ at h;split at h
 ·simp at h
 ·split at h
  ·simp at h
  ·split at h
   ·simp at h
   ·split at h
    ·simp at h
    ·split at h
     ·simp at h
     ·split at h
      ·simp at h
      ·split at h
       ·simp at h
       ·split at h
        ·simp at h
        ·split at h
         ·simp at h
         ·split at h
          ·simp at h
          ·exact⟨by assumption,by simpa using ‹¬oA_ s b.root=true›,by omega,by omega,by omega⟩
theorem Mx_(b:Blk):0≤dO_ b∧dO_ b≤2:=by unfold dO_;split<;>exact⟨by decide,by decide⟩
theorem Nj_{s:aj_}{b:Blk}(h:PS_ s b)(hn:s.cfg.lim.node≤4096):(fX_ s.nodes b (dO_ b)).2=0:=by
 have h1:=h.kn;unfold oA_ at h1;have h2:decide (0≤an_ s.nodes b.root)=false:=by simp at h1;simpa using h1.2
 have h3:=of_decide_eq_false h2;have h4:=h.par;have h5:=h.slot;have h6:=h.lim;unfold fX_;rw[if_neg (by simp[Mx_ b]),if_neg h3,if_neg (by omega),if_neg (by omega),if_neg (by omega)]
theorem HY_{t:List Nod}{n:Nod}{r:Rt}(h:0≤an_ t r):0≤an_ (t++[n]) r:=by
 obtain⟨h1,h2⟩:=pK_ h;exact mD_ (k:=(an_ t r).toNat) (by simp;omega) (by rw[iT_,if_pos h1];exact h2)
theorem aR_.insN{s:aj_}{i:Nat}(h:aR_ s i){b:Blk}(hc:cs_ s b=0)(hb:jW_ b):aR_ (df_ s (fX_ s.nodes b (dO_ b)).1) i:=by
 have h1:=HG_ hc;have h2:=Nj_ h1 (by have:=h.cfg.ln;omega);have h3:=(Gq_ h2).1;have h4:=h.tree.ins h2;have h5:=h1.lim;have h6:=h.cfg.ln;rw[h3]at h4 ⊢;refine⟨h.cfg,h4,HY_ h.jf,h.ll,by show (s.nodes++[_]).length≤13;simp;omega,fun n hn=>?_,h.oo,h.uo,h.aa,h.av,h.tt,h.tb,h.qq,h.uj,h.uf,h.nw,h.ii⟩;rcases List.mem_append.1 hn with hn|hn
 ·exact h.un n hn
 ·rw[List.mem_singleton]at hn;rw[hn];exact hb
theorem aR_.ins{s:aj_}{i:Nat}(h:aR_ s i){b:Blk}(hc:cs_ s b=0)(hb:jW_ b):aR_ (jj_ s b) i:=by
 have h1:=(h.insN hc hb).upd hb.just hb.fin;unfold jj_;split
 ·exact h1.upd hb.j hb.f
 ·exact h1
theorem JG_(l:List Blk)(i:Nat):∀b∈takeO l i,b∈l:=fun b hb=>by
 unfold takeO at hb;rcases List.mem_append.1 hb with hb|hb
 ·exact List.mem_of_mem_take hb
 ·exact List.mem_of_mem_drop hb
theorem Mz_(l:List Blk)(i:Nat):(takeO l i).length≤l.length:=by
 unfold takeO;rw[List.length_append,List.length_take,List.length_drop];omega
theorem aR_.takeO{s:aj_}{i:Nat}(h:aR_ s i)(k:Nat):aR_ (Go.FH.withO s (takeO s.orph k)) i:=h.withO (Nat.le_trans (Mz_ _ _) h.oo) fun b hb=>h.uo b (JG_ _ _ b hb)
theorem aR_.waitR{p:aj_×List Rt}{i:Nat}(h:aR_ p.1 i)(h0:0≤co_ p.1):aR_ (waitR p).1 i:=by
 have h1:=vC_ p.1;have h2:=h.takeO (co_ p.1).toNat
 unfold Go.Proofs.YtkgimpdgncakjaaGreat.waitR;split
 ·rename_i hc;exact h2.ins hc (h.uo _ (dN_ _ (by omega)))
 ·exact h2
theorem aR_.waitG{i:Nat}:∀ (f:Nat) {p:aj_×List Rt},aR_ p.1 i→aR_ (waitG f p).1 i
 |0,_,h=>h
 | f + 1, p, h => by
   unfold Go.Proofs.YtkgimpdgncakjaaGreat.waitG;split
   ·exact h
   ·exact aR_.waitG f (h.waitR (by omega))
theorem JW_(p:aj_×List Rt):(waitR p).2.length≤p.2.length+1:=by
 unfold waitR;split<;>simp
theorem yV_:∀ (f:Nat) (p:aj_×List Rt),(waitG f p).2.length≤p.2.length+f
 |0,p=>Nat.le_refl _
 | f + 1, p => by
   unfold waitG;split
   ·omega
   ·have h1:=yV_ f (waitR p);have h2:=JW_ p;omega
theorem Qf_{b:Blk}(h:jW_ b):jW_ (noT b):=⟨h.slot,h.just,h.fin,h.j,h.f⟩
theorem aR_.blockI{s:aj_}{i:Nat}(h:aR_ s i){b:Blk}(hc:cs_ s b=0)(hb:jW_ b):aR_ (blockI s b) i:=by
 unfold Go.Proofs.YtkgimpdgncakjaaGreat.blockI;split
 ·exact(h.ins hc hb).withB _
 ·exact h.ins hc hb
theorem aR_.block{s:aj_}{i:Nat}(h:aR_ s i){b:Blk}(hb:jW_ b)(h2:(dB_ s b).2.2=0):aR_ (dB_ s b).1 i∧(dB_ s b).2.1.length≤5:=by
 unfold dB_ at *;split at h2
 ·rename_i h3
  rw[if_pos h3];split at h2
  ·simp at h2
  ·rename_i h4;rw[if_neg h4];have:=h.cfg.lo;refine⟨h.withO (by simp;omega) (fun x hx=>?_),by simp⟩;rw[List.mem_append,List.mem_singleton]at hx;rcases hx with hx|rfl
   ·exact h.uo x hx
   ·exact Qf_ hb
 ·rename_i h3
  rw[if_neg h3];split at h2
  ·rename_i h4;exact absurd h2 h4
  ·rename_i h4;rw[if_neg h4];have h5:=h.blockI (by simpa using h4) hb;have h6:=h5.oo;refine⟨aR_.waitG _ h5,?_⟩;have:=yV_ ((Go.Proofs.YtkgimpdgncakjaaGreat.blockI s b).orph.length+1) (Go.Proofs.YtkgimpdgncakjaaGreat.blockI s b,[b.root]);dsimp only at this ⊢;simp at this;omega
theorem aR_.att{s:aj_}{i:Nat}(h:aR_ s i){a:aH_}(ha:a.vals.length≤10)(h2:(qp_ s a).2=0):aR_ (qp_ s a).1 i:=by
 unfold qp_ at *;split at h2
 ·rename_i h3;exact absurd h2 h3
 ·rename_i h3
  rw[if_neg h3];split at h2
  ·rename_i h4;rw[if_pos h4];exact h.castIn a
  ·rename_i h4
   rw[if_neg h4];split at h2
   ·simp at h2
   ·rename_i h5;rw[if_neg h5];have:=h.cfg.la;refine h.withE (by simp;omega) (fun x hx=>?_);rw[List.mem_append,List.mem_singleton]at hx;rcases hx with hx|rfl
    ·exact h.av x hx
    ·exact ha
theorem aR_.slash{s:aj_}{i:Nat}(h:aR_ s i){x:da_}(hx:x.fst.vals.length≤10)(hi:i<30)(h2:(iy_ s x).2=0):aR_ (iy_ s x).1 (i+1):=by
 unfold iy_ at *;split at h2
 ·rename_i h3;exact absurd h2 h3
 ·rename_i h3
  rw[if_neg h3];split at h2
  ·simp at h2
  ·rename_i h4;rw[if_neg h4];have h5:=py_ x.fst.vals x.snd.vals x.fst.vals.length;have h6:=Ai_ s.eqv (gj_ x.fst.vals x.snd.vals x.fst.vals.length) (gj_ x.fst.vals x.snd.vals x.fst.vals.length).length;have h7:=h.qq;exact⟨h.cfg,h.tree,h.jf,h.ll,h.nn,h.un,h.oo,h.uo,h.aa,h.av,h.tt,h.tb,by show (CQ_ s.eqv _).length≤_;unfold CQ_;omega,h.uj,h.uf,h.nw,by omega⟩
theorem DQ_(l:List aw_)(t:aw_):(lj_ l t).length=l.length+1:=by
 unfold lj_;simp only[List.length_append,List.length_take,List.length_drop,List.length_cons,List.length_nil];omega
theorem DR_(l:List aw_)(t:aw_):∀x∈lj_ l t,x∈l∨x=t:=fun x hx=>by
 unfold lj_ at hx;simp only[List.mem_append,List.mem_singleton]at hx;rcases hx with (hx|hx)|hx
 ·exact .inl (List.mem_of_mem_take hx)
 ·exact .inr hx
 ·exact .inl (List.mem_of_mem_drop hx)
theorem aR_.reg{s:aj_}{i:Nat}(h:aR_ s i){t:aw_}(h2:(uU_ s t).2=0):aR_ (uU_ s t).1 i:=by
 unfold uU_ at *;split at h2
 ·rename_i h3;exact absurd h2 h3
 ·rename_i h3
  rw[if_neg h3];split at h2
  ·simp at h2
  ·rename_i h4
   rw[if_neg h4];split at h2
   ·rename_i h5;exact absurd h2 h5
   ·rename_i h5
    rw[if_neg h5];have hv:eu_ t s.cfg.bals.length=0:=by simpa using h3
    have hb:t.bals.length≤6:=by
     have:=h.cfg.b1;unfold eu_ at hv;split at hv
     ·simp at hv
     ·omega
    have hr:(iu_ s.tabs t s.cfg.bals.length s.cfg.lim.table).1.length≤4∧∀x∈(iu_ s.tabs t s.cfg.bals.length s.cfg.lim.table).1,x∈s.tabs∨x=t:=by
     have:=h.cfg.lt;unfold iu_;rw[if_neg (by simpa using hv)];split
     ·exact⟨h.tt,fun x hx=>.inl hx⟩
     ·split
      ·exact⟨h.tt,fun x hx=>.inl hx⟩
      ·exact⟨by rw[DQ_];omega,DR_ _ _⟩
    refine h.withT hr.1 fun x hx=>?_
    rcases hr.2 x hx with hx|rfl
    ·exact h.tb x hx
    ·exact hb
theorem CT_{t:List Nod}{i:Int}(h:(cV_ t i).2=0):(cV_ t i).1.length=t.length∧∀k,(nod (cV_ t i).1 k).up=(nod t k).up∧(nod (cV_ t i).1 k).blk=(nod t k).blk:=by
 unfold cV_ at *;split at h
 ·rename_i h1;rw[if_pos h1];cases h2:vk_ t (bG_ t i) 1 2 with
  |none=>rw[h2]at h;simp at h
  |some u=>exact⟨iw_ h2,fun k=>qc_ h2 k⟩
 ·simp at h
theorem Gf_{t:List Nod}{i:Int}(h:(iO_ t i).2=0):(iO_ t i).1.length=t.length∧∀k,(nod (iO_ t i).1 k).up=(nod t k).up∧(nod (iO_ t i).1 k).blk=(nod t k).blk:=by
 unfold iO_ at *;split at h
 ·rename_i h1;rw[if_pos h1];cases h2:vk_ t (ii_ t i) 2 1 with
  |none=>rw[h2]at h;simp at h
  |some u=>exact⟨iw_ h2,fun k=>qc_ h2 k⟩
 ·simp at h
theorem Ct_{t:List Nod}{i:Int}{v:Vdt}{keep:List Int}(h:(gn_ t i v keep).2=0):(gn_ t i v keep).1.length=t.length∧∀k,(nod (gn_ t i v keep).1 k).up=(nod t k).up∧(nod (gn_ t i v keep).1 k).blk=(nod t k).blk:=by
 unfold gn_ at *;split at h
 ·simp at h
 rename_i h1;rw[if_neg h1];split at h
 ·rename_i h2;rw[if_pos h2];exact CT_ h
 rename_i h2;rw[if_neg h2];split at h
 ·rename_i h3;rw[if_pos h3];exact⟨rfl,fun k=>⟨rfl,rfl⟩⟩
 rename_i h3;rw[if_neg h3];split at h
 ·simp at h
 rename_i h4;rw[if_neg h4];split at h
 ·simp at h
 rename_i h5;rw[if_neg h5];split at h
 ·rename_i h6
  rw[if_pos h6];split at h
  ·rename_i h7;exact absurd h h7
  ·rename_i h7;rw[if_neg h7];have a:=CT_ (show (cV_ t (hj_ t i v.latest).1).2=0 by simpa using h7);have b:=Gf_ h;exact⟨b.1.trans a.1,fun k=>⟨(b.2 k).1.trans (a.2 k).1,(b.2 k).2.trans (a.2 k).2⟩⟩
 ·rename_i h6;rw[if_neg h6];exact Gf_ h
theorem HZ_{t u:List Nod}(hl:u.length=t.length)(hb:∀k,(nod u k).blk=(nod t k).blk)(r:Rt):an_ u r=an_ t r:=by
 unfold an_;rw[hl];congr 2;funext k
 rw[hb k]
theorem aR_.judge{s:aj_}{i:Nat}(h:aR_ s i){t:List Nod}(hl:t.length=s.nodes.length)(hu:∀k,(nod t k).up=(nod s.nodes k).up∧(nod t k).blk=(nod s.nodes k).blk):aR_ (df_ s t) i:=by
 refine⟨h.cfg,⟨h.tree.ok.of_up hl fun k=>(hu k).1,by have:=h.tree.pos;show 0<t.length;omega,by show (nod t 0).up<0;rw[(hu 0).1];exact h.tree.root⟩,?_,h.ll,by have:=h.nn;show t.length≤13;omega,fun n hn=>?_,h.oo,h.uo,h.aa,h.av,h.tt,h.tb,h.qq,h.uj,h.uf,h.nw,h.ii⟩
 ·show 0≤an_ t s.j.rt
  rw[HZ_ hl fun k=>(hu k).2];exact h.jf
 ·obtain⟨k,hk,he⟩:=Ad_ hn;rw[←he];show jW_ (nod t k).blk;rw[(hu k).2]
  exact h.blk (show k<s.nodes.length by have:k<t.length:=hk;omega)
theorem AX_(l:List Int)(n:Int):cM_ l n≠21:=by
 unfold cM_;split
 ·decide
 ·generalize (0:Nat)=i
  have key:∀k i,l.length-i=k→jV_ l n i≠21:=by
   intro k;induction k with
   |zero=>intro i hi;rw[rg_ (by omega)];decide
   | succ k ih =>
     intro i hi;rw[kw_ (by omega)];split
     ·decide
     ·split
      ·decide
      ·exact ih (i+1) (by omega)
  exact key _ i rfl
theorem GY_(t:aw_)(n:Int):eu_ t n≠21:=by unfold eu_;(repeat' split)<;>decide
theorem Ow_(s:aj_):(dd_ s).2≠21:=by unfold dd_;split<;>simp
theorem HF_(s:aj_)(b:Blk):cs_ s b≠21:=by
 unfold cs_;repeat'(split;· decide)
 decide
theorem Kq_(s:aj_)(b:Blk):(dB_ s b).2.2≠21:=by
 unfold dB_;split
 ·split<;>simp
 ·split
  ·exact HF_ s b
  ·simp
theorem HE_(s:aj_)(a:aH_):(cd_ s a).2≠21:=by
 unfold cd_;split
 ·exact AX_ _ _
 ·split
  ·simp
  ·split
   ·simp
   ·split
    ·simp
    ·split<;>simp
theorem Pg_(s:aj_)(a:aH_):(qp_ s a).2≠21:=by
 unfold qp_;split
 ·exact HE_ s a
 ·split
  ·simp
  ·split<;>simp
theorem Mh_(s:aj_)(x:da_):(iy_ s x).2≠21:=by
 unfold iy_;split
 ·unfold evE
  dsimp only;split
  ·exact AX_ _ _
  ·split
   ·exact AX_ _ _
   ·split
    ·decide
    ·split<;>decide
 ·split<;>simp
theorem PA_(s:aj_)(t:aw_):(uU_ s t).2≠21:=by
 unfold uU_;split
 ·exact GY_ _ _
 ·split
  ·simp
  ·split
   ·unfold iu_
    dsimp only;split
    ·exact GY_ _ _
    ·split
     ·simp
     ·split<;>simp
   ·simp
structure dW_(s:aI_)(i:Nat):Prop where
 sto:aR_ s.sto i
 rq:s.reqs.length≤10*i
 ut:∀r∈s.reqs,U64 r.tag
 yl:s.rets.length≤3
 tg:U64 s.tag
theorem dW_.up{s:aI_}{i k:Nat}(h:dW_ s i)(h1:i≤k)(h2:k≤30):dW_ s k:=⟨h.sto.up h1 h2,by have:=h.rq;omega,h.ut,h.yl,h.tg⟩
theorem CW_{l:List Req}{k:Nat}(h:k<l.length):dk_ l k∈l:=dN_ _ h
theorem mg_(t:List Nod)(l:List Req):(io_ t l).length≤l.length∧∀r∈io_ t l,r∈l:=by
 refine⟨by have:=hb_ (f:=eO_ t l) (a:=[]) (fun i o=>by unfold eO_;split<;>simp) l.length;unfold io_;simpa using this,?_⟩;refine ha_ (f:=eO_ t l) (a:=[]) (fun _ o=>∀r∈o,r∈l) (by simp) l.length (fun i o hi ho=>?_) _ (Nat.le_refl _);unfold eO_;split
 ·intro r hr;rw[List.mem_append,List.mem_singleton]at hr;rcases hr with hr|rfl
  ·exact ho r hr
  ·exact CW_ hi
 ·exact ho
structure he_(s:aI_)(i n:Nat):Prop where
 sto:aR_ s.sto i
 rq:s.reqs.length≤n
 ut:∀r∈s.reqs,U64 r.tag
 yl:s.rets.length≤3
 tg:U64 s.tag
theorem he_.a{s:aI_}{i n:Nat}(h:he_ s i n)(hn:n≤10*i):dW_ s i:=⟨h.sto,Nat.le_trans h.rq hn,h.ut,h.yl,h.tg⟩
theorem dW_.q{s:aI_}{i:Nat}(h:dW_ s i):he_ s i (10*i):=⟨h.sto,h.rq,h.ut,h.yl,h.tg⟩
theorem he_.drop{s:aI_}{i n:Nat}(h:he_ s i n):he_ (tE_ s) i n:=by
 have h1:=mg_ s.sto.nodes s.reqs;have h2:=mg_ s.sto.nodes s.rets;exact⟨h.sto,Nat.le_trans h1.1 h.rq,fun r hr=>h.ut r (h1.2 r hr),Nat.le_trans h2.1 h.yl,h.tg⟩
theorem he_.open1{s:aI_}{i n:Nat}(h:he_ s i n)(r:Rt)(k:Int):he_ (nV_ s r k) i (n+1):=by
 refine⟨h.sto,by show (s.reqs++[_]).length≤_;have:=h.rq;simp;omega,fun x hx=>?_,h.yl,bg_ _⟩;rcases List.mem_append.1 hx with hx|hx
 ·exact h.ut x hx
 ·rw[List.mem_singleton]at hx;rw[hx];exact h.tg
theorem he_.le{s:aI_}{i n m:Nat}(h:he_ s i n)(hn:n≤m):he_ s i m:=⟨h.sto,Nat.le_trans h.rq hn,h.ut,h.yl,h.tg⟩
theorem he_.opens{s:aI_}{i n:Nat}(h:he_ s i n)(l:List Rt):he_ (Fg_ s l) i (n+l.length):=by
 refine ha_ (f:=fR_ l) (a:=s) (fun k t=>he_ t i (n+k)) h l.length (fun k t hk ht=>?_) _ (Nat.le_refl _);unfold fR_;split
 ·exact ht.open1 _ _
 ·exact ht.le (by omega)
theorem he_.rets{s:aI_}{i n:Nat}(h:he_ s i n){l:List Req}(hl:l.length≤3):he_ (ew_ s l) i n:=⟨h.sto,h.rq,h.ut,hl,h.tg⟩
theorem he_.due{s:aI_}{i n:Nat}(h:he_ s i n):he_ (Pl_ s) i (n+3):=by
 have key:=ha_ (f:=lP_ s.rets) (a:=ew_ s []) (fun k t=>he_ t i (n+k)∧t.rets.length≤k) ⟨h.rets (by simp),Nat.le_refl _⟩ s.rets.length (fun k t hk ht=>by
  have:=h.yl;unfold lP_;split
  ·exact⟨(ht.1.rets (by have:=ht.2;simp;omega)).le (by omega),by show (t.rets++[_]).length≤k+1;have:=ht.2;simp;omega⟩
  ·split
   ·exact⟨ht.1.open1 _ _,Nat.le_succ_of_le ht.2⟩
   ·exact⟨ht.1.le (by omega),Nat.le_succ_of_le ht.2⟩) _ (Nat.le_refl _)
 exact key.1.le (by have:=h.yl;omega)
theorem yJ_:∀ (k:Nat) (l:List Req),(nZ_ l k).length=l.length
 |0,l=>rfl
 | k + 1, l => by
   unfold nZ_;split
   ·rw[yJ_ k];simp
   ·rfl
theorem dW_.later{s:aI_}{i:Nat}(h:dW_ s i)(r:Req):dW_ (uu_ s r) i:=by
 unfold uu_;split
 ·exact h
 ·split
  ·exact⟨h.sto,h.rq,h.ut,h.yl,h.tg⟩
  ·rename_i h2;have:=h.sto.cfg.lr;exact⟨h.sto,h.rq,h.ut,by show (nZ_ _ _).length≤3;rw[yJ_];simp;omega,h.tg⟩
theorem GU_(l:List Req)(i:Nat):(qg_ l i).length≤l.length∧∀r∈qg_ l i,r∈l:=by
 unfold qg_;refine⟨by rw[List.length_append,List.length_take,List.length_drop];omega,fun r hr=>?_⟩;rcases List.mem_append.1 hr with hr|hr
 ·exact List.mem_of_mem_take hr
 ·exact List.mem_of_mem_drop hr
theorem dW_.mat{s:aI_}{i:Nat}(h:dW_ s i){v:Vdt}(h2:(dj_ s v).2.2=0):dW_ (dj_ s v).2.1 i:=by
 unfold dj_ at *;split at h2
 ·rename_i k hk;have h1:=GU_ s.reqs k;exact⟨h.sto,Nat.le_trans h1.1 h.rq,fun r hr=>h.ut r (h1.2 r hr),h.yl,h.tg⟩
 ·simp at h2
theorem aR_.boostV{s:aj_}{i:Nat}(h:aR_ s i):aR_ (boostV s) i:=by
 unfold Go.Proofs.YtkgimpdgncakjaaGreat.boostV;split
 ·exact h.withB _
 ·exact h
theorem dW_.verd{s:aI_}{i:Nat}(h:dW_ s i){v:Vdt}(h2:(qi_ s v).2=0∨(qi_ s v).2=21):dW_ (qi_ s v).1 i:=by
 unfold qi_ at *;split at h2
 ·rename_i h3;rw[if_pos h3];exact h
 ·rename_i h3
  rw[if_neg h3];have hm:=h.mat (v:=v) (by simpa using h3);split at h2
  ·rename_i h4;rw[if_pos h4];exact hm.later _
  ·rename_i h4
   rw[if_neg h4];split at h2
   ·rename_i h5;rw[if_pos h5];exact⟨h.sto,h.rq,h.ut,h.yl,h.tg⟩
   ·rename_i h5;rw[if_neg h5];unfold Aa_ at *;have h6:=Ct_ (show (gn_ (dj_ s v).2.1.sto.nodes _ v _).2=0 by simpa using h5);exact⟨(hm.sto.judge h6.1 h6.2).boostV,hm.rq,hm.ut,hm.yl,hm.tg⟩
structure OpR(x:VOp):Prop where
 blk:jW_ x.blk
 att:x.att.vals.length≤10
 fst:x.slg.fst.vals.length≤10
 snd:x.slg.snd.vals.length≤10
 tab:x.tab.bals.length≤10
theorem dW_.perf{s:aI_}{i:Nat}(h:dW_ s i)(hi:i<30){x:VOp}(hx:OpR x)(h2:(iW_ s x).2=0∨(iW_ s x).2=21):dW_ (iW_ s x).1 (i+1):=by
 have hu:=h.up (Nat.le_succ i) (by omega);unfold iW_ at *;split at h2
 ·rename_i h3
  rw[if_pos h3];split at h2
  ·rename_i h4;rw[if_pos h4];have ht:=h.sto.tick h4;have hq:he_ (ev_ s (dd_ s.sto).1) i (10*i):=⟨ht,h.rq,h.ut,h.yl,h.tg⟩;have hd:=hq.drop.due;exact⟨hd.sto.up (Nat.le_succ i) (by omega),by have:=hd.rq;dsimp only;omega,hd.ut,hd.yl,hd.tg⟩
  ·rename_i h4;exact absurd h2 (by intro h5;rcases h5 with h5|h5;exact h4 h5;exact Ow_ _ h5)
 rename_i h3;rw[if_neg h3];clear h3;split at h2
 ·rename_i h3
  rw[if_pos h3];split at h2
  ·rename_i h4;rw[if_pos h4];have ht:=h.sto.block hx.blk h4;have hq:he_ (ev_ s (dB_ s.sto x.blk).1) i (10*i):=⟨ht.1,h.rq,h.ut,h.yl,h.tg⟩;have hd:=hq.drop.opens (dB_ s.sto x.blk).2.1;have:=ht.2;exact⟨hd.sto.up (Nat.le_succ i) (by omega),by have:=hd.rq;dsimp only;omega,hd.ut,hd.yl,hd.tg⟩
  ·rename_i h4;exact absurd h2 (by intro h5;rcases h5 with h5|h5;exact h4 h5;exact Kq_ _ _ h5)
 rename_i h3;rw[if_neg h3];clear h3;split at h2
 ·rename_i h3;rw[if_pos h3];exact⟨(h.sto.att hx.att (h2.resolve_right (Pg_ _ _))).up (Nat.le_succ i) (by omega),hu.rq,hu.ut,hu.yl,hu.tg⟩
 rename_i h3;rw[if_neg h3];clear h3;split at h2
 ·rename_i h3;rw[if_pos h3];exact⟨h.sto.slash hx.fst hi (h2.resolve_right (Mh_ _ _)),hu.rq,hu.ut,hu.yl,hu.tg⟩
 rename_i h3;rw[if_neg h3];clear h3;split at h2
 ·rename_i h3;rw[if_pos h3];exact⟨(h.sto.reg (h2.resolve_right (PA_ _ _))).up (Nat.le_succ i) (by omega),hu.rq,hu.ut,hu.yl,hu.tg⟩
 rename_i h3;rw[if_neg h3];clear h3;split at h2
 ·rename_i h3;rw[if_pos h3];exact(h.verd h2).up (Nat.le_succ i) (by omega)
 rename_i h3;rw[if_neg h3];exact hu
theorem dW_.emit{s:aI_}{i:Nat}(h:dW_ s i):dW_ (lQ_ s).1 i:=by
 unfold lQ_;split
 ·exact h
 ·exact⟨h.sto,h.rq,h.ut,h.yl,h.tg⟩
theorem dW_.step{s:aI_}{i:Nat}(h:dW_ s i)(hi:i<30){x:VOp}(hx:OpR x):dW_ (qe_ s x).1 (i+1):=by
 have hu:=h.up (Nat.le_succ i) (by omega);unfold qe_;split
 ·exact hu
 ·split
  ·exact hu
  ·split
   ·rename_i h3;exact h.perf hi hx (.inr h3)
   ·split
    ·exact hu
    ·rename_i h3 h4;exact(h.perf hi hx (.inl (by simpa using h4))).emit
end Go.Proofs.YtkgimpdgncakjaaGreat
namespace Go.Proofs.YtkgimpdgncakjaaGreat
open Go Go.FH Go.RowKit
set_option linter.unusedVariables false
set_option linter.unusedSimpArgs false
set_option maxRecDepth 8000
set_option maxHeartbeats 4000000
theorem Sm.val{α:Type}{v:α}{F:α→Prop}(h:Sm (fun r=>r=v) F):F v:=by
 obtain⟨r,rfl,h⟩:=h;exact h
theorem yU_(n:Nat):List.replicate n (aZ_ eh_)=rows aZ_ (List.replicate n eh_):=LU_ aZ_ n eh_
theorem Mk_{fr:Fr}{σ:St}{rs:List eA_}{l:List AV}{n:Int}{S:aj_×Int}(hl:bV_ fr σ rs=some l)(hv:fz σ (List.range σ.length) (ee_ l)=.tup [.agg (ai_ bI_),.int .i64 n])(hs:(de_,n)=S):
 Sm (fun r:aj_×Int=>r=S) fun r=>PQ rs (.tup [.agg (ai_ r.1.a),.int .i64 r.2]) .ret fr σ:=
 ⟨(de_,n),hs,l,hl,.inr ⟨_,hv,(by simp[PuL,Pu,dh_,bI_,ai_,cB_,gA_,cc_,gv_,dv_,ih_,bf_,cp0]),Wk.tup ⟨Bf_,Wk.refl _,trivial⟩⟩⟩
theorem AF_(x:Sto)(p:Pul):spl (ai_ x) 47 (cg_ p)=ai_ { x with j:=p.j,f:=p.f }:=qf_ x p.j p.f
theorem MJ_(x:Sto)(l:List (List AV)):Wk (.agg (ai_ { x with eqv:=.sl 0 true [],early:=.sl 0 true [],orph:=.sl 0 true [],tabs:=.sl 34 true l })) (.agg (ai_ { x with eqv:=.sl 1 false [],early:=.sl 67 false [],orph:=.sl 238 false [],tabs:=.sl 34 false l })):=by
 refine Wk.agg ?_;unfold ai_;dsimp only;exact(WkC.refl _).app (.same _ (.cons (Wk.empty _ _ _) (fun h=>h) ((WkC.refl _).app ((WkC.refl _).app (.cons (Wk.empty _ _ _) (fun h=>h) (.cons (Wk.empty _ _ _) (fun h=>h) (.same _ (.same _ ((WkC.refl _).app (.one (Wk.open_ _ _ _) fun h=>h))))))))))
theorem GG_(s:aj_):PuL (ai_ { s.a with eqv:=.sl 0 true [],early:=.sl 0 true [],orph:=.sl 0 true [],tabs:=.sl 34 true (rows aw_.c s.tabs) }):=by
 have h:=(lh_ _).1 s.pul;refine(lh_ _).2 ?_;simp only[Sto.Pure,Pu,dh_,and_true,true_and]at *;simp[h,fA_]
theorem Lx_(c:bt_)(hb:c.bals.length≤1000000):PC Tryz.prog 66 [.agg (bf_ c.a)] (.tup [.agg (ai_ (uH_ c).1.a),.int .i64 (uH_ c).2]):=by
 refine Sm.val (F:=fun r:aj_×Int=>PC Tryz.prog 66 [.agg (bf_ c.a)] (.tup [.agg (ai_ r.1.a),.int .i64 r.2])) ?_;refine fU_ 9 BN_ (by simp) puA (fun r _=>puA) ?_;unfold rp_;refine bd ?_;have c1:=rj_ ⟨⟨0,c.gen⟩,c.bals⟩ c.bals.length hb;have c2:=Iz_ (wO_ c.gen) 1;have c3:=tB_ ⟨⟨0,c.gen⟩,c.bals⟩ hb;generalize hV:eu_ ⟨⟨0,c.gen⟩,c.bals⟩ c.bals.length=V at *;have lt:∀ (a b:Int),decide (a > b)=decide (b<a):=fun _ _=>rfl
 iterate 5 (repeat'(first|refine bm_ ?_|(refine aS_ (fun h=>?_) (fun h=>?_)<;>try(exact absurd h (by decide)))|refine cr_ (fun h=>?_) (fun h=>?_));all_goals try refine bu_ (DM_ _ _ _) ?_)
 repeat'(first|refine bm_ ?_|(refine aS_ (fun h=>?_) (fun h=>?_)<;>try(exact absurd h (by decide)))|refine cr_ (fun h=>?_) (fun h=>?_))
 all_goals try(refine Mk_ (by first|rfl|exact evd) (by first|rfl|exact evd) ?_)
 rotate_left 2
 ·refine bu_ c1 ?_
  repeat'(first|refine bm_ ?_|(refine aS_ (fun h=>?_) (fun h=>?_)<;>try(exact absurd h (by decide)))|refine cr_ (fun h=>?_) (fun h=>?_))
  ·refine Mk_ (by first|rfl|exact evd) (by first|rfl|exact evd) ?_;(try simp only[Bool.not_false,Bool.not_true,decide_eq_true_eq,decide_eq_false_iff_not,Bool.not_eq_true',Bool.not_eq_false',beq_iff_eq,bne_iff_ne,beq_eq_false_iff_ne,bne_eq_false_iff_eq,ne_eq,Bool.not_eq_true,Bool.not_eq_false,Bool.or_eq_true,Bool.and_eq_true,Bool.or_eq_false_iff]at *)
   (simp only[uH_,hi_, *,reduceIte,Bool.true_eq_false,Bool.false_eq_true,not_true_eq_false,not_false_eq_true,ne_eq,true_and,and_true,false_and,and_false,true_or,or_true,false_or,or_false,Int.reduceEq,if_false,if_true,eq_self,reduceCtorEq,decide_true,decide_false,Bool.and_true,Bool.true_and,Bool.and_false,Bool.false_and,Bool.or_true,Bool.true_or,Bool.or_false,Bool.false_or,Bool.not_true,Bool.not_false])
  ·refine ca_ c2 ?_
   refine bm_ ?_;refine ca_ c3 ?_;have hrep:List.replicate c.bals.length (aZ_ ⟨false,0,rt0⟩)=rows aZ_ (List.replicate c.bals.length eh_):=yU_ _;have ht:List.take c.bals.length (rows aZ_ (List.replicate c.bals.length ⟨false,0,rt0⟩))=rows aZ_ (List.replicate c.bals.length ⟨false,0,rt0⟩):=List.take_of_length_le (by simp);repeat(first|refine bm_ ?_|simp only[go_sem,hrep,AF_])
   refine Mm_ (ea_ c,0) ?_ ⟨_,(by first|rfl|exact evd),.inr ⟨.tup [.agg (ai_ { (ea_ c).a with eqv:=.sl 0 true [],early:=.sl 0 true [],orph:=.sl 0 true [],tabs:=.sl 34 true (rows aw_.c (ea_ c).tabs) }),.int .i64 0],?_,⟨GG_ _,trivial,trivial⟩,Wk.tup ⟨MJ_ _ _,Wk.refl _,trivial⟩⟩⟩
   ·(try simp only[Bool.not_false,Bool.not_true,decide_eq_true_eq,decide_eq_false_iff_not,Bool.not_eq_true',Bool.not_eq_false',beq_iff_eq,bne_iff_ne,beq_eq_false_iff_ne,bne_eq_false_iff_eq,ne_eq,Bool.not_eq_true,Bool.not_eq_false,Bool.or_eq_true,Bool.and_eq_true,Bool.or_eq_false_iff]at *)
    (simp only[uH_,hi_, *,reduceIte,Bool.true_eq_false,Bool.false_eq_true,not_true_eq_false,not_false_eq_true,ne_eq,true_and,and_true,false_and,and_false,true_or,or_true,false_or,or_false,Int.reduceEq,if_false,if_true,eq_self,reduceCtorEq,decide_true,decide_false,Bool.and_true,Bool.true_and,Bool.and_false,Bool.false_and,Bool.or_true,Bool.true_or,Bool.or_false,Bool.false_or,Bool.not_true,Bool.not_false])
   ·(try simp only[go_sem,Nat.reduceAdd,Nat.reduceSub,Nat.reduceMul,Nat.reduceLT,Nat.reduceLeDiff,Nat.reduceEqDiff,reduceIte,Int.reduceToNat,Int.reduceLT,Int.reduceLE,Int.reduceEq,Int.reduceNeg,reduceCtorEq,Int.reduceBEq,Int.reduceBNe,List.length_replicate,ht])
    rfl
 all_goals(try simp only[Bool.not_false,Bool.not_true,decide_eq_true_eq,decide_eq_false_iff_not,Bool.not_eq_true',Bool.not_eq_false',beq_iff_eq,bne_iff_ne,beq_eq_false_iff_ne,bne_eq_false_iff_eq,ne_eq,Bool.not_eq_true,Bool.not_eq_false,Bool.or_eq_true,Bool.and_eq_true,Bool.or_eq_false_iff]at *)
 all_goals(simp only[uH_,hi_, *,reduceIte,Bool.true_eq_false,Bool.false_eq_true,not_true_eq_false,not_false_eq_true,ne_eq,true_and,and_true,false_and,and_false,true_or,or_true,false_or,or_false,Int.reduceEq,if_false,if_true,eq_self,reduceCtorEq,decide_true,decide_false,Bool.and_true,Bool.true_and,Bool.and_false,Bool.false_and,Bool.or_true,Bool.true_or,Bool.or_false,Bool.false_or,Bool.not_true,Bool.not_false])
theorem od_(x:Sto)(v:AV):(ai_ x).set 113 v=ai_ { x with early:=v }:=by
 simp only[ai_,List.set_append,aE_,al_,List.length_cons,Nat.reduceSub,Nat.reduceLT,if_false,List.set_cons_succ,List.set_cons_zero]
theorem oc_(x:Sto):(ai_ x).getD 113 .dead=x.early:=by
 simp only[ai_,List.getD_eq_getElem?_getD,List.getElem?_append,aE_,al_,List.length_cons,Nat.reduceSub,Nat.reduceLT,if_false,List.getElem?_cons_succ,List.getElem?_cons_zero,Option.getD_some]
theorem Ed_(s:aj_)(a:aH_)(h:StR s)(ha:a.vals.length≤1000000)(hj:∀j∈a.vals,0≤j∧j<s.latest.length)(l:List aH_)(n:Nat):
 as_ Tryz.prog 47 [.agg (ai_ { s.a with early:=.hs 67 0 0 n }),.agg (aY_ a.a)] [.vec 67 (rows aH_.c l)] (.agg (ai_ { (castIn s a).a with early:=.hs 67 0 0 n })) [.vec 67 (rows aH_.c l)]:=by
 refine as_.fact 6 lX_ (by simp) ?_ (by simp);unfold hZ_;refine bd ?_;have c1:=xN_ s.latest a.target.ep a.root a.vals h.bl ha hj;unfold castIn;generalize tv_ s.latest a.target.ep a.root a.vals=C at *;obtain⟨C1,C2⟩:=C;dsimp only at c1 ⊢;try refine aa_ ?_
 refine Qy_ c1 ?_
 exact QO_ [] [0]
theorem Bx_(s:aj_)(a:aH_)(h:StR s)(ha:a.vals.length≤1000000):
 as_ Tryz.prog 46 [.agg (ai_ { s.a with early:=.hs 67 0 0 s.early.length }),.agg (aY_ a.a)] [.vec 67 (rows aH_.c s.early)] (.tup [.bool (cd_ s a).1,.int .i64 (cd_ s a).2]) [.vec 67 (rows aH_.c s.early)]:=by
 refine as_.lend rfl ?_;have ht:List.take s.early.length (rows aH_.c s.early)=rows aH_.c s.early:=List.take_of_length_le (by simp);(try simp only[go_sem,ht,List.length_cons,List.length_nil,List.range_succ,List.range_zero])
 exact rv_ s a h ha
theorem jo_{fr:Fr}{σ:St}{rs:List eA_}{l:List AV}{n:Int}(hl:bV_ fr σ rs=some l)(hv:fz σ (List.range σ.length) (ee_ l)=.tup [.agg (ai_ bI_),.int .i64 n]):PQ rs (.tup [.agg (ai_ de_.a),.int .i64 n]) .ret fr σ:=
 ⟨l,hl,.inr ⟨_,hv,(by simp[PuL,Pu,dh_,bI_,ai_,cB_,gA_,cc_,gv_,dv_,ih_,bf_,cp0]),Wk.tup ⟨Bf_,Wk.refl _,trivial⟩⟩⟩
def bx_(s:aj_)(k:Nat):aj_:=ay_ (tickR s.early) (withE s []) k
theorem GV_(s:aj_)(k:Nat):bx_ s (k+1)=tickR s.early k (bx_ s k):=rfl
theorem yR_(s:aj_)(m:Nat)(h:aR_ s m):PC Tryz.prog 12 [.agg (ai_ s.a)] (.tup [.agg (ai_ (dd_ s).1.a),.int .i64 (dd_ s).2]):=by
 refine PC.fact 9 zN_ (by simp) puA puA ?_;unfold pl_;refine bd ?_;unfold dd_;have hsp:=h.cfg.s1;have hs4:=h.cfg.s4;by_cases q1:1099511627776≤s.now
 ·have e1:decide ((1099511627776:Int)≤s.now)=true:=decide_eq_true q1;rw[if_pos q1];repeat(first|refine aa_ ?_|simp only[go_sem,e1])
  refine PH_ ?_
  exact jo_ (by first|rfl|exact evd) (by first|rfl|exact evd)
 have e1:decide ((1099511627776:Int)≤s.now)=false:=decide_eq_false q1;rw[if_neg q1];have hA:=h.tickA;have hB:=hA.tickB;have c1:=IK_ (tickA s) hA.r.bn;have c2:=vz_ (tickA s) (fa_ (tickA s)).j (fa_ (tickA s)).f hA.r
 have hmod:IntKind.u64.wrap (Int.tmod (tickA s).now (tickA s).cfg.spe)=Int.tmod (tickA s).now (tickA s).cfg.spe:=by
  have hn:=hA.nw;have hsp':1≤(tickA s).cfg.spe:=hsp;rw[Int.tmod_eq_emod_of_nonneg hn.lo];have h1:=Int.emod_nonneg (tickA s).now (show (tickA s).cfg.spe≠0 by omega);have h2:=Int.emod_lt_of_pos (tickA s).now (show 0<(tickA s).cfg.spe by omega);have hs4':(tickA s).cfg.spe≤4:=hs4;exact aL_ h1 (by omega)
 have hT1:Int.tmod (tickA s).now (tickA s).cfg.spe=0→tickB (tickA s)=cp_ (tickA s) (fa_ (tickA s)).j (fa_ (tickA s)).f:=fun hz=>by unfold tickB;rw[hmod,if_pos hz]
 have hT2:Int.tmod (tickA s).now (tickA s).cfg.spe≠0→tickB (tickA s)=tickA s:=fun hz=>by unfold tickB;rw[hmod,if_neg hz]
 show Tri _ _ _ _ (PQ _ (.tup [.agg (ai_ (bx_ (tickB (tickA s)) (tickB (tickA s)).early.length).a),.int .i64 0])) _ _
 generalize tickB (tickA s)=S2 at *;repeat(first|refine aa_ ?_|simp only[go_sem,e1])
 refine PG_ ?_
 refine mR_ (fun _=>[]) (fun _=>[.var (ai_ S2.a),.var (ai_ bI_)]) (fun hT=>?_) (fun hF=>?_) ?_
 ·rw[hT1 (by rw[beq_iff_eq]at hT;exact hT)];try refine aa_ ?_
  refine Qy_ c1 ?_
  refine Qy_ c2 ?_
  exact QV_ [] [0,1]
 ·rw[hT2 (by rw[beq_eq_false_iff_ne]at hF;exact hF)];try refine aa_ ?_
  exact QV_ [] [0,1]
 clear hT1 hT2 hmod c1 c2;try refine aa_ ?_
 refine iB_ 0 113 67 ?_ (by rfl) (by exact oc_ _);simp only[go_sem,od_];have hK:∀k,k≤S2.early.length→aR_ (bx_ S2 k) m∧(bx_ S2 k).early.length≤k:=aR_.tickR hB.av hB.aa hB
 have hz:bx_ S2 0=withE S2 []:=rfl;have haa:=hB.aa;refine am_ (fun i:Nat=>[(6,.int .i64 i)]) (fun i=>[.var (ai_ { (bx_ S2 i).a with early:=.hs 67 2 0 (bx_ S2 i).early.length }),.var (ai_ bI_),.vec 67 (rows aH_.c (bx_ S2 i).early)]) (fun i=>S2.early.length-i) (fun i=>i≤S2.early.length) 0 (Nat.zero_le _) ?_ ?_
 ·rw[hz];unfold withE;exact QV_ [] [0,1,2]
 intro i hk;obtain⟨hki,hkl⟩:=hK i hk;have hsk:=GV_ S2 i;(try simp only[ao_,ar_,List.set_cons_zero,List.set_cons_succ])
 by_cases h1:i<S2.early.length
 ·have e1:decide ((i:Int)<((S2.early.length:Nat):Int))=true:=decide_eq_true (by omega)
  have hw:=ae_ h1 (by omega);have hgd:(rows aH_.c S2.early).getD i []=aY_ (dt_ S2.early i).a:=aK_ (f:=aH_.c) default h1;have hav:=hB.av _ (tf_ h1);have hc:tickR S2.early i (bx_ S2 i)=if (bx_ S2 i).now≤(dt_ S2.early i).slot then withE (bx_ S2 i) ((bx_ S2 i).early++[dt_ S2.early i])else if (cd_ (bx_ S2 i) (dt_ S2.early i)).2=0 then castIn (bx_ S2 i) (dt_ S2.early i)else bx_ S2 i:=rfl
  have c1:=Bx_ (bx_ S2 i) (dt_ S2.early i) hki.r (by omega);have c2:=fun hj=>Ed_ (bx_ S2 i) (dt_ S2.early i) hki.r (by omega) hj (bx_ S2 i).early (bx_ S2 i).early.length
  have hj:(cd_ (bx_ S2 i) (dt_ S2.early i)).2=0→∀j∈(dt_ S2.early i).vals,0≤j∧j<(bx_ S2 i).latest.length:=fun hq j hjm=>by
   have hv:cM_ (dt_ S2.early i).vals (bx_ S2 i).cfg.bals.length=0:=by
    unfold cd_ at hq;split at hq
    ·rename_i h1;exact absurd hq h1
    ·rename_i h1;simpa using h1
   obtain⟨u,hm,rfl⟩:=List.getElem_of_mem hjm;have:=(gy_ hv).2 u hm;rw[List.getD_eq_getElem?_getD,List.getElem?_eq_getElem hm,Option.getD_some]at this;have hll:=hki.ll;omega
  clear hK;have hcl:(castIn (bx_ S2 i) (dt_ S2.early i)).early=(bx_ S2 i).early:=rfl;rw[hc]at hsk;generalize hs:bx_ S2 i=s1 at *;generalize dt_ S2.early i=a at *;have hr:rows aH_.c s1.early++[aY_ a.a]=rows aH_.c (s1.early++[a]):=bP_ aH_.c s1.early a;generalize hR:cd_ s1 a=R at *;obtain⟨R1,R2⟩:=R;dsimp only at c1 hsk hj;repeat(first|refine aa_ ?_|simp only[go_sem,e1])
  refine ac_ ?_;repeat(first|refine aa_ ?_|simp only[go_sem,hgd])
  by_cases q2:s1.now≤a.slot
  ·have e2:decide (s1.now≤a.slot)=true:=decide_eq_true q2;rw[if_pos q2]at hsk;repeat(first|refine aa_ ?_|simp only[go_sem,e2])
   refine ac_ ?_;repeat(first|refine aa_ ?_|simp only[go_sem,hgd,hr,hw])
   refine⟨i+1,h1,by omega,?_⟩;rw[hsk];unfold withE;exact QV_ [] [0,1,3]
  ·have e2:decide (s1.now≤a.slot)=false:=decide_eq_false q2
   rw[if_neg q2]at hsk;repeat(first|refine aa_ ?_|simp only[go_sem,e2])
   refine ab_ ?_;repeat(first|refine aa_ ?_|simp only[go_sem,hgd])
   refine Eq_ [2] (c1) evd (bn_.mk' (by simp) evd) ?_;refine evg ?_;try refine aa_ ?_
   by_cases q3:R2=0
   ·rw[if_pos q3]at hsk;subst q3;have c3:=c2 (hj rfl);generalize hcs:castIn s1 a=s3 at *;try refine aa_ ?_
    refine ac_ ?_;repeat(first|refine aa_ ?_|simp only[go_sem,hgd])
    refine OJ_ [2] (c3) (by simp) evd (bn_.mk' (by simp) evd) ?_;refine evg ?_;repeat(first|refine aa_ ?_|simp only[go_sem,hw])
    refine⟨i+1,h1,by omega,?_⟩;rw[hsk,hcl];exact QV_ [] [0,1,2]
   ·have e3:(R2==0)=false:=by simp[q3]
    rw[if_neg q3]at hsk;repeat(first|refine aa_ ?_|simp only[go_sem,e3])
    refine ab_ ?_;repeat(first|refine aa_ ?_|simp only[go_sem,hw])
    refine⟨i+1,h1,by omega,?_⟩;rw[hsk];exact QV_ [] [0,1,2]
 ·obtain rfl:i=S2.early.length:=by omega
  have e1:decide (((S2.early.length:Nat):Int)<((S2.early.length:Nat):Int))=false:=decide_eq_false (by omega);generalize bx_ S2 S2.early.length=s1 at *;have ht:List.take s1.early.length (rows aH_.c s1.early)=rows aH_.c s1.early:=List.take_of_length_le (by simp);repeat(first|refine aa_ ?_|simp only[go_sem,e1])
  refine PG_ ?_
  refine⟨_,(by first|rfl|exact evd),.inl ?_⟩;(try simp only[go_sem,Nat.reduceAdd,Nat.reduceSub,Nat.reduceMul,Nat.reduceLT,Nat.reduceLeDiff,Nat.reduceEqDiff,reduceIte,Int.reduceToNat,Int.reduceLT,Int.reduceLE,Int.reduceEq,Int.reduceNeg,reduceCtorEq,Int.reduceBEq,Int.reduceBNe,ht])
  rfl
end Go.Proofs.YtkgimpdgncakjaaGreat
