/-
 My texts Lw, Lx, Ly, Lz, joined.
-/
import Derived.Test.YtipiipgpnkpejaaGreatV6
import Derived.Test.YtipiipgpnkpejaaGreatW3
namespace Go.Proofs.YtipiipgpnkpejaaGreat
open Go Go.FH Go.RowKit
set_option linter.unusedVariables false
set_option linter.unusedSimpArgs false

def WdG (w:Wd):Prop:=∀ n ∈ w.1,0≤n∧n<18446744073709551616
structure CfgR (c:VCfg):Prop where
 s1:1≤c.spe
 s4:c.spe≤4
 b0:0<c.bals.length
 b1:c.bals.length≤6
 ln:c.lim.node≤13
 lo:c.lim.orph≤3
 la:c.lim.early≤3
 lt:c.lim.table≤4
 lr:c.lim.retry≤3
 tt:WdG c.ttd
structure InvS (s:VSto) (i:Nat):Prop where
 cfg:CfgR s.cfg
 tree:TreeR s.nodes
 jf:0≤findT s.nodes s.j.rt
 ll:s.latest.length=s.cfg.bals.length
 nn:s.nodes.length≤13
 un:∀ n ∈ s.nodes,BlkU n.blk
 oo:s.orph.length≤3
 uo:∀ b ∈ s.orph,BlkU b
 aa:s.early.length≤3
 av:∀ a ∈ s.early,a.vals.length≤10
 tt:s.tabs.length≤4
 tb:∀ t ∈ s.tabs,t.bals.length≤6
 qq:s.eqv.length≤10*i
 uj:U64 s.j.ep
 uf:U64 s.f.ep
 nw:U64 s.now
 ii:i≤30
theorem InvS.r {s:VSto}{i:Nat}(h:InvS s i):StR s:=by
 have h1:=h.cfg.s1
 have h2:=h.cfg.b1
 have h3:=h.nn
 have h4:=h.qq
 have h5:=h.ii
 have h6:=h.ll
 have h7:=h.tt
 have h8:=h.oo
 have h9:=h.aa
 have h10:=h.cfg.ln
 exact⟨h.tree,by omega,by omega,by omega,by omega,by omega,fun t ht=>by have:=h.tb t ht;omega,by omega,by omega,by omega,h6,h.jf⟩
theorem InvS.up {s:VSto}{i k:Nat}(h:InvS s i) (h1:i≤k) (h2:k≤30):InvS s k:=by
 obtain⟨a,b,c,d,e,f,g,j,l,m,n,o,p,q,r,t,u⟩:=h
 exact⟨a,b,c,d,e,f,g,j,l,m,n,o,by omega,q,r,t,h2⟩
theorem aP_ (n:Int):U64 (IntKind.u64.wrap n):=by rw[oj_];exact⟨by omega,by omega⟩
theorem dQ_ {α:Type}{l:List α}{i:Nat}(d:α) (h:i<l.length):l.getD i d ∈ l:=by
 rw[List.getD_eq_getElem?_getD,List.getElem?_eq_getElem h];exact List.getElem_mem h
theorem InvS.blk {s:VSto}{i:Nat}(h:InvS s i) {k:Nat}(hk:k<s.nodes.length):BlkU (nod s.nodes k).blk:=h.un _ (dQ_ _ hk)
theorem tQ_ {t:List Nod}{n:Nod}(h:n ∈ t):∃ k,k<t.length∧nod t k=n:=by
 obtain⟨k,hk,he⟩:=List.getElem_of_mem h
 exact⟨k,hk,by unfold nod;rw[List.getD_eq_getElem?_getD,List.getElem?_eq_getElem hk];exact he⟩
theorem Es_ (s:VSto) (j f:Cp):(updS s j f).cfg=s.cfg:=by unfold updS;(repeat' split)<;>rfl
theorem EP_ (s:VSto) (j f:Cp):(updS s j f).eqv=s.eqv:=by unfold updS;(repeat' split)<;>rfl
theorem rY_ (s:VSto) (j f:Cp):(updS s j f).early=s.early:=by unfold updS;(repeat' split)<;>rfl
theorem Et_ (s:VSto) (j f:Cp):(updS s j f).now=s.now:=by unfold updS;(repeat' split)<;>rfl
theorem zl_ (l:List Blk) (a:Int):∀ b ∈ upto (keepS l a) [] l.length,b ∈ l:=by
 refine dC_ (f:=keepS l a) (a:=[]) (fun _ o=>∀ t ∈ o,t ∈ l) (by simp) l.length (fun i o hi ho=>?_) _ (Nat.le_refl _)
 unfold keepS
 split
 · intro t ht
   rw[List.mem_append,List.mem_singleton]at ht
   rcases ht with ht | rfl
   · exact ho t ht
   · exact dQ_ _ hi
 · exact ho
theorem oQ_ (s:VSto) (j f:Cp):(updS s j f).orph.length≤s.orph.length∧∀ b ∈ (updS s j f).orph,b ∈ s.orph:=by
 unfold updS;split
 · exact⟨Nat.le_refl _,fun b hb=>hb⟩
 · split
   · exact⟨Nat.le_refl _,fun b hb=>hb⟩
   · exact⟨ij_ _ _ _,zl_ _ _⟩
theorem BG_ (s:VSto) (j f:Cp):(updS s j f).tabs.length≤s.tabs.length∧∀ b ∈ (updS s j f).tabs,b ∈ s.tabs:=by
 unfold updS;split
 · exact⟨Nat.le_refl _,fun b hb=>hb⟩
 · split
   · exact⟨gv_ _ _,gn_ _ _⟩
   · exact⟨gv_ _ _,gn_ _ _⟩
theorem zw_ {s:VSto}(h:TreeR s.nodes) (j f:Cp):(updS s j f).nodes.length≤s.nodes.length∧∀ n ∈ (updS s j f).nodes,∃ m,m<s.nodes.length∧n.blk=(nod s.nodes m).blk:=by
 have key:∀ n ∈ s.nodes,∃ m,m<s.nodes.length∧n.blk=(nod s.nodes m).blk:=fun n hn=>by
   obtain⟨k,hk,he⟩:=tQ_ hn
   exact⟨k,hk,by rw[he]⟩
 unfold updS;split
 · exact⟨Nat.le_refl _,key⟩
 · split
   · exact⟨Nat.le_refl _,key⟩
   · refine⟨jH_ h _,fun n hn=>?_⟩
     obtain⟨k,hk,he⟩:=tQ_ hn
     obtain⟨m,hm,hb⟩:=xm_ h _ k hk
     exact⟨m,hm,by rw[← he];exact hb⟩
theorem sy_ {a b:Cp}(h1:U64 a.ep) (h2:U64 b.ep):U64 (maxC a b).ep:=by unfold maxC;split<;>assumption
theorem Fu_ {s:VSto}(j f:Cp) (h1:U64 s.j.ep) (h2:U64 s.f.ep) (h3:U64 j.ep) (h4:U64 f.ep):U64 (updS s j f).j.ep∧U64 (updS s j f).f.ep:=by
 unfold updS;split
 · exact⟨h1,h2⟩
 · split
   · exact⟨sy_ h1 h3,sy_ h2 h4⟩
   · exact⟨sy_ h1 h3,sy_ h2 h4⟩
theorem InvS.upd {s:VSto}{i:Nat}(h:InvS s i) {j f:Cp}(hj:U64 j.ep) (hf:U64 f.ep):InvS (updS s j f) i:=by
 have h1:=h.r.upd j f
 have h2:=zw_ h.tree j f
 have h3:=oQ_ s j f
 have h4:=BG_ s j f
 have h5:=Fu_ j f h.uj h.uf hj hf
 refine⟨by rw[Es_];exact h.cfg,h1.tree,h1.jf,h1.ll,Nat.le_trans h2.1 h.nn,fun n hn=>?_,Nat.le_trans h3.1 h.oo,fun b hb=>h.uo b (h3.2 b hb),by rw[rY_];exact h.aa,by rw[rY_];exact h.av,Nat.le_trans h4.1 h.tt,fun t ht=>h.tb t (h4.2 t ht),by rw[EP_];exact h.qq,h5.1,h5.2,by rw[Et_];exact h.nw,h.ii⟩
 obtain⟨m,hm,he⟩:=h2.2 n hn
 rw[he];exact h.blk hm
theorem InvS.withE {s:VSto}{i:Nat}(h:InvS s i) {l:List VAtt}(h1:l.length≤3) (h2:∀ a ∈ l,a.vals.length≤10):InvS (withE s l) i:=
 ⟨h.cfg,h.tree,h.jf,h.ll,h.nn,h.un,h.oo,h.uo,h1,h2,h.tt,h.tb,h.qq,h.uj,h.uf,h.nw,h.ii⟩
theorem InvS.withL {s:VSto}{i:Nat}(h:InvS s i) {l:List Vot}(h1:l.length=s.latest.length):InvS (withL s l) i:=
 ⟨h.cfg,h.tree,h.jf,h1.trans h.ll,h.nn,h.un,h.oo,h.uo,h.aa,h.av,h.tt,h.tb,h.qq,h.uj,h.uf,h.nw,h.ii⟩
theorem InvS.withB {s:VSto}{i:Nat}(h:InvS s i) (r:Rt):InvS (withB s r) i:=
 ⟨h.cfg,h.tree,h.jf,h.ll,h.nn,h.un,h.oo,h.uo,h.aa,h.av,h.tt,h.tb,h.qq,h.uj,h.uf,h.nw,h.ii⟩
theorem InvS.withO {s:VSto}{i:Nat}(h:InvS s i) {l:List Blk}(h1:l.length≤3) (h2:∀ b ∈ l,BlkU b):InvS (withO s l) i:=
 ⟨h.cfg,h.tree,h.jf,h.ll,h.nn,h.un,h1,h2,h.aa,h.av,h.tt,h.tb,h.qq,h.uj,h.uf,h.nw,h.ii⟩
theorem InvS.withT {s:VSto}{i:Nat}(h:InvS s i) {l:List VTab}(h1:l.length≤4) (h2:∀ t ∈ l,t.bals.length≤6):InvS (withT s l) i:=
 ⟨h.cfg,h.tree,h.jf,h.ll,h.nn,h.un,h.oo,h.uo,h.aa,h.av,h1,h2,h.qq,h.uj,h.uf,h.nw,h.ii⟩
theorem InvS.castIn {s:VSto}{i:Nat}(h:InvS s i) (a:VAtt):InvS (castIn s a) i:=h.withL (kk_ _ _ _ _ _)
theorem InvS.tickA {s:VSto}{i:Nat}(h:InvS s i):InvS (tickA s) i:=
 ⟨h.cfg,h.tree,h.jf,h.ll,h.nn,h.un,h.oo,h.uo,h.aa,h.av,h.tt,h.tb,h.qq,h.uj,h.uf,aP_ _,h.ii⟩
theorem Ei_ {s:VSto}(h:∀ k,k<s.nodes.length→BlkU (nod s.nodes k).blk):U64 (pendS s).j.ep∧U64 (pendS s).f.ep:=by
 refine dC_ (f:=pendR s.nodes) (a:=(pul0,false)) (fun _ p=>U64 p.1.j.ep∧U64 p.1.f.ep) ⟨⟨by decide,by decide⟩,⟨by decide,by decide⟩⟩ s.nodes.length (fun k p hk hp=>?_) _ (Nat.le_refl _)
 unfold pendR
 split
 · exact hp
 · refine⟨?_,?_⟩
   · dsimp only;split
     · exact(h k hk).j
     · exact hp.1
   · dsimp only;split
     · exact(h k hk).f
     · exact hp.2
theorem InvS.tickB {s:VSto}{i:Nat}(h:InvS s i):InvS (tickB s) i:=by
 unfold Go.Proofs.YtipiipgpnkpejaaGreat.tickB
 split
 · have:=Ei_ (s:=s) fun k hk=>h.blk hk
   exact h.upd this.1 this.2
 · exact h
theorem ua_ {l:List VAtt}{k:Nat}(h:k<l.length):attA l k ∈ l:=dQ_ _ h
theorem InvS.tickR {l:List VAtt}(hl:∀ a ∈ l,a.vals.length≤10) (h3:l.length≤3) {s:VSto}{i:Nat}(h:InvS s i):∀ k,k≤l.length→InvS (upto (tickR l) (Go.FH.withE s []) k) i∧(upto (tickR l) (Go.FH.withE s []) k).early.length≤k
 | 0,_=>⟨h.withE (by simp) (by simp),Nat.le_refl _⟩
 | k + 1, hk => by
   obtain⟨h1,h2⟩:=InvS.tickR hl h3 h k (by omega)
   rw[aX_]
   generalize upto (Go.Proofs.YtipiipgpnkpejaaGreat.tickR l) (Go.FH.withE s []) k=t at *
   unfold Go.Proofs.YtipiipgpnkpejaaGreat.tickR
   split
   · refine⟨h1.withE (by simp;omega) (fun a ha=>?_),by show (t.early++[attA l k]).length≤k+1;simp;omega⟩
     rw[List.mem_append,List.mem_singleton]at ha
     rcases ha with ha | rfl
     · exact h1.av a ha
     · exact hl _ (ua_ (by omega))
   · split
     · exact⟨h1.castIn _,Nat.le_succ_of_le h2⟩
     · exact⟨h1,Nat.le_succ_of_le h2⟩
theorem InvS.tickC {s:VSto}{i:Nat}(h:InvS s i):InvS (tickC s s.early) i:=(InvS.tickR h.av h.aa h _ (Nat.le_refl _)).1
theorem InvS.tick {s:VSto}{i:Nat}(h:InvS s i) (h2:(tickS s).2=0):InvS (tickS s).1 i:=by
 unfold tickS at *
 split at h2
 · simp at h2
 · rename_i h3
   rw[if_neg h3]
   exact h.tickA.tickB.tickC
structure ChkB (s:VSto) (b:Blk):Prop where
 root:b.root≠rt0
 kn:knownS s b.root=false
 par:0≤findT s.nodes b.parent
 slot:(nod s.nodes (findT s.nodes b.parent).toNat).blk.slot<b.slot
 lim:(s.nodes.length:Int)<s.cfg.lim.node
theorem zO_ {s : VSto} {b : Blk} (h : checkB s b = 0) : ChkB s b := by
 unfold checkB at h
 split at h
 · simp at h
 · split at h
   · simp at h
   · split at h
     · simp at h
     · split at h
       · simp at h
       · split at h
         · simp at h
         · split at h
           · simp at h
           · split at h
             · simp at h
             · split at h
               · simp at h
               · split at h
                 · simp at h
                 · split at h
                   · simp at h
                   · exact⟨by assumption,by simpa using ‹¬ knownS s b.root=true›,by omega,by omega,by omega⟩
theorem BP_ (b:Blk):0≤statB b∧statB b≤2:=by unfold statB;split<;>exact⟨by decide,by decide⟩
theorem DG_ {s:VSto}{b:Blk}(h:ChkB s b) (hn:s.cfg.lim.node≤4096):(insT s.nodes b (statB b)).2=0:=by
 have h1:=h.kn
 unfold knownS at h1
 have h2:decide (0≤findT s.nodes b.root)=false:=by simp at h1;simpa using h1.2
 have h3:=of_decide_eq_false h2
 have h4:=h.par
 have h5:=h.slot
 have h6:=h.lim
 unfold insT
 rw[if_neg (by simp[BP_ b]),if_neg h3,if_neg (by omega),if_neg (by omega),if_neg (by omega)]
theorem yO_ {t:List Nod}{n:Nod}{r:Rt}(h:0≤findT t r):0≤findT (t++[n]) r:=by
 obtain⟨h1,h2⟩:=kx_ h
 exact lC_ (k:=(findT t r).toNat) (by simp;omega) (by rw[fg_,if_pos h1];exact h2)
theorem InvS.insN {s:VSto}{i:Nat}(h:InvS s i) {b:Blk}(hc:checkB s b=0) (hb:BlkU b):InvS (withN s (insT s.nodes b (statB b)).1) i:=by
 have h1:=zO_ hc
 have h2:=DG_ h1 (by have:=h.cfg.ln;omega)
 have h3:=(yd_ h2).1
 have h4:=h.tree.ins h2
 have h5:=h1.lim
 have h6:=h.cfg.ln
 rw[h3]at h4 ⊢
 refine⟨h.cfg,h4,yO_ h.jf,h.ll,by show (s.nodes++[_]).length≤13;simp;omega,fun n hn=>?_,h.oo,h.uo,h.aa,h.av,h.tt,h.tb,h.qq,h.uj,h.uf,h.nw,h.ii⟩
 rcases List.mem_append.1 hn with hn | hn
 · exact h.un n hn
 · rw[List.mem_singleton]at hn;rw[hn];exact hb
theorem InvS.ins {s:VSto}{i:Nat}(h:InvS s i) {b:Blk}(hc:checkB s b=0) (hb:BlkU b):InvS (insS s b) i:=by
 have h1:=(h.insN hc hb).upd hb.just hb.fin
 unfold insS
 split
 · exact h1.upd hb.j hb.f
 · exact h1
theorem An_ (l:List Blk) (i:Nat):∀ b ∈ takeO l i,b ∈ l:=fun b hb=>by
 unfold takeO at hb
 rcases List.mem_append.1 hb with hb | hb
 · exact List.mem_of_mem_take hb
 · exact List.mem_of_mem_drop hb
theorem Bs_ (l:List Blk) (i:Nat):(takeO l i).length≤l.length:=by
 unfold takeO;rw[List.length_append,List.length_take,List.length_drop];omega
theorem InvS.takeO {s:VSto}{i:Nat}(h:InvS s i) (k:Nat):InvS (Go.FH.withO s (takeO s.orph k)) i:=h.withO (Nat.le_trans (Bs_ _ _) h.oo) fun b hb=>h.uo b (An_ _ _ b hb)
theorem InvS.waitR {p:VSto × List Rt}{i:Nat}(h:InvS p.1 i) (h0:0≤waitT p.1):InvS (waitR p).1 i:=by
 have h1:=oP_ p.1
 have h2:=h.takeO (waitT p.1).toNat
 unfold Go.Proofs.YtipiipgpnkpejaaGreat.waitR
 split
 · rename_i hc
   exact h2.ins hc (h.uo _ (dQ_ _ (by omega)))
 · exact h2
theorem InvS.waitG {i:Nat}:∀ (f:Nat) {p:VSto × List Rt},InvS p.1 i→InvS (waitG f p).1 i
 | 0,_,h=>h
 | f + 1, p, h => by
   unfold Go.Proofs.YtipiipgpnkpejaaGreat.waitG
   split
   · exact h
   · exact InvS.waitG f (h.waitR (by omega))
theorem AD_ (p:VSto × List Rt):(waitR p).2.length≤p.2.length+1:=by
 unfold waitR;split<;>simp
theorem rP_:∀ (f:Nat) (p:VSto × List Rt),(waitG f p).2.length≤p.2.length+f
 | 0,p=>Nat.le_refl _
 | f + 1, p => by
   unfold waitG
   split
   · omega
   · have h1:=rP_ f (waitR p);have h2:=AD_ p;omega
theorem FL_ {b:Blk}(h:BlkU b):BlkU (noT b):=⟨h.slot,h.just,h.fin,h.j,h.f⟩
theorem InvS.blockI {s:VSto}{i:Nat}(h:InvS s i) {b:Blk}(hc:checkB s b=0) (hb:BlkU b):InvS (blockI s b) i:=by
 unfold Go.Proofs.YtipiipgpnkpejaaGreat.blockI
 split
 · exact(h.ins hc hb).withB _
 · exact h.ins hc hb
theorem InvS.block {s:VSto}{i:Nat}(h:InvS s i) {b:Blk}(hb:BlkU b) (h2:(blockS s b).2.2=0):InvS (blockS s b).1 i∧(blockS s b).2.1.length≤5:=by
 unfold blockS at *
 split at h2
 · rename_i h3
   rw[if_pos h3]
   split at h2
   · simp at h2
   · rename_i h4
     rw[if_neg h4]
     have:=h.cfg.lo
     refine⟨h.withO (by simp;omega) (fun x hx=>?_),by simp⟩
     rw[List.mem_append,List.mem_singleton]at hx
     rcases hx with hx | rfl
     · exact h.uo x hx
     · exact FL_ hb
 · rename_i h3
   rw[if_neg h3]
   split at h2
   · rename_i h4;exact absurd h2 h4
   · rename_i h4
     rw[if_neg h4]
     have h5:=h.blockI (by simpa using h4) hb
     have h6:=h5.oo
     refine⟨InvS.waitG _ h5,?_⟩
     have:=rP_ ((Go.Proofs.YtipiipgpnkpejaaGreat.blockI s b).orph.length+1) (Go.Proofs.YtipiipgpnkpejaaGreat.blockI s b,[b.root])
     dsimp only at this ⊢
     simp at this
     omega
theorem InvS.att {s:VSto}{i:Nat}(h:InvS s i) {a:VAtt}(ha:a.vals.length≤10) (h2:(attS s a).2=0):InvS (attS s a).1 i:=by
 unfold attS at *
 split at h2
 · rename_i h3;exact absurd h2 h3
 · rename_i h3
   rw[if_neg h3]
   split at h2
   · rename_i h4;rw[if_pos h4];exact h.castIn a
   · rename_i h4
     rw[if_neg h4]
     split at h2
     · simp at h2
     · rename_i h5
       rw[if_neg h5]
       have:=h.cfg.la
       refine h.withE (by simp;omega) (fun x hx=>?_)
       rw[List.mem_append,List.mem_singleton]at hx
       rcases hx with hx | rfl
       · exact h.av x hx
       · exact ha
theorem InvS.slash {s:VSto}{i:Nat}(h:InvS s i) {x:VSlg}(hx:x.fst.vals.length≤10) (hi:i<30) (h2:(slashS s x).2=0):InvS (slashS s x).1 (i+1):=by
 unfold slashS at *
 split at h2
 · rename_i h3;exact absurd h2 h3
 · rename_i h3
   rw[if_neg h3]
   split at h2
   · simp at h2
   · rename_i h4
     rw[if_neg h4]
     have h5:=kM_ x.fst.vals x.snd.vals x.fst.vals.length
     have h6:=sH_ s.eqv (culR x.fst.vals x.snd.vals x.fst.vals.length) (culR x.fst.vals x.snd.vals x.fst.vals.length).length
     have h7:=h.qq
     exact⟨h.cfg,h.tree,h.jf,h.ll,h.nn,h.un,h.oo,h.uo,h.aa,h.av,h.tt,h.tb,by show (punT s.eqv _).length≤_;unfold punT;omega,h.uj,h.uf,h.nw,by omega⟩
theorem xe_ (l:List VTab) (t:VTab):(addTab l t).length=l.length+1:=by
 unfold addTab;simp only[List.length_append,List.length_take,List.length_drop,List.length_cons,List.length_nil];omega
theorem xa_ (l:List VTab) (t:VTab):∀ x ∈ addTab l t,x ∈ l∨x=t:=fun x hx=>by
 unfold addTab at hx
 simp only[List.mem_append,List.mem_singleton]at hx
 rcases hx with (hx | hx) | hx
 · exact .inl (List.mem_of_mem_take hx)
 · exact .inr hx
 · exact .inl (List.mem_of_mem_drop hx)
theorem InvS.reg {s:VSto}{i:Nat}(h:InvS s i) {t:VTab}(h2:(regS s t).2=0):InvS (regS s t).1 i:=by
 unfold regS at *
 split at h2
 · rename_i h3;exact absurd h2 h3
 · rename_i h3
   rw[if_neg h3]
   split at h2
   · simp at h2
   · rename_i h4
     rw[if_neg h4]
     split at h2
     · rename_i h5;exact absurd h2 h5
     · rename_i h5
       rw[if_neg h5]
       have hv:vtabE t s.cfg.bals.length=0:=by simpa using h3
       have hb:t.bals.length≤6:=by
         have:=h.cfg.b1
         unfold vtabE at hv
         split at hv
         · simp at hv
         · omega
       have hr:(regTab s.tabs t s.cfg.bals.length s.cfg.lim.table).1.length≤4∧∀ x ∈ (regTab s.tabs t s.cfg.bals.length s.cfg.lim.table).1,x ∈ s.tabs∨x=t:=by
         have:=h.cfg.lt
         unfold regTab
         rw[if_neg (by simpa using hv)]
         split
         · exact⟨h.tt,fun x hx=>.inl hx⟩
         · split
           · exact⟨h.tt,fun x hx=>.inl hx⟩
           · exact⟨by rw[xe_];omega,xa_ _ _⟩
       refine h.withT hr.1 fun x hx=>?_
       rcases hr.2 x hx with hx | rfl
       · exact h.tb x hx
       · exact hb

theorem uu_ {t:List Nod}{i:Int}(h:(raiseT t i).2=0):(raiseT t i).1.length=t.length∧∀ k,(nod (raiseT t i).1 k).up=(nod t k).up∧(nod (raiseT t i).1 k).blk=(nod t k).blk:=by
 unfold raiseT at *
 split at h
 · rename_i h1
   rw[if_pos h1]
   cases h2:setT t (pathT t i) 1 2 with
   | none=>rw[h2]at h;simp at h
   | some u=>exact⟨eU_ h2,fun k=>kH_ h2 k⟩
 · simp at h
theorem xS_ {t:List Nod}{i:Int}(h:(condT t i).2=0):(condT t i).1.length=t.length∧∀ k,(nod (condT t i).1 k).up=(nod t k).up∧(nod (condT t i).1 k).blk=(nod t k).blk:=by
 unfold condT at *
 split at h
 · rename_i h1
   rw[if_pos h1]
   cases h2:setT t (descT t i) 2 1 with
   | none=>rw[h2]at h;simp at h
   | some u=>exact⟨eU_ h2,fun k=>kH_ h2 k⟩
 · simp at h
theorem vu_ {t:List Nod}{i:Int}{v:Vdt}{keep:List Int}(h:(judgeT t i v keep).2=0):(judgeT t i v keep).1.length=t.length∧∀ k,(nod (judgeT t i v keep).1 k).up=(nod t k).up∧(nod (judgeT t i v keep).1 k).blk=(nod t k).blk:=by
 unfold judgeT at *
 split at h
 · simp at h
 rename_i h1
 rw[if_neg h1]
 split at h
 · rename_i h2;rw[if_pos h2];exact uu_ h
 rename_i h2
 rw[if_neg h2]
 split at h
 · rename_i h3;rw[if_pos h3];exact⟨rfl,fun k=>⟨rfl,rfl⟩⟩
 rename_i h3
 rw[if_neg h3]
 split at h
 · simp at h
 rename_i h4
 rw[if_neg h4]
 split at h
 · simp at h
 rename_i h5
 rw[if_neg h5]
 split at h
 · rename_i h6
   rw[if_pos h6]
   split at h
   · rename_i h7;exact absurd h h7
   · rename_i h7
     rw[if_neg h7]
     have a:=uu_ (show (raiseT t (reachT t i v.latest).1).2=0 by simpa using h7)
     have b:=xS_ h
     exact⟨b.1.trans a.1,fun k=>⟨(b.2 k).1.trans (a.2 k).1,(b.2 k).2.trans (a.2 k).2⟩⟩
 · rename_i h6
   rw[if_neg h6]
   exact xS_ h
theorem AA_ {t u:List Nod}(hl:u.length=t.length) (hb:∀ k,(nod u k).blk=(nod t k).blk) (r:Rt):findT u r=findT t r:=by
 unfold findT
 rw[hl]
 congr 2
 funext k
 rw[hb k]
theorem InvS.judge {s:VSto}{i:Nat}(h:InvS s i) {t:List Nod}(hl:t.length=s.nodes.length) (hu:∀ k,(nod t k).up=(nod s.nodes k).up∧(nod t k).blk=(nod s.nodes k).blk):InvS (withN s t) i:=by
 refine⟨h.cfg,⟨h.tree.ok.of_up hl fun k=>(hu k).1,by have:=h.tree.pos;show 0<t.length;omega,by show (nod t 0).up<0;rw[(hu 0).1];exact h.tree.root⟩,?_,h.ll,by have:=h.nn;show t.length≤13;omega,fun n hn=>?_,h.oo,h.uo,h.aa,h.av,h.tt,h.tb,h.qq,h.uj,h.uf,h.nw,h.ii⟩
 · show 0≤findT t s.j.rt
   rw[AA_ hl fun k=>(hu k).2];exact h.jf
 · obtain⟨k,hk,he⟩:=tQ_ hn
   rw[← he];show BlkU (nod t k).blk;rw[(hu k).2]
   exact h.blk (show k<s.nodes.length by have:k<t.length:=hk;omega)
theorem tC_ (l:List Int) (n:Int):vErr l n≠21:=by
 unfold vErr
 split
 · decide
 · generalize (0:Nat)=i
   have key:∀ k i,l.length-i=k→vFrom l n i≠21:=by
     intro k
     induction k with
     | zero=>intro i hi;rw[il_ (by omega)];decide
     | succ k ih =>
       intro i hi
       rw[cM_ (by omega)]
       split
       · decide
       · split
         · decide
         · exact ih (i+1) (by omega)
   exact key _ i rfl
theorem yk_ (t:VTab) (n:Int):vtabE t n≠21:=by unfold vtabE;(repeat' split)<;>decide
theorem DJ_ (s:VSto):(tickS s).2≠21:=by unfold tickS;split<;>simp
theorem yA_ (s:VSto) (b:Blk):checkB s b≠21:=by
 unfold checkB
 repeat'(split;· decide)
 decide
theorem BJ_ (s:VSto) (b:Blk):(blockS s b).2.2≠21:=by
 unfold blockS
 split
 · split<;>simp
 · split
   · exact yA_ s b
   · simp
theorem At_ (s:VSto) (a:VAtt):(checkA s a).2≠21:=by
 unfold checkA
 split
 · exact tC_ _ _
 · split
   · simp
   · split
     · simp
     · split
       · simp
       · split<;>simp
theorem Fa_ (s:VSto) (a:VAtt):(attS s a).2≠21:=by
 unfold attS
 split
 · exact At_ s a
 · split
   · simp
   · split<;>simp
theorem Bc_ (s:VSto) (x:VSlg):(slashS s x).2≠21:=by
 unfold slashS
 split
 · unfold evE
   dsimp only
   split
   · exact tC_ _ _
   · split
     · exact tC_ _ _
     · split
       · decide
       · split<;>decide
 · split<;>simp
theorem Fv_ (s:VSto) (t:VTab):(regS s t).2≠21:=by
 unfold regS
 split
 · exact yk_ _ _
 · split
   · simp
   · split
     · unfold regTab
       dsimp only
       split
       · exact yk_ _ _
       · split
         · simp
         · split<;>simp
     · simp
structure InvA (s:VSta) (i:Nat):Prop where
 sto:InvS s.sto i
 rq:s.reqs.length≤10*i
 ut:∀ r ∈ s.reqs,U64 r.tag
 yl:s.rets.length≤3
 tg:U64 s.tag
theorem InvA.up {s:VSta}{i k:Nat}(h:InvA s i) (h1:i≤k) (h2:k≤30):InvA s k:=⟨h.sto.up h1 h2,by have:=h.rq;omega,h.ut,h.yl,h.tg⟩
theorem un_ {l:List Req}{k:Nat}(h:k<l.length):reqA l k ∈ l:=dQ_ _ h
theorem hD_ (t:List Nod) (l:List Req):(knownL t l).length≤l.length∧∀ r ∈ knownL t l,r ∈ l:=by
 refine⟨by have:=dM_ (f:=knownR t l) (a:=[]) (fun i o=>by unfold knownR;split<;>simp) l.length;unfold knownL;simpa using this,?_⟩
 refine dC_ (f:=knownR t l) (a:=[]) (fun _ o=>∀ r ∈ o,r ∈ l) (by simp) l.length (fun i o hi ho=>?_) _ (Nat.le_refl _)
 unfold knownR
 split
 · intro r hr
   rw[List.mem_append,List.mem_singleton]at hr
   rcases hr with hr | rfl
   · exact ho r hr
   · exact un_ hi
 · exact ho
structure InvQ (s:VSta) (i n:Nat):Prop where
 sto:InvS s.sto i
 rq:s.reqs.length≤n
 ut:∀ r ∈ s.reqs,U64 r.tag
 yl:s.rets.length≤3
 tg:U64 s.tag
theorem InvQ.a {s:VSta}{i n:Nat}(h:InvQ s i n) (hn:n≤10*i):InvA s i:=⟨h.sto,Nat.le_trans h.rq hn,h.ut,h.yl,h.tg⟩
theorem InvA.q {s:VSta}{i:Nat}(h:InvA s i):InvQ s i (10*i):=⟨h.sto,h.rq,h.ut,h.yl,h.tg⟩
theorem InvQ.drop {s:VSta}{i n:Nat}(h:InvQ s i n):InvQ (dropS s) i n:=by
 have h1:=hD_ s.sto.nodes s.reqs
 have h2:=hD_ s.sto.nodes s.rets
 exact⟨h.sto,Nat.le_trans h1.1 h.rq,fun r hr=>h.ut r (h1.2 r hr),Nat.le_trans h2.1 h.yl,h.tg⟩
theorem InvQ.open1 {s:VSta}{i n:Nat}(h:InvQ s i n) (r:Rt) (k:Int):InvQ (openS s r k) i (n+1):=by
 refine⟨h.sto,by show (s.reqs++[_]).length≤_;have:=h.rq;simp;omega,fun x hx=>?_,h.yl,aP_ _⟩
 rcases List.mem_append.1 hx with hx | hx
 · exact h.ut x hx
 · rw[List.mem_singleton]at hx;rw[hx];exact h.tg
theorem InvQ.le {s:VSta}{i n m:Nat}(h:InvQ s i n) (hn:n≤m):InvQ s i m:=⟨h.sto,Nat.le_trans h.rq hn,h.ut,h.yl,h.tg⟩
theorem InvQ.opens {s:VSta}{i n:Nat}(h:InvQ s i n) (l:List Rt):InvQ (opensS s l) i (n+l.length):=by
 refine dC_ (f:=openR l) (a:=s) (fun k t=>InvQ t i (n+k)) h l.length (fun k t hk ht=>?_) _ (Nat.le_refl _)
 unfold openR
 split
 · exact ht.open1 _ _
 · exact ht.le (by omega)
theorem InvQ.rets {s:VSta}{i n:Nat}(h:InvQ s i n) {l:List Req}(hl:l.length≤3):InvQ (withY s l) i n:=⟨h.sto,h.rq,h.ut,hl,h.tg⟩
theorem InvQ.due {s:VSta}{i n:Nat}(h:InvQ s i n):InvQ (dueS s) i (n+3):=by
 have key:=dC_ (f:=dueR s.rets) (a:=withY s []) (fun k t=>InvQ t i (n+k)∧t.rets.length≤k) ⟨h.rets (by simp),Nat.le_refl _⟩ s.rets.length (fun k t hk ht=>by
   have:=h.yl
   unfold dueR
   split
   · exact⟨(ht.1.rets (by have:=ht.2;simp;omega)).le (by omega),by show (t.rets++[_]).length≤k+1;have:=ht.2;simp;omega⟩
   · split
     · exact⟨ht.1.open1 _ _,Nat.le_succ_of_le ht.2⟩
     · exact⟨ht.1.le (by omega),Nat.le_succ_of_le ht.2⟩) _ (Nat.le_refl _)
 exact key.1.le (by have:=h.yl;omega)
theorem re_:∀ (k:Nat) (l:List Req),(sinkG l k).length=l.length
 | 0,l=>rfl
 | k + 1, l => by
   unfold sinkG
   split
   · rw[re_ k];simp
   · rfl
theorem InvA.later {s:VSta}{i:Nat}(h:InvA s i) (r:Req):InvA (laterS s r) i:=by
 unfold laterS
 split
 · exact h
 · split
   · exact⟨h.sto,h.rq,h.ut,h.yl,h.tg⟩
   · rename_i h2
     have:=h.sto.cfg.lr
     exact⟨h.sto,h.rq,h.ut,by show (sinkG _ _).length≤3;rw[re_];simp;omega,h.tg⟩
theorem ys_ (l:List Req) (i:Nat):(takeR l i).length≤l.length∧∀ r ∈ takeR l i,r ∈ l:=by
 unfold takeR
 refine⟨by rw[List.length_append,List.length_take,List.length_drop];omega,fun r hr=>?_⟩
 rcases List.mem_append.1 hr with hr | hr
 · exact List.mem_of_mem_take hr
 · exact List.mem_of_mem_drop hr
theorem InvA.mat {s:VSta}{i:Nat}(h:InvA s i) {v:Vdt}(h2:(matchS s v).2.2=0):InvA (matchS s v).2.1 i:=by
 unfold matchS at *
 split at h2
 · rename_i k hk
   have h1:=ys_ s.reqs k
   exact⟨h.sto,Nat.le_trans h1.1 h.rq,fun r hr=>h.ut r (h1.2 r hr),h.yl,h.tg⟩
 · simp at h2
theorem InvS.boostV {s:VSto}{i:Nat}(h:InvS s i):InvS (boostV s) i:=by
 unfold Go.Proofs.YtipiipgpnkpejaaGreat.boostV
 split
 · exact h.withB _
 · exact h
theorem InvA.verd {s:VSta}{i:Nat}(h:InvA s i) {v:Vdt}(h2:(verdS s v).2=0∨(verdS s v).2=21):InvA (verdS s v).1 i:=by
 unfold verdS at *
 split at h2
 · rename_i h3;rw[if_pos h3];exact h
 · rename_i h3
   rw[if_neg h3]
   have hm:=h.mat (v:=v) (by simpa using h3)
   split at h2
   · rename_i h4;rw[if_pos h4];exact hm.later _
   · rename_i h4
     rw[if_neg h4]
     split at h2
     · rename_i h5;rw[if_pos h5];exact⟨h.sto,h.rq,h.ut,h.yl,h.tg⟩
     · rename_i h5
       rw[if_neg h5]
       unfold judgeV at *
       have h6:=vu_ (show (judgeT (matchS s v).2.1.sto.nodes _ v _).2=0 by simpa using h5)
       exact⟨(hm.sto.judge h6.1 h6.2).boostV,hm.rq,hm.ut,hm.yl,hm.tg⟩
structure OpR (x:VOp):Prop where
 blk:BlkU x.blk
 att:x.att.vals.length≤10
 fst:x.slg.fst.vals.length≤10
 snd:x.slg.snd.vals.length≤10
 tab:x.tab.bals.length≤10
theorem InvA.perf {s:VSta}{i:Nat}(h:InvA s i) (hi:i<30) {x:VOp}(hx:OpR x) (h2:(perfS s x).2=0∨(perfS s x).2=21):InvA (perfS s x).1 (i+1):=by
 have hu:=h.up (Nat.le_succ i) (by omega)
 unfold perfS at *
 split at h2
 · rename_i h3
   rw[if_pos h3]
   split at h2
   · rename_i h4
     rw[if_pos h4]
     have ht:=h.sto.tick h4
     have hq:InvQ (withS s (tickS s.sto).1) i (10*i):=⟨ht,h.rq,h.ut,h.yl,h.tg⟩
     have hd:=hq.drop.due
     exact⟨hd.sto.up (Nat.le_succ i) (by omega),by have:=hd.rq;dsimp only;omega,hd.ut,hd.yl,hd.tg⟩
   · rename_i h4
     exact absurd h2 (by intro h5;rcases h5 with h5 | h5;exact h4 h5;exact DJ_ _ h5)
 rename_i h3
 rw[if_neg h3]
 clear h3
 split at h2
 · rename_i h3
   rw[if_pos h3]
   split at h2
   · rename_i h4
     rw[if_pos h4]
     have ht:=h.sto.block hx.blk h4
     have hq:InvQ (withS s (blockS s.sto x.blk).1) i (10*i):=⟨ht.1,h.rq,h.ut,h.yl,h.tg⟩
     have hd:=hq.drop.opens (blockS s.sto x.blk).2.1
     have:=ht.2
     exact⟨hd.sto.up (Nat.le_succ i) (by omega),by have:=hd.rq;dsimp only;omega,hd.ut,hd.yl,hd.tg⟩
   · rename_i h4
     exact absurd h2 (by intro h5;rcases h5 with h5 | h5;exact h4 h5;exact BJ_ _ _ h5)
 rename_i h3
 rw[if_neg h3]
 clear h3
 split at h2
 · rename_i h3
   rw[if_pos h3]
   exact⟨(h.sto.att hx.att (h2.resolve_right (Fa_ _ _))).up (Nat.le_succ i) (by omega),hu.rq,hu.ut,hu.yl,hu.tg⟩
 rename_i h3
 rw[if_neg h3]
 clear h3
 split at h2
 · rename_i h3
   rw[if_pos h3]
   exact⟨h.sto.slash hx.fst hi (h2.resolve_right (Bc_ _ _)),hu.rq,hu.ut,hu.yl,hu.tg⟩
 rename_i h3
 rw[if_neg h3]
 clear h3
 split at h2
 · rename_i h3
   rw[if_pos h3]
   exact⟨(h.sto.reg (h2.resolve_right (Fv_ _ _))).up (Nat.le_succ i) (by omega),hu.rq,hu.ut,hu.yl,hu.tg⟩
 rename_i h3
 rw[if_neg h3]
 clear h3
 split at h2
 · rename_i h3
   rw[if_pos h3]
   exact(h.verd h2).up (Nat.le_succ i) (by omega)
 rename_i h3
 rw[if_neg h3]
 exact hu
theorem InvA.emit {s:VSta}{i:Nat}(h:InvA s i):InvA (emitS s).1 i:=by
 unfold emitS
 split
 · exact h
 · exact⟨h.sto,h.rq,h.ut,h.yl,h.tg⟩
theorem InvA.step {s:VSta}{i:Nat}(h:InvA s i) (hi:i<30) {x:VOp}(hx:OpR x):InvA (stepS s x).1 (i+1):=by
 have hu:=h.up (Nat.le_succ i) (by omega)
 unfold stepS
 split
 · exact hu
 · split
   · exact hu
   · split
     · rename_i h3;exact h.perf hi hx (.inr h3)
     · split
       · exact hu
       · rename_i h3 h4;exact(h.perf hi hx (.inl (by simpa using h4))).emit
end Go.Proofs.YtipiipgpnkpejaaGreat
namespace Go.Proofs.YtipiipgpnkpejaaGreat
open Go Go.FH Go.RowKit
set_option linter.unusedVariables false
set_option linter.unusedSimpArgs false
set_option maxRecDepth 8000
set_option maxHeartbeats 4000000

theorem Sm.val {α:Type}{v:α}{F:α→Prop}(h:Sm (fun r=>r=v) F):F v:=by
 obtain⟨r,rfl,h⟩:=h
 exact h
theorem zh_ (n:Nat):List.replicate n (votC vot0)=rows votC (List.replicate n vot0):=BX_ votC n vot0
theorem Bn_ {fr:Fr}{σ:St}{rs:List ARes}{l:List AV}{n:Int}{S:VSto × Int}(hl:resVal fr σ rs=some l) (hv:fz σ (List.range σ.length) (resAV l)=.tup [.agg (stoC sto0),.int .i64 n]) (hs:(vsto0,n)=S):
   Sm (fun r:VSto × Int=>r=S) fun r=>PQ rs (.tup [.agg (stoC r.1.a),.int .i64 r.2]) .ret fr σ:=
 ⟨(vsto0,n),hs,l,hl,.inr ⟨_,hv,(by simp[PuL,Pu,PuLL,sto0,stoC,bq_,dA_,bg_,cI_,cH_,cfg0,cfgC,cp0]),Wk.tup ⟨tt_,Wk.refl _,trivial⟩⟩⟩
theorem Ez_ (x:Sto) (p:Pul):spl (stoC x) 47 (pulC p)=stoC { x with j:=p.j,f:=p.f }:=kD_ x p.j p.f
theorem EY_ (x:Sto) (l:List (List AV)):Wk (.agg (stoC { x with eqv:=.sl 0 true [],early:=.sl 0 true [],orph:=.sl 0 true [],tabs:=.sl 34 true l })) (.agg (stoC { x with eqv:=.sl 1 false [],early:=.sl 67 false [],orph:=.sl 238 false [],tabs:=.sl 34 false l })):=by
 refine Wk.agg ?_
 unfold stoC
 dsimp only
 exact(WkC.refl _).app (.same _ (.cons (Wk.empty _ _ _) (fun h=>h) ((WkC.refl _).app ((WkC.refl _).app (.cons (Wk.empty _ _ _) (fun h=>h) (.cons (Wk.empty _ _ _) (fun h=>h) (.same _ (.same _ ((WkC.refl _).app (.one (Wk.open_ _ _ _) fun h=>h))))))))))
theorem Er_ (s:VSto):PuL (stoC { s.a with eqv:=.sl 0 true [],early:=.sl 0 true [],orph:=.sl 0 true [],tabs:=.sl 34 true (rows VTab.c s.tabs) }):=by
 have h:=(hS_ _).1 s.pul
 refine(hS_ _).2 ?_
 simp only[Sto.Pure,Pu,PuLL,and_true,true_and]at *
 simp[h,cV_]
theorem Cm_ (c:VCfg) (hb:c.bals.length≤1000000):PC Tryz.prog 112 [.agg (cfgC c.a)] (.tup [.agg (stoC (newS c).1.a),.int .i64 (newS c).2]):=by
 refine Sm.val (F:=fun r:VSto × Int=>PC Tryz.prog 112 [.agg (cfgC c.a)] (.tup [.agg (stoC r.1.a),.int .i64 r.2])) ?_
 refine df_ 9 wc_ (by simp) puA (fun r _=>puA) ?_
 unfold lR_;refine bd ?_
 have c1:=lf_ ⟨⟨0,c.gen⟩,c.bals⟩ c.bals.length hb
 have c2:=Ae_ (genB c.gen) 1
 have c3:=nz_ ⟨⟨0,c.gen⟩,c.bals⟩ hb
 generalize hV:vtabE ⟨⟨0,c.gen⟩,c.bals⟩ c.bals.length=V at *
 have lt:∀ (a b:Int),decide (a > b)=decide (b<a):=fun _ _=>rfl
 iterate 5 (repeat'(first | refine aJ_ ?_ | (refine aA_ (fun h=>?_) (fun h=>?_)<;>try(exact absurd h (by decide))) | refine bu_ (fun h=>?_) (fun h=>?_));all_goals try refine aH_ (ur_ _ _ _) ?_)
 repeat'(first | refine aJ_ ?_ | (refine aA_ (fun h=>?_) (fun h=>?_)<;>try(exact absurd h (by decide))) | refine bu_ (fun h=>?_) (fun h=>?_))
 all_goals try(refine Bn_ (by first | rfl | exact evd) (by first | rfl | exact evd) ?_)
 rotate_left 2
 · refine aH_ c1 ?_
   repeat'(first | refine aJ_ ?_ | (refine aA_ (fun h=>?_) (fun h=>?_)<;>try(exact absurd h (by decide))) | refine bu_ (fun h=>?_) (fun h=>?_))
   · refine Bn_ (by first | rfl | exact evd) (by first | rfl | exact evd) ?_
     (try simp only[Bool.not_false,Bool.not_true,decide_eq_true_eq,decide_eq_false_iff_not,Bool.not_eq_true',Bool.not_eq_false',beq_iff_eq,bne_iff_ne,beq_eq_false_iff_ne,bne_eq_false_iff_eq,ne_eq,Bool.not_eq_true,Bool.not_eq_false,Bool.or_eq_true,Bool.and_eq_true,Bool.or_eq_false_iff]at *)
     (simp only[newS,newE, *,reduceIte,Bool.true_eq_false,Bool.false_eq_true,not_true_eq_false,not_false_eq_true,ne_eq,true_and,and_true,false_and,and_false,true_or,or_true,false_or,or_false,Int.reduceEq,if_false,if_true,eq_self,reduceCtorEq,decide_true,decide_false,Bool.and_true,Bool.true_and,Bool.and_false,Bool.false_and,Bool.or_true,Bool.true_or,Bool.or_false,Bool.false_or,Bool.not_true,Bool.not_false])
   · refine bb_ c2 ?_
     refine aJ_ ?_
     refine bb_ c3 ?_
     have hrep:List.replicate c.bals.length (votC ⟨false,0,rt0⟩)=rows votC (List.replicate c.bals.length vot0):=zh_ _
     have ht:List.take c.bals.length (rows votC (List.replicate c.bals.length ⟨false,0,rt0⟩))=rows votC (List.replicate c.bals.length ⟨false,0,rt0⟩):=List.take_of_length_le (by simp)
     repeat(first | refine aJ_ ?_ | simp only[go_sem,hrep,Ez_])
     refine xU_ (newO c,0) ?_ ⟨_,(by first | rfl | exact evd),.inr ⟨.tup [.agg (stoC { (newO c).a with eqv:=.sl 0 true [],early:=.sl 0 true [],orph:=.sl 0 true [],tabs:=.sl 34 true (rows VTab.c (newO c).tabs) }),.int .i64 0],?_,⟨Er_ _,trivial,trivial⟩,Wk.tup ⟨EY_ _ _,Wk.refl _,trivial⟩⟩⟩
     · (try simp only[Bool.not_false,Bool.not_true,decide_eq_true_eq,decide_eq_false_iff_not,Bool.not_eq_true',Bool.not_eq_false',beq_iff_eq,bne_iff_ne,beq_eq_false_iff_ne,bne_eq_false_iff_eq,ne_eq,Bool.not_eq_true,Bool.not_eq_false,Bool.or_eq_true,Bool.and_eq_true,Bool.or_eq_false_iff]at *)
       (simp only[newS,newE, *,reduceIte,Bool.true_eq_false,Bool.false_eq_true,not_true_eq_false,not_false_eq_true,ne_eq,true_and,and_true,false_and,and_false,true_or,or_true,false_or,or_false,Int.reduceEq,if_false,if_true,eq_self,reduceCtorEq,decide_true,decide_false,Bool.and_true,Bool.true_and,Bool.and_false,Bool.false_and,Bool.or_true,Bool.true_or,Bool.or_false,Bool.false_or,Bool.not_true,Bool.not_false])
     · (try simp only[go_sem,Nat.reduceAdd,Nat.reduceSub,Nat.reduceMul,Nat.reduceLT,Nat.reduceLeDiff,Nat.reduceEqDiff,reduceIte,Int.reduceToNat,Int.reduceLT,Int.reduceLE,Int.reduceEq,Int.reduceNeg,reduceCtorEq,Int.reduceBEq,Int.reduceBNe,List.length_replicate,ht])
       rfl
 all_goals(try simp only[Bool.not_false,Bool.not_true,decide_eq_true_eq,decide_eq_false_iff_not,Bool.not_eq_true',Bool.not_eq_false',beq_iff_eq,bne_iff_ne,beq_eq_false_iff_ne,bne_eq_false_iff_eq,ne_eq,Bool.not_eq_true,Bool.not_eq_false,Bool.or_eq_true,Bool.and_eq_true,Bool.or_eq_false_iff]at *)
 all_goals(simp only[newS,newE, *,reduceIte,Bool.true_eq_false,Bool.false_eq_true,not_true_eq_false,not_false_eq_true,ne_eq,true_and,and_true,false_and,and_false,true_or,or_true,false_or,or_false,Int.reduceEq,if_false,if_true,eq_self,reduceCtorEq,decide_true,decide_false,Bool.and_true,Bool.true_and,Bool.and_false,Bool.false_and,Bool.or_true,Bool.true_or,Bool.or_false,Bool.false_or,Bool.not_true,Bool.not_false])

theorem pN_ (x:Sto) (v:AV):(stoC x).set 113 v=stoC { x with early:=v }:=by
 simp only[stoC,List.set_append,ag_,ae_,List.length_cons,Nat.reduceSub,Nat.reduceLT,if_false,List.set_cons_succ,List.set_cons_zero]
theorem pi_ (x:Sto):(stoC x).getD 113 .dead=x.early:=by
 simp only[stoC,List.getD_eq_getElem?_getD,List.getElem?_append,ag_,ae_,List.length_cons,Nat.reduceSub,Nat.reduceLT,if_false,List.getElem?_cons_succ,List.getElem?_cons_zero,Option.getD_some]
theorem wF_ (s:VSto) (a:VAtt) (h:StR s) (ha:a.vals.length≤1000000) (hj:∀ j ∈ a.vals,0≤j∧j<s.latest.length) (l:List VAtt) (n:Nat):
   ACall Tryz.prog 149 [.agg (stoC { s.a with early:=.hs 67 0 0 n }),.agg (attC a.a)] [.vec 67 (rows VAtt.c l)] (.agg (stoC { (castIn s a).a with early:=.hs 67 0 0 n })) [.vec 67 (rows VAtt.c l)]:=by
 refine ACall.fact 6 ha_ (by simp) ?_ (by simp)
 unfold eN_;refine bd ?_
 have c1:=rQ_ s.latest a.target.ep a.root a.vals h.bl ha hj
 unfold castIn
 generalize castT s.latest a.target.ep a.root a.vals=C at *
 obtain⟨C1,C2⟩:=C
 dsimp only at c1 ⊢
 try refine aa_ ?_
 refine pcall c1 ?_
 try refine aa_ ?_
 refine finQ [] [0] _ (by simp) (by first | rfl | exact evd) (by simp) rfl (by simp) (by simp) evd evd
theorem vo_ (s:VSto) (a:VAtt) (h:StR s) (ha:a.vals.length≤1000000):
   ACall Tryz.prog 148 [.agg (stoC { s.a with early:=.hs 67 0 0 s.early.length }),.agg (attC a.a)] [.vec 67 (rows VAtt.c s.early)] (.tup [.bool (checkA s a).1,.int .i64 (checkA s a).2]) [.vec 67 (rows VAtt.c s.early)]:=by
 refine ACall.lend rfl ?_
 have ht:List.take s.early.length (rows VAtt.c s.early)=rows VAtt.c s.early:=List.take_of_length_le (by simp)
 (try simp only[go_sem,ht,List.length_cons,List.length_nil,List.range_succ,List.range_zero])
 exact lM_ s a h ha
theorem hV_ {fr:Fr}{σ:St}{rs:List ARes}{l:List AV}{n:Int}(hl:resVal fr σ rs=some l) (hv:fz σ (List.range σ.length) (resAV l)=.tup [.agg (stoC sto0),.int .i64 n]):PQ rs (.tup [.agg (stoC vsto0.a),.int .i64 n]) .ret fr σ:=
 ⟨l,hl,.inr ⟨_,hv,(by simp[PuL,Pu,PuLL,sto0,stoC,bq_,dA_,bg_,cI_,cH_,cfg0,cfgC,cp0]),Wk.tup ⟨tt_,Wk.refl _,trivial⟩⟩⟩
def tickK (s:VSto) (k:Nat):VSto:=upto (tickR s.early) (withE s []) k
theorem DO_ (s:VSto) (k:Nat):tickK s (k+1)=tickR s.early k (tickK s k):=rfl
theorem AT_ (s:VSto) (m:Nat) (h:InvS s m):PC Tryz.prog 132 [.agg (stoC s.a)] (.tup [.agg (stoC (tickS s).1.a),.int .i64 (tickS s).2]):=by
 refine PC.fact 9 tq_ (by simp) puA puA ?_
 unfold kJ_;refine bd ?_
 unfold tickS
 have hsp:=h.cfg.s1
 have hs4:=h.cfg.s4
 by_cases q1:1099511627776≤s.now
 · have e1:decide ((1099511627776:Int)≤s.now)=true:=decide_eq_true q1
   rw[if_pos q1]
   repeat(first | refine aa_ ?_ | simp only[go_sem,e1])
   refine ac_ ?_
   try refine aa_ ?_
   exact hV_ (by first | rfl | exact evd) (by first | rfl | exact evd)
 have e1:decide ((1099511627776:Int)≤s.now)=false:=decide_eq_false q1
 rw[if_neg q1]
 have hA:=h.tickA
 have hB:=hA.tickB
 have c1:=yH_ (tickA s) hA.r.bn
 have c2:=oB_ (tickA s) (pendS (tickA s)).j (pendS (tickA s)).f hA.r
 have hmod:IntKind.u64.wrap (Int.tmod (tickA s).now (tickA s).cfg.spe)=Int.tmod (tickA s).now (tickA s).cfg.spe:=by
   have hn:=hA.nw
   have hsp':1≤(tickA s).cfg.spe:=hsp
   rw[Int.tmod_eq_emod_of_nonneg hn.lo]
   have h1:=Int.emod_nonneg (tickA s).now (show (tickA s).cfg.spe≠0 by omega)
   have h2:=Int.emod_lt_of_pos (tickA s).now (show 0<(tickA s).cfg.spe by omega)
   have hs4':(tickA s).cfg.spe≤4:=hs4
   exact aB_ h1 (by omega)
 have hT1:Int.tmod (tickA s).now (tickA s).cfg.spe=0→tickB (tickA s)=updS (tickA s) (pendS (tickA s)).j (pendS (tickA s)).f:=fun hz=>by unfold tickB;rw[hmod,if_pos hz]
 have hT2:Int.tmod (tickA s).now (tickA s).cfg.spe≠0→tickB (tickA s)=tickA s:=fun hz=>by unfold tickB;rw[hmod,if_neg hz]
 show Tri _ _ _ _ (PQ _ (.tup [.agg (stoC (tickK (tickB (tickA s)) (tickB (tickA s)).early.length).a),.int .i64 0])) _ _
 generalize tickB (tickA s)=S2 at *
 repeat(first | refine aa_ ?_ | simp only[go_sem,e1])
 refine ab_ ?_
 try refine aa_ ?_
 refine ld_ (fun _=>[]) (fun _=>[.var (stoC S2.a),.var (stoC sto0)]) (fun hT=>?_) (fun hF=>?_) ?_
 · rw[hT1 (by rw[beq_iff_eq]at hT;exact hT)]
   try refine aa_ ?_
   refine pcall c1 ?_
   try refine aa_ ?_
   refine pcall c2 ?_
   try refine aa_ ?_
   refine GC.mk' [] [0,1] (by simp) rfl (by simp) (by simp) evd evd
 · rw[hT2 (by rw[beq_eq_false_iff_ne]at hF;exact hF)]
   try refine aa_ ?_
   refine GC.mk' [] [0,1] (by simp) rfl (by simp) (by simp) evd evd
 clear hT1 hT2 hmod c1 c2
 try refine aa_ ?_
 refine hU_ 0 113 67 ?_ (by rfl) (by exact pi_ _)
 simp only[go_sem,pN_]
 have hK:∀ k,k≤S2.early.length→InvS (tickK S2 k) m∧(tickK S2 k).early.length≤k:=InvS.tickR hB.av hB.aa hB
 have hz:tickK S2 0=withE S2 []:=rfl
 have haa:=hB.aa
 refine au_ (fun i:Nat=>[(6,.int .i64 i)]) (fun i=>[.var (stoC { (tickK S2 i).a with early:=.hs 67 2 0 (tickK S2 i).early.length }),.var (stoC sto0),.vec 67 (rows VAtt.c (tickK S2 i).early)]) (fun i=>S2.early.length-i) (fun i=>i≤S2.early.length) 0 (Nat.zero_le _) ?_ ?_
 · rw[hz]
   unfold withE
   refine GC.mk' [] [0,1,2] (by simp) rfl (by simp) (by simp) evd evd
 intro i hk
 obtain⟨hki,hkl⟩:=hK i hk
 have hsk:=DO_ S2 i
 (try simp only[as_,av_,List.set_cons_zero,List.set_cons_succ])
 by_cases h1:i<S2.early.length
 · have e1:decide ((i:Int)<((S2.early.length:Nat):Int))=true:=decide_eq_true (by omega)
   have hw:=af_ h1 (by omega)
   have hgd:(rows VAtt.c S2.early).getD i []=attC (attA S2.early i).a:=bl_ (f:=VAtt.c) default h1
   have hav:=hB.av _ (ua_ h1)
   have hc:tickR S2.early i (tickK S2 i)=if (tickK S2 i).now≤(attA S2.early i).slot then withE (tickK S2 i) ((tickK S2 i).early++[attA S2.early i])else if (checkA (tickK S2 i) (attA S2.early i)).2=0 then castIn (tickK S2 i) (attA S2.early i)else tickK S2 i:=rfl
   have c1:=vo_ (tickK S2 i) (attA S2.early i) hki.r (by omega)
   have c2:=fun hj=>wF_ (tickK S2 i) (attA S2.early i) hki.r (by omega) hj (tickK S2 i).early (tickK S2 i).early.length
   have hj:(checkA (tickK S2 i) (attA S2.early i)).2=0→∀ j ∈ (attA S2.early i).vals,0≤j∧j<(tickK S2 i).latest.length:=fun hq j hjm=>by
     have hv:vErr (attA S2.early i).vals (tickK S2 i).cfg.bals.length=0:=by
       unfold checkA at hq
       split at hq
       · rename_i h1;exact absurd hq h1
       · rename_i h1;simpa using h1
     obtain⟨u,hm,rfl⟩:=List.getElem_of_mem hjm
     have:=(dd_ hv).2 u hm
     rw[List.getD_eq_getElem?_getD,List.getElem?_eq_getElem hm,Option.getD_some]at this
     have hll:=hki.ll
     omega
   clear hK
   have hcl:(castIn (tickK S2 i) (attA S2.early i)).early=(tickK S2 i).early:=rfl
   rw[hc]at hsk
   generalize hs:tickK S2 i=s1 at *
   generalize attA S2.early i=a at *
   have hr:rows VAtt.c s1.early++[attC a.a]=rows VAtt.c (s1.early++[a]):=bn_ VAtt.c s1.early a
   generalize hR:checkA s1 a=R at *
   obtain⟨R1,R2⟩:=R
   dsimp only at c1 hsk hj
   repeat(first | refine aa_ ?_ | simp only[go_sem,e1])
   refine ac_ ?_
   repeat(first | refine aa_ ?_ | simp only[go_sem,hgd])
   by_cases q2:s1.now≤a.slot
   · have e2:decide (s1.now≤a.slot)=true:=decide_eq_true q2
     rw[if_pos q2]at hsk
     repeat(first | refine aa_ ?_ | simp only[go_sem,e2])
     refine ac_ ?_
     repeat(first | refine aa_ ?_ | simp only[go_sem,hgd,hr,hw])
     refine⟨i+1,h1,by omega,?_⟩
     rw[hsk]
     unfold withE
     refine GC.mk' [] [0,1,3] (by simp) rfl (by simp) (by simp) evd evd
   · have e2:decide (s1.now≤a.slot)=false:=decide_eq_false q2
     rw[if_neg q2]at hsk
     repeat(first | refine aa_ ?_ | simp only[go_sem,e2])
     refine ab_ ?_
     repeat(first | refine aa_ ?_ | simp only[go_sem,hgd])
     refine dcallr [2] (c1) evd (Picks.mk' (by simp) evd) ?_;refine evg ?_
     try refine aa_ ?_
     by_cases q3:R2=0
     · rw[if_pos q3]at hsk
       subst q3
       have c3:=c2 (hj rfl)
       generalize hcs:castIn s1 a=s3 at *
       try refine aa_ ?_
       refine ac_ ?_
       repeat(first | refine aa_ ?_ | simp only[go_sem,hgd])
       refine dcall [2] (c3) (by simp) evd (Picks.mk' (by simp) evd) ?_;refine evg ?_
       repeat(first | refine aa_ ?_ | simp only[go_sem,hw])
       refine⟨i+1,h1,by omega,?_⟩
       rw[hsk,hcl]
       refine GC.mk' [] [0,1,2] (by simp) rfl (by simp) (by simp) evd evd
     · have e3:(R2==0)=false:=by simp[q3]
       rw[if_neg q3]at hsk
       repeat(first | refine aa_ ?_ | simp only[go_sem,e3])
       refine ab_ ?_
       repeat(first | refine aa_ ?_ | simp only[go_sem,hw])
       refine⟨i+1,h1,by omega,?_⟩
       rw[hsk]
       refine GC.mk' [] [0,1,2] (by simp) rfl (by simp) (by simp) evd evd
 · obtain rfl:i=S2.early.length:=by omega
   have e1:decide (((S2.early.length:Nat):Int)<((S2.early.length:Nat):Int))=false:=decide_eq_false (by omega)
   generalize tickK S2 S2.early.length=s1 at *
   have ht:List.take s1.early.length (rows VAtt.c s1.early)=rows VAtt.c s1.early:=List.take_of_length_le (by simp)
   repeat(first | refine aa_ ?_ | simp only[go_sem,e1])
   refine ab_ ?_
   try refine aa_ ?_
   refine⟨_,(by first | rfl | exact evd),.inl ?_⟩
   (try simp only[go_sem,Nat.reduceAdd,Nat.reduceSub,Nat.reduceMul,Nat.reduceLT,Nat.reduceLeDiff,Nat.reduceEqDiff,reduceIte,Int.reduceToNat,Int.reduceLT,Int.reduceLE,Int.reduceEq,Int.reduceNeg,reduceCtorEq,Int.reduceBEq,Int.reduceBNe,ht])
   rfl
end Go.Proofs.YtipiipgpnkpejaaGreat
