/-
 My texts Lw, Lx, Ly, Lz, joined.
-/
import Derived.Test.YtnjdpnfglgcjcaaGreatV6
import Derived.Test.YtnjdpnfglgcjcaaGreatW3
set_option linter.unusedVariables false
set_option linter.unusedSimpArgs false
set_option maxRecDepth 8000
set_option maxHeartbeats 4000000
namespace Go.Proofs.YtnjdpnfglgcjcaaGreat
open Go Go.FH Go.RowKit
def WdG(w:Wd):Prop:=∀n∈w.1,0<=n/\n<18446744073709551616
def Vy:Rt:=(rt0.set 0 100).set 31 188
structure jx(i:Nat)(x:Blk):Prop where
 slot:U64 x.slot
 just:U64 x.just.ep
 fin:U64 x.fin.ep
 j:U64 x.pul.j.ep
 f:U64 x.pul.f.ep
 rt:i<=24->x.root≠Vy
theorem jx.up{i k:Nat}{b:Blk}(h:jx i b)(hk:i<=k):jx k b:=⟨h.slot,h.just,h.fin,h.j,h.f,fun h2=>h.rt (by omega)⟩
theorem jx.u{i:Nat}{b:Blk}(h:jx i b):WI b:=⟨h.slot,h.just,h.fin,h.j,h.f⟩
def NwR(i:Nat)(n:Int):Prop:=U64 n/\(i<=24->n<=1099511627776)
theorem NwR.up{i k:Nat}{n:Int}(h:NwR i n)(hk:i<=k):NwR k n:=⟨h.1,fun h2=>h.2 (by omega)⟩
structure abf(c:cU):Prop where
 s1:1<=c.spe
 s4:c.spe<=4
 b0:0<c.bals.length
 b1:c.bals.length<=6
 ln:c.lim.node<=13
 lo:c.lim.orph<=3
 la:c.lim.early<=3
 lt:c.lim.table<=4
 lr:c.lim.retry<=3
 tt:WdG c.ttd
 gn:c.gen≠Vy
structure bi(s:am)(i:Nat):Prop where
 cfg:abf s.cfg
 tree:dc s.nodes
 jf:0<=aj s.nodes s.j.rt
 ll:s.latest.length=s.cfg.bals.length
 nn:s.nodes.length<=13
 un:∀n∈s.nodes,jx i n.blk
 oo:s.orph.length<=3
 uo:∀b∈s.orph,jx i b
 aa:s.early.length<=3
 av:∀a∈s.early,a.vals.length<=10
 tt:s.tabs.length<=4
 tb:∀t∈s.tabs,t.bals.length<=6
 qq:s.eqv.length<=10*i
 uj:U64 s.j.ep
 uf:U64 s.f.ep
 nw:NwR i s.now
 ii:i<=30
theorem bi.r{s:am}{i:Nat}(h:bi s i):StR s:=by
 have h1:=h.cfg.s1;have h2:=h.cfg.b1;have h3:=h.nn;have h4:=h.qq;have h5:=h.ii;have h6:=h.ll;have h7:=h.tt;have h8:=h.oo;have h9:=h.aa;have h10:=h.cfg.ln;exact⟨h.tree,by omega,by omega,by omega,by omega,by omega,fun t ht=>by have:=h.tb t ht;omega,by omega,by omega,by omega,h6,h.jf⟩
theorem bi.up{s:am}{i k:Nat}(h:bi s i)(h1:i<=k)(h2:k<=30):bi s k:=by
 obtain⟨a,b,c,d,e,f,g,j,l,m,n,o,p,q,r,t,u⟩:=h;exact⟨a,b,c,d,e,fun x hx=>(f x hx).up h1,g,fun x hx=>(j x hx).up h1,l,m,n,o,by omega,q,r,t.up h1,h2⟩
theorem cH(n:Int):U64 (IntKind.u64.wrap n):=by rw[Gy];exact⟨by omega,by omega⟩
theorem cG{α:Type}{l:List α}{i:Nat}(d:α)(h:i<l.length):l.getD i d∈l:=by
 rw[List.getD_eq_getElem?_getD,List.getElem?_eq_getElem h];exact List.getElem_mem h
theorem bi.blk{s:am}{i:Nat}(h:bi s i){k:Nat}(hk:k<s.nodes.length):jx i (nod s.nodes k).blk:=h.un _ (cG _ hk)
theorem y7{t:List Nod}{n:Nod}(h:n∈t):∃k,k<t.length/\nod t k=n:=by
 obtain⟨k,hk,he⟩:=List.getElem_of_mem h;exact⟨k,hk,by unfold nod;rw[List.getD_eq_getElem?_getD,List.getElem?_eq_getElem hk];exact he⟩
theorem M0(s:am)(j f:Cp):(dl s j f).cfg=s.cfg:=by unfold dl;(repeat' split)<;>rfl
theorem TJ(s:am)(j f:Cp):(dl s j f).eqv=s.eqv:=by unfold dl;(repeat' split)<;>rfl
theorem J6(s:am)(j f:Cp):(dl s j f).early=s.early:=by unfold dl;(repeat' split)<;>rfl
theorem TL(s:am)(j f:Cp):(dl s j f).now=s.now:=by unfold dl;(repeat' split)<;>rfl
theorem U4(l:List Blk)(a:Int):∀b∈aL (nS l a) [] l.length,b∈l:=by
 refine fE (f:=nS l a) (a:=[]) (fun _ o=>∀t∈o,t∈l) (by simp) l.length (fun i o hi ho=>?_) _ (Nat.le_refl _);unfold nS;split
 ·intro t ht;rw[List.mem_append,List.mem_singleton]at ht;rcases ht with ht|rfl
  ·exact ho t ht
  ·exact cG _ hi
 ·exact ho
theorem oh(s:am)(j f:Cp):(dl s j f).orph.length<=s.orph.length/\∀b∈(dl s j f).orph,b∈s.orph:=by
 unfold dl;split
 ·exact⟨Nat.le_refl _,fun b hb=>hb⟩
 ·split
  ·exact⟨Nat.le_refl _,fun b hb=>hb⟩
  ·exact⟨ug _ _ _,U4 _ _⟩
theorem PJ(s:am)(j f:Cp):(dl s j f).tabs.length<=s.tabs.length/\∀b∈(dl s j f).tabs,b∈s.tabs:=by
 unfold dl;split
 ·exact⟨Nat.le_refl _,fun b hb=>hb⟩
 ·split
  ·exact⟨mM _ _,mN _ _⟩
  ·exact⟨mM _ _,mN _ _⟩
theorem J7{s:am}(h:dc s.nodes)(j f:Cp):(dl s j f).nodes.length<=s.nodes.length/\∀n∈(dl s j f).nodes,∃m,m<s.nodes.length/\n.blk=(nod s.nodes m).blk:=by
 have key:∀n∈s.nodes,∃m,m<s.nodes.length/\n.blk=(nod s.nodes m).blk:=fun n hn=>by
  obtain⟨k,hk,he⟩:=y7 hn;exact⟨k,hk,by rw[he]⟩
 unfold dl;split
 ·exact⟨Nat.le_refl _,key⟩
 ·split
  ·exact⟨Nat.le_refl _,key⟩
  ·refine⟨qR h _,fun n hn=>?_⟩;obtain⟨k,hk,he⟩:=y7 hn;obtain⟨m,hm,hb⟩:=RL h _ k hk;exact⟨m,hm,by rw[<-he];exact hb⟩
theorem nV{a b:Cp}(h1:U64 a.ep)(h2:U64 b.ep):U64 (dK a b).ep:=by unfold dK;split<;>assumption
theorem Y8{s:am}(j f:Cp)(h1:U64 s.j.ep)(h2:U64 s.f.ep)(h3:U64 j.ep)(h4:U64 f.ep):U64 (dl s j f).j.ep/\U64 (dl s j f).f.ep:=by
 unfold dl;split
 ·exact⟨h1,h2⟩
 ·split
  ·exact⟨nV h1 h3,nV h2 h4⟩
  ·exact⟨nV h1 h3,nV h2 h4⟩
theorem bi.upd{s:am}{i:Nat}(h:bi s i){j f:Cp}(hj:U64 j.ep)(hf:U64 f.ep):bi (dl s j f) i:=by
 have h1:=h.r.upd j f;have h2:=J7 h.tree j f;have h3:=oh s j f;have h4:=PJ s j f;have h5:=Y8 j f h.uj h.uf hj hf;refine⟨by rw[M0];exact h.cfg,h1.tree,h1.jf,h1.ll,Nat.le_trans h2.1 h.nn,fun n hn=>?_,Nat.le_trans h3.1 h.oo,fun b hb=>h.uo b (h3.2 b hb),by rw[J6];exact h.aa,by rw[J6];exact h.av,Nat.le_trans h4.1 h.tt,fun t ht=>h.tb t (h4.2 t ht),by rw[TJ];exact h.qq,h5.1,h5.2,by rw[TL];exact h.nw,h.ii⟩;obtain⟨m,hm,he⟩:=h2.2 n hn;rw[he];exact h.blk hm
theorem bi.withE{s:am}{i:Nat}(h:bi s i){l:List aW}(h1:l.length<=3)(h2:∀a∈l,a.vals.length<=10):bi (withE s l) i:=
 ⟨h.cfg,h.tree,h.jf,h.ll,h.nn,h.un,h.oo,h.uo,h1,h2,h.tt,h.tb,h.qq,h.uj,h.uf,h.nw,h.ii⟩
theorem bi.withL{s:am}{i:Nat}(h:bi s i){l:List Vot}(h1:l.length=s.latest.length):bi (withL s l) i:=
 ⟨h.cfg,h.tree,h.jf,h1.trans h.ll,h.nn,h.un,h.oo,h.uo,h.aa,h.av,h.tt,h.tb,h.qq,h.uj,h.uf,h.nw,h.ii⟩
theorem bi.withB{s:am}{i:Nat}(h:bi s i)(r:Rt):bi (withB s r) i:=
 ⟨h.cfg,h.tree,h.jf,h.ll,h.nn,h.un,h.oo,h.uo,h.aa,h.av,h.tt,h.tb,h.qq,h.uj,h.uf,h.nw,h.ii⟩
theorem bi.withO{s:am}{i:Nat}(h:bi s i){l:List Blk}(h1:l.length<=3)(h2:∀b∈l,jx i b):bi (withO s l) i:=
 ⟨h.cfg,h.tree,h.jf,h.ll,h.nn,h.un,h1,h2,h.aa,h.av,h.tt,h.tb,h.qq,h.uj,h.uf,h.nw,h.ii⟩
theorem bi.withT{s:am}{i:Nat}(h:bi s i){l:List aH}(h1:l.length<=4)(h2:∀t∈l,t.bals.length<=6):bi (withT s l) i:=
 ⟨h.cfg,h.tree,h.jf,h.ll,h.nn,h.un,h.oo,h.uo,h.aa,h.av,h1,h2,h.qq,h.uj,h.uf,h.nw,h.ii⟩
theorem bi.castIn{s:am}{i:Nat}(h:bi s i)(a:aW):bi (castIn s a) i:=h.withL (nM _ _ _ _ _)
theorem bi.tickA{s:am}{i:Nat}(h:bi s i)(h3:¬1099511627776<=s.now):bi (tickA s) i:=
 ⟨h.cfg,h.tree,h.jf,h.ll,h.nn,h.un,h.oo,h.uo,h.aa,h.av,h.tt,h.tb,h.qq,h.uj,h.uf,⟨cH _,fun _=>by have:=h.nw.1.lo;show IntKind.u64.wrap (s.now+1)<=_;rw[aU (by omega) (by omega)];omega⟩,h.ii⟩
theorem L6{i:Nat}{s:am}(h:∀k,k<s.nodes.length->jx i (nod s.nodes k).blk):U64 (jp s).j.ep/\U64 (jp s).f.ep:=by
 refine fE (f:=FG s.nodes) (a:=(HP,false)) (fun _ p=>U64 p.1.j.ep/\U64 p.1.f.ep) ⟨⟨by decide,by decide⟩,⟨by decide,by decide⟩⟩ s.nodes.length (fun k p hk hp=>?_) _ (Nat.le_refl _);unfold FG;split
 ·exact hp
 ·refine⟨?_,?_⟩
  ·dsimp only;split
   ·exact(h k hk).j
   ·exact hp.1
  ·dsimp only;split
   ·exact(h k hk).f
   ·exact hp.2
theorem bi.tickB{s:am}{i:Nat}(h:bi s i):bi (tickB s) i:=by
 unfold Go.Proofs.YtnjdpnfglgcjcaaGreat.tickB;split
 ·have:=L6 (s:=s) fun k hk=>h.blk hk
  exact h.upd this.1 this.2
 ·exact h
theorem xV{l:List aW}{k:Nat}(h:k<l.length):fk l k∈l:=cG _ h
theorem bi.tickR{l:List aW}(hl:∀a∈l,a.vals.length<=10)(h3:l.length<=3){s:am}{i:Nat}(h:bi s i):∀k,k<=l.length->bi (aL (tickR l) (Go.FH.withE s []) k) i/\(aL (tickR l) (Go.FH.withE s []) k).early.length<=k
 |0,_=>⟨h.withE (by simp) (by simp),Nat.le_refl _⟩
 | k + 1, hk => by
   obtain⟨h1,h2⟩:=bi.tickR hl h3 h k (by omega);rw[bH];generalize aL (Go.Proofs.YtnjdpnfglgcjcaaGreat.tickR l) (Go.FH.withE s []) k=t at *;unfold Go.Proofs.YtnjdpnfglgcjcaaGreat.tickR;split
   ·refine⟨h1.withE (by simp;omega) (fun a ha=>?_),by show (t.early++[fk l k]).length<=k+1;simp;omega⟩;rw[List.mem_append,List.mem_singleton]at ha;rcases ha with ha|rfl
    ·exact h1.av a ha
    ·exact hl _ (xV (by omega))
   ·split
    ·exact⟨h1.castIn _,Nat.le_succ_of_le h2⟩
    ·exact⟨h1,Nat.le_succ_of_le h2⟩
theorem bi.tickC{s:am}{i:Nat}(h:bi s i):bi (tickC s s.early) i:=(bi.tickR h.av h.aa h _ (Nat.le_refl _)).1
theorem bi.tick{s:am}{i:Nat}(h:bi s i)(h2:(dH s).2=0):bi (dH s).1 i:=by
 unfold dH at *;split at h2
 ·simp at h2
 ·rename_i h3;rw[if_neg h3];exact(h.tickA h3).tickB.tickC
structure ab8(s:am)(b:Blk):Prop where
 root:b.root≠rt0
 kn:iW s b.root=false
 par:0<=aj s.nodes b.parent
 slot:(nod s.nodes (aj s.nodes b.parent).toNat).blk.slot<b.slot
 lim:(s.nodes.length:Int)<s.cfg.lim.node
theorem IH {s : am} {b : Blk} (h : bG s b = 0) : ab8 s b := by
 unfold bG at h;split at h
 ·simp at h
 ·split at h
  ·simp at h
  ·split at h
   ·simp at h
   ·split at h
    ·simp at h
    ·split at h
     ·simp at h
     ·split at h
      ·simp at h
      ·split at h
       ·simp at h
       ·split at h
        ·simp at h
        ·split at h
         ·simp at h
         ·split at h
          ·simp at h
          ·exact⟨by assumption,by simpa using ‹¬iW s b.root=true›,by omega,by omega,by omega⟩
theorem Pw(b:Blk):0<=ck b/\ck b<=2:=by unfold ck;split<;>exact⟨by decide,by decide⟩
theorem SP{s:am}{b:Blk}(h:ab8 s b)(hn:s.cfg.lim.node<=4096):(eP s.nodes b (ck b)).2=0:=by
 have h1:=h.kn;unfold iW at h1;have h2:decide (0<=aj s.nodes b.root)=false:=by simp at h1;simpa using h1.2
 have h3:=of_decide_eq_false h2;have h4:=h.par;have h5:=h.slot;have h6:=h.lim;unfold eP;rw[if_neg (by simp[Pw b]),if_neg h3,if_neg (by omega),if_neg (by omega),if_neg (by omega)]
theorem Ah{t:List Nod}{n:Nod}{r:Rt}(h:0<=aj t r):0<=aj (t++[n]) r:=by
 obtain⟨h1,h2⟩:=dU h;exact jL (k:=(aj t r).toNat) (by simp;omega) (by rw[eK,if_pos h1];exact h2)
theorem bi.insN{s:am}{i:Nat}(h:bi s i){b:Blk}(hc:bG s b=0)(hb:jx i b):bi (dh s (eP s.nodes b (ck b)).1) i:=by
 have h1:=IH hc;have h2:=SP h1 (by have:=h.cfg.ln;omega);have h3:=(LW h2).1;have h4:=h.tree.ins h2;have h5:=h1.lim;have h6:=h.cfg.ln;rw[h3]at h4 ⊢;refine⟨h.cfg,h4,Ah h.jf,h.ll,by show (s.nodes++[_]).length<=13;simp;omega,fun n hn=>?_,h.oo,h.uo,h.aa,h.av,h.tt,h.tb,h.qq,h.uj,h.uf,h.nw,h.ii⟩;rcases List.mem_append.1 hn with hn|hn
 ·exact h.un n hn
 ·rw[List.mem_singleton]at hn;rw[hn];exact hb
theorem bi.ins{s:am}{i:Nat}(h:bi s i){b:Blk}(hc:bG s b=0)(hb:jx i b):bi (gi s b) i:=by
 have h1:=(h.insN hc hb).upd hb.just hb.fin;unfold gi;split
 ·exact h1.upd hb.j hb.f
 ·exact h1
theorem Wm(l:List Blk)(i:Nat):∀b∈takeO l i,b∈l:=fun b hb=>by
 unfold takeO at hb;rcases List.mem_append.1 hb with hb|hb
 ·exact List.mem_of_mem_take hb
 ·exact List.mem_of_mem_drop hb
theorem YZ(l:List Blk)(i:Nat):(takeO l i).length<=l.length:=by
 unfold takeO;rw[List.length_append,List.length_take,List.length_drop];omega
theorem bi.takeO{s:am}{i:Nat}(h:bi s i)(k:Nat):bi (Go.FH.withO s (takeO s.orph k)) i:=h.withO (Nat.le_trans (YZ _ _) h.oo) fun b hb=>h.uo b (Wm _ _ b hb)
theorem bi.waitR{p:am×List Rt}{i:Nat}(h:bi p.1 i)(h0:0<=bR p.1):bi (waitR p).1 i:=by
 have h1:=qr p.1;have h2:=h.takeO (bR p.1).toNat
 unfold Go.Proofs.YtnjdpnfglgcjcaaGreat.waitR;split
 ·rename_i hc;exact h2.ins hc (h.uo _ (cG _ (by omega)))
 ·exact h2
theorem bi.waitG{i:Nat}:∀ (f:Nat) {p:am×List Rt},bi p.1 i->bi (waitG f p).1 i
 |0,_,h=>h
 | f + 1, p, h => by
   unfold Go.Proofs.YtnjdpnfglgcjcaaGreat.waitG;split
   ·exact h
   ·exact bi.waitG f (h.waitR (by omega))
theorem WD(p:am×List Rt):(waitR p).2.length<=p.2.length+1:=by
 unfold waitR;split<;>simp
theorem Ke:∀ (f:Nat) (p:am×List Rt),(waitG f p).2.length<=p.2.length+f
 |0,p=>Nat.le_refl _
 | f + 1, p => by
   unfold waitG;split
   ·omega
   ·have h1:=Ke f (waitR p);have h2:=WD p;omega
theorem acn{i:Nat}{b:Blk}(h:jx i b):jx i (noT b):=⟨h.slot,h.just,h.fin,h.j,h.f,h.rt⟩
theorem bi.blockI{s:am}{i:Nat}(h:bi s i){b:Blk}(hc:bG s b=0)(hb:jx i b):bi (blockI s b) i:=by
 unfold Go.Proofs.YtnjdpnfglgcjcaaGreat.blockI;split
 ·exact(h.ins hc hb).withB _
 ·exact h.ins hc hb
theorem bi.block{s:am}{i:Nat}(h:bi s i){b:Blk}(hb:jx i b)(h2:(cq s b).2.2=0):bi (cq s b).1 i/\(cq s b).2.1.length<=5:=by
 unfold cq at *;split at h2
 ·rename_i h3
  rw[if_pos h3];split at h2
  ·simp at h2
  ·rename_i h4;rw[if_neg h4];have:=h.cfg.lo;refine⟨h.withO (by simp;omega) (fun x hx=>?_),by simp⟩;rw[List.mem_append,List.mem_singleton]at hx;rcases hx with hx|rfl
   ·exact h.uo x hx
   ·exact acn hb
 ·rename_i h3
  rw[if_neg h3];split at h2
  ·rename_i h4;exact absurd h2 h4
  ·rename_i h4;rw[if_neg h4];have h5:=h.blockI (by simpa using h4) hb;have h6:=h5.oo;refine⟨bi.waitG _ h5,?_⟩;have:=Ke ((Go.Proofs.YtnjdpnfglgcjcaaGreat.blockI s b).orph.length+1) (Go.Proofs.YtnjdpnfglgcjcaaGreat.blockI s b,[b.root]);dsimp only at this ⊢;simp at this;omega
theorem bi.att{s:am}{i:Nat}(h:bi s i){a:aW}(ha:a.vals.length<=10)(h2:(i9 s a).2=0):bi (i9 s a).1 i:=by
 unfold i9 at *;split at h2
 ·rename_i h3;exact absurd h2 h3
 ·rename_i h3
  rw[if_neg h3];split at h2
  ·rename_i h4;rw[if_pos h4];exact h.castIn a
  ·rename_i h4
   rw[if_neg h4];split at h2
   ·simp at h2
   ·rename_i h5;rw[if_neg h5];have:=h.cfg.la;refine h.withE (by simp;omega) (fun x hx=>?_);rw[List.mem_append,List.mem_singleton]at hx;rcases hx with hx|rfl
    ·exact h.av x hx
    ·exact ha
theorem bi.slash{s:am}{i:Nat}(h:bi s i){x:eR}(hx:x.fst.vals.length<=10)(hi:i<30)(h2:(di s x).2=0):bi (di s x).1 (i+1):=by
 unfold di at *;split at h2
 ·rename_i h3;exact absurd h2 h3
 ·rename_i h3
  rw[if_neg h3];split at h2
  ·simp at h2
  ·rename_i h4;rw[if_neg h4];have h5:=pY x.fst.vals x.snd.vals x.fst.vals.length;have h6:=Ds s.eqv (ee x.fst.vals x.snd.vals x.fst.vals.length) (ee x.fst.vals x.snd.vals x.fst.vals.length).length;have h7:=h.qq;exact⟨h.cfg,h.tree,h.jf,h.ll,h.nn,fun x hx=>(h.un x hx).up (Nat.le_succ i),h.oo,fun x hx=>(h.uo x hx).up (Nat.le_succ i),h.aa,h.av,h.tt,h.tb,by show (mV s.eqv _).length<=_;unfold mV;omega,h.uj,h.uf,h.nw.up (Nat.le_succ i),by omega⟩
theorem DG(l:List aH)(t:aH):(mg l t).length=l.length+1:=by
 unfold mg;simp only[List.length_append,List.length_take,List.length_drop,List.length_cons,List.length_nil];omega
theorem wt(l:List aH)(t:aH):∀x∈mg l t,x∈l\/x=t:=fun x hx=>by
 unfold mg at hx;simp only[List.mem_append,List.mem_singleton]at hx;rcases hx with (hx|hx)|hx
 ·exact .inl (List.mem_of_mem_take hx)
 ·exact .inr hx
 ·exact .inl (List.mem_of_mem_drop hx)
theorem bi.reg{s:am}{i:Nat}(h:bi s i){t:aH}(h2:(iu s t).2=0):bi (iu s t).1 i:=by
 unfold iu at *;split at h2
 ·rename_i h3;exact absurd h2 h3
 ·rename_i h3
  rw[if_neg h3];split at h2
  ·simp at h2
  ·rename_i h4
   rw[if_neg h4];split at h2
   ·rename_i h5;exact absurd h2 h5
   ·rename_i h5
    rw[if_neg h5];have hv:fJ t s.cfg.bals.length=0:=by simpa using h3
    have hb:t.bals.length<=6:=by
     have:=h.cfg.b1;unfold fJ at hv;split at hv
     ·simp at hv
     ·omega
    have hr:(gu s.tabs t s.cfg.bals.length s.cfg.lim.table).1.length<=4/\∀x∈(gu s.tabs t s.cfg.bals.length s.cfg.lim.table).1,x∈s.tabs\/x=t:=by
     have:=h.cfg.lt;unfold gu;rw[if_neg (by simpa using hv)];split
     ·exact⟨h.tt,fun x hx=>.inl hx⟩
     ·split
      ·exact⟨h.tt,fun x hx=>.inl hx⟩
      ·exact⟨by rw[DG];omega,wt _ _⟩
    refine h.withT hr.1 fun x hx=>?_
    rcases hr.2 x hx with hx|rfl
    ·exact h.tb x hx
    ·exact hb
theorem zh{t:List Nod}{i:Int}(h:(dV t i).2=0):(dV t i).1.length=t.length/\∀k,(nod (dV t i).1 k).up=(nod t k).up/\(nod (dV t i).1 k).blk=(nod t k).blk:=by
 unfold dV at *;split at h
 ·rename_i h1;rw[if_pos h1];cases h2:zn t (bW t i) 1 2 with
  |none=>rw[h2]at h;simp at h
  |some u=>exact⟨l8 h2,fun k=>zm h2 k⟩
 ·simp at h
theorem KZ{t:List Nod}{i:Int}(h:(kh t i).2=0):(kh t i).1.length=t.length/\∀k,(nod (kh t i).1 k).up=(nod t k).up/\(nod (kh t i).1 k).blk=(nod t k).blk:=by
 unfold kh at *;split at h
 ·rename_i h1;rw[if_pos h1];cases h2:zn t (ij t i) 2 1 with
  |none=>rw[h2]at h;simp at h
  |some u=>exact⟨l8 h2,fun k=>zm h2 k⟩
 ·simp at h
theorem Fc{t:List Nod}{i:Int}{v:Vdt}{keep:List Int}(h:(iU t i v keep).2=0):(iU t i v keep).1.length=t.length/\∀k,(nod (iU t i v keep).1 k).up=(nod t k).up/\(nod (iU t i v keep).1 k).blk=(nod t k).blk:=by
 unfold iU at *;split at h
 ·simp at h
 rename_i h1;rw[if_neg h1];split at h
 ·rename_i h2;rw[if_pos h2];exact zh h
 rename_i h2;rw[if_neg h2];split at h
 ·rename_i h3;rw[if_pos h3];exact⟨rfl,fun k=>⟨rfl,rfl⟩⟩
 rename_i h3;rw[if_neg h3];split at h
 ·simp at h
 rename_i h4;rw[if_neg h4];split at h
 ·simp at h
 rename_i h5;rw[if_neg h5];split at h
 ·rename_i h6
  rw[if_pos h6];split at h
  ·rename_i h7;exact absurd h h7
  ·rename_i h7;rw[if_neg h7];have a:=zh (show (dV t (gT t i v.latest).1).2=0 by simpa using h7);have b:=KZ h;exact⟨b.1.trans a.1,fun k=>⟨(b.2 k).1.trans (a.2 k).1,(b.2 k).2.trans (a.2 k).2⟩⟩
 ·rename_i h6;rw[if_neg h6];exact KZ h
theorem IX{t u:List Nod}(hl:u.length=t.length)(hb:∀k,(nod u k).blk=(nod t k).blk)(r:Rt):aj u r=aj t r:=by
 unfold aj;rw[hl];congr 2;funext k
 rw[hb k]
theorem bi.judge{s:am}{i:Nat}(h:bi s i){t:List Nod}(hl:t.length=s.nodes.length)(hu:∀k,(nod t k).up=(nod s.nodes k).up/\(nod t k).blk=(nod s.nodes k).blk):bi (dh s t) i:=by
 refine⟨h.cfg,⟨h.tree.ok.of_up hl fun k=>(hu k).1,by have:=h.tree.pos;show 0<t.length;omega,by show (nod t 0).up<0;rw[(hu 0).1];exact h.tree.root⟩,?_,h.ll,by have:=h.nn;show t.length<=13;omega,fun n hn=>?_,h.oo,h.uo,h.aa,h.av,h.tt,h.tb,h.qq,h.uj,h.uf,h.nw,h.ii⟩
 ·show 0<=aj t s.j.rt
  rw[IX hl fun k=>(hu k).2];exact h.jf
 ·obtain⟨k,hk,he⟩:=y7 hn;rw[<-he];show jx i (nod t k).blk;rw[(hu k).2]
  exact h.blk (show k<s.nodes.length by have:k<t.length:=hk;omega)
theorem M3(l:List Int)(n:Int):dr l n≠21:=by
 unfold dr;split
 ·decide
 ·generalize (0:Nat)=i
  have key:∀k i,l.length-i=k->o7 l n i≠21:=by
   intro k;induction k with
   |zero=>intro i hi;rw[uA (by omega)];decide
   | succ k ih =>
     intro i hi;rw[oq (by omega)];split
     ·decide
     ·split
      ·decide
      ·exact ih (i+1) (by omega)
  exact key _ i rfl
theorem TO(t:aH)(n:Int):fJ t n≠21:=by unfold fJ;(repeat' split)<;>decide
theorem DA(s:am):(dH s).2≠21:=by unfold dH;split<;>simp
theorem Ut(s:am)(b:Blk):bG s b≠21:=by
 unfold bG;repeat'(split;· decide)
 decide
theorem xY(s:am)(b:Blk):(cq s b).2.2≠21:=by
 unfold cq;split
 ·split<;>simp
 ·split
  ·exact Ut s b
  ·simp
theorem Uq(s:am)(a:aW):(dB s a).2≠21:=by
 unfold dB;split
 ·exact M3 _ _
 ·split
  ·simp
  ·split
   ·simp
   ·split
    ·simp
    ·split<;>simp
theorem KE(s:am)(a:aW):(i9 s a).2≠21:=by
 unfold i9;split
 ·exact Uq s a
 ·split
  ·simp
  ·split<;>simp
theorem zp(s:am)(x:eR):(di s x).2≠21:=by
 unfold di;split
 ·unfold evE
  dsimp only;split
  ·exact M3 _ _
  ·split
   ·exact M3 _ _
   ·split
    ·decide
    ·split<;>decide
 ·split<;>simp
theorem Mi(s:am)(t:aH):(iu s t).2≠21:=by
 unfold iu;split
 ·exact TO _ _
 ·split
  ·simp
  ·split
   ·unfold gu
    dsimp only;split
    ·exact TO _ _
    ·split
     ·simp
     ·split<;>simp
   ·simp
structure fM(s:aX)(i:Nat):Prop where
 sto:bi s.sto i
 rq:s.reqs.length<=10*i
 ut:∀r∈s.reqs,U64 r.tag
 yl:s.rets.length<=3
 tg:U64 s.tag
theorem fM.up{s:aX}{i k:Nat}(h:fM s i)(h1:i<=k)(h2:k<=30):fM s k:=⟨h.sto.up h1 h2,by have:=h.rq;omega,h.ut,h.yl,h.tg⟩
theorem O5{l:List Req}{k:Nat}(h:k<l.length):fI l k∈l:=cG _ h
theorem tw(t:List Nod)(l:List Req):(nU t l).length<=l.length/\∀r∈nU t l,r∈l:=by
 refine⟨by have:=mb (f:=iV t l) (a:=[]) (fun i o=>by unfold iV;split<;>simp) l.length;unfold nU;simpa using this,?_⟩;refine fE (f:=iV t l) (a:=[]) (fun _ o=>∀r∈o,r∈l) (by simp) l.length (fun i o hi ho=>?_) _ (Nat.le_refl _);unfold iV;split
 ·intro r hr;rw[List.mem_append,List.mem_singleton]at hr;rcases hr with hr|rfl
  ·exact ho r hr
  ·exact O5 hi
 ·exact ho
structure me(s:aX)(i n:Nat):Prop where
 sto:bi s.sto i
 rq:s.reqs.length<=n
 ut:∀r∈s.reqs,U64 r.tag
 yl:s.rets.length<=3
 tg:U64 s.tag
theorem me.a{s:aX}{i n:Nat}(h:me s i n)(hn:n<=10*i):fM s i:=⟨h.sto,Nat.le_trans h.rq hn,h.ut,h.yl,h.tg⟩
theorem fM.q{s:aX}{i:Nat}(h:fM s i):me s i (10*i):=⟨h.sto,h.rq,h.ut,h.yl,h.tg⟩
theorem me.drop{s:aX}{i n:Nat}(h:me s i n):me (pZ s) i n:=by
 have h1:=tw s.sto.nodes s.reqs;have h2:=tw s.sto.nodes s.rets;exact⟨h.sto,Nat.le_trans h1.1 h.rq,fun r hr=>h.ut r (h1.2 r hr),Nat.le_trans h2.1 h.yl,h.tg⟩
theorem me.open1{s:aX}{i n:Nat}(h:me s i n)(r:Rt)(k:Int):me (vY s r k) i (n+1):=by
 refine⟨h.sto,by show (s.reqs++[_]).length<=_;have:=h.rq;simp;omega,fun x hx=>?_,h.yl,cH _⟩;rcases List.mem_append.1 hx with hx|hx
 ·exact h.ut x hx
 ·rw[List.mem_singleton]at hx;rw[hx];exact h.tg
theorem me.le{s:aX}{i n m:Nat}(h:me s i n)(hn:n<=m):me s i m:=⟨h.sto,Nat.le_trans h.rq hn,h.ut,h.yl,h.tg⟩
theorem me.opens{s:aX}{i n:Nat}(h:me s i n)(l:List Rt):me (xw s l) i (n+l.length):=by
 refine fE (f:=jo l) (a:=s) (fun k t=>me t i (n+k)) h l.length (fun k t hk ht=>?_) _ (Nat.le_refl _);unfold jo;split
 ·exact ht.open1 _ _
 ·exact ht.le (by omega)
theorem me.rets{s:aX}{i n:Nat}(h:me s i n){l:List Req}(hl:l.length<=3):me (gU s l) i n:=⟨h.sto,h.rq,h.ut,hl,h.tg⟩
theorem me.due{s:aX}{i n:Nat}(h:me s i n):me (QF s) i (n+3):=by
 have key:=fE (f:=qG s.rets) (a:=gU s []) (fun k t=>me t i (n+k)/\t.rets.length<=k) ⟨h.rets (by simp),Nat.le_refl _⟩ s.rets.length (fun k t hk ht=>by
  have:=h.yl;unfold qG;split
  ·exact⟨(ht.1.rets (by have:=ht.2;simp;omega)).le (by omega),by show (t.rets++[_]).length<=k+1;have:=ht.2;simp;omega⟩
  ·split
   ·exact⟨ht.1.open1 _ _,Nat.le_succ_of_le ht.2⟩
   ·exact⟨ht.1.le (by omega),Nat.le_succ_of_le ht.2⟩) _ (Nat.le_refl _)
 exact key.1.le (by have:=h.yl;omega)
theorem JT:∀ (k:Nat) (l:List Req),(wg l k).length=l.length
 |0,l=>rfl
 | k + 1, l => by
   unfold wg;split
   ·rw[JT k];simp
   ·rfl
theorem fM.later{s:aX}{i:Nat}(h:fM s i)(r:Req):fM (pq s r) i:=by
 unfold pq;split
 ·exact h
 ·split
  ·exact⟨h.sto,h.rq,h.ut,h.yl,h.tg⟩
  ·rename_i h2;have:=h.sto.cfg.lr;exact⟨h.sto,h.rq,h.ut,by show (wg _ _).length<=3;rw[JT];simp;omega,h.tg⟩
theorem TG(l:List Req)(i:Nat):(zx l i).length<=l.length/\∀r∈zx l i,r∈l:=by
 unfold zx;refine⟨by rw[List.length_append,List.length_take,List.length_drop];omega,fun r hr=>?_⟩;rcases List.mem_append.1 hr with hr|hr
 ·exact List.mem_of_mem_take hr
 ·exact List.mem_of_mem_drop hr
theorem fM.mat{s:aX}{i:Nat}(h:fM s i){v:Vdt}(h2:(df s v).2.2=0):fM (df s v).2.1 i:=by
 unfold df at *;split at h2
 ·rename_i k hk;have h1:=TG s.reqs k;exact⟨h.sto,Nat.le_trans h1.1 h.rq,fun r hr=>h.ut r (h1.2 r hr),h.yl,h.tg⟩
 ·simp at h2
theorem bi.boostV{s:am}{i:Nat}(h:bi s i):bi (boostV s) i:=by
 unfold Go.Proofs.YtnjdpnfglgcjcaaGreat.boostV;split
 ·exact h.withB _
 ·exact h
theorem fM.verd{s:aX}{i:Nat}(h:fM s i){v:Vdt}(h2:(ot s v).2=0\/(ot s v).2=21):fM (ot s v).1 i:=by
 unfold ot at *;split at h2
 ·rename_i h3;rw[if_pos h3];exact h
 ·rename_i h3
  rw[if_neg h3];have hm:=h.mat (v:=v) (by simpa using h3);split at h2
  ·rename_i h4;rw[if_pos h4];exact hm.later _
  ·rename_i h4
   rw[if_neg h4];split at h2
   ·rename_i h5;rw[if_pos h5];exact⟨h.sto,h.rq,h.ut,h.yl,h.tg⟩
   ·rename_i h5;rw[if_neg h5];unfold judgeV at *;have h6:=Fc (show (iU (df s v).2.1.sto.nodes _ v _).2=0 by simpa using h5);exact⟨(hm.sto.judge h6.1 h6.2).boostV,hm.rq,hm.ut,hm.yl,hm.tg⟩
structure OpR(x:VOp):Prop where
 blk:jx 0 x.blk
 att:x.att.vals.length<=10
 fst:x.slg.fst.vals.length<=10
 snd:x.slg.snd.vals.length<=10
 tab:x.tab.bals.length<=10
theorem fM.perf{s:aX}{i:Nat}(h:fM s i)(hi:i<30){x:VOp}(hx:OpR x)(h2:(fS s x).2=0\/(fS s x).2=21):fM (fS s x).1 (i+1):=by
 have hu:=h.up (Nat.le_succ i) (by omega);unfold fS at *;split at h2
 ·rename_i h3
  rw[if_pos h3];split at h2
  ·rename_i h4;rw[if_pos h4];have ht:=h.sto.tick h4;have hq:me (fU s (dH s.sto).1) i (10*i):=⟨ht,h.rq,h.ut,h.yl,h.tg⟩;have hd:=hq.drop.due;exact⟨hd.sto.up (Nat.le_succ i) (by omega),by have:=hd.rq;dsimp only;omega,hd.ut,hd.yl,hd.tg⟩
  ·rename_i h4;exact absurd h2 (by intro h5;rcases h5 with h5|h5;exact h4 h5;exact DA _ h5)
 rename_i h3;rw[if_neg h3];clear h3;split at h2
 ·rename_i h3
  rw[if_pos h3];split at h2
  ·rename_i h4;rw[if_pos h4];have ht:=h.sto.block (hx.blk.up (Nat.zero_le i)) h4;have hq:me (fU s (cq s.sto x.blk).1) i (10*i):=⟨ht.1,h.rq,h.ut,h.yl,h.tg⟩;have hd:=hq.drop.opens (cq s.sto x.blk).2.1;have:=ht.2;exact⟨hd.sto.up (Nat.le_succ i) (by omega),by have:=hd.rq;dsimp only;omega,hd.ut,hd.yl,hd.tg⟩
  ·rename_i h4;exact absurd h2 (by intro h5;rcases h5 with h5|h5;exact h4 h5;exact xY _ _ h5)
 rename_i h3;rw[if_neg h3];clear h3;split at h2
 ·rename_i h3;rw[if_pos h3];exact⟨(h.sto.att hx.att (h2.resolve_right (KE _ _))).up (Nat.le_succ i) (by omega),hu.rq,hu.ut,hu.yl,hu.tg⟩
 rename_i h3;rw[if_neg h3];clear h3;split at h2
 ·rename_i h3;rw[if_pos h3];exact⟨h.sto.slash hx.fst hi (h2.resolve_right (zp _ _)),hu.rq,hu.ut,hu.yl,hu.tg⟩
 rename_i h3;rw[if_neg h3];clear h3;split at h2
 ·rename_i h3;rw[if_pos h3];exact⟨(h.sto.reg (h2.resolve_right (Mi _ _))).up (Nat.le_succ i) (by omega),hu.rq,hu.ut,hu.yl,hu.tg⟩
 rename_i h3;rw[if_neg h3];clear h3;split at h2
 ·rename_i h3;rw[if_pos h3];exact(h.verd h2).up (Nat.le_succ i) (by omega)
 rename_i h3;rw[if_neg h3];exact hu
theorem fM.emit{s:aX}{i:Nat}(h:fM s i):fM (jK s).1 i:=by
 unfold jK;split
 ·exact h
 ·exact⟨h.sto,h.rq,h.ut,h.yl,h.tg⟩
theorem fM.step{s:aX}{i:Nat}(h:fM s i)(hi:i<30){x:VOp}(hx:OpR x):fM (kR s x).1 (i+1):=by
 have hu:=h.up (Nat.le_succ i) (by omega);unfold kR;split
 ·exact hu
 ·split
  ·exact hu
  ·split
   ·rename_i h3;exact h.perf hi hx (.inr h3)
   ·split
    ·exact hu
    ·rename_i h3 h4;exact(h.perf hi hx (.inl (by simpa using h4))).emit
theorem Sm.val{α:Type}{v:α}{F:α->Prop}(h:Sm (fun r=>r=v) F):F v:=by
 obtain⟨r,rfl,h⟩:=h;exact h
theorem J9(n:Nat):List.replicate n (bM fg)=rows bM (List.replicate n fg):=Yu bM n fg
theorem YK{fr:Fr}{σ:St}{rs:List gO}{l:List AV}{n:Int}{S:am×Int}(hl:dQ fr σ rs=some l)(hv:fz σ (List.range σ.length) (gm l)=.tup [.agg (aw gY),.int .i64 n])(hs:(d9,n)=S):
 Sm (fun r:am×Int=>r=S) fun r=>PQ rs (.tup [.agg (aw r.1.a),.int .i64 r.2]) .ret fr σ:=
 ⟨(d9,n),hs,l,hl,.inr ⟨_,hv,(by simp[PuL,Pu,fG,gY,aw,eo,jW,dS,jY,fF,qD,cD,cp0]),Wk.tup ⟨DC,Wk.refl _,trivial⟩⟩⟩
theorem ME(x:Sto)(p:Pul):spl (aw x) 47 (fd p)=aw { x with j:=p.j,f:=p.f }:=zu x p.j p.f
theorem Zc(x:Sto)(l:List (List AV)):Wk (.agg (aw { x with eqv:=.sl 0 true [],early:=.sl 0 true [],orph:=.sl 0 true [],tabs:=.sl 34 true l })) (.agg (aw { x with eqv:=.sl 1 false [],early:=.sl 67 false [],orph:=.sl 238 false [],tabs:=.sl 34 false l })):=by
 refine Wk.agg ?_;unfold aw;dsimp only;exact(WkC.refl _).app (.same _ (.cons (Wk.empty _ _ _) (fun h=>h) ((WkC.refl _).app ((WkC.refl _).app (.cons (Wk.empty _ _ _) (fun h=>h) (.cons (Wk.empty _ _ _) (fun h=>h) (.same _ (.same _ ((WkC.refl _).app (.one (Wk.open_ _ _ _) fun h=>h))))))))))
theorem Tm(s:am):PuL (aw { s.a with eqv:=.sl 0 true [],early:=.sl 0 true [],orph:=.sl 0 true [],tabs:=.sl 34 true (rows aH.c s.tabs) }):=by
 have h:=(rU _).1 s.pul;refine(rU _).2 ?_;simp only[Sto.Pure,Pu,fG,and_true,true_and]at *;simp[h,jZ]
theorem OI(c:cU)(hb:c.bals.length<=1000000):PC Tryz.prog 108 [.agg (cD c.a)] (.tup [.agg (aw (y9 c).1.a),.int .i64 (y9 c).2]):=by
 refine Sm.val (F:=fun r:am×Int=>PC Tryz.prog 108 [.agg (cD c.a)] (.tup [.agg (aw r.1.a),.int .i64 r.2])) ?_;refine lu 9 NY (by simp) puA (fun r _=>puA) ?_;unfold BC;refine bd ?_;have c1:=uB ⟨⟨0,c.gen⟩,c.bals⟩ c.bals.length hb;have c2:=Ve (HH c.gen) 1;have c3:=D6 ⟨⟨0,c.gen⟩,c.bals⟩ hb;generalize hV:fJ ⟨⟨0,c.gen⟩,c.bals⟩ c.bals.length=V at *;have lt:∀ (a b:Int),decide (a > b)=decide (b<a):=fun _ _=>rfl
 iterate 5 (repeat'(first|refine cQ ?_|(refine bB (fun h=>?_) (fun h=>?_)<;>try(exact absurd h (by decide)))|refine eA (fun h=>?_) (fun h=>?_));all_goals try refine dg (PU _ _ _) ?_)
 repeat'(first|refine cQ ?_|(refine bB (fun h=>?_) (fun h=>?_)<;>try(exact absurd h (by decide)))|refine eA (fun h=>?_) (fun h=>?_))
 all_goals try(refine YK (by first|rfl|exact evd) (by first|rfl|exact evd) ?_)
 rotate_left 2
 ·refine dg c1 ?_
  repeat'(first|refine cQ ?_|(refine bB (fun h=>?_) (fun h=>?_)<;>try(exact absurd h (by decide)))|refine eA (fun h=>?_) (fun h=>?_))
  ·refine YK (by first|rfl|exact evd) (by first|rfl|exact evd) ?_;(try simp only[Bool.not_false,Bool.not_true,decide_eq_true_eq,decide_eq_false_iff_not,Bool.not_eq_true',Bool.not_eq_false',beq_iff_eq,bne_iff_ne,beq_eq_false_iff_ne,bne_eq_false_iff_eq,ne_eq,Bool.not_eq_true,Bool.not_eq_false,Bool.or_eq_true,Bool.and_eq_true,Bool.or_eq_false_iff]at *)
   (simp only[y9,iH, *,reduceIte,Bool.true_eq_false,Bool.false_eq_true,not_true_eq_false,not_false_eq_true,ne_eq,true_and,and_true,false_and,and_false,true_or,or_true,false_or,or_false,Int.reduceEq,if_false,if_true,eq_self,reduceCtorEq,decide_true,decide_false,Bool.and_true,Bool.true_and,Bool.and_false,Bool.false_and,Bool.or_true,Bool.true_or,Bool.or_false,Bool.false_or,Bool.not_true,Bool.not_false])
  ·refine d6 c2 ?_
   refine cQ ?_;refine d6 c3 ?_;have hrep:List.replicate c.bals.length (bM ⟨false,0,rt0⟩)=rows bM (List.replicate c.bals.length fg):=J9 _;have ht:List.take c.bals.length (rows bM (List.replicate c.bals.length ⟨false,0,rt0⟩))=rows bM (List.replicate c.bals.length ⟨false,0,rt0⟩):=List.take_of_length_le (by simp);repeat(first|refine cQ ?_|simp only[go_sem,hrep,ME])
   refine Tz (fm c,0) ?_ ⟨_,(by first|rfl|exact evd),.inr ⟨.tup [.agg (aw { (fm c).a with eqv:=.sl 0 true [],early:=.sl 0 true [],orph:=.sl 0 true [],tabs:=.sl 34 true (rows aH.c (fm c).tabs) }),.int .i64 0],?_,⟨Tm _,trivial,trivial⟩,Wk.tup ⟨Zc _ _,Wk.refl _,trivial⟩⟩⟩
   ·(try simp only[Bool.not_false,Bool.not_true,decide_eq_true_eq,decide_eq_false_iff_not,Bool.not_eq_true',Bool.not_eq_false',beq_iff_eq,bne_iff_ne,beq_eq_false_iff_ne,bne_eq_false_iff_eq,ne_eq,Bool.not_eq_true,Bool.not_eq_false,Bool.or_eq_true,Bool.and_eq_true,Bool.or_eq_false_iff]at *)
    (simp only[y9,iH, *,reduceIte,Bool.true_eq_false,Bool.false_eq_true,not_true_eq_false,not_false_eq_true,ne_eq,true_and,and_true,false_and,and_false,true_or,or_true,false_or,or_false,Int.reduceEq,if_false,if_true,eq_self,reduceCtorEq,decide_true,decide_false,Bool.and_true,Bool.true_and,Bool.and_false,Bool.false_and,Bool.or_true,Bool.true_or,Bool.or_false,Bool.false_or,Bool.not_true,Bool.not_false])
   ·(try simp only[go_sem,Nat.reduceAdd,Nat.reduceSub,Nat.reduceMul,Nat.reduceLT,Nat.reduceLeDiff,Nat.reduceEqDiff,reduceIte,Int.reduceToNat,Int.reduceLT,Int.reduceLE,Int.reduceEq,Int.reduceNeg,reduceCtorEq,Int.reduceBEq,Int.reduceBNe,List.length_replicate,ht])
    rfl
 all_goals(try simp only[Bool.not_false,Bool.not_true,decide_eq_true_eq,decide_eq_false_iff_not,Bool.not_eq_true',Bool.not_eq_false',beq_iff_eq,bne_iff_ne,beq_eq_false_iff_ne,bne_eq_false_iff_eq,ne_eq,Bool.not_eq_true,Bool.not_eq_false,Bool.or_eq_true,Bool.and_eq_true,Bool.or_eq_false_iff]at *)
 all_goals(simp only[y9,iH, *,reduceIte,Bool.true_eq_false,Bool.false_eq_true,not_true_eq_false,not_false_eq_true,ne_eq,true_and,and_true,false_and,and_false,true_or,or_true,false_or,or_false,Int.reduceEq,if_false,if_true,eq_self,reduceCtorEq,decide_true,decide_false,Bool.and_true,Bool.true_and,Bool.and_false,Bool.false_and,Bool.or_true,Bool.true_or,Bool.or_false,Bool.false_or,Bool.not_true,Bool.not_false])
theorem wm(x:Sto)(v:AV):(aw x).set 113 v=aw { x with early:=v }:=by
 simp only[aw,List.set_append,aZ,aG,List.length_cons,Nat.reduceSub,Nat.reduceLT,if_false,List.set_cons_succ,List.set_cons_zero]
theorem wl(x:Sto):(aw x).getD 113 .dead=x.early:=by
 simp only[aw,List.getD_eq_getElem?_getD,List.getElem?_append,aZ,aG,List.length_cons,Nat.reduceSub,Nat.reduceLT,if_false,List.getElem?_cons_succ,List.getElem?_cons_zero,Option.getD_some]
theorem Qp(s:am)(a:aW)(h:StR s)(ha:a.vals.length<=1000000)(hj:∀j∈a.vals,0<=j/\j<s.latest.length)(l:List aW)(n:Nat):
 aI Tryz.prog 130 [.agg (aw { s.a with early:=.hs 67 0 0 n }),.agg (bZ a.a)] [.vec 67 (rows aW.c l)] (.agg (aw { (castIn s a).a with early:=.hs 67 0 0 n })) [.vec 67 (rows aW.c l)]:=by
 refine aI.fact 6 s5 (by simp) ?_ (by simp);unfold nC;refine bd ?_;have c1:=IF s.latest a.target.ep a.root a.vals h.bl ha hj;unfold castIn;generalize BI s.latest a.target.ep a.root a.vals=C at *;obtain⟨C1,C2⟩:=C;dsimp only at c1 ⊢;refine gon ?_;refine acT c1 ?_;exact adb [] [0]
theorem NG(s:am)(a:aW)(h:StR s)(ha:a.vals.length<=1000000):
 aI Tryz.prog 129 [.agg (aw { s.a with early:=.hs 67 0 0 s.early.length }),.agg (bZ a.a)] [.vec 67 (rows aW.c s.early)] (.tup [.bool (dB s a).1,.int .i64 (dB s a).2]) [.vec 67 (rows aW.c s.early)]:=by
 refine aI.lend rfl ?_;have ht:List.take s.early.length (rows aW.c s.early)=rows aW.c s.early:=List.take_of_length_le (by simp);(try simp only[go_sem,ht,List.length_cons,List.length_nil,List.range_succ,List.range_zero])
 exact BJ s a h ha
theorem gS{fr:Fr}{σ:St}{rs:List gO}{l:List AV}{n:Int}(hl:dQ fr σ rs=some l)(hv:fz σ (List.range σ.length) (gm l)=.tup [.agg (aw gY),.int .i64 n]):PQ rs (.tup [.agg (aw d9.a),.int .i64 n]) .ret fr σ:=
 ⟨l,hl,.inr ⟨_,hv,(by simp[PuL,Pu,fG,gY,aw,eo,jW,dS,jY,fF,qD,cD,cp0]),Wk.tup ⟨DC,Wk.refl _,trivial⟩⟩⟩
def dn(s:am)(k:Nat):am:=aL (tickR s.early) (withE s []) k
theorem TH(s:am)(k:Nat):dn s (k+1)=tickR s.early k (dn s k):=rfl
theorem Wr(s:am)(m:Nat)(h:bi s m):PC Tryz.prog 204 [.agg (aw s.a)] (.tup [.agg (aw (dH s).1.a),.int .i64 (dH s).2]):=by
 refine PC.fact 9 LI (by simp) puA puA ?_;unfold ym;refine bd ?_;unfold dH;have hsp:=h.cfg.s1;have hs4:=h.cfg.s4;by_cases q1:1099511627776<=s.now
 ·have e1:decide ((1099511627776:Int)<=s.now)=true:=ak q1;rw[if_pos q1];refine aE e1 ?_;exact gS (by first|rfl|exact evd) (by first|rfl|exact evd)
 have e1:decide ((1099511627776:Int)<=s.now)=false:=au q1;rw[if_neg q1];have hA:=h.tickA q1;have hB:=hA.tickB;have c1:=Vn (tickA s) hA.r.bn;have c2:=Gt (tickA s) (jp (tickA s)).j (jp (tickA s)).f hA.r
 have hmod:IntKind.u64.wrap (Int.tmod (tickA s).now (tickA s).cfg.spe)=Int.tmod (tickA s).now (tickA s).cfg.spe:=by
  have hn:=hA.nw.1;have hsp':1<=(tickA s).cfg.spe:=hsp;rw[Int.tmod_eq_emod_of_nonneg hn.lo];have h1:=Int.emod_nonneg (tickA s).now (show (tickA s).cfg.spe≠0 by omega);have h2:=Int.emod_lt_of_pos (tickA s).now (show 0<(tickA s).cfg.spe by omega);have hs4':(tickA s).cfg.spe<=4:=hs4;exact aU h1 (by omega)
 have hT1:Int.tmod (tickA s).now (tickA s).cfg.spe=0->tickB (tickA s)=dl (tickA s) (jp (tickA s)).j (jp (tickA s)).f:=fun hz=>by unfold tickB;rw[hmod,if_pos hz]
 have hT2:Int.tmod (tickA s).now (tickA s).cfg.spe≠0->tickB (tickA s)=tickA s:=fun hz=>by unfold tickB;rw[hmod,if_neg hz]
 show Tri _ _ _ _ (PQ _ (.tup [.agg (aw (dn (tickB (tickA s)) (tickB (tickA s)).early.length).a),.int .i64 0])) _ _
 generalize tickB (tickA s)=S2 at *;refine aD e1 ?_;refine uz (fun _=>[]) (fun _=>[.var (aw S2.a),.var (aw gY)]) (fun hT=>?_) (fun hF=>?_) ?_
 ·rw[hT1 (by rw[beq_iff_eq]at hT;exact hT)];refine gon ?_;refine acT c1 ?_;refine acT c2 ?_;exact adk [] [0,1]
 ·rw[hT2 (by rw[beq_eq_false_iff_ne]at hF;exact hF)];refine gon ?_;exact adk [] [0,1]
 clear hT1 hT2 hmod c1 c2;refine gon ?_;refine oe 0 113 67 ?_ (by rfl) (by exact wl _);simp only[go_sem,wm];have hK:∀k,k<=S2.early.length->bi (dn S2 k) m/\(dn S2 k).early.length<=k:=bi.tickR hB.av hB.aa hB
 have hz:dn S2 0=withE S2 []:=rfl;have haa:=hB.aa;refine ay (fun i:Nat=>[(6,.int .i64 i)]) (fun i=>[.var (aw { (dn S2 i).a with early:=.hs 67 2 0 (dn S2 i).early.length }),.var (aw gY),.vec 67 (rows aW.c (dn S2 i).early)]) (fun i=>S2.early.length-i) (fun i=>i<=S2.early.length) 0 (Nat.zero_le _) ?_ ?_
 ·rw[hz];unfold withE;exact adk [] [0,1,2]
 intro i hk;obtain⟨hki,hkl⟩:=hK i hk;have hsk:=TH S2 i;refine dM ?_;by_cases h1:i<S2.early.length
 ·have e1:=inT h1
  have hw:=ah h1 (by omega);have hgd:(rows aW.c S2.early).getD i []=bZ (fk S2.early i).a:=aM (f:=aW.c) default h1;have hav:=hB.av _ (xV h1);have hc:tickR S2.early i (dn S2 i)=if (dn S2 i).now<=(fk S2.early i).slot then withE (dn S2 i) ((dn S2 i).early++[fk S2.early i])else if (dB (dn S2 i) (fk S2.early i)).2=0 then castIn (dn S2 i) (fk S2.early i)else dn S2 i:=rfl
  have c1:=NG (dn S2 i) (fk S2.early i) hki.r (by omega);have c2:=fun hj=>Qp (dn S2 i) (fk S2.early i) hki.r (by omega) hj (dn S2 i).early (dn S2 i).early.length
  have hj:(dB (dn S2 i) (fk S2.early i)).2=0->∀j∈(fk S2.early i).vals,0<=j/\j<(dn S2 i).latest.length:=fun hq j hjm=>by
   have hv:dr (fk S2.early i).vals (dn S2 i).cfg.bals.length=0:=by
    unfold dB at hq;split at hq
    ·rename_i h1;exact absurd hq h1
    ·rename_i h1;simpa using h1
   obtain⟨u,hm,rfl⟩:=List.getElem_of_mem hjm;have:=(jw hv).2 u hm;rw[List.getD_eq_getElem?_getD,List.getElem?_eq_getElem hm,Option.getD_some]at this;have hll:=hki.ll;omega
  clear hK;have hcl:(castIn (dn S2 i) (fk S2.early i)).early=(dn S2 i).early:=rfl;rw[hc]at hsk;generalize hs:dn S2 i=s1 at *;generalize fk S2.early i=a at *;have hr:rows aW.c s1.early++[bZ a.a]=rows aW.c (s1.early++[a]):=da aW.c s1.early a;generalize hR:dB s1 a=R at *;obtain⟨R1,R2⟩:=R;dsimp only at c1 hsk hj;refine bg e1 ?_;refine ap hgd ?_;by_cases q2:s1.now<=a.slot
  ·have e2:=ak q2;rw[if_pos q2]at hsk;refine bg e2 ?_;refine cZ hgd hr hw ?_;refine⟨i+1,h1,by omega,?_⟩;rw[hsk];unfold withE;exact adk [] [0,1,3]
  ·have e2:=au q2
   rw[if_neg q2]at hsk;refine aQ e2 ?_;refine ap hgd ?_;refine QB [2] (c1) evd (bx.mk' (by simp) evd) ?_;refine evg ?_;refine gon ?_;by_cases q3:R2=0
   ·rw[if_pos q3]at hsk;subst q3;have c3:=c2 (hj rfl);generalize hcs:castIn s1 a=s3 at *;refine kO ?_;refine ap hgd ?_;refine aa1 [2] (c3) (by simp) evd (bx.mk' (by simp) evd) ?_;refine evg ?_;refine ap hw ?_;refine⟨i+1,h1,by omega,?_⟩;rw[hsk,hcl];exact adk [] [0,1,2]
   ·have e3:(R2==0)=false:=by simp[q3]
    rw[if_neg q3]at hsk;refine aQ e3 ?_;refine ap hw ?_;refine⟨i+1,h1,by omega,?_⟩;rw[hsk];exact adk [] [0,1,2]
 ·obtain rfl:i=S2.early.length:=by omega
  have e1:=inF (S2.early.length);generalize dn S2 S2.early.length=s1 at *;have ht:List.take s1.early.length (rows aW.c s1.early)=rows aW.c s1.early:=List.take_of_length_le (by simp);refine aD e1 ?_;refine⟨_,(by first|rfl|exact evd),.inl ?_⟩;exact nN ht
end Go.Proofs.YtnjdpnfglgcjcaaGreat
