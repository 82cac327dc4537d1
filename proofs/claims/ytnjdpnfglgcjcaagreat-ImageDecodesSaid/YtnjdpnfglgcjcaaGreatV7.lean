/-
 My texts Lw, Lx, Ly, Lz, joined.
-/
import Derived.Test.YtnjdpnfglgcjcaaGreatV6
import Derived.Test.YtnjdpnfglgcjcaaGreatW3
set_option linter.unusedVariables false
set_option linter.unusedSimpArgs false
set_option maxRecDepth 8000
set_option maxHeartbeats 4000000
namespace Go.Proofs.YtnjdpnfglgcjcaaGreat
open Go Go.FH Go.RowKit
def WdG(w:Wd):Prop:=∀n∈w.1,0<=n/\n<18446744073709551616
def Y1:Rt:=(rt0.set 0 100).set 31 188
structure np(i:Nat)(x:Blk):Prop where
 slot:U64 x.slot
 just:U64 x.just.ep
 fin:U64 x.fin.ep
 j:U64 x.pul.j.ep
 f:U64 x.pul.f.ep
 rt:i<=24->x.root≠Y1
 df:WdG x.diff
 pf:WdG x.pdiff
theorem np.up{i k:Nat}{b:Blk}(h:np i b)(c:i<=k):np k b:=⟨h.slot,h.just,h.fin,h.j,h.f,fun a=>h.rt (by omega),h.df,h.pf⟩
theorem np.u{i:Nat}{b:Blk}(h:np i b):NQ b:=⟨h.slot,h.just,h.fin,h.j,h.f⟩
def NwR(i:Nat)(n:Int):Prop:=U64 n/\(i<=24->n<=1099511627776)
theorem NwR.up{i k:Nat}{n:Int}(h:NwR i n)(b:i<=k):NwR k n:=⟨h.1,fun a=>h.2 (by omega)⟩
structure afI(c:cU):Prop where
 s1:1<=c.spe
 s4:c.spe<=4
 b0:0<c.bals.length
 b1:c.bals.length<=6
 ln:c.lim.node<=13
 lo:c.lim.orph<=3
 la:c.lim.early<=3
 lt:c.lim.table<=4
 lr:c.lim.retry<=3
 tt:WdG c.ttd
 gn:c.gen≠Y1
structure aam(a:bp):Prop where
 len:a.vals.length<=10
 slot:U64 a.slot
 ep:U64 a.target.ep
structure agZ(t:aW):Prop where
 len:t.bals.length<=6
 ep:U64 t.cp.ep
structure bP(s:ap)(i:Nat):Prop where
 cfg:afI s.cfg
 tree:dU s.nodes
 jf:0<=aj s.nodes s.j.rt
 ll:s.latest.length=s.cfg.bals.length
 nn:s.nodes.length<=13
 un:∀n∈s.nodes,np i n.blk
 oo:s.orph.length<=3
 uo:∀b∈s.orph,np i b
 aa:s.early.length<=3
 av:∀a∈s.early,aam a
 tt:s.tabs.length<=4
 tb:∀t∈s.tabs,agZ t
 qq:s.eqv.length<=10*i
 uj:U64 s.j.ep
 uf:U64 s.f.ep
 nw:NwR i s.now
 ii:i<=30
 lv:∀v∈s.latest,U64 v.ep
theorem bP.r{s:ap}{i:Nat}(h:bP s i):StR s:=by
 have g:=h.cfg.s1;have e:=h.cfg.b1;have m:=h.nn;have n:=h.qq;have f:=h.ii;have c:=h.ll;have j:=h.tt;have k:=h.oo;have l:=h.aa;have b:=h.cfg.ln;exact⟨h.tree,by omega,by omega,by omega,by omega,by omega,fun t d=>by have:=(h.tb t d).len;omega,by omega,by omega,by omega,c,h.jf⟩
theorem bP.up{s:ap}{i k:Nat}(h:bP s i)(w:i<=k)(A:k<=30):bP s k:=by
 obtain⟨a,b,c,d,e,f,g,j,l,m,n,o,p,q,r,t,u,y⟩:=h;exact⟨a,b,c,d,e,fun x v=>(f x v).up w,g,fun x v=>(j x v).up w,l,m,n,o,by omega,q,r,t.up w,A,y⟩
theorem cO(n:Int):U64 (IntKind.u64.wrap n):=by rw[Dg];exact⟨by omega,by omega⟩
theorem bK{α:Type}{l:List α}{i:Nat}(d:α)(h:i<l.length):l.getD i d∈l:=by
 grind
theorem bP.blk{s:ap}{i:Nat}(h:bP s i){k:Nat}(hk:k<s.nodes.length):np i (nod s.nodes k).blk:=h.un _ (bK _ hk)
theorem Ct{t:List Nod}{n:Nod}(h:n∈t):∃k,k<t.length/\nod t k=n:=by
 obtain⟨k,b,c⟩:=aiZ h;exact⟨k,b,by unfold nod;grind⟩
theorem P1(s:ap)(j f:Cp):(dK s j f).cfg=s.cfg:=by unfold dK;grind
theorem afg(s:ap)(j f:Cp):(dK s j f).eqv=s.eqv:=by unfold dK;grind
theorem NL(s:ap)(j f:Cp):(dK s j f).early=s.early:=by unfold dK;grind
theorem Xf(s:ap)(j f:Cp):(dK s j f).now=s.now:=by unfold dK;grind
theorem Vy(s:ap)(j f:Cp):(dK s j f).latest=s.latest:=by unfold dK;grind
theorem YA(l:List Blk)(a:Int):∀b∈bg (tW l a) [] l.length,b∈l:=by
 refine er (f:=tW l a) (a:=[]) (fun _ o=>∀t∈o,t∈l) (by simp) l.length (fun i o e d=>?_) _ (ait _);unfold tW;split
 ·grind
 omega
theorem pT(s:ap)(j f:Cp):(dK s j f).orph.length<=s.orph.length/\∀b∈(dK s j f).orph,b∈s.orph:=by
 unfold dK;split
 ·simp
 ·split
  ·simp
  ·exact⟨xE _ _ _,YA _ _⟩
theorem Tm(s:ap)(j f:Cp):(dK s j f).tabs.length<=s.tabs.length/\∀b∈(dK s j f).tabs,b∈s.tabs:=by
 unfold dK;split
 ·simp
 ·split
  ·exact⟨oe _ _,oh _ _⟩
  ·exact⟨oe _ _,oh _ _⟩
theorem NM{s:ap}(h:dU s.nodes)(j f:Cp):(dK s j f).nodes.length<=s.nodes.length/\∀n∈(dK s j f).nodes,∃m,m<s.nodes.length/\n.blk=(nod s.nodes m).blk:=by
 have i:∀n∈s.nodes,∃m,m<s.nodes.length/\n.blk=(nod s.nodes m).blk:=fun n c=>by
  obtain⟨k,e,g⟩:=Ct c;grind
 unfold dK;split
 ·grind
 ·split
  ·grind
  ·refine⟨tf h _,fun n c=>?_⟩;obtain⟨k,e,g⟩:=Ct c;obtain⟨m,o,l⟩:=UP h _ k e;grind
theorem Im{a b:Cp}(e:U64 a.ep)(f:U64 b.ep):U64 (fh a b).ep:=by unfold fh;grind
theorem ac2{s:ap}(j f:Cp)(c:U64 s.j.ep)(d:U64 s.f.ep)(e:U64 j.ep)(b:U64 f.ep):U64 (dK s j f).j.ep/\U64 (dK s j f).f.ep:=by
 unfold dK;split
 ·grind
 ·split
  ·exact⟨Im c e,Im d b⟩
  ·exact⟨Im c e,Im d b⟩
theorem bP.upd{s:ap}{i:Nat}(h:bP s i){j f:Cp}(l:U64 j.ep)(o:U64 f.ep):bP (dK s j f) i:=by
 have a:=h.r.upd j f;have c:=NM h.tree j f;have e:=pT s j f;have d:=Tm s j f;have g:=ac2 j f h.uj h.uf l o;refine⟨by rw[P1];exact h.cfg,a.tree,a.jf,a.ll,aiK c.1 h.nn,fun n p=>?_,aiK e.1 h.oo,fun b q=>h.uo b (e.2 b q),by rw[NL];exact h.aa,by rw[NL];exact h.av,aiK d.1 h.tt,fun t r=>h.tb t (d.2 t r),by rw[afg];exact h.qq,g.1,g.2,by rw[Xf];exact h.nw,h.ii,by rw[Vy];exact h.lv⟩;obtain⟨m,u,k⟩:=c.2 n p;rw[k];exact h.blk u
theorem bP.withE{s:ap}{i:Nat}(h:bP s i){l:List bp}(h1:l.length<=3)(h2:∀a∈l,aam a):bP (withE s l) i:=
 ⟨h.cfg,h.tree,h.jf,h.ll,h.nn,h.un,h.oo,h.uo,h1,h2,h.tt,h.tb,h.qq,h.uj,h.uf,h.nw,h.ii,h.lv⟩
theorem bP.withL{s:ap}{i:Nat}(h:bP s i){l:List Vot}(h1:l.length=s.latest.length)(h2:∀v∈l,U64 v.ep):bP (withL s l) i:=
 ⟨h.cfg,h.tree,h.jf,h1.trans h.ll,h.nn,h.un,h.oo,h.uo,h.aa,h.av,h.tt,h.tb,h.qq,h.uj,h.uf,h.nw,h.ii,h2⟩
theorem bP.withB{s:ap}{i:Nat}(h:bP s i)(r:Rt):bP (withB s r) i:=
 ⟨h.cfg,h.tree,h.jf,h.ll,h.nn,h.un,h.oo,h.uo,h.aa,h.av,h.tt,h.tb,h.qq,h.uj,h.uf,h.nw,h.ii,h.lv⟩
theorem bP.withO{s:ap}{i:Nat}(h:bP s i){l:List Blk}(h1:l.length<=3)(h2:∀b∈l,np i b):bP (withO s l) i:=
 ⟨h.cfg,h.tree,h.jf,h.ll,h.nn,h.un,h1,h2,h.aa,h.av,h.tt,h.tb,h.qq,h.uj,h.uf,h.nw,h.ii,h.lv⟩
theorem bP.withT{s:ap}{i:Nat}(h:bP s i){l:List aW}(h1:l.length<=4)(h2:∀t∈l,agZ t):bP (withT s l) i:=
 ⟨h.cfg,h.tree,h.jf,h.ll,h.nn,h.un,h.oo,h.uo,h.aa,h.av,h1,h2,h.qq,h.uj,h.uf,h.nw,h.ii,h.lv⟩
theorem adA{d:Int}(h:U64 d)(b:Rt)(l:List Int)(v:List Vot)(e:∀x∈v,U64 x.ep):∀x∈(E0 v d b l).1,U64 x.ep:=by
 refine er (f:=rL d b l) (a:=(v,0)) (fun _ p=>∀x∈p.1,U64 x.ep) e l.length (fun k p i g=>?_) _ (ait _);unfold rL;split
 ·grind
 omega
theorem bP.castIn{s:ap}{i:Nat}(h:bP s i){a:bp}(ha:U64 a.target.ep):bP (castIn s a) i:=h.withL (vq _ _ _ _ _) (adA ha _ _ _ h.lv)
theorem bP.tickA{s:ap}{i:Nat}(h:bP s i)(b:¬1099511627776<=s.now):bP (tickA s) i:=
 ⟨h.cfg,h.tree,h.jf,h.ll,h.nn,h.un,h.oo,h.uo,h.aa,h.av,h.tt,h.tb,h.qq,h.uj,h.uf,⟨cO _,fun _=>by have:=h.nw.1.lo;show IntKind.u64.wrap (s.now+1)<=_;rw[aN (by omega) (by omega)];omega⟩,h.ii,h.lv⟩
theorem WF{i:Nat}{s:ap}(h:∀k,k<s.nodes.length->np i (nod s.nodes k).blk):U64 (CD s).j.ep/\U64 (CD s).f.ep:=by
 refine er (f:=MZ s.nodes) (a:=(R4,false)) (fun _ p=>U64 p.1.j.ep/\U64 p.1.f.ep) ⟨⟨by decide,by decide⟩,⟨by decide,by decide⟩⟩ s.nodes.length (fun k p c e=>?_) _ (ait _);unfold MZ;split
 ·omega
 ·refine⟨?_,?_⟩
  ·split
   ·exact(h k c).j
   grind
  ·dsimp only;split
   ·exact(h k c).f
   grind
theorem bP.tickB{s:ap}{i:Nat}(h:bP s i):bP (tickB s) i:=by
 unfold Go.Proofs.YtnjdpnfglgcjcaaGreat.tickB;split
 ·have:=WF (s:=s) fun k a=>h.blk a
  exact h.upd this.1 this.2
 omega
theorem AE{l:List bp}{k:Nat}(h:k<l.length):gO l k∈l:=bK _ h
theorem bP.tickR{l:List bp}(f:∀a∈l,aam a)(j:l.length<=3){s:ap}{i:Nat}(h:bP s i):∀k,k<=l.length->bP (bg (tickR l) (Go.FH.withE s []) k) i/\(bg (tickR l) (Go.FH.withE s []) k).early.length<=k
 |0,_=>⟨h.withE (by simp) (by simp),ait _⟩
 | k + 1, m => by
   obtain⟨e,g⟩:=bP.tickR f j h k (by omega);rw[cX];generalize bg (Go.Proofs.YtnjdpnfglgcjcaaGreat.tickR l) (Go.FH.withE s []) k=t at *;unfold Go.Proofs.YtnjdpnfglgcjcaaGreat.tickR;split
   ·refine⟨e.withE (by grind) (fun a b=>?_),by show (t.early++[gO l k]).length<=k+1;simp;omega⟩;rw[aiH,aiE]at b;rcases b with b|rfl
    ·exact e.av a b
    ·exact f _ (AE (by omega))
   ·split
    ·exact⟨e.castIn (f _ (AE (by omega))).ep,akK g⟩
    grind
theorem bP.tickC{s:ap}{i:Nat}(h:bP s i):bP (tickC s s.early) i:=(bP.tickR h.av h.aa h _ (ait _)).1
theorem bP.tick{s:ap}{i:Nat}(h:bP s i)(b:(fk s).2=0):bP (fk s).1 i:=by
 unfold fk at *;split at b
 ·omega
 ·rename_i a;rw[Fw a];exact(h.tickA a).tickB.tickC
structure agV(s:ap)(b:Blk):Prop where
 root:b.root≠rt0
 kn:nL s b.root=false
 par:0<=aj s.nodes b.parent
 slot:(nod s.nodes (aj s.nodes b.parent).toNat).blk.slot<b.slot
 lim:(s.nodes.length:Int)<s.cfg.lim.node
theorem Mp {s : ap} {b : Blk} (h : de s b = 0) : agV s b := by
 unfold de at h;split at h
 ·omega
 ·split at h
  ·omega
  ·split at h
   ·omega
   ·split at h
    ·omega
    ·split at h
     ·omega
     ·split at h
      ·omega
      ·split at h
       ·simp at h
       ·split at h
        ·simp at h
        ·split at h
         ·simp at h
         ·split at h
          ·simp at h
          ·exact⟨by assumption,by simpa using ‹¬nL s b.root=true›,by omega,by omega,by omega⟩
theorem SV(b:Blk):0<=dc b/\dc b<=2:=by unfold dc;omega
theorem VX{s:ap}{b:Blk}(h:agV s b)(g:s.cfg.lim.node<=4096):(f7 s.nodes b (dc b)).2=0:=by
 have e:=h.kn;unfold nL at e;have c:decide (0<=aj s.nodes b.root)=false:=by grind
 have d:=aky c;have i:=h.par;have j:=h.slot;have f:=h.lim;unfold f7;rw[Fw (by simp[SV b]),Fw d,Fw (by omega),Fw (by omega),Fw (by omega)]
theorem DR{t:List Nod}{n:Nod}{r:Rt}(h:0<=aj t r):0<=aj (t++[n]) r:=by
 obtain⟨c,d⟩:=dO h;exact lH (k:=(aj t r).toNat) (by grind) (by rw[eO,Fy c];omega)
theorem bP.insN{s:ap}{i:Nat}(h:bP s i){b:Blk}(g:de s b=0)(k:np i b):bP (dD s (f7 s.nodes b (dc b)).1) i:=by
 have e:=Mp g;have d:=VX e (by have:=h.cfg.ln;omega);have j:=(OX d).1;have f:=h.tree.ins d;have m:=e.lim;have l:=h.cfg.ln;rw[j]at f ⊢;refine⟨h.cfg,f,DR h.jf,h.ll,by show (s.nodes++[_]).length<=13;simp;omega,fun n c=>?_,h.oo,h.uo,h.aa,h.av,h.tt,h.tb,h.qq,h.uj,h.uf,h.nw,h.ii,h.lv⟩;rcases aiH.1 c with c|c
 ·exact h.un n c
 grind
theorem bP.ins{s:ap}{i:Nat}(h:bP s i){b:Blk}(d:de s b=0)(a:np i b):bP (kL s b) i:=by
 have e:=(h.insN d a).upd a.just a.fin;unfold kL;split
 ·exact e.upd a.j a.f
 omega
theorem ZY(l:List Blk)(i:Nat):∀b∈takeO l i,b∈l:=fun b c=>by
 rcases aiH.1 c with c|c
 ·grind
 grind
theorem acY(l:List Blk)(i:Nat):(takeO l i).length<=l.length:=by
 unfold takeO;rw[E4,ajf,ajJ];omega
theorem bP.takeO{s:ap}{i:Nat}(h:bP s i)(k:Nat):bP (Go.FH.withO s (takeO s.orph k)) i:=h.withO (aiK (acY _ _) h.oo) fun b hb=>h.uo b (ZY _ _ b hb)
theorem bP.waitR{p:ap×List Rt}{i:Nat}(h:bP p.1 i)(e:0<=cY p.1):bP (waitR p).1 i:=by
 have d:=xw p.1;have c:=h.takeO (cY p.1).toNat
 unfold Go.Proofs.YtnjdpnfglgcjcaaGreat.waitR;split
 ·rename_i b;exact c.ins b (h.uo _ (bK _ (by omega)))
 omega
theorem bP.waitG{i:Nat}:∀ (f:Nat) {p:ap×List Rt},bP p.1 i->bP (waitG f p).1 i
 |0,_,h=>h
 | f + 1, p, h => by
   unfold Go.Proofs.YtnjdpnfglgcjcaaGreat.waitG;split
   ·omega
   ·exact bP.waitG f (h.waitR (by omega))
theorem aaf(p:ap×List Rt):(waitR p).2.length<=p.2.length+1:=by
 unfold waitR;grind
theorem NN:∀ (f:Nat) (p:ap×List Rt),(waitG f p).2.length<=p.2.length+f
 |0,p=>ait _
 | f + 1, p => by
   unfold waitG;split
   ·omega
   ·have d:=NN f (waitR p);have c:=aaf p;omega
theorem ag9{i:Nat}{b:Blk}(h:np i b):np i (noT b):=⟨h.slot,h.just,h.fin,h.j,h.f,h.rt,h.df,h.pf⟩
theorem bP.blockI{s:ap}{i:Nat}(h:bP s i){b:Blk}(c:de s b=0)(a:np i b):bP (blockI s b) i:=by
 unfold Go.Proofs.YtnjdpnfglgcjcaaGreat.blockI;split
 ·exact(h.ins c a).withB _
 ·exact h.ins c a
theorem bP.block{s:ap}{i:Nat}(h:bP s i){b:Blk}(j:np i b)(e:(di s b).2.2=0):bP (di s b).1 i/\(di s b).2.1.length<=5:=by
 unfold di at *;split at e
 ·rename_i f
  rw[Fy f];split at e
  ·grind
  ·rename_i d;rw[Fw d];have:=h.cfg.lo;refine⟨h.withO (by grind) (fun x a=>?_),by simp⟩;rw[aiH,aiE]at a;rcases a with a|rfl
   ·exact h.uo x a
   ·exact ag9 j
 ·rename_i f
  rw[Fw f];split at e
  ·grind
  ·rename_i d;rw[Fw d];have k:=h.blockI (by omega) j;have m:=k.oo;refine⟨bP.waitG _ k,?_⟩;have:=NN ((Go.Proofs.YtnjdpnfglgcjcaaGreat.blockI s b).orph.length+1) (Go.Proofs.YtnjdpnfglgcjcaaGreat.blockI s b,[b.root]);grind
theorem bP.att{s:ap}{i:Nat}(h:bP s i){a:bp}(e:aam a)(c:(oa s a).2=0):bP (oa s a).1 i:=by
 unfold oa at *;split at c
 ·omega
 ·rename_i f
  rw[Fw f];split at c
  ·rename_i d;rw[Fy d];exact h.castIn e.ep
  ·rename_i d
   rw[Fw d];split at c
   ·omega
   ·rename_i g;rw[Fw g];have:=h.cfg.la;refine h.withE (by grind) (fun x b=>?_);rw[aiH,aiE]at b;rcases b with b|rfl
    ·exact h.av x b
    omega
theorem bP.slash{s:ap}{i:Nat}(h:bP s i){x:fe}(b:x.fst.vals.length<=10)(k:i<30)(c:(fK s x).2=0):bP (fK s x).1 (i+1):=by
 unfold fK at *;split at c
 ·omega
 ·rename_i e
  rw[Fw e];split at c
  ·omega
  ·rename_i f;rw[Fw f];have g:=BC x.fst.vals x.snd.vals x.fst.vals.length;have j:=O5 s.eqv (jm x.fst.vals x.snd.vals x.fst.vals.length) (jm x.fst.vals x.snd.vals x.fst.vals.length).length;have l:=h.qq;exact⟨h.cfg,h.tree,h.jf,h.ll,h.nn,fun x b=>(h.un x b).up (akt i),h.oo,fun x b=>(h.uo x b).up (akt i),h.aa,h.av,h.tt,h.tb,by show (Gb s.eqv _).length<=_;unfold Gb;omega,h.uj,h.uf,h.nw.up (akt i),by omega,h.lv⟩
theorem GS(l:List aW)(t:aW):(oV l t).length=l.length+1:=by
 unfold oV;simp only[E4,ajf,ajJ,acv,aiy];omega
theorem zx(l:List aW)(t:aW):∀x∈oV l t,x∈l\/x=t:=fun x b=>by
 unfold oV at b;simp only[aiH]at b;rcases b with (b|b)|b
 ·grind
 ·grind
 grind
theorem bP.reg{s:ap}{i:Nat}(h:bP s i){t:aW}(k:U64 t.cp.ep)(d:(lQ s t).2=0):bP (lQ s t).1 i:=by
 unfold lQ at *;split at d
 ·omega
 ·rename_i l
  rw[Fw l];split at d
  ·omega
  ·rename_i m
   rw[Fw m];split at d
   ·omega
   ·rename_i g
    rw[Fw g];have e:gh t s.cfg.bals.length=0:=by omega
    have j:t.bals.length<=6:=by
     have:=h.cfg.b1;unfold gh at e;split at e
     ·omega
     omega
    have f:(gS s.tabs t s.cfg.bals.length s.cfg.lim.table).1.length<=4/\∀x∈(gS s.tabs t s.cfg.bals.length s.cfg.lim.table).1,x∈s.tabs\/x=t:=by
     have:=h.cfg.lt;unfold gS;rw[Fw (by omega)];split
     ·exact⟨h.tt,fun x a=>.inl a⟩
     ·split
      ·exact⟨h.tt,fun x a=>.inl a⟩
      ·exact⟨by rw[GS];omega,zx _ _⟩
    refine h.withT f.1 fun x a=>?_
    rcases f.2 x a with a|rfl
    ·exact h.tb x a
    ·exact⟨j,k⟩
theorem CL{t:List Nod}{i:Int}(h:(dS t i).2=0):(dS t i).1.length=t.length/\∀k,(nod (dS t i).1 k).up=(nod t k).up/\(nod (dS t i).1 k).blk=(nod t k).blk:=by
 unfold dS at *;split at h
 ·rename_i f;rw[Fy f];cases d:CS t (cD t i) 1 2 with
  |none=>grind
  |some u=>exact⟨m0 d,fun k=>CR d k⟩
 omega
theorem Oq{t:List Nod}{i:Int}(h:(kF t i).2=0):(kF t i).1.length=t.length/\∀k,(nod (kF t i).1 k).up=(nod t k).up/\(nod (kF t i).1 k).blk=(nod t k).blk:=by
 unfold kF at *;split at h
 ·rename_i f;rw[Fy f];cases d:CS t (im t i) 2 1 with
  |none=>grind
  |some u=>exact⟨m0 d,fun k=>CR d k⟩
 omega
theorem Cl{t:List Nod}{i:Int}{v:Vdt}{keep:List Int}(h:(gP t i v keep).2=0):(gP t i v keep).1.length=t.length/\∀k,(nod (gP t i v keep).1 k).up=(nod t k).up/\(nod (gP t i v keep).1 k).blk=(nod t k).blk:=by
 unfold gP at *;split at h
 ·omega
 rename_i h1;rw[Fw h1];split at h
 ·rename_i h2;rw[Fy h2];exact CL h
 rename_i h2;rw[Fw h2];split at h
 ·grind
 rename_i h3;rw[Fw h3];split at h
 ·omega
 rename_i h4;rw[Fw h4];split at h
 ·omega
 rename_i h5;rw[Fw h5];split at h
 ·rename_i h6
  rw[Fy h6];split at h
  ·omega
  ·rename_i h7;rw[Fw h7];have a:=CL (show (dS t (gR t i v.latest).1).2=0 by omega);have b:=Oq h;grind
 ·rename_i h6;rw[Fw h6];exact Oq h
theorem DS{t u:List Nod}(c:u.length=t.length)(d:∀k,(nod u k).blk=(nod t k).blk)(r:Rt):aj u r=aj t r:=by
 unfold aj;grind
theorem bP.judge{s:ap}{i:Nat}(h:bP s i){t:List Nod}(c:t.length=s.nodes.length)(b:∀k,(nod t k).up=(nod s.nodes k).up/\(nod t k).blk=(nod s.nodes k).blk):bP (dD s t) i:=by
 refine⟨h.cfg,⟨h.tree.ok.of_up c fun k=>(b k).1,by have:=h.tree.pos;show 0<t.length;omega,by show (nod t 0).up<0;rw[(b 0).1];exact h.tree.root⟩,?_,h.ll,by have:=h.nn;show t.length<=13;omega,fun n f=>?_,h.oo,h.uo,h.aa,h.av,h.tt,h.tb,h.qq,h.uj,h.uf,h.nw,h.ii,h.lv⟩
 ·show 0<=aj t s.j.rt
  rw[DS c fun k=>(b k).2];exact h.jf
 ·obtain⟨k,g,e⟩:=Ct f;rw[<-e];show np i (nod t k).blk;rw[(b k).2]
  exact h.blk (show k<s.nodes.length by have:k<t.length:=g;omega)
theorem P2(l:List Int)(n:Int):cE l n≠21:=by
 unfold cE;split
 ·simp
 ·have b:∀k i,l.length-i=k->nV l n i≠21:=by
   intro k;induction k with
   |zero=>intro i c;rw[oQ (by omega)];simp
   | succ k d =>
     intro i c;rw[lY (by omega)];split
     ·simp
     grind
  grind
theorem Xi(t:aW)(n:Int):gh t n≠21:=by unfold gh;omega
theorem C0(s:ap):(fk s).2≠21:=by unfold fk;grind
theorem XU(s:ap)(b:Blk):de s b≠21:=by
 unfold de;omega
theorem uL(s:ap)(b:Blk):(di s b).2.2≠21:=by
 unfold di;split
 ·grind
 ·split
  ·exact XU s b
  simp
theorem XR(s:ap)(a:bp):(fC s a).2≠21:=by
 unfold fC;split
 ·exact P2 _ _
 grind
theorem GV(s:ap)(a:bp):(oa s a).2≠21:=by
 unfold oa;split
 ·exact XR s a
 grind
theorem xo(s:ap)(x:fe):(fK s x).2≠21:=by
 unfold fK;split
 ·unfold evE
  split
  ·exact P2 _ _
  ·split
   ·exact P2 _ _
   omega
 grind
theorem IL(s:ap)(t:aW):(lQ s t).2≠21:=by
 unfold lQ;split
 ·exact Xi _ _
 ·split
  ·simp
  ·split
   ·unfold gS;split
    ·omega
    grind
   omega
structure fQ(s:aI)(i:Nat):Prop where
 sto:bP s.sto i
 rq:s.reqs.length<=10*i
 ut:∀r∈s.reqs,U64 r.tag
 yl:s.rets.length<=3
 tg:U64 s.tag
theorem fQ.up{s:aI}{i k:Nat}(h:fQ s i)(b:i<=k)(a:k<=30):fQ s k:=⟨h.sto.up b a,by have:=h.rq;omega,h.ut,h.yl,h.tg⟩
theorem pM{l:List Req}{k:Nat}(h:k<l.length):bm l k∈l:=bK _ h
theorem wm(t:List Nod)(l:List Req):(lK t l).length<=l.length/\∀r∈lK t l,r∈l:=by
 refine⟨by have:=ng (f:=gQ t l) (a:=[]) (fun i o=>by unfold gQ;grind) l.length;unfold lK;grind,?_⟩;refine er (f:=gQ t l) (a:=[]) (fun _ o=>∀r∈o,r∈l) (by simp) l.length (fun i o e g=>?_) _ (ait _);unfold gQ;split
 ·intro r d;rw[aiH,aiE]at d;rcases d with d|rfl
  ·grind
  ·exact pM e
 omega
structure nq(s:aI)(i n:Nat):Prop where
 sto:bP s.sto i
 rq:s.reqs.length<=n
 ut:∀r∈s.reqs,U64 r.tag
 yl:s.rets.length<=3
 tg:U64 s.tag
theorem nq.a{s:aI}{i n:Nat}(h:nq s i n)(hn:n<=10*i):fQ s i:=⟨h.sto,aiK h.rq hn,h.ut,h.yl,h.tg⟩
theorem fQ.q{s:aI}{i:Nat}(h:fQ s i):nq s i (10*i):=⟨h.sto,h.rq,h.ut,h.yl,h.tg⟩
theorem nq.drop{s:aI}{i n:Nat}(h:nq s i n):nq (nQ s) i n:=by
 have a:=wm s.sto.nodes s.reqs;have c:=wm s.sto.nodes s.rets;exact⟨h.sto,aiK a.1 h.rq,fun r b=>h.ut r (a.2 r b),aiK c.1 h.yl,h.tg⟩
theorem nq.open1{s:aI}{i n:Nat}(h:nq s i n)(r:Rt)(k:Int):nq (Ai s r k) i (n+1):=by
 refine⟨h.sto,by show (s.reqs++[_]).length<=_;have:=h.rq;grind,fun x a=>?_,h.yl,cO _⟩;rcases aiH.1 a with a|a
 ·exact h.ut x a
 ·rw[aiE]at a;rw[a];exact h.tg
theorem nq.le{s:aI}{i n m:Nat}(h:nq s i n)(hn:n<=m):nq s i m:=⟨h.sto,aiK h.rq hn,h.ut,h.yl,h.tg⟩
theorem nq.opens{s:aI}{i n:Nat}(h:nq s i n)(l:List Rt):nq (tc s l) i (n+l.length):=by
 refine er (f:=iw l) (a:=s) (fun k t=>nq t i (n+k)) h l.length (fun k t c b=>?_) _ (ait _);unfold iw;split
 ·exact b.open1 _ _
 ·exact b.le (by omega)
theorem nq.rets{s:aI}{i n:Nat}(h:nq s i n){l:List Req}(hl:l.length<=3):nq (gi s l) i n:=⟨h.sto,h.rq,h.ut,hl,h.tg⟩
theorem nq.due{s:aI}{i n:Nat}(h:nq s i n):nq (Oy s) i (n+3):=by
 have e:=er (f:=qT s.rets) (a:=gi s []) (fun k t=>nq t i (n+k)/\t.rets.length<=k) ⟨h.rets (by simp),ait _⟩ s.rets.length (fun k t j b=>by
  have:=h.yl;unfold qT;split
  ·exact⟨(b.1.rets (by grind)).le (by omega),by show (t.rets++[_]).length<=k+1;grind⟩
  ·split
   ·exact⟨b.1.open1 _ _,akK b.2⟩
   ·exact⟨b.1.le (by omega),akK b.2⟩) _ (ait _)
 exact e.1.le (by have:=h.yl;omega)
theorem Ny:∀ (k:Nat) (l:List Req),(nS l k).length=l.length
 |0,l=>rfl
 | k + 1, l => by
   unfold nS;split
   ·rw[Ny k];simp
   simp
theorem fQ.later{s:aI}{i:Nat}(h:fQ s i)(r:Req):fQ (lO s r) i:=by
 unfold lO;split
 ·omega
 ·split
  ·exact⟨h.sto,h.rq,h.ut,h.yl,h.tg⟩
  ·have:=h.sto.cfg.lr;exact⟨h.sto,h.rq,h.ut,by show (nS _ _).length<=3;rw[Ny];grind,h.tg⟩
theorem Xd(l:List Req)(i:Nat):(xt l i).length<=l.length/\∀r∈xt l i,r∈l:=by
 unfold xt;refine⟨by grind,fun r c=>?_⟩;rcases aiH.1 c with c|c
 ·grind
 grind
theorem fQ.mat{s:aI}{i:Nat}(h:fQ s i){v:Vdt}(c:(bQ s v).2.2=0):fQ (bQ s v).2.1 i:=by
 unfold bQ at *;split at c
 ·rename_i k d;have a:=Xd s.reqs k;exact⟨h.sto,aiK a.1 h.rq,fun r b=>h.ut r (a.2 r b),h.yl,h.tg⟩
 grind
theorem bP.boostV{s:ap}{i:Nat}(h:bP s i):bP (boostV s) i:=by
 unfold Go.Proofs.YtnjdpnfglgcjcaaGreat.boostV;split
 ·exact h.withB _
 omega
theorem fQ.verd{s:aI}{i:Nat}(h:fQ s i){v:Vdt}(d:(jW s v).2=0\/(jW s v).2=21):fQ (jW s v).1 i:=by
 unfold jW at *;split at d
 ·grind
 ·rename_i g
  rw[Fw g];have a:=h.mat (v:=v) (by omega);split at d
  ·rename_i c;rw[Fy c];exact a.later _
  ·rename_i c
   rw[Fw c];split at d
   ·rename_i b;rw[Fy b];exact⟨h.sto,h.rq,h.ut,h.yl,h.tg⟩
   ·rename_i b;rw[Fw b];unfold judgeV at *;have e:=Cl (show (gP (bQ s v).2.1.sto.nodes _ v _).2=0 by simpa using b);exact⟨(a.sto.judge e.1 e.2).boostV,a.rq,a.ut,a.yl,a.tg⟩
structure OpR(x:VOp):Prop where
 blk:np 0 x.blk
 att:aam x.att
 fst:x.slg.fst.vals.length<=10
 snd:x.slg.snd.vals.length<=10
 tab:x.tab.bals.length<=10
 tep:U64 x.tab.cp.ep
theorem fQ.perf{s:aI}{i:Nat}(h:fQ s i)(hi:i<30){x:VOp}(hx:OpR x)(h2:(eW s x).2=0\/(eW s x).2=21):fQ (eW s x).1 (i+1):=by
 have hu:=h.up (akt i) (by omega);unfold eW at *;split at h2
 ·rename_i h3
  rw[Fy h3];split at h2
  ·rename_i h4;rw[Fy h4];have ht:=h.sto.tick h4;have hq:nq (fw s (fk s.sto).1) i (10*i):=⟨ht,h.rq,h.ut,h.yl,h.tg⟩;have hd:=hq.drop.due;exact⟨hd.sto.up (akt i) (by omega),by have:=hd.rq;dsimp only;omega,hd.ut,hd.yl,hd.tg⟩
  ·rename_i h4;exact absurd h2 (by intro h5;rcases h5 with h5|h5;exact h4 h5;exact C0 _ h5)
 rename_i h3;rw[Fw h3];clear h3;split at h2
 ·rename_i h3
  rw[Fy h3];split at h2
  ·rename_i h4;rw[Fy h4];have ht:=h.sto.block (hx.blk.up (aix i)) h4;have hq:nq (fw s (di s.sto x.blk).1) i (10*i):=⟨ht.1,h.rq,h.ut,h.yl,h.tg⟩;have hd:=hq.drop.opens (di s.sto x.blk).2.1;have:=ht.2;exact⟨hd.sto.up (akt i) (by omega),by have:=hd.rq;dsimp only;omega,hd.ut,hd.yl,hd.tg⟩
  ·rename_i h4;exact absurd h2 (by intro h5;rcases h5 with h5|h5;exact h4 h5;exact uL _ _ h5)
 rename_i h3;rw[Fw h3];clear h3;split at h2
 ·rename_i h3;rw[Fy h3];exact⟨(h.sto.att hx.att (h2.resolve_right (GV _ _))).up (akt i) (by omega),hu.rq,hu.ut,hu.yl,hu.tg⟩
 rename_i h3;rw[Fw h3];clear h3;split at h2
 ·rename_i h3;rw[Fy h3];exact⟨h.sto.slash hx.fst hi (h2.resolve_right (xo _ _)),hu.rq,hu.ut,hu.yl,hu.tg⟩
 rename_i h3;rw[Fw h3];clear h3;split at h2
 ·rename_i h3;rw[Fy h3];exact⟨(h.sto.reg hx.tep (h2.resolve_right (IL _ _))).up (akt i) (by omega),hu.rq,hu.ut,hu.yl,hu.tg⟩
 rename_i h3;rw[Fw h3];clear h3;split at h2
 ·rename_i h3;rw[Fy h3];exact(h.verd h2).up (akt i) (by omega)
 omega
theorem fQ.emit{s:aI}{i:Nat}(h:fQ s i):fQ (io s).1 i:=by
 unfold io;split
 ·omega
 ·exact⟨h.sto,h.rq,h.ut,h.yl,h.tg⟩
theorem fQ.step{s:aI}{i:Nat}(h:fQ s i)(b:i<30){x:VOp}(c:OpR x):fQ (jq s x).1 (i+1):=by
 have g:=h.up (akt i) (by omega);unfold jq;split
 ·omega
 ·split
  ·omega
  ·split
   ·rename_i e;exact h.perf b c (.inr e)
   ·split
    ·omega
    ·exact(h.perf b c (.inl (by omega))).emit
theorem Sm.val{α:Type}{v:α}{F:α->Prop}(h:Sm (fun r=>r=v) F):F v:=by
 obtain⟨r,rfl,h⟩:=h;exact h
theorem aab(n:Nat):List.replicate n (al dL)=rows al (List.replicate n dL):=acs al n dL
theorem acF{fr:Fr}{σ:St}{rs:List gN}{l:List AV}{n:Int}{S:ap×Int}(hl:dH fr σ rs=some l)(hv:fz σ (List.range σ.length) (gk l)=.tup [.agg (aE kU),.int .i64 n])(hs:(jX,n)=S):
 Sm (fun r:ap×Int=>r=S) fun r=>PQ rs (.tup [.agg (aE r.1.a),.int .i64 r.2]) .ret fr σ:=
 ⟨(jX,n),hs,l,hl,.inr ⟨_,hv,(by simp[PuL,Pu,fy,kU,aE,eJ,mg,dI,ju,gV,ui,bW,cp0]),Wk.tup ⟨Qg,Wk.refl _,trivial⟩⟩⟩
theorem ae7(x:Sto)(p:Pul):spl (aE x) 47 (fD p)=aE { x with j:=p.j,f:=p.f }:=CZ x p.j p.f
theorem agK(x:Sto)(l:List (List AV)):Wk (.agg (aE { x with eqv:=.sl 0 true [],early:=.sl 0 true [],orph:=.sl 0 true [],tabs:=.sl 34 true l })) (.agg (aE { x with eqv:=.sl 1 false [],early:=.sl 67 false [],orph:=.sl 238 false [],tabs:=.sl 34 false l })):=by
 refine Wk.agg ?_;unfold aE;dsimp only;exact(WkC.refl _).app (.same _ (.cons (Wk.empty _ _ _) (fun h=>h) ((WkC.refl _).app ((WkC.refl _).app (.cons (Wk.empty _ _ _) (fun h=>h) (.cons (Wk.empty _ _ _) (fun h=>h) (.same _ (.same _ ((WkC.refl _).app (.one (Wk.open_ _ _ _) fun h=>h))))))))))
theorem aem(s:ap):PuL (aE { s.a with eqv:=.sl 0 true [],early:=.sl 0 true [],orph:=.sl 0 true [],tabs:=.sl 34 true (rows aW.c s.tabs) }):=by
 have h:=(uH _).1 s.pul;refine(uH _).2 ?_;simp only[Sto.Pure,Pu,fy,alq,alh]at *;simp[h,j8]
theorem RL(c:cU)(hb:c.bals.length<=2097152):PC Tryz.prog 108 [.agg (bW c.a)] (.tup [.agg (aE (O0 c).1.a),.int .i64 (O0 c).2]):=by
 refine Sm.val (F:=fun r:ap×Int=>PC Tryz.prog 108 [.agg (bW c.a)] (.tup [.agg (aE r.1.a),.int .i64 r.2])) ?_;refine md 9 Q5 (by simp) puA (fun r _=>puA) ?_;unfold EV;refine bd ?_;have c1:=xV ⟨⟨0,c.gen⟩,c.bals⟩ c.bals.length hb;have c2:=YH (adM c.gen) 1;have c3:=Hi ⟨⟨0,c.gen⟩,c.bals⟩ hb;generalize hV:gh ⟨⟨0,c.gen⟩,c.bals⟩ c.bals.length=V at *;have lt:∀ (a b:Int),decide (a > b)=decide (b<a):=fun _ _=>rfl
 iterate 5 (repeat'(first|refine cM ?_|(refine bR (fun h=>?_) (fun h=>?_)<;>try(exact absurd h (by decide)))|refine eo (fun h=>?_) (fun h=>?_));all_goals try refine db (TA _ _ _) ?_)
 repeat'(first|refine cM ?_|(refine bR (fun h=>?_) (fun h=>?_)<;>try(exact absurd h (by decide)))|refine eo (fun h=>?_) (fun h=>?_))
 all_goals try(refine acF (by first|rfl|exact evd) (by first|rfl|exact evd) ?_)
 rotate_left 2
 ·refine db c1 ?_
  repeat'(first|refine cM ?_|(refine bR (fun h=>?_) (fun h=>?_)<;>try(exact absurd h (by decide)))|refine eo (fun h=>?_) (fun h=>?_))
  ·refine acF (by first|rfl|exact evd) (by first|rfl|exact evd) ?_;(try simp only[akm,akh,aiA,aiC,aku,akz,aji,alf,ajL,akW,ajT,ajh,akc,ajY,aiB,akM]at *)
   (simp only[O0,ib, *,reduceIte,ak2,aiv,aiV,aiW,ajT,alh,alq,al3,al4,true_or,or_true,FO,al0,Int.reduceEq,aiG,aiO,eq_self,reduceCtorEq,alE,alQ,akF,ajd,alB,ajq,alo,alp,alG,aj9,akh,akm])
  ·refine dZ c2 ?_
   refine cM ?_;refine dZ c3 ?_;have hrep:List.replicate c.bals.length (al ⟨false,0,rt0⟩)=rows al (List.replicate c.bals.length dL):=aab _;have ht:List.take c.bals.length (rows al (List.replicate c.bals.length ⟨false,0,rt0⟩))=rows al (List.replicate c.bals.length ⟨false,0,rt0⟩):=aiw (by simp);repeat(first|refine cM ?_|simp only[go_sem,hrep,ae7])
   refine W3 (kO c,0) ?_ ⟨_,(by first|rfl|exact evd),.inr ⟨.tup [.agg (aE { (kO c).a with eqv:=.sl 0 true [],early:=.sl 0 true [],orph:=.sl 0 true [],tabs:=.sl 34 true (rows aW.c (kO c).tabs) }),.int .i64 0],?_,⟨aem _,trivial,trivial⟩,Wk.tup ⟨agK _ _,Wk.refl _,trivial⟩⟩⟩
   ·(try simp only[akm,akh,aiA,aiC,aku,akz,aji,alf,ajL,akW,ajT,ajh,akc,ajY,aiB,akM]at *)
    (simp only[O0,ib, *,reduceIte,ak2,aiv,aiV,aiW,ajT,alh,alq,al3,al4,true_or,or_true,FO,al0,Int.reduceEq,aiG,aiO,eq_self,reduceCtorEq,alE,alQ,akF,ajd,alB,ajq,alo,alp,alG,aj9,akh,akm])
   ·(try simp only[go_sem,Nat.reduceAdd,Nat.reduceSub,Nat.reduceMul,Nat.reduceLT,Nat.reduceLeDiff,Nat.reduceEqDiff,reduceIte,Int.reduceToNat,Int.reduceLT,Int.reduceLE,Int.reduceEq,Int.reduceNeg,reduceCtorEq,Int.reduceBEq,Int.reduceBNe,akH,ht])
    rfl
 all_goals(try simp only[akm,akh,aiA,aiC,aku,akz,aji,alf,ajL,akW,ajT,ajh,akc,ajY,aiB,akM]at *)
 all_goals(simp only[O0,ib, *,reduceIte,ak2,aiv,aiV,aiW,ajT,alh,alq,al3,al4,true_or,or_true,FO,al0,Int.reduceEq,aiG,aiO,eq_self,reduceCtorEq,alE,alQ,akF,ajd,alB,ajq,alo,alp,alG,aj9,akh,akm])
theorem zq(x:Sto)(v:AV):(aE x).set 113 v=aE { x with early:=v }:=by
 simp only[aE,akf,aU,aD,acv,Nat.reduceSub,Nat.reduceLT,aiG,aiR,aiQ]
theorem zp(x:Sto):(aE x).getD 113 .dead=x.early:=by
 simp only[aE,E3,aj2,aU,aD,acv,Nat.reduceSub,Nat.reduceLT,aiG,ajB,ajj,ajg]
end Go.Proofs.YtnjdpnfglgcjcaaGreat
