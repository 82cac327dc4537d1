/- Joined. -/
import Derived.Test.YtmpddimhleianaaGreatP4v
import Derived.Test.YtmpddimhleianaaGreatU2v
import Derived.Test.YtmpddimhleianaaGreatP1v
set_option linter.unusedVariables false
set_option linter.unusedSimpArgs false
namespace Go.Proofs.YtmpddimhleianaaGreat
open Go Go.FH Go.RowKit
theorem OL{t u:List Nod}(c:u.length=t.length)(b:∀k,(nod u k).up=(nod t k).up):∀ (f:Nat) (i:Int),uB u f i=uB t f i
 |0,_=>rfl
 | f + 1, i => by
   have d:isN u i=isN t i:=by unfold isN;grind
   unfold uB;rw[d,b,OL c b f]
theorem LF{t u:List Nod}(d:u.length=t.length)(f:∀k,(nod u k).up=(nod t k).up)(a b:Int):bw u a b=bw t a b:=by
 unfold bw aZ;rw[d,OL d f]
theorem StV.judge{s:af}(h:StV s){t:List Nod}(ht:TrV t)(hl:t.length=s.nodes.length)(hu:∀k,(nod t k).up=(nod s.nodes k).up/\(nod t k).blk=(nod s.nodes k).blk)(hj:(nod t (ab s.nodes s.j.rt).toNat).status≠2):StV (bQ s t):=by
 obtain⟨w,op⟩:=h;have hf:∀r,ab t r=ab s.nodes r:=fun r=>tc hl (fun k=>(hu k).2) r
 have hin:∀n∈t,∃m∈s.nodes,n.blk=m.blk:=fun n hn=>by
  obtain⟨k,hk,rfl⟩:=qD hn;exact⟨_,nj af0,(hu k).2⟩
 refine⟨⟨w.ne,ht,by have:=w.z1;show (t.length:Int)<=s.cfg.lim.node;omega,w.z2,w.z3,w.z4,?_,?_,?_,w.fj,w.tj,w.tv,w.ll,w.lv,w.qv,?_,w.nm,w.je,⟨w.ea.1,?_⟩,fun n hn=>?_,w.av,fun b hb=>?_,w.od⟩,fun b hb=>?_⟩
 ·show (nod t 0).blk.root=s.f.rt
  rw[(hu 0).2];exact w.fr
 ·show 0<=ab t s.j.rt
  rw[hf];exact w.jf
 ·show (nod t (ab t s.j.rt).toNat).status≠2
  grind
 ·show s.boost=rt0\/0<=ab t s.boost
  rw[hf];exact w.bo
 ·show (nod t 0).blk.slot<=_
  rw[(hu 0).2];exact w.ea.2
 ·obtain⟨m,h1,h2⟩:=hin n hn;rw[h2];exact w.nd m h1
 ·obtain⟨a1,a2,a3,a4,a5⟩:=w.ob b hb;exact⟨a1,by show ab t b.root<0;grind,a3,a4,a5⟩
 ·show ab t b.parent<0
  rw[hf];exact op b hb
theorem StV.boostV{s:af}(h:StV s):StV (boostV s):=by
 unfold Go.Proofs.YtmpddimhleianaaGreat.boostV;split
 ·exact⟨h.w.withB (.inl rfl),h.op⟩
 omega
theorem StV.judgeV{s:af}(h:StV s){r:Rt}{v:Vdt}(h2:(judgeV s r v).2=0):StV (bQ s (judgeV s r v).1):=by
 unfold Go.Proofs.YtmpddimhleianaaGreat.judgeV at *;have hup:=pN h2;obtain⟨j1,_⟩:=dD h.w.jf;have hJ:(((ab s.nodes s.j.rt).toNat:Nat):Int)=ab s.nodes s.j.rt:=afW h.w.jf;generalize ab s.nodes r=i at *
 have key:TrV (dR s.nodes i v [ab s.nodes s.j.rt,ab s.nodes s.f.rt]).1/\(nod (dR s.nodes i v [ab s.nodes s.j.rt,ab s.nodes s.f.rt]).1 (ab s.nodes s.j.rt).toNat).status≠2:=by
  clear hup;unfold dR at *;by_cases q1:isN s.nodes i=false
  ·grind
  rw[afx q1]at h2 ⊢;by_cases q2:v.kind=1
  ·rw[afA q2]at h2 ⊢;obtain⟨a,_,b⟩:=h.w.tree.raise h2;exact⟨a,fun hh=>h.w.ji (b _ j1 hh)⟩
  rw[afx q2]at h2 ⊢;by_cases q3:v.kind=3\/v.kind=4
  ·rw[afA q3];exact⟨h.w.tree,h.w.ji⟩
  rw[afx q3]at h2 ⊢;by_cases q4:v.kind≠2
  ·grind
  rw[afx q4]at h2 ⊢;by_cases q5:(cm (fun k=>bw s.nodes (dh s.nodes i v.latest).2 ([ab s.nodes s.j.rt,ab s.nodes s.f.rt].getD k 0)) [ab s.nodes s.j.rt,ab s.nodes s.f.rt].length).isSome=true
  ·grind
  rw[afx q5]at h2 ⊢
  have hna:bw s.nodes (dh s.nodes i v.latest).2 (ab s.nodes s.j.rt)=false:=by
   cases hf:cm (fun k=>bw s.nodes (dh s.nodes i v.latest).2 ([ab s.nodes s.j.rt,ab s.nodes s.f.rt].getD k 0)) [ab s.nodes s.j.rt,ab s.nodes s.f.rt].length with
   |some k=>grind
   |none=>exact fh hf 0 af1
  by_cases q6:0<=(dh s.nodes i v.latest).1
  ·rw[afA q6]at h2 ⊢;by_cases q7:(bL s.nodes (dh s.nodes i v.latest).1).2≠0
   ·rw[afA q7]at h2;exact absurd h2 q7
   rw[afx q7]at h2 ⊢;have q7:(bL s.nodes (dh s.nodes i v.latest).1).2=0:=by simpa using q7
   obtain⟨a,_,b⟩:=h.w.tree.raise q7;obtain⟨u1,u2⟩:=pW q7;obtain⟨c,_,d⟩:=a.cond h2;refine⟨c,fun hh=>?_⟩;rcases d _ (by rw[u1];exact j1) hh with h3|h3
   ·exact h.w.ji (b _ j1 h3)
   ·rw[hJ,LF u1 fun k=>(u2 k).1,hna]at h3;cases h3
  ·rw[afx q6]at h2 ⊢;obtain⟨c,_,d⟩:=h.w.tree.cond h2;refine⟨c,fun hh=>?_⟩;rcases d _ j1 hh with h3|h3
   ·exact h.w.ji h3
   ·rw[hJ,hna]at h3;cases h3
 exact h.judge key.1 hup.1 hup.2 key.2
theorem tp(s:al)(l:List Rt):(jT s l).sto=s.sto:=by
 refine dp (f:=fX l) (a:=s) (fun _ t=>t.sto=s.sto) rfl l.length (fun k t e c=>?_) _ (afE _);unfold fX;split
 ·exact c
 omega
theorem Ab(s:al):(tK s).sto=s.sto:=by
 refine dp (f:=oD s.rets) (a:=fw s []) (fun _ t=>t.sto=s.sto) rfl s.rets.length (fun k t e c=>?_) _ (afE _);unfold oD;split
 ·exact c
 ·split
  ·exact c
  omega
theorem tf(s:al)(r:Req):(gZ s r).sto=s.sto:=by
 unfold gZ;split
 ·rfl
 ·split<;>rfl
theorem rT(s:al):(dC s).1.sto=s.sto:=by unfold dC;grind
theorem j8{s:al}{v:Vdt}(h:(aL s v).2.2=0):(aL s v).2.1.sto=s.sto:=by
 unfold aL at *;cases d:cm (fun i=>decide ((aO s.reqs i).tag=v.tag)) s.reqs.length with
 |some i=>rfl
 |none=>grind
theorem StV.verd{s:al}(h:StV s.sto){v:Vdt}(c:(eg s v).2=0\/(eg s v).2=21):StV (eg s v).1.sto:=by
 unfold eg at *;by_cases g:(aL s v).2.2≠0
 ·grind
 rw[afx g]at c ⊢;have e:=j8 (s:=s) (v:=v) af0;by_cases f:v.kind=3\/v.kind=4
 ·rw[afA f];rw[tf,e];omega
 rw[afx f]at c ⊢;by_cases d:(Go.Proofs.YtmpddimhleianaaGreat.judgeV (aL s v).2.1.sto (aL s v).1.block v).2≠0
 ·grind
 rw[afx d];rw[e]at d ⊢;exact(h.judgeV af0).boostV
theorem StV.perf{s:al}{i:Nat}(h:StV s.sto)(hI:bi s.sto i){x:VOp}(hx:OpR x)(h2:(de s x).2=0\/(de s x).2=21):StV (de s x).1.sto:=by
 unfold de at *;by_cases q1:x.kind=1
 ·rw[afA q1]at h2 ⊢
  by_cases q:(dF s.sto).2=0
  ·rw[afA q];rw[Ab];exact h.tick hI q
  ·rw[afx q]at h2;exact absurd h2 (by intro h5;rcases h5 with h5|h5;exact q h5;exact qM _ h5)
 rw[afx q1]at h2 ⊢;by_cases q2:x.kind=2
 ·rw[afA q2]at h2 ⊢
  by_cases q:(bR s.sto x.blk).2.2=0
  ·rw[afA q];rw[tp];exact h.block hI (hx.blk.up (afK i)) q
  ·rw[afx q]at h2;exact absurd h2 (by intro h5;rcases h5 with h5|h5;exact q h5;exact nM _ _ h5)
 rw[afx q2]at h2 ⊢;by_cases q3:x.kind=3
 ·rw[afA q3]at h2 ⊢;exact h.att (h2.resolve_right (uR _ _))
 rw[afx q3]at h2 ⊢;by_cases q4:x.kind=4
 ·rw[afA q4]at h2 ⊢;exact h.slash (h2.resolve_right (oh _ _))
 rw[afx q4]at h2 ⊢;by_cases q5:x.kind=5
 ·rw[afA q5]at h2 ⊢;exact h.reg (h2.resolve_right (vd _ _))
 rw[afx q5]at h2 ⊢;by_cases q6:x.kind=6
 ·rw[afA q6]at h2 ⊢;exact h.verd h2
 grind
theorem StV.step{s:al}{i:Nat}(h:StV s.sto)(b:bi s.sto i){x:VOp}(a:OpR x):StV (bV s x).1.sto:=by
 unfold bV;split
 ·omega
 ·split
  ·omega
  ·split
   ·rename_i e;exact h.perf b a (.inr e)
   ·split
    ·omega
    ·rw[rT];exact h.perf b a (.inl af0)
theorem StV.new{c:cI}(h:gF c=0):StV (eG c):=by
 have hp:=Ct h
 have hz:gF c=0/\(1:Int)<=c.lim.node/\0<=c.lim.orph/\0<=c.lim.early/\(1:Int)<=c.lim.table/\c.gen≠rt0/\fY ⟨⟨0,c.gen⟩,c.bals⟩ c.bals.length=0:=by
  refine⟨h,?_⟩;unfold gF at h;by_cases q1:c.spe<1
  ·omega
  rw[afx q1]at h;by_cases q2:64<c.spe
  ·omega
  rw[afx q2]at h;by_cases q3:100<c.boost
  ·omega
  rw[afx q3]at h;by_cases q4:1024<(c.bals.length:Int)
  ·omega
  rw[afx q4]at h;by_cases q5:wit c.lim.node 1 4096=false
  ·grind
  rw[afx q5]at h;by_cases q6:wit c.lim.orph 0 64=false
  ·grind
  rw[afx q6]at h;by_cases q7:wit c.lim.early 0 256=false
  ·grind
  rw[afx q7]at h;by_cases q8:wit c.lim.table 1 64=false
  ·grind
  rw[afx q8]at h;by_cases q9:wit c.lim.retry 0 256=false
  ·grind
  rw[afx q9]at h;by_cases q10:c.lim.backoff<1
  ·omega
  rw[afx q10]at h;by_cases q11:1048576<c.lim.backoff
  ·omega
  rw[afx q11]at h;by_cases q12:c.gen=rt0
  ·grind
  rw[afx q12]at h;unfold wit at q5 q6 q7 q8;grind
 obtain⟨_,n1,n2,n3,n4,hg,hv⟩:=hz;have one:∀i,i<(eG c).nodes.length->i=0:=fun i hi=>by have:i<1:=hi;omega
 have hfind:ab (eG c).nodes c.gen=0:=by
  have h1:=j5 (t:=(eG c).nodes) (k:=0) (r:=c.gen) aeI rfl;obtain⟨h2,_⟩:=dD h1;have:=one _ h2;omega
 have hst:cH 0 c.spe=(0,0):=by
  unfold cH nS;rw[ax hp.1,ax hp.2];show Cs 0 c.spe=_
  unfold Cs;rw[afx]
  ·rw[Int.zero_mul];rfl
  ·rintro⟨h1,h2⟩;have:Int.tdiv 18446744073709551615 c.spe=18446744073709551615 / c.spe:=acy af2;rw[lj]at h2;omega
 have tr:TrV (eG c).nodes:=⟨aeI,fun i hi=>by rw[one i hi];exact⟨show (0:Int)<=1 by decide,show (1:Int)<=2 by decide⟩,rfl,fun i h0 hi=>by have:=one i hi;omega,fun i j hij hj=>by have:=one j hj;omega,fun i h0 hi=>by have:=one i hi;omega,fun i h0 hi=>by have:=one i hi;omega,
  fun i h0 hi=>by have:=one i hi;omega,fun i h0 hi=>by have:=one i hi;omega,fun i hi _=>by rw[one i hi];rfl⟩
 have hep:∀n,dg (eG c) n=IntKind.u64.wrap (Int.tdiv n c.spe):=fun _=>rfl
 have he0:dg (eG c) 0=0:=by rw[hep,Int.zero_tdiv];rfl
 refine⟨⟨h,tr,n1,n2,n3,n4,rfl,?_,?_,afT _,⟨_,afN.2 rfl,rfl⟩,⟨fun t ht=>?_,by show List.Pairwise _ [_];simp⟩,by show (List.replicate _ _).length=_;simp;rfl,fun v hv hh=>?_,.inl rfl,.inl rfl,by show (0:Int)<=_;decide,?_,?_,fun n hn=>?_,fun a ha=>(by cases ha),fun b hb=>(by cases hb),List.Pairwise.nil⟩,fun b hb=>(by cases hb)⟩
 ·show 0<=ab (eG c).nodes c.gen
  rw[hfind];exact afT _
 ·show (nod (eG c).nodes (ab (eG c).nodes c.gen).toNat).status≠2
  rw[hfind];show (1:Int)≠2;decide
 ·rw[afN.1 ht];exact hv
 ·rw[aeD hv]
 ·show (0:Int)<=dg (eG c) 0
  rw[he0];exact afT _
 ·show (cH 0 c.spe).2=0/\(0:Int)<=(cH 0 c.spe).1
  rw[hst];exact⟨rfl,afT _⟩
 ·rw[afN.1 hn];refine⟨afT _,?_⟩;unfold mw;show (decide ((0:Int)<=0)&&decide ((0:Int)<=0)&&decide ((0:Int)<=0)&&decide ((0:Int)<=0)&&decide ((0:Int)<=dg (eG c) 0))=true
  rw[he0];rfl
structure mY(s u:af):Prop where
 c:u.cfg=s.cfg
 t:∀x∈u.tabs,x∈s.tabs
 n:u.now=s.now
 j:s.j.ep<=u.j.ep
 f:s.f.ep<=u.f.ep
theorem mY.refl(s:af):mY s s:=⟨rfl,fun x hx=>hx,rfl,afT _,afT _⟩
theorem mY.trans{s t u:af}(h:mY s t)(g:mY t u):mY s u:=⟨g.c.trans h.c,fun x hx=>h.t x (g.t x hx),g.n.trans h.n,adK h.j g.j,adK h.f g.f⟩
theorem HR(a b:Cp):a.ep<=(eU a b).ep:=by unfold eU;grind
theorem Pb(s:af)(j f:Cp):s.j.ep<=(dw s j f).j.ep/\s.f.ep<=(dw s j f).f.ep:=by
 unfold dw;(repeat' split)<;>first|omega|exact⟨HR _ _,HR _ _⟩
theorem AC(s:af)(j f:Cp):mY s (dw s j f):=⟨IR s j f,(Lk s j f).2,Pc s j f,(Pb s j f).1,(Pb s j f).2⟩
theorem IL(s:af)(b:Blk):mY s (gE s b):=by
 have c:mY s (bQ s (eZ s.nodes b (cC b)).1):=⟨rfl,fun x d=>d,rfl,afT _,afT _⟩;unfold gE;split
 ·exact(c.trans (AC _ _ _)).trans (AC _ _ _)
 ·exact c.trans (AC _ _ _)
theorem R7(p:af×List Rt):mY p.1 (waitR p).1:=by
 have e:mY p.1 (withO p.1 (takeO p.1.orph (bW p.1).toNat)):=⟨rfl,fun x d=>d,rfl,afT _,afT _⟩;have f:=e.trans (IL (withO p.1 (takeO p.1.orph (bW p.1).toNat)) (cU p.1.orph (bW p.1).toNat));unfold waitR;grind
theorem GO:∀ (f:Nat) (p:af×List Rt),mY p.1 (waitG f p).1
 |0,p=>mY.refl _
 | f + 1, p => by
   unfold waitG;split
   ·exact mY.refl _
   ·exact(R7 p).trans (GO f _)
theorem yC{s:af}{b:Blk}(h:(bR s b).2.2=0):mY s (bR s b).1:=by
 unfold bR at *;by_cases h3:bG s b=10
 ·rw[afA h3]at h ⊢;by_cases h4:s.cfg.lim.orph<=s.orph.length
  ·grind
  ·rw[afx h4];exact⟨rfl,fun x hx=>hx,rfl,afT _,afT _⟩
 ·rw [afx h3] at h ⊢
  by_cases h4:bG s b≠0
  ·grind
  ·rw[afx h4]
   have h5:mY s (blockI s b):=by
    unfold blockI;split
    ·exact(IL s b).trans ⟨rfl,fun x hx=>hx,rfl,afT _,afT _⟩
    ·exact IL s b
   exact h5.trans (GO _ (blockI s b,[b.root]))
theorem Dn{s:af}(h:(dF s).2=0):mY (tickA s) (dF s).1:=by
 unfold dF at *;split at h
 ·omega
 ·rename_i g
  rw[afx g]
  have e:mY (tickA s) (tickB (tickA s)):=by
   unfold tickB;split
   ·exact AC _ _ _
   ·exact mY.refl _
  refine e.trans ?_;generalize tickB (tickA s)=t;refine dp (f:=tickR t.early) (a:=withE t []) (fun _ u=>mY t u) ⟨rfl,fun x c=>c,rfl,afT _,afT _⟩ t.early.length (fun k u i d=>?_) _ (afE _);unfold tickR;split
  ·exact d.trans ⟨rfl,fun x c=>c,rfl,afT _,afT _⟩
  ·split
   ·exact d.trans ⟨rfl,fun x c=>c,rfl,afT _,afT _⟩
   omega
theorem O3{s:af}{a:aX}(h:(kH s a).2=0):mY s (kH s a).1:=by
 unfold kH at *;split at h
 ·omega
 ·rename_i e
  rw[afx e];split at h
  ·rename_i c;rw[afA c];exact⟨rfl,fun x d=>d,rfl,afT _,afT _⟩
  ·rename_i c;rw[afx c];split at h
   ·omega
   ·rename_i f;rw[afx f];exact⟨rfl,fun x d=>d,rfl,afT _,afT _⟩
theorem GN{s:af}{x:gi}(h:(d7 s x).2=0):mY s (d7 s x).1:=by
 unfold d7 at *;split at h
 ·omega
 ·rename_i c;rw[afx c];split at h
  ·omega
  ·rename_i d;rw[afx d];exact⟨rfl,fun x b=>b,rfl,afT _,afT _⟩
structure o0(s:af):Prop where
 tb:∀t∈s.tabs,∀x∈t.bals,0<=x/\x<18446744073709551616
 cb:∀x∈s.cfg.bals,0<=x/\x<18446744073709551616
theorem o0.sub{s t:af}(h:o0 s)(g:mY s t):o0 t:=⟨fun x a=>h.tb x (g.t x a),by rw[g.c];exact h.cb⟩
theorem o0.reg{s:af}(h:o0 s){t:aB}(g:∀x∈t.bals,0<=x/\x<18446744073709551616)(b:(iL s t).2=0):o0 (iL s t).1:=by
 unfold iL at *;split at b
 ·omega
 ·rename_i d
  rw[afx d];split at b
  ·omega
  ·rename_i f
   rw[afx f];split at b
   ·omega
   ·rename_i e
    rw[afx e];refine⟨fun x a=>?_,h.cb⟩
    have:x∈s.tabs\/x=t:=by
     have a:x∈(ib s.tabs t s.cfg.bals.length s.cfg.lim.table).1:=a;unfold ib at a;split at a
     ·omega
     ·split at a
      ·grind
      ·split at a
       ·grind
       ·exact uQ _ _ x a
    rcases this with c|rfl
    ·exact h.tb x c
    omega
theorem o0.perf{s:al}(h:o0 s.sto){x:VOp}(hx:∀y∈x.tab.bals,0<=y/\y<18446744073709551616)(h2:(de s x).2=0\/(de s x).2=21):o0 (de s x).1.sto:=by
 unfold de at *;by_cases q1:x.kind=1
 ·rw[afA q1]at h2 ⊢
  by_cases q:(dF s.sto).2=0
  ·rw[afA q];show o0 (tK (fE (cy s (dF s.sto).1))).sto
   rw[Ab];exact(⟨h.tb,h.cb⟩:o0 (tickA s.sto)).sub (Dn q)
  ·rw[afx q]at h2;exact absurd h2 (by intro h5;rcases h5 with h5|h5;exact q h5;exact qM _ h5)
 rw[afx q1]at h2 ⊢;by_cases q2:x.kind=2
 ·rw[afA q2]at h2 ⊢
  by_cases q:(bR s.sto x.blk).2.2=0
  ·rw[afA q];show o0 (jT (fE (cy s (bR s.sto x.blk).1)) (bR s.sto x.blk).2.1).sto
   rw[tp];exact h.sub (yC q)
  ·rw[afx q]at h2;exact absurd h2 (by intro h5;rcases h5 with h5|h5;exact q h5;exact nM _ _ h5)
 rw[afx q2]at h2 ⊢;by_cases q3:x.kind=3
 ·rw[afA q3]at h2 ⊢;exact h.sub (O3 (h2.resolve_right (uR _ _)))
 rw[afx q3]at h2 ⊢;by_cases q4:x.kind=4
 ·rw[afA q4]at h2 ⊢;exact h.sub (GN (h2.resolve_right (oh _ _)))
 rw[afx q4]at h2 ⊢;by_cases q5:x.kind=5
 ·rw[afA q5]at h2 ⊢;exact h.reg hx (h2.resolve_right (vd _ _))
 rw[afx q5]at h2 ⊢;by_cases q6:x.kind=6
 ·rw[afA q6]at h2 ⊢
  unfold eg at *;by_cases p1:(aL s x.vdt).2.2≠0
  ·rw[afA p1];exact h
  rw[afx p1]at h2 ⊢;have hm:=j8 (s:=s) (v:=x.vdt) (by simpa using p1);by_cases p2:x.vdt.kind=3\/x.vdt.kind=4
  ·rw[afA p2];show o0 (gZ (aL s x.vdt).2.1 (aL s x.vdt).1).sto
   rw[tf,hm];exact h
  rw[afx p2]at h2 ⊢;by_cases p3:(Go.Proofs.YtmpddimhleianaaGreat.judgeV (aL s x.vdt).2.1.sto (aL s x.vdt).1.block x.vdt).2≠0
  ·rw[afA p3];exact h
  rw[afx p3,hm];refine h.sub ?_;show mY s.sto (boostV (bQ s.sto _))
  unfold boostV;split
  ·exact⟨rfl,fun x hx=>hx,rfl,afT _,afT _⟩
  ·exact⟨rfl,fun x hx=>hx,rfl,afT _,afT _⟩
 grind
theorem o0.step{s:al}(h:o0 s.sto){x:VOp}(a:∀y∈x.tab.bals,0<=y/\y<18446744073709551616):o0 (bV s x).1.sto:=by
 unfold bV;split
 ·omega
 ·split
  ·omega
  ·split
   ·rename_i d;exact h.perf a (.inr d)
   ·split
    ·omega
    ·rw[rT];exact h.perf a (.inl af0)
theorem Xy{s:af}{t:aB}(b:(iL s t).2=0):(iL s t).1.now=s.now/\(iL s t).1.j=s.j/\(iL s t).1.f=s.f:=by
 unfold iL at *;split at b
 ·omega
 ·rename_i e
  rw[afx e];split at b
  ·omega
  ·rename_i g
   rw[afx g];split at b
   ·omega
   ·rename_i c;rw[afx c];exact⟨rfl,rfl,rfl⟩
theorem UU{s:af}(c:U64 s.now)(h:(dF s).2=0):(dF s).1.now=s.now+1:=by
 rw[(Dn h).n];have b:¬1099511627776<=s.now:=fun b=>by unfold dF at h;grind
 have:=c.lo;show IntKind.u64.wrap (s.now+1)=_
 rw[aC af0 af0]
theorem Ke{s:al}(hn:U64 s.sto.now){x:VOp}(h2:(de s x).2=0\/(de s x).2=21):(de s x).1.sto.now<=s.sto.now+1:=by
 unfold de at *;by_cases q1:x.kind=1
 ·rw[afA q1]at h2 ⊢
  by_cases q:(dF s.sto).2=0
  ·rw[afA q];show (tK (fE (cy s (dF s.sto).1))).sto.now<=_
   rw[Ab];show (dF s.sto).1.now<=_
   rw[UU hn q];omega
  ·rw[afx q]at h2;exact absurd h2 (by intro h5;rcases h5 with h5|h5;exact q h5;exact qM _ h5)
 rw[afx q1]at h2 ⊢;by_cases q2:x.kind=2
 ·rw[afA q2]at h2 ⊢
  by_cases q:(bR s.sto x.blk).2.2=0
  ·rw[afA q];show (jT (fE (cy s (bR s.sto x.blk).1)) (bR s.sto x.blk).2.1).sto.now<=_
   rw[tp];have:=(yC q).n;show (bR s.sto x.blk).1.now<=_
   omega
  ·rw[afx q]at h2;exact absurd h2 (by intro h5;rcases h5 with h5|h5;exact q h5;exact nM _ _ h5)
 rw[afx q2]at h2 ⊢;by_cases q3:x.kind=3
 ·rw[afA q3]at h2 ⊢;have:=(O3 (h2.resolve_right (uR _ _))).n;show (kH s.sto x.att).1.now<=_
  omega
 rw[afx q3]at h2 ⊢;by_cases q4:x.kind=4
 ·rw[afA q4]at h2 ⊢;have:=(GN (h2.resolve_right (oh _ _))).n;show (d7 s.sto x.slg).1.now<=_
  omega
 rw[afx q4]at h2 ⊢;by_cases q5:x.kind=5
 ·rw[afA q5]at h2 ⊢;have:=(Xy (h2.resolve_right (vd _ _))).1;show (iL s.sto x.tab).1.now<=_
  omega
 rw[afx q5]at h2 ⊢;by_cases q6:x.kind=6
 ·rw[afA q6]at h2 ⊢
  unfold eg at *;by_cases p1:(aL s x.vdt).2.2≠0
  ·rw[afA p1];show s.sto.now<=_;omega
  rw[afx p1]at h2 ⊢;have hm:=j8 (s:=s) (v:=x.vdt) (by simpa using p1);by_cases p2:x.vdt.kind=3\/x.vdt.kind=4
  ·rw[afA p2];show (gZ (aL s x.vdt).2.1 (aL s x.vdt).1).sto.now<=_
   rw[tf,hm];omega
  rw[afx p2]at h2 ⊢;by_cases p3:(Go.Proofs.YtmpddimhleianaaGreat.judgeV (aL s x.vdt).2.1.sto (aL s x.vdt).1.block x.vdt).2≠0
  ·rw[afA p3];show s.sto.now<=_;omega
  rw[afx p3,hm];show (boostV (bQ s.sto _)).now<=_
  unfold boostV;split<;>(show s.sto.now<=_;omega)
 rw[afx q6];show s.sto.now<=_;omega
theorem UT{s:al}(b:U64 s.sto.now)(x:VOp):(bV s x).1.sto.now<=s.sto.now+1:=by
 unfold bV;split
 ·grind
 ·split
  ·grind
  ·split
   ·rename_i e;exact Ke b (.inr e)
   ·split
    ·grind
    ·rw[rT];exact Ke b (.inl af0)
theorem Wm{s:af}{i:Nat}(h:bi s i)(d:o0 s):Ly s:=by
 have b:=h.r;exact⟨b.bn,b.bl,b.be,b.bt,b.bb,d.tb,b.bo,b.ba,fun a f=>by have:=(h.av a f).len;omega,by have:=h.cfg.b1;omega,d.cb,h.uf⟩
theorem StV.valC{s:af}(h:StV s):rC s:=by
 refine⟨h.w.fr,h.w.jf,h.w.ji,h.w.fj,?_,?_,?_,h.w.bo,h.w.nm,h.w.je,?_,?_,?_⟩
 ·obtain⟨t,h1,h2⟩:=h.w.tj;rw[<-h2];exact IP h1
 ·refine vZ.2 fun i _ hi=>?_
  have hi:i<s.tabs.length:=af0
  unfold mO;rw[afx,afx (fun hh=>hh (h.w.tv.1 _ (cR _ hi)))];rintro⟨h0,h1⟩;have h2:=acY.1 h.w.tv.2 (i-1) i af0 hi af0;unfold tab at h1;grind
 ·rw [ax h.w.ll, acD]
  have hn:cm (fun i=>!(vot s.latest i).has&&decide (vot s.latest i≠eY)) s.latest.length=none:=by
   cases hf:cm (fun i=>!(vot s.latest i).has&&decide (vot s.latest i≠eY)) s.latest.length with
   |none=>rfl
   | some k =>
     obtain⟨h1,h2,_⟩:=cJ hf;simp only[afL,ad3,afJ]at h2;exact absurd (h.w.lv _ (cR _ h1) h2.1) h2.2
  rw[hn];rcases h.w.qv with h1|h1
  ·grind
  grind
 ·unfold lI di;rw[show ((0:Int).toNat)=0 from rfl,ax h.w.ea.2,aeT]
 ·have hn:cm (fun i=>decide (s.now<(nod s.nodes i).blk.slot) || !mw s (nod s.nodes i).blk) s.nodes.length=none:=by
   cases hf:cm (fun i=>decide (s.now<(nod s.nodes i).blk.slot) || !mw s (nod s.nodes i).blk) s.nodes.length with
   |none=>rfl
   | some k =>
     obtain⟨h1,h2,_⟩:=cJ hf;obtain⟨h3,h4⟩:=h.w.nd _ (nj h1);grind
  rw[hn];rfl
 ·unfold vb;rw[afL,afJ,afJ];refine⟨vZ.2 fun i _ hi=>h.w.av _ (cR _ af0),vZ.2 fun i _ hi=>?_⟩;have hi:i<s.orph.length:=af0
  have hm:cU s.orph i∈s.orph:=cR _ hi;obtain⟨a1,a2,a3,a4,a5⟩:=h.w.ob _ hm;refine U8 a1 af0 (by have:=h.op _ hm;omega) a3 af0 af0 (fun hh=>?_);obtain⟨b,hb,he⟩:=acz.1 hh;obtain⟨k,hk,hk2⟩:=adt.1 hb;have:=acY.1 h.w.od k i af0 hi af0;rw[hk2]at this;unfold cU at he;grind
theorem StV.val{s:af}(h:StV s)(c:s.cfg.lim.node<=4096)(b:U64 s.f.ep)(a:U64 s.now):oz s=0:=
 (Wl h.w.ne (h.w.tree.statV (by have:=h.w.z1;omega)) (by have:=h.w.z1;omega) (by have:=h.w.z2;omega) (by have:=h.w.z3;omega) (by have:=h.w.z4;omega) b a).1 h.valC
end Go.Proofs.YtmpddimhleianaaGreat
