/- Joined. -/
import Derived.Test.YtmpddimhleianaaGreatP4
import Derived.Test.YtmpddimhleianaaGreatU2
import Derived.Test.YtmpddimhleianaaGreatP1
set_option linter.unusedVariables false
set_option linter.unusedSimpArgs false
namespace Go.Proofs.YtmpddimhleianaaGreat
open Go Go.FH Go.RowKit
theorem E8{t u:List Nod}(c:u.length=t.length)(b:∀k,(nod u k).up=(nod t k).up):∀ (f:Nat) (i:Int),zi u f i=zi t f i
 |0,_=>rfl
 | f + 1, i => by
   have d:isN u i=isN t i:=by unfold isN;grind
   unfold zi;rw[d,b,E8 c b f]
theorem Mt{t u:List Nod}(d:u.length=t.length)(f:∀k,(nod u k).up=(nod t k).up)(a b:Int):eh u a b=eh t a b:=by
 unfold eh AI;rw[d,E8 d f]
theorem StV.judge{s:ap}(h:StV s){t:List Nod}(ht:TrV t)(hl:t.length=s.nodes.length)(hu:∀k,(nod t k).up=(nod s.nodes k).up/\(nod t k).blk=(nod s.nodes k).blk)(hj:(nod t (aj s.nodes s.j.rt).toNat).status≠2):StV (dD s t):=by
 obtain⟨w,op⟩:=h;have hf:∀r,aj t r=aj s.nodes r:=fun r=>tT hl (fun k=>(hu k).2) r
 have hin:∀n∈t,∃m∈s.nodes,n.blk=m.blk:=fun n hn=>by
  obtain⟨k,hk,rfl⟩:=Ct hn;exact⟨_,Cw WL,(hu k).2⟩
 refine⟨⟨w.ne,ht,by have:=w.z1;show (t.length:Int)<=s.cfg.lim.node;omega,w.z2,w.z3,w.z4,?_,?_,?_,w.fj,w.tj,w.tv,w.ll,w.lv,w.qv,?_,w.nm,w.je,⟨w.ea.1,?_⟩,fun n hn=>?_,w.av,fun b hb=>?_,w.od⟩,fun b hb=>?_⟩
 ·show (nod t 0).blk.root=s.f.rt
  rw[(hu 0).2];exact w.fr
 ·show 0<=aj t s.j.rt
  rw[hf];exact w.jf
 ·show (nod t (aj t s.j.rt).toNat).status≠2
  grind
 ·show s.boost=rt0\/0<=aj t s.boost
  rw[hf];exact w.bo
 ·show (nod t 0).blk.slot<=_
  rw[(hu 0).2];exact w.ea.2
 ·obtain⟨m,h1,h2⟩:=hin n hn;rw[h2];exact w.nd m h1
 ·obtain⟨a1,a2,a3,a4,a5⟩:=w.ob b hb;exact⟨a1,by show aj t b.root<0;grind,a3,a4,a5⟩
 ·show aj t b.parent<0
  rw[hf];exact op b hb
theorem StV.boostV{s:ap}(h:StV s):StV (boostV s):=by
 unfold Go.Proofs.YtmpddimhleianaaGreat.boostV;split
 ·exact⟨h.w.withB (.inl rfl),h.op⟩
 omega
theorem StV.judgeV{s:ap}(h:StV s){r:Rt}{v:Vdt}(h2:(judgeV s r v).2=0):StV (dD s (judgeV s r v).1):=by
 unfold Go.Proofs.YtmpddimhleianaaGreat.judgeV at *;have hup:=sN h2;obtain⟨j1,_⟩:=dO h.w.jf;have hJ:(((aj s.nodes s.j.rt).toNat:Nat):Int)=aj s.nodes s.j.rt:=amC h.w.jf;generalize aj s.nodes r=i at *
 have key:TrV (iT s.nodes i v [aj s.nodes s.j.rt,aj s.nodes s.f.rt]).1/\(nod (iT s.nodes i v [aj s.nodes s.j.rt,aj s.nodes s.f.rt]).1 (aj s.nodes s.j.rt).toNat).status≠2:=by
  clear hup;unfold iT at *;by_cases q1:isN s.nodes i=false
  ·grind
  rw[al5 q1]at h2 ⊢;by_cases q2:v.kind=1
  ·rw[al7 q2]at h2 ⊢;obtain⟨a,_,b⟩:=h.w.tree.raise h2;exact⟨a,fun hh=>h.w.ji (b _ j1 hh)⟩
  rw[al5 q2]at h2 ⊢;by_cases q3:v.kind=3\/v.kind=4
  ·rw[al7 q3];exact⟨h.w.tree,h.w.ji⟩
  rw[al5 q3]at h2 ⊢;by_cases q4:v.kind≠2
  ·grind
  rw[al5 q4]at h2 ⊢;by_cases q5:(dW (fun k=>eh s.nodes (iY s.nodes i v.latest).2 ([aj s.nodes s.j.rt,aj s.nodes s.f.rt].getD k 0)) [aj s.nodes s.j.rt,aj s.nodes s.f.rt].length).isSome=true
  ·grind
  rw[al5 q5]at h2 ⊢
  have hna:eh s.nodes (iY s.nodes i v.latest).2 (aj s.nodes s.j.rt)=false:=by
   cases hf:dW (fun k=>eh s.nodes (iY s.nodes i v.latest).2 ([aj s.nodes s.j.rt,aj s.nodes s.f.rt].getD k 0)) [aj s.nodes s.j.rt,aj s.nodes s.f.rt].length with
   |some k=>grind
   |none=>exact iL hf 0 WM
  by_cases q6:0<=(iY s.nodes i v.latest).1
  ·rw[al7 q6]at h2 ⊢;by_cases q7:(fD s.nodes (iY s.nodes i v.latest).1).2≠0
   ·rw[al7 q7]at h2;exact absurd h2 q7
   rw[al5 q7]at h2 ⊢;have q7:(fD s.nodes (iY s.nodes i v.latest).1).2=0:=by simpa using q7
   obtain⟨a,_,b⟩:=h.w.tree.raise q7;obtain⟨u1,u2⟩:=sS q7;obtain⟨c,_,d⟩:=a.cond h2;refine⟨c,fun hh=>?_⟩;rcases d _ (by rw[u1];exact j1) hh with h3|h3
   ·exact h.w.ji (b _ j1 h3)
   ·rw[hJ,Mt u1 fun k=>(u2 k).1,hna]at h3;cases h3
  ·rw[al5 q6]at h2 ⊢;obtain⟨c,_,d⟩:=h.w.tree.cond h2;refine⟨c,fun hh=>?_⟩;rcases d _ j1 hh with h3|h3
   ·exact h.w.ji h3
   ·rw[hJ,hna]at h3;cases h3
 exact h.judge key.1 hup.1 hup.2 key.2
theorem ur(s:aI)(l:List Rt):(nK s l).sto=s.sto:=by
 refine Yy (f:=mq l) (a:=s) (fun _ t=>t.sto=s.sto) rfl l.length (fun k t e c=>?_) _ (amb _);unfold mq;split
 ·exact c
 omega
theorem zS(s:aI):(zQ s).sto=s.sto:=by
 refine Yy (f:=oZ s.rets) (a:=gi s []) (fun _ t=>t.sto=s.sto) rfl s.rets.length (fun k t e c=>?_) _ (amb _);unfold oZ;split
 ·exact c
 ·split
  ·exact c
  omega
theorem um(s:aI)(r:Req):(lO s r).sto=s.sto:=by
 unfold lO;split
 ·rfl
 ·split<;>rfl
theorem pm(s:aI):(io s).1.sto=s.sto:=by unfold io;grind
theorem qj{s:aI}{v:Vdt}(h:(cz s v).2.2=0):(cz s v).2.1.sto=s.sto:=by
 unfold cz at *;cases d:dW (fun i=>decide ((bm s.reqs i).tag=v.tag)) s.reqs.length with
 |some i=>rfl
 |none=>grind
theorem StV.verd{s:aI}(h:StV s.sto){v:Vdt}(c:(ky s v).2=0\/(ky s v).2=21):StV (ky s v).1.sto:=by
 unfold ky at *;by_cases g:(cz s v).2.2≠0
 ·grind
 rw[al5 g]at c ⊢;have e:=qj (s:=s) (v:=v) WL;by_cases f:v.kind=3\/v.kind=4
 ·rw[al7 f];rw[um,e];omega
 rw[al5 f]at c ⊢;by_cases d:(Go.Proofs.YtmpddimhleianaaGreat.judgeV (cz s v).2.1.sto (cz s v).1.block v).2≠0
 ·grind
 rw[al5 d];rw[e]at d ⊢;exact(h.judgeV WL).boostV
theorem StV.perf{s:aI}{i:Nat}(h:StV s.sto)(hI:bP s.sto i){x:VOp}(hx:OpR x)(h2:(ia s x).2=0\/(ia s x).2=21):StV (ia s x).1.sto:=by
 unfold ia at *;by_cases q1:x.kind=1
 ·rw[al7 q1]at h2 ⊢
  by_cases q:(gp s.sto).2=0
  ·rw[al7 q];rw[zS];exact h.tick hI q
  ·rw[al5 q]at h2;exact absurd h2 (by intro h5;rcases h5 with h5|h5;exact q h5;exact tG _ h5)
 rw[al5 q1]at h2 ⊢;by_cases q2:x.kind=2
 ·rw[al7 q2]at h2 ⊢
  by_cases q:(di s.sto x.blk).2.2=0
  ·rw[al7 q];rw[ur];exact h.block hI (hx.blk.up (amc i)) q
  ·rw[al5 q]at h2;exact absurd h2 (by intro h5;rcases h5 with h5|h5;exact q h5;exact jE _ _ h5)
 rw[al5 q2]at h2 ⊢;by_cases q3:x.kind=3
 ·rw[al7 q3]at h2 ⊢;exact h.att (h2.resolve_right (vC _ _))
 rw[al5 q3]at h2 ⊢;by_cases q4:x.kind=4
 ·rw[al7 q4]at h2 ⊢;exact h.slash (h2.resolve_right (qg _ _))
 rw[al5 q4]at h2 ⊢;by_cases q5:x.kind=5
 ·rw[al7 q5]at h2 ⊢;exact h.reg (h2.resolve_right (vP _ _))
 rw[al5 q5]at h2 ⊢;by_cases q6:x.kind=6
 ·rw[al7 q6]at h2 ⊢;exact h.verd h2
 grind
theorem StV.step{s:aI}{i:Nat}(h:StV s.sto)(b:bP s.sto i){x:VOp}(a:OpR x):StV (kl s x).1.sto:=by
 unfold kl;split
 ·omega
 ·split
  ·omega
  ·split
   ·rename_i e;exact h.perf b a (.inr e)
   ·split
    ·omega
    ·rw[pm];exact h.perf b a (.inl WL)
theorem StV.new{c:cU}(h:ib c=0):StV (kO c):=by
 have hp:=Iq h
 have hz:ib c=0/\(1:Int)<=c.lim.node/\0<=c.lim.orph/\0<=c.lim.early/\(1:Int)<=c.lim.table/\c.gen≠rt0/\gh ⟨⟨0,c.gen⟩,c.bals⟩ c.bals.length=0:=by
  refine⟨h,?_⟩;unfold ib at h;by_cases q1:c.spe<1
  ·omega
  rw[al5 q1]at h;by_cases q2:64<c.spe
  ·omega
  rw[al5 q2]at h;by_cases q3:100<c.boost
  ·omega
  rw[al5 q3]at h;by_cases q4:1024<(c.bals.length:Int)
  ·omega
  rw[al5 q4]at h;by_cases q5:wit c.lim.node 1 4096=false
  ·grind
  rw[al5 q5]at h;by_cases q6:wit c.lim.orph 0 64=false
  ·grind
  rw[al5 q6]at h;by_cases q7:wit c.lim.early 0 256=false
  ·grind
  rw[al5 q7]at h;by_cases q8:wit c.lim.table 1 64=false
  ·grind
  rw[al5 q8]at h;by_cases q9:wit c.lim.retry 0 256=false
  ·grind
  rw[al5 q9]at h;by_cases q10:c.lim.backoff<1
  ·omega
  rw[al5 q10]at h;by_cases q11:1048576<c.lim.backoff
  ·omega
  rw[al5 q11]at h;by_cases q12:c.gen=rt0
  ·grind
  rw[al5 q12]at h;unfold wit at q5 q6 q7 q8;grind
 obtain⟨_,n1,n2,n3,n4,hg,hv⟩:=hz;have one:∀i,i<(kO c).nodes.length->i=0:=fun i hi=>by have:i<1:=hi;omega
 have hfind:aj (kO c).nodes c.gen=0:=by
  have h1:=lH (t:=(kO c).nodes) (k:=0) (r:=c.gen) alj rfl;obtain⟨h2,_⟩:=dO h1;have:=one _ h2;omega
 have hst:dk 0 c.spe=(0,0):=by
  unfold dk vy;rw[au hp.1,au hp.2];show Ip 0 c.spe=_
  unfold Ip;rw[al5]
  ·rw[Int.zero_mul];rfl
  ·rintro⟨h1,h2⟩;have:Int.tdiv 18446744073709551615 c.spe=18446744073709551615 / c.spe:=ajC WN;rw[Dg]at h2;omega
 have tr:TrV (kO c).nodes:=⟨alj,fun i hi=>by rw[one i hi];exact⟨show (0:Int)<=1 by decide,show (1:Int)<=2 by decide⟩,rfl,fun i h0 hi=>by have:=one i hi;omega,fun i j hij hj=>by have:=one j hj;omega,fun i h0 hi=>by have:=one i hi;omega,fun i h0 hi=>by have:=one i hi;omega,
  fun i h0 hi=>by have:=one i hi;omega,fun i h0 hi=>by have:=one i hi;omega,fun i hi _=>by rw[one i hi];rfl⟩
 have hep:∀n,dg (kO c) n=IntKind.u64.wrap (Int.tdiv n c.spe):=fun _=>rfl
 have he0:dg (kO c) 0=0:=by rw[hep,Int.zero_tdiv];rfl
 refine⟨⟨h,tr,n1,n2,n3,n4,rfl,?_,?_,amr _,⟨_,amn.2 rfl,rfl⟩,⟨fun t ht=>?_,by show List.Pairwise _ [_];simp⟩,by show (List.replicate _ _).length=_;simp;rfl,fun v hv hh=>?_,.inl rfl,.inl rfl,by show (0:Int)<=_;decide,?_,?_,fun n hn=>?_,fun a ha=>(by cases ha),fun b hb=>(by cases hb),List.Pairwise.nil⟩,fun b hb=>(by cases hb)⟩
 ·show 0<=aj (kO c).nodes c.gen
  rw[hfind];exact amr _
 ·show (nod (kO c).nodes (aj (kO c).nodes c.gen).toNat).status≠2
  rw[hfind];show (1:Int)≠2;decide
 ·rw[amn.1 ht];exact hv
 ·rw[akX hv]
 ·show (0:Int)<=dg (kO c) 0
  rw[he0];exact amr _
 ·show (dk 0 c.spe).2=0/\(0:Int)<=(dk 0 c.spe).1
  rw[hst];exact⟨rfl,amr _⟩
 ·rw[amn.1 hn];refine⟨amr _,?_⟩;unfold pY;show (decide ((0:Int)<=0)&&decide ((0:Int)<=0)&&decide ((0:Int)<=0)&&decide ((0:Int)<=0)&&decide ((0:Int)<=dg (kO c) 0))=true
  rw[he0];rfl
structure nr(s u:ap):Prop where
 c:u.cfg=s.cfg
 t:∀x∈u.tabs,x∈s.tabs
 n:u.now=s.now
 j:s.j.ep<=u.j.ep
 f:s.f.ep<=u.f.ep
theorem nr.refl(s:ap):nr s s:=⟨rfl,fun x hx=>hx,rfl,amr _,amr _⟩
theorem nr.trans{s t u:ap}(h:nr s t)(g:nr t u):nr s u:=⟨g.c.trans h.c,fun x hx=>h.t x (g.t x hx),g.n.trans h.n,akT h.j g.j,akT h.f g.f⟩
theorem E4(a b:Cp):a.ep<=(fh a b).ep:=by unfold fh;grind
theorem FP(s:ap)(j f:Cp):s.j.ep<=(dK s j f).j.ep/\s.f.ep<=(dK s j f).f.ep:=by
 unfold dK;(repeat' split)<;>first|omega|exact⟨E4 _ _,E4 _ _⟩
theorem vm(s:ap)(j f:Cp):nr s (dK s j f):=⟨CF s j f,(Tm s j f).2,Xf s j f,(FP s j f).1,(FP s j f).2⟩
theorem Bz(s:ap)(b:Blk):nr s (kL s b):=by
 have c:nr s (dD s (BV s.nodes b (dc b)).1):=⟨rfl,fun x d=>d,rfl,amr _,amr _⟩;unfold kL;split
 ·exact(c.trans (vm _ _ _)).trans (vm _ _ _)
 ·exact c.trans (vm _ _ _)
theorem HG(p:ap×List Rt):nr p.1 (waitR p).1:=by
 have e:nr p.1 (withO p.1 (takeO p.1.orph (cY p.1).toNat)):=⟨rfl,fun x d=>d,rfl,amr _,amr _⟩;have f:=e.trans (Bz (withO p.1 (takeO p.1.orph (cY p.1).toNat)) (dn p.1.orph (cY p.1).toNat));unfold waitR;grind
theorem zB:∀ (f:Nat) (p:ap×List Rt),nr p.1 (waitG f p).1
 |0,p=>nr.refl _
 | f + 1, p => by
   unfold waitG;split
   ·exact nr.refl _
   ·exact(HG p).trans (zB f _)
theorem uB{s:ap}{b:Blk}(h:(di s b).2.2=0):nr s (di s b).1:=by
 unfold di at *;by_cases h3:de s b=10
 ·rw[al7 h3]at h ⊢;by_cases h4:s.cfg.lim.orph<=s.orph.length
  ·grind
  ·rw[al5 h4];exact⟨rfl,fun x hx=>hx,rfl,amr _,amr _⟩
 ·rw [al5 h3] at h ⊢
  by_cases h4:de s b≠0
  ·grind
  ·rw[al5 h4]
   have h5:nr s (blockI s b):=by
    unfold blockI;split
    ·exact(Bz s b).trans ⟨rfl,fun x hx=>hx,rfl,amr _,amr _⟩
    ·exact Bz s b
   exact h5.trans (zB _ (blockI s b,[b.root]))
theorem xN{s:ap}(h:(gp s).2=0):nr (tickA s) (gp s).1:=by
 unfold gp at *;split at h
 ·omega
 ·rename_i g
  rw[al5 g]
  have e:nr (tickA s) (tickB (tickA s)):=by
   unfold tickB;split
   ·exact vm _ _ _
   ·exact nr.refl _
  refine e.trans ?_;generalize tickB (tickA s)=t;refine Yy (f:=tickR t.early) (a:=withE t []) (fun _ u=>nr t u) ⟨rfl,fun x c=>c,rfl,amr _,amr _⟩ t.early.length (fun k u i d=>?_) _ (amb _);unfold tickR;split
  ·exact d.trans ⟨rfl,fun x c=>c,rfl,amr _,amr _⟩
  ·split
   ·exact d.trans ⟨rfl,fun x c=>c,rfl,amr _,amr _⟩
   omega
theorem FL{s:ap}{a:bp}(h:(mA s a).2=0):nr s (mA s a).1:=by
 unfold mA at *;split at h
 ·omega
 ·rename_i e
  rw[al5 e];split at h
  ·rename_i c;rw[al7 c];exact⟨rfl,fun x d=>d,rfl,amr _,amr _⟩
  ·rename_i c;rw[al5 c];split at h
   ·omega
   ·rename_i f;rw[al5 f];exact⟨rfl,fun x d=>d,rfl,amr _,amr _⟩
theorem zA{s:ap}{x:fe}(h:(ik s x).2=0):nr s (ik s x).1:=by
 unfold ik at *;split at h
 ·omega
 ·rename_i c;rw[al5 c];split at h
  ·omega
  ·rename_i d;rw[al5 d];exact⟨rfl,fun x b=>b,rfl,amr _,amr _⟩
structure qP(s:ap):Prop where
 tb:∀t∈s.tabs,∀x∈t.bals,0<=x/\x<18446744073709551616
 cb:∀x∈s.cfg.bals,0<=x/\x<18446744073709551616
theorem qP.sub{s t:ap}(h:qP s)(g:nr s t):qP t:=⟨fun x a=>h.tb x (g.t x a),by rw[g.c];exact h.cb⟩
theorem qP.reg{s:ap}(h:qP s){t:aW}(g:∀x∈t.bals,0<=x/\x<18446744073709551616)(b:(kY s t).2=0):qP (kY s t).1:=by
 unfold kY at *;split at b
 ·omega
 ·rename_i d
  rw[al5 d];split at b
  ·omega
  ·rename_i f
   rw[al5 f];split at b
   ·omega
   ·rename_i e
    rw[al5 e];refine⟨fun x a=>?_,h.cb⟩
    have:x∈s.tabs\/x=t:=by
     have a:x∈(iZ s.tabs t s.cfg.bals.length s.cfg.lim.table).1:=a;unfold iZ at a;split at a
     ·omega
     ·split at a
      ·grind
      ·split at a
       ·grind
       ·exact qC _ _ x a
    rcases this with c|rfl
    ·exact h.tb x c
    omega
theorem qP.perf{s:aI}(h:qP s.sto){x:VOp}(hx:∀y∈x.tab.bals,0<=y/\y<18446744073709551616)(h2:(ia s x).2=0\/(ia s x).2=21):qP (ia s x).1.sto:=by
 unfold ia at *;by_cases q1:x.kind=1
 ·rw[al7 q1]at h2 ⊢
  by_cases q:(gp s.sto).2=0
  ·rw[al7 q];show qP (zQ (mE (ij s (gp s.sto).1))).sto
   rw[zS];exact(⟨h.tb,h.cb⟩:qP (tickA s.sto)).sub (xN q)
  ·rw[al5 q]at h2;exact absurd h2 (by intro h5;rcases h5 with h5|h5;exact q h5;exact tG _ h5)
 rw[al5 q1]at h2 ⊢;by_cases q2:x.kind=2
 ·rw[al7 q2]at h2 ⊢
  by_cases q:(di s.sto x.blk).2.2=0
  ·rw[al7 q];show qP (nK (mE (ij s (di s.sto x.blk).1)) (di s.sto x.blk).2.1).sto
   rw[ur];exact h.sub (uB q)
  ·rw[al5 q]at h2;exact absurd h2 (by intro h5;rcases h5 with h5|h5;exact q h5;exact jE _ _ h5)
 rw[al5 q2]at h2 ⊢;by_cases q3:x.kind=3
 ·rw[al7 q3]at h2 ⊢;exact h.sub (FL (h2.resolve_right (vC _ _)))
 rw[al5 q3]at h2 ⊢;by_cases q4:x.kind=4
 ·rw[al7 q4]at h2 ⊢;exact h.sub (zA (h2.resolve_right (qg _ _)))
 rw[al5 q4]at h2 ⊢;by_cases q5:x.kind=5
 ·rw[al7 q5]at h2 ⊢;exact h.reg hx (h2.resolve_right (vP _ _))
 rw[al5 q5]at h2 ⊢;by_cases q6:x.kind=6
 ·rw[al7 q6]at h2 ⊢
  unfold ky at *;by_cases p1:(cz s x.vdt).2.2≠0
  ·rw[al7 p1];exact h
  rw[al5 p1]at h2 ⊢;have hm:=qj (s:=s) (v:=x.vdt) (by simpa using p1);by_cases p2:x.vdt.kind=3\/x.vdt.kind=4
  ·rw[al7 p2];show qP (lO (cz s x.vdt).2.1 (cz s x.vdt).1).sto
   rw[um,hm];exact h
  rw[al5 p2]at h2 ⊢;by_cases p3:(Go.Proofs.YtmpddimhleianaaGreat.judgeV (cz s x.vdt).2.1.sto (cz s x.vdt).1.block x.vdt).2≠0
  ·rw[al7 p3];exact h
  rw[al5 p3,hm];refine h.sub ?_;show nr s.sto (boostV (dD s.sto _))
  unfold boostV;split
  ·exact⟨rfl,fun x hx=>hx,rfl,amr _,amr _⟩
  ·exact⟨rfl,fun x hx=>hx,rfl,amr _,amr _⟩
 grind
theorem qP.step{s:aI}(h:qP s.sto){x:VOp}(a:∀y∈x.tab.bals,0<=y/\y<18446744073709551616):qP (kl s x).1.sto:=by
 unfold kl;split
 ·omega
 ·split
  ·omega
  ·split
   ·rename_i d;exact h.perf a (.inr d)
   ·split
    ·omega
    ·rw[pm];exact h.perf a (.inl WL)
theorem Lo{s:ap}{t:aW}(b:(kY s t).2=0):(kY s t).1.now=s.now/\(kY s t).1.j=s.j/\(kY s t).1.f=s.f:=by
 unfold kY at *;split at b
 ·omega
 ·rename_i e
  rw[al5 e];split at b
  ·omega
  ·rename_i g
   rw[al5 g];split at b
   ·omega
   ·rename_i c;rw[al5 c];exact⟨rfl,rfl,rfl⟩
theorem Jy{s:ap}(c:U64 s.now)(h:(gp s).2=0):(gp s).1.now=s.now+1:=by
 rw[(xN h).n];have b:¬1099511627776<=s.now:=fun b=>by unfold gp at h;grind
 have:=c.lo;show IntKind.u64.wrap (s.now+1)=_
 rw[aN WL WL]
theorem Cm{s:aI}(hn:U64 s.sto.now){x:VOp}(h2:(ia s x).2=0\/(ia s x).2=21):(ia s x).1.sto.now<=s.sto.now+1:=by
 unfold ia at *;by_cases q1:x.kind=1
 ·rw[al7 q1]at h2 ⊢
  by_cases q:(gp s.sto).2=0
  ·rw[al7 q];show (zQ (mE (ij s (gp s.sto).1))).sto.now<=_
   rw[zS];show (gp s.sto).1.now<=_
   rw[Jy hn q];omega
  ·rw[al5 q]at h2;exact absurd h2 (by intro h5;rcases h5 with h5|h5;exact q h5;exact tG _ h5)
 rw[al5 q1]at h2 ⊢;by_cases q2:x.kind=2
 ·rw[al7 q2]at h2 ⊢
  by_cases q:(di s.sto x.blk).2.2=0
  ·rw[al7 q];show (nK (mE (ij s (di s.sto x.blk).1)) (di s.sto x.blk).2.1).sto.now<=_
   rw[ur];have:=(uB q).n;show (di s.sto x.blk).1.now<=_
   omega
  ·rw[al5 q]at h2;exact absurd h2 (by intro h5;rcases h5 with h5|h5;exact q h5;exact jE _ _ h5)
 rw[al5 q2]at h2 ⊢;by_cases q3:x.kind=3
 ·rw[al7 q3]at h2 ⊢;have:=(FL (h2.resolve_right (vC _ _))).n;show (mA s.sto x.att).1.now<=_
  omega
 rw[al5 q3]at h2 ⊢;by_cases q4:x.kind=4
 ·rw[al7 q4]at h2 ⊢;have:=(zA (h2.resolve_right (qg _ _))).n;show (ik s.sto x.slg).1.now<=_
  omega
 rw[al5 q4]at h2 ⊢;by_cases q5:x.kind=5
 ·rw[al7 q5]at h2 ⊢;have:=(Lo (h2.resolve_right (vP _ _))).1;show (kY s.sto x.tab).1.now<=_
  omega
 rw[al5 q5]at h2 ⊢;by_cases q6:x.kind=6
 ·rw[al7 q6]at h2 ⊢
  unfold ky at *;by_cases p1:(cz s x.vdt).2.2≠0
  ·rw[al7 p1];show s.sto.now<=_;omega
  rw[al5 p1]at h2 ⊢;have hm:=qj (s:=s) (v:=x.vdt) (by simpa using p1);by_cases p2:x.vdt.kind=3\/x.vdt.kind=4
  ·rw[al7 p2];show (lO (cz s x.vdt).2.1 (cz s x.vdt).1).sto.now<=_
   rw[um,hm];omega
  rw[al5 p2]at h2 ⊢;by_cases p3:(Go.Proofs.YtmpddimhleianaaGreat.judgeV (cz s x.vdt).2.1.sto (cz s x.vdt).1.block x.vdt).2≠0
  ·rw[al7 p3];show s.sto.now<=_;omega
  rw[al5 p3,hm];show (boostV (dD s.sto _)).now<=_
  unfold boostV;split<;>(show s.sto.now<=_;omega)
 rw[al5 q6];show s.sto.now<=_;omega
theorem Jt{s:aI}(b:U64 s.sto.now)(x:VOp):(kl s x).1.sto.now<=s.sto.now+1:=by
 unfold kl;split
 ·grind
 ·split
  ·grind
  ·split
   ·rename_i e;exact Cm b (.inr e)
   ·split
    ·grind
    ·rw[pm];exact Cm b (.inl WL)
theorem ahn{s:ap}{i:Nat}(h:bP s i)(d:qP s):Qw s:=by
 have b:=h.r;exact⟨b.bn,b.bl,b.be,b.bt,b.bb,d.tb,b.bo,b.ba,fun a f=>by have:=(h.av a f).len;omega,by have:=h.cfg.b1;omega,d.cb,h.uf⟩
theorem StV.valC{s:ap}(h:StV s):uK s:=by
 refine⟨h.w.fr,h.w.jf,h.w.ji,h.w.fj,?_,?_,?_,h.w.bo,h.w.nm,h.w.je,?_,?_,?_⟩
 ·obtain⟨t,h1,h2⟩:=h.w.tj;rw[<-h2];exact Xc h1
 ·refine sJ.2 fun i _ hi=>?_
  have hi:i<s.tabs.length:=WL
  unfold pR;rw[al5,al5 (fun hh=>hh (h.w.tv.1 _ (bK _ hi)))];rintro⟨h0,h1⟩;have h2:=ajW.1 h.w.tv.2 (i-1) i WL hi WL;unfold tab at h1;grind
 ·rw [au h.w.ll, am2]
  have hn:dW (fun i=>!(vot s.latest i).has&&decide (vot s.latest i≠dL)) s.latest.length=none:=by
   cases hf:dW (fun i=>!(vot s.latest i).has&&decide (vot s.latest i≠dL)) s.latest.length with
   |none=>rfl
   | some k =>
     obtain⟨h1,h2,_⟩:=fZ hf;simp only[amk,aku,amg]at h2;exact absurd (h.w.lv _ (bK _ h1) h2.1) h2.2
  rw[hn];rcases h.w.qv with h1|h1
  ·grind
  grind
 ·unfold jA da;rw[show ((0:Int).toNat)=0 from rfl,au h.w.ea.2,alo]
 ·have hn:dW (fun i=>decide (s.now<(nod s.nodes i).blk.slot) || !pY s (nod s.nodes i).blk) s.nodes.length=none:=by
   cases hf:dW (fun i=>decide (s.now<(nod s.nodes i).blk.slot) || !pY s (nod s.nodes i).blk) s.nodes.length with
   |none=>rfl
   | some k =>
     obtain⟨h1,h2,_⟩:=fZ hf;obtain⟨h3,h4⟩:=h.w.nd _ (Cw h1);grind
  rw[hn];rfl
 ·unfold zV;rw[amk,amg,amg];refine⟨sJ.2 fun i _ hi=>h.w.av _ (bK _ WL),sJ.2 fun i _ hi=>?_⟩;have hi:i<s.orph.length:=WL
  have hm:dn s.orph i∈s.orph:=bK _ hi;obtain⟨a1,a2,a3,a4,a5⟩:=h.w.ob _ hm;refine ab1 a1 WL (by have:=h.op _ hm;omega) a3 WL WL (fun hh=>?_);obtain⟨b,hb,he⟩:=amV.1 hh;obtain⟨k,hk,hk2⟩:=ajt.1 hb;have:=ajW.1 h.w.od k i WL hi WL;rw[hk2]at this;unfold dn at he;grind
theorem StV.val{s:ap}(h:StV s)(c:s.cfg.lim.node<=4096)(b:U64 s.f.ep)(a:U64 s.now):oL s=0:=
 (ac4 h.w.ne (h.w.tree.statV (by have:=h.w.z1;omega)) (by have:=h.w.z1;omega) (by have:=h.w.z2;omega) (by have:=h.w.z3;omega) (by have:=h.w.z4;omega) b a).1 h.valC
end Go.Proofs.YtmpddimhleianaaGreat
