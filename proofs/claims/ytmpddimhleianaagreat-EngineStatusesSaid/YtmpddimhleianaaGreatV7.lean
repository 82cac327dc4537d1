/- Joined. -/
import Derived.Test.YtmpddimhleianaaGreatV6
import Derived.Test.YtmpddimhleianaaGreatW3
set_option linter.unusedVariables false
set_option linter.unusedSimpArgs false
set_option maxRecDepth 8000
set_option maxHeartbeats 4000000
namespace Go.Proofs.YtmpddimhleianaaGreat
open Go Go.FH Go.RowKit
theorem Sm.val{α:Type}{v:α}{F:α->Prop}(h:Sm (fun r=>r=v) F):F v:=by
 obtain⟨r,rfl,h⟩:=h;exact h
theorem aab(n:Nat):List.replicate n (al dL)=rows al (List.replicate n dL):=acs al n dL
theorem acF{fr:Fr}{σ:St}{rs:List gN}{l:List AV}{n:Int}{S:ap×Int}(hl:dH fr σ rs=some l)(hv:fz σ (List.range σ.length) (gk l)=.tup [.agg (aE kU),.int .i64 n])(hs:(jX,n)=S):
 Sm (fun r:ap×Int=>r=S) fun r=>PQ rs (.tup [.agg (aE r.1.a),.int .i64 r.2]) .ret fr σ:=
 ⟨(jX,n),hs,l,hl,.inr ⟨_,hv,(by simp[PuL,Pu,fy,kU,aE,eJ,mg,dI,ju,gV,ui,bW,cp0]),Wk.tup ⟨Qg,Wk.refl _,trivial⟩⟩⟩
theorem ae7(x:Sto)(p:Pul):spl (aE x) 47 (dB p)=aE { x with j:=p.j,f:=p.f }:=CZ x p.j p.f
theorem agK(x:Sto)(l:List (List AV)):Wk (.agg (aE { x with eqv:=.sl 0 true [],early:=.sl 0 true [],orph:=.sl 0 true [],tabs:=.sl 34 true l })) (.agg (aE { x with eqv:=.sl 1 false [],early:=.sl 67 false [],orph:=.sl 238 false [],tabs:=.sl 34 false l })):=by
 refine Wk.agg ?_;unfold aE;dsimp only;exact(WkC.refl _).app (.same _ (.cons (Wk.empty _ _ _) (fun h=>h) ((WkC.refl _).app ((WkC.refl _).app (.cons (Wk.empty _ _ _) (fun h=>h) (.cons (Wk.empty _ _ _) (fun h=>h) (.same _ (.same _ ((WkC.refl _).app (.one (Wk.open_ _ _ _) fun h=>h))))))))))
theorem aem(s:ap):PuL (aE { s.a with eqv:=.sl 0 true [],early:=.sl 0 true [],orph:=.sl 0 true [],tabs:=.sl 34 true (rows aW.c s.tabs) }):=by
 have h:=(uH _).1 s.pul;refine(uH _).2 ?_;simp only[Sto.Pure,Pu,fy,alq,alh]at *;simp[h,j8]
theorem RL(c:cU)(hb:c.bals.length<=2097152):PC Tryz.prog 44 [.agg (bW c.a)] (.tup [.agg (aE (O0 c).1.a),.int .i64 (O0 c).2]):=by
 refine Sm.val (F:=fun r:ap×Int=>PC Tryz.prog 44 [.agg (bW c.a)] (.tup [.agg (aE r.1.a),.int .i64 r.2])) ?_;refine md 9 Q5 WM puA (fun r _=>puA) ?_;unfold EV;refine bd ?_;have c1:=xV ⟨⟨0,c.gen⟩,c.bals⟩ c.bals.length hb;have c2:=YH (adM c.gen) 1;have c3:=Hi ⟨⟨0,c.gen⟩,c.bals⟩ hb;generalize hV:gh ⟨⟨0,c.gen⟩,c.bals⟩ c.bals.length=V at *;have lt:∀ (a b:Int),decide (a > b)=decide (b<a):=fun _ _=>rfl
 iterate 5 (repeat'(first|refine cM ?_|(refine bR (fun h=>?_) (fun h=>?_)<;>try(exact absurd h WN))|refine eo (fun h=>?_) (fun h=>?_));all_goals try refine db (TA _ _ _) ?_)
 repeat'(first|refine cM ?_|(refine bR (fun h=>?_) (fun h=>?_)<;>try(exact absurd h WN))|refine eo (fun h=>?_) (fun h=>?_))
 all_goals try(refine acF (by first|rfl|exact evd) (by first|rfl|exact evd) ?_)
 rotate_left 2
 ·refine db c1 ?_
  repeat'(first|refine cM ?_|(refine bR (fun h=>?_) (fun h=>?_)<;>try(exact absurd h WN))|refine eo (fun h=>?_) (fun h=>?_))
  ·refine acF (by first|rfl|exact evd) (by first|rfl|exact evd) ?_;(try simp only[akm,akh,amg,ami,aku,akz,am0,alf,ajL,akW,ajT,amZ,akc,ajY,amk,akM]at *)
   (simp only[O0,ib, *,reduceIte,ak2,ame,amp,amu,ajT,alh,alq,al3,al4,WJ,or_true,am6,al0,Int.reduceEq,amj,amt,eq_self,reduceCtorEq,alE,alQ,akF,am2,alB,ajq,alo,alp,alG,aj9,akh,akm])
  ·refine dZ c2 ?_
   refine cM ?_;refine dZ c3 ?_;have hrep:List.replicate c.bals.length (al ⟨false,0,rt0⟩)=rows al (List.replicate c.bals.length dL):=aab _;have ht:List.take c.bals.length (rows al (List.replicate c.bals.length ⟨false,0,rt0⟩))=rows al (List.replicate c.bals.length ⟨false,0,rt0⟩):=amf WM;repeat(first|refine cM ?_|simp only[go_sem,hrep,ae7])
   refine W3 (kO c,0) ?_ ⟨_,(by first|rfl|exact evd),.inr ⟨.tup [.agg (aE { (kO c).a with eqv:=.sl 0 true [],early:=.sl 0 true [],orph:=.sl 0 true [],tabs:=.sl 34 true (rows aW.c (kO c).tabs) }),.int .i64 0],?_,⟨aem _,trivial,trivial⟩,Wk.tup ⟨agK _ _,Wk.refl _,trivial⟩⟩⟩
   ·(try simp only[akm,akh,amg,ami,aku,akz,am0,alf,ajL,akW,ajT,amZ,akc,ajY,amk,akM]at *)
    (simp only[O0,ib, *,reduceIte,ak2,ame,amp,amu,ajT,alh,alq,al3,al4,WJ,or_true,am6,al0,Int.reduceEq,amj,amt,eq_self,reduceCtorEq,alE,alQ,akF,am2,alB,ajq,alo,alp,alG,aj9,akh,akm])
   ·(try simp only[go_sem,Nat.reduceAdd,Nat.reduceSub,Nat.reduceMul,Nat.reduceLT,Nat.reduceLeDiff,Nat.reduceEqDiff,reduceIte,Int.reduceToNat,Int.reduceLT,Int.reduceLE,Int.reduceEq,Int.reduceNeg,reduceCtorEq,Int.reduceBEq,Int.reduceBNe,akH,ht])
    rfl
 all_goals(try simp only[akm,akh,amg,ami,aku,akz,am0,alf,ajL,akW,ajT,amZ,akc,ajY,amk,akM]at *)
 all_goals(simp only[O0,ib, *,reduceIte,ak2,ame,amp,amu,ajT,alh,alq,al3,al4,WJ,or_true,am6,al0,Int.reduceEq,amj,amt,eq_self,reduceCtorEq,alE,alQ,akF,am2,alB,ajq,alo,alp,alG,aj9,akh,akm])
def WdG(w:Wd):Prop:=∀n∈w.1,0<=n/\n<18446744073709551616
def Y1:Rt:=(rt0.set 0 100).set 31 188
structure np(i:Nat)(x:Blk):Prop where
 slot:U64 x.slot
 just:U64 x.just.ep
 fin:U64 x.fin.ep
 j:U64 x.pul.j.ep
 f:U64 x.pul.f.ep
 df:WdG x.diff
 pf:WdG x.pdiff
theorem np.up{i k:Nat}{b:Blk}(h:np i b)(hk:i<=k):np k b:=⟨h.slot,h.just,h.fin,h.j,h.f,h.df,h.pf⟩
theorem np.u{i:Nat}{b:Blk}(h:np i b):NQ b:=⟨h.slot,h.just,h.fin,h.j,h.f⟩
def NwR(i:Nat)(n:Int):Prop:=U64 n/\(i<=34->n<=1099511627776)
theorem NwR.up{i k:Nat}{n:Int}(h:NwR i n)(b:i<=k):NwR k n:=⟨h.1,fun a=>h.2 WL⟩
structure afI(c:cU):Prop where
 s1:1<=c.spe
 s4:c.spe<=4
 b0:0<c.bals.length
 b1:c.bals.length<=6
 ln:c.lim.node<=13
 lo:c.lim.orph<=3
 la:c.lim.early<=3
 lt:c.lim.table<=4
 lr:c.lim.retry<=3
 tt:WdG c.ttd
 gn:c.gen≠Y1
structure aam(a:bp):Prop where
 len:a.vals.length<=60
 slot:U64 a.slot
 ep:U64 a.target.ep
structure agZ(t:aW):Prop where
 len:t.bals.length<=6
 ep:U64 t.cp.ep
structure bP(s:ap)(i:Nat):Prop where
 cfg:afI s.cfg
 tree:dU s.nodes
 jf:0<=aj s.nodes s.j.rt
 ll:s.latest.length=s.cfg.bals.length
 nn:s.nodes.length<=13
 un:∀n∈s.nodes,np i n.blk
 oo:s.orph.length<=3
 uo:∀b∈s.orph,np i b
 aa:s.early.length<=3
 av:∀a∈s.early,aam a
 tt:s.tabs.length<=4
 tb:∀t∈s.tabs,agZ t
 qq:s.eqv.length<=60*i
 uj:U64 s.j.ep
 uf:U64 s.f.ep
 nw:NwR i s.now
 ii:i<=40
 lv:∀v∈s.latest,U64 v.ep
theorem bP.r{s:ap}{i:Nat}(h:bP s i):StR s:=by
 have g:=h.cfg.s1;have e:=h.cfg.b1;have m:=h.nn;have n:=h.qq;have f:=h.ii;have c:=h.ll;have j:=h.tt;have k:=h.oo;have l:=h.aa;have b:=h.cfg.ln;exact⟨h.tree,WL,WL,WL,WL,WL,fun t d=>by have:=(h.tb t d).len;omega,WL,WL,WL,c,h.jf⟩
theorem bP.up{s:ap}{i k:Nat}(h:bP s i)(w:i<=k)(A:k<=40):bP s k:=by
 obtain⟨a,b,c,d,e,f,g,j,l,m,n,o,p,q,r,t,u,y⟩:=h;exact⟨a,b,c,d,e,fun x v=>(f x v).up w,g,fun x v=>(j x v).up w,l,m,n,o,WL,q,r,t.up w,A,y⟩
theorem ce(n:Int):U64 (IntKind.u64.wrap n):=by rw[Dg];exact⟨WL,WL⟩
theorem bK{α:Type}{l:List α}{i:Nat}(d:α)(h:i<l.length):l.getD i d∈l:=by
 grind
theorem bP.blk{s:ap}{i:Nat}(h:bP s i){k:Nat}(hk:k<s.nodes.length):np i (nod s.nodes k).blk:=h.un _ (bK _ hk)
theorem Ct{t:List Nod}{n:Nod}(h:n∈t):∃k,k<t.length/\nod t k=n:=by
 obtain⟨k,b,c⟩:=amJ h;exact⟨k,b,by unfold nod;grind⟩
theorem CF(s:ap)(j f:Cp):(dK s j f).cfg=s.cfg:=by unfold dK;grind
theorem afg(s:ap)(j f:Cp):(dK s j f).eqv=s.eqv:=by unfold dK;grind
theorem NL(s:ap)(j f:Cp):(dK s j f).early=s.early:=by unfold dK;grind
theorem Xf(s:ap)(j f:Cp):(dK s j f).now=s.now:=by unfold dK;grind
theorem Vy(s:ap)(j f:Cp):(dK s j f).latest=s.latest:=by unfold dK;grind
theorem YA(l:List Blk)(a:Int):∀b∈bg (tW l a) [] l.length,b∈l:=by
 refine Yy (f:=tW l a) (a:=[]) (fun _ o=>∀t∈o,t∈l) WM l.length (fun i o e d=>?_) _ (amb _);unfold tW;split
 ·grind
 omega
theorem pT(s:ap)(j f:Cp):(dK s j f).orph.length<=s.orph.length/\∀b∈(dK s j f).orph,b∈s.orph:=by
 unfold dK;split
 ·simp
 ·split
  ·simp
  ·exact⟨xE _ _ _,YA _ _⟩
theorem Tm(s:ap)(j f:Cp):(dK s j f).tabs.length<=s.tabs.length/\∀b∈(dK s j f).tabs,b∈s.tabs:=by
 unfold dK;split
 ·simp
 ·split
  ·exact⟨oe _ _,oh _ _⟩
  ·exact⟨oe _ _,oh _ _⟩
theorem NM{s:ap}(h:dU s.nodes)(j f:Cp):(dK s j f).nodes.length<=s.nodes.length/\∀n∈(dK s j f).nodes,∃m,m<s.nodes.length/\n.blk=(nod s.nodes m).blk:=by
 have i:∀n∈s.nodes,∃m,m<s.nodes.length/\n.blk=(nod s.nodes m).blk:=fun n c=>by
  obtain⟨k,e,g⟩:=Ct c;grind
 unfold dK;split
 ·grind
 ·split
  ·grind
  ·refine⟨tf h _,fun n c=>?_⟩;obtain⟨k,e,g⟩:=Ct c;obtain⟨m,o,l⟩:=UP h _ k e;grind
theorem Im{a b:Cp}(e:U64 a.ep)(f:U64 b.ep):U64 (fh a b).ep:=by unfold fh;grind
theorem ac2{s:ap}(j f:Cp)(c:U64 s.j.ep)(d:U64 s.f.ep)(e:U64 j.ep)(b:U64 f.ep):U64 (dK s j f).j.ep/\U64 (dK s j f).f.ep:=by
 unfold dK;split
 ·grind
 ·split
  ·exact⟨Im c e,Im d b⟩
  ·exact⟨Im c e,Im d b⟩
theorem bP.upd{s:ap}{i:Nat}(h:bP s i){j f:Cp}(l:U64 j.ep)(o:U64 f.ep):bP (dK s j f) i:=by
 have a:=h.r.upd j f;have c:=NM h.tree j f;have e:=pT s j f;have d:=Tm s j f;have g:=ac2 j f h.uj h.uf l o;refine⟨by rw[CF];exact h.cfg,a.tree,a.jf,a.ll,ams c.1 h.nn,fun n p=>?_,ams e.1 h.oo,fun b q=>h.uo b (e.2 b q),by rw[NL];exact h.aa,by rw[NL];exact h.av,ams d.1 h.tt,fun t r=>h.tb t (d.2 t r),by rw[afg];exact h.qq,g.1,g.2,by rw[Xf];exact h.nw,h.ii,by rw[Vy];exact h.lv⟩;obtain⟨m,u,k⟩:=c.2 n p;rw[k];exact h.blk u
theorem bP.withE{s:ap}{i:Nat}(h:bP s i){l:List bp}(h1:l.length<=3)(h2:∀a∈l,aam a):bP (withE s l) i:=
 ⟨h.cfg,h.tree,h.jf,h.ll,h.nn,h.un,h.oo,h.uo,h1,h2,h.tt,h.tb,h.qq,h.uj,h.uf,h.nw,h.ii,h.lv⟩
theorem bP.withL{s:ap}{i:Nat}(h:bP s i){l:List Vot}(h1:l.length=s.latest.length)(h2:∀v∈l,U64 v.ep):bP (withL s l) i:=
 ⟨h.cfg,h.tree,h.jf,h1.trans h.ll,h.nn,h.un,h.oo,h.uo,h.aa,h.av,h.tt,h.tb,h.qq,h.uj,h.uf,h.nw,h.ii,h2⟩
theorem bP.withB{s:ap}{i:Nat}(h:bP s i)(r:Rt):bP (withB s r) i:=
 ⟨h.cfg,h.tree,h.jf,h.ll,h.nn,h.un,h.oo,h.uo,h.aa,h.av,h.tt,h.tb,h.qq,h.uj,h.uf,h.nw,h.ii,h.lv⟩
theorem bP.withO{s:ap}{i:Nat}(h:bP s i){l:List Blk}(h1:l.length<=3)(h2:∀b∈l,np i b):bP (withO s l) i:=
 ⟨h.cfg,h.tree,h.jf,h.ll,h.nn,h.un,h1,h2,h.aa,h.av,h.tt,h.tb,h.qq,h.uj,h.uf,h.nw,h.ii,h.lv⟩
theorem bP.withT{s:ap}{i:Nat}(h:bP s i){l:List aW}(h1:l.length<=4)(h2:∀t∈l,agZ t):bP (withT s l) i:=
 ⟨h.cfg,h.tree,h.jf,h.ll,h.nn,h.un,h.oo,h.uo,h.aa,h.av,h1,h2,h.qq,h.uj,h.uf,h.nw,h.ii,h.lv⟩
theorem KX{d:Int}(h:U64 d)(b:Rt)(l:List Int)(v:List Vot)(e:∀x∈v,U64 x.ep):∀x∈(uM v d b l).1,U64 x.ep:=by
 refine Yy (f:=mK d b l) (a:=(v,0)) (fun _ p=>∀x∈p.1,U64 x.ep) e l.length (fun k p i g=>?_) _ (amb _);unfold mK;split
 ·grind
 omega
theorem bP.castIn{s:ap}{i:Nat}(h:bP s i){a:bp}(ha:U64 a.target.ep):bP (castIn s a) i:=h.withL (pd _ _ _ _ _) (KX ha _ _ _ h.lv)
theorem bP.tickA{s:ap}{i:Nat}(h:bP s i)(b:¬1099511627776<=s.now):bP (tickA s) i:=
 ⟨h.cfg,h.tree,h.jf,h.ll,h.nn,h.un,h.oo,h.uo,h.aa,h.av,h.tt,h.tb,h.qq,h.uj,h.uf,⟨ce _,fun _=>by have:=h.nw.1.lo;show IntKind.u64.wrap (s.now+1)<=_;rw[aN WL WL];omega⟩,h.ii,h.lv⟩
theorem E9{i:Nat}{s:ap}(h:∀k,k<s.nodes.length->np i (nod s.nodes k).blk):U64 (sQ s).j.ep/\U64 (sQ s).f.ep:=by
 refine Yy (f:=yV s.nodes) (a:=(R4,false)) (fun _ p=>U64 p.1.j.ep/\U64 p.1.f.ep) ⟨⟨WN,WN⟩,⟨WN,WN⟩⟩ s.nodes.length (fun k p c e=>?_) _ (amb _);unfold yV;split
 ·omega
 ·refine⟨?_,?_⟩
  ·split
   ·exact(h k c).j
   grind
  ·dsimp only;split
   ·exact(h k c).f
   grind
theorem bP.tickB{s:ap}{i:Nat}(h:bP s i):bP (tickB s) i:=by
 unfold Go.Proofs.YtmpddimhleianaaGreat.tickB;split
 ·have:=E9 (s:=s) fun k a=>h.blk a
  exact h.upd this.1 this.2
 omega
theorem ru{l:List bp}{k:Nat}(h:k<l.length):gO l k∈l:=bK _ h
theorem bP.tickR{l:List bp}(f:∀a∈l,aam a)(j:l.length<=3){s:ap}{i:Nat}(h:bP s i):∀k,k<=l.length->bP (bg (tickR l) (Go.FH.withE s []) k) i/\(bg (tickR l) (Go.FH.withE s []) k).early.length<=k
 |0,_=>⟨h.withE WM WM,amb _⟩
 | k + 1, m => by
   obtain⟨e,g⟩:=bP.tickR f j h k WL;rw[cX];generalize bg (Go.Proofs.YtmpddimhleianaaGreat.tickR l) (Go.FH.withE s []) k=t at *;unfold Go.Proofs.YtmpddimhleianaaGreat.tickR;split
   ·refine⟨e.withE WO (fun a b=>?_),by show (t.early++[gO l k]).length<=k+1;simp;omega⟩;rw[amm,amn]at b;rcases b with b|rfl
    ·exact e.av a b
    ·exact f _ (ru WL)
   ·split
    ·exact⟨e.castIn (f _ (ru WL)).ep,akK g⟩
    grind
theorem bP.tickC{s:ap}{i:Nat}(h:bP s i):bP (tickC s s.early) i:=(bP.tickR h.av h.aa h _ (amb _)).1
theorem bP.tick{s:ap}{i:Nat}(h:bP s i)(b:(gp s).2=0):bP (gp s).1 i:=by
 unfold gp at *;split at b
 ·omega
 ·rename_i a;rw[al5 a];exact(h.tickA a).tickB.tickC
structure agV(s:ap)(b:Blk):Prop where
 root:b.root≠rt0
 kn:nL s b.root=false
 par:0<=aj s.nodes b.parent
 slot:(nod s.nodes (aj s.nodes b.parent).toNat).blk.slot<b.slot
 lim:(s.nodes.length:Int)<s.cfg.lim.node
theorem Mp {s : ap} {b : Blk} (h : de s b = 0) : agV s b := by
 unfold de at h;split at h
 ·omega
 ·split at h
  ·omega
  ·split at h
   ·omega
   ·split at h
    ·omega
    ·split at h
     ·omega
     ·split at h
      ·omega
      ·split at h
       ·simp at h
       ·split at h
        ·simp at h
        ·split at h
         ·simp at h
         ·split at h
          ·simp at h
          ·exact⟨by assumption,by simpa using ‹¬nL s b.root=true›,WL,WL,WL⟩
theorem SV(b:Blk):0<=dc b/\dc b<=2:=by unfold dc;omega
theorem VX{s:ap}{b:Blk}(h:agV s b)(g:s.cfg.lim.node<=4096):(BV s.nodes b (dc b)).2=0:=by
 have e:=h.kn;unfold nL at e;have c:decide (0<=aj s.nodes b.root)=false:=WO
 have d:=aky c;have i:=h.par;have j:=h.slot;have f:=h.lim;unfold BV;rw[al5 (by simp[SV b]),al5 d,al5 WL,al5 WL,al5 WL]
theorem DR{t:List Nod}{n:Nod}{r:Rt}(h:0<=aj t r):0<=aj (t++[n]) r:=by
 obtain⟨c,d⟩:=dO h;exact lH (k:=(aj t r).toNat) WO (by rw[eO,al7 c];omega)
theorem bP.insN{s:ap}{i:Nat}(h:bP s i){b:Blk}(g:de s b=0)(k:np i b):bP (dD s (BV s.nodes b (dc b)).1) i:=by
 have e:=Mp g;have d:=VX e (by have:=h.cfg.ln;omega);have j:=(OX d).1;have f:=h.tree.ins d;have m:=e.lim;have l:=h.cfg.ln;rw[j]at f ⊢;refine⟨h.cfg,f,DR h.jf,h.ll,by show (s.nodes++[_]).length<=13;simp;omega,fun n c=>?_,h.oo,h.uo,h.aa,h.av,h.tt,h.tb,h.qq,h.uj,h.uf,h.nw,h.ii,h.lv⟩;rcases amm.1 c with c|c
 ·exact h.un n c
 grind
theorem bP.ins{s:ap}{i:Nat}(h:bP s i){b:Blk}(d:de s b=0)(a:np i b):bP (kL s b) i:=by
 have e:=(h.insN d a).upd a.just a.fin;unfold kL;split
 ·exact e.upd a.j a.f
 omega
theorem ZY(l:List Blk)(i:Nat):∀b∈takeO l i,b∈l:=fun b c=>by
 rcases amm.1 c with c|c
 ·grind
 grind
theorem acY(l:List Blk)(i:Nat):(takeO l i).length<=l.length:=by
 unfold takeO;rw[akC,amA,ajJ];omega
theorem bP.takeO{s:ap}{i:Nat}(h:bP s i)(k:Nat):bP (Go.FH.withO s (takeO s.orph k)) i:=h.withO (ams (acY _ _) h.oo) fun b hb=>h.uo b (ZY _ _ b hb)
theorem bP.waitR{p:ap×List Rt}{i:Nat}(h:bP p.1 i)(e:0<=cY p.1):bP (waitR p).1 i:=by
 have d:=i6 p.1;have c:=h.takeO (cY p.1).toNat
 unfold Go.Proofs.YtmpddimhleianaaGreat.waitR;split
 ·rename_i b;exact c.ins b (h.uo _ (bK _ WL))
 omega
theorem bP.waitG{i:Nat}:∀ (f:Nat) {p:ap×List Rt},bP p.1 i->bP (waitG f p).1 i
 |0,_,h=>h
 | f + 1, p, h => by
   unfold Go.Proofs.YtmpddimhleianaaGreat.waitG;split
   ·omega
   ·exact bP.waitG f (h.waitR WL)
theorem aaf(p:ap×List Rt):(waitR p).2.length<=p.2.length+1:=by
 unfold waitR;grind
theorem NN:∀ (f:Nat) (p:ap×List Rt),(waitG f p).2.length<=p.2.length+f
 |0,p=>amb _
 | f + 1, p => by
   unfold waitG;split
   ·omega
   ·have d:=NN f (waitR p);have c:=aaf p;omega
theorem ag9{i:Nat}{b:Blk}(h:np i b):np i (noT b):=⟨h.slot,h.just,h.fin,h.j,h.f,h.df,h.pf⟩
theorem bP.blockI{s:ap}{i:Nat}(h:bP s i){b:Blk}(c:de s b=0)(a:np i b):bP (blockI s b) i:=by
 unfold Go.Proofs.YtmpddimhleianaaGreat.blockI;split
 ·exact(h.ins c a).withB _
 ·exact h.ins c a
theorem bP.block{s:ap}{i:Nat}(h:bP s i){b:Blk}(j:np i b)(e:(di s b).2.2=0):bP (di s b).1 i/\(di s b).2.1.length<=5:=by
 unfold di at *;split at e
 ·rename_i f
  rw[al7 f];split at e
  ·grind
  ·rename_i d;rw[al5 d];have:=h.cfg.lo;refine⟨h.withO WO (fun x a=>?_),WM⟩;rw[amm,amn]at a;rcases a with a|rfl
   ·exact h.uo x a
   ·exact ag9 j
 ·rename_i f
  rw[al5 f];split at e
  ·grind
  ·rename_i d;rw[al5 d];have k:=h.blockI WL j;have m:=k.oo;refine⟨bP.waitG _ k,?_⟩;have:=NN ((Go.Proofs.YtmpddimhleianaaGreat.blockI s b).orph.length+1) (Go.Proofs.YtmpddimhleianaaGreat.blockI s b,[b.root]);grind
theorem bP.att{s:ap}{i:Nat}(h:bP s i){a:bp}(e:aam a)(c:(mA s a).2=0):bP (mA s a).1 i:=by
 unfold mA at *;split at c
 ·omega
 ·rename_i f
  rw[al5 f];split at c
  ·rename_i d;rw[al7 d];exact h.castIn e.ep
  ·rename_i d
   rw[al5 d];split at c
   ·omega
   ·rename_i g;rw[al5 g];have:=h.cfg.la;refine h.withE WO (fun x b=>?_);rw[amm,amn]at b;rcases b with b|rfl
    ·exact h.av x b
    omega
theorem bP.slash{s:ap}{i:Nat}(h:bP s i){x:fe}(b:x.fst.vals.length<=60)(k:i<40)(c:(ik s x).2=0):bP (ik s x).1 (i+1):=by
 unfold ik at *;split at c
 ·omega
 ·rename_i e
  rw[al5 e];split at c
  ·omega
  ·rename_i f;rw[al5 f];have g:=rO x.fst.vals x.snd.vals x.fst.vals.length;have j:=O5 s.eqv (kr x.fst.vals x.snd.vals x.fst.vals.length) (kr x.fst.vals x.snd.vals x.fst.vals.length).length;have l:=h.qq;exact⟨h.cfg,h.tree,h.jf,h.ll,h.nn,fun x b=>(h.un x b).up (akt i),h.oo,fun x b=>(h.uo x b).up (akt i),h.aa,h.av,h.tt,h.tb,by show (Gb s.eqv _).length<=_;unfold Gb;omega,h.uj,h.uf,h.nw.up (akt i),WL,h.lv⟩
theorem vB(l:List aW)(t:aW):(my l t).length=l.length+1:=by
 unfold my;simp only[akC,amA,ajJ,al8,ama];omega
theorem qC(l:List aW)(t:aW):∀x∈my l t,x∈l\/x=t:=fun x b=>by
 unfold my at b;simp only[amm]at b;rcases b with (b|b)|b
 ·grind
 ·grind
 grind
theorem bP.reg{s:ap}{i:Nat}(h:bP s i){t:aW}(k:U64 t.cp.ep)(d:(kY s t).2=0):bP (kY s t).1 i:=by
 unfold kY at *;split at d
 ·omega
 ·rename_i l
  rw[al5 l];split at d
  ·omega
  ·rename_i m
   rw[al5 m];split at d
   ·omega
   ·rename_i g
    rw[al5 g];have e:gh t s.cfg.bals.length=0:=WL
    have j:t.bals.length<=6:=by
     have:=h.cfg.b1;unfold gh at e;split at e
     ·omega
     omega
    have f:(iZ s.tabs t s.cfg.bals.length s.cfg.lim.table).1.length<=4/\∀x∈(iZ s.tabs t s.cfg.bals.length s.cfg.lim.table).1,x∈s.tabs\/x=t:=by
     have:=h.cfg.lt;unfold iZ;rw[al5 WL];split
     ·exact⟨h.tt,fun x a=>.inl a⟩
     ·split
      ·exact⟨h.tt,fun x a=>.inl a⟩
      ·exact⟨by rw[vB];omega,qC _ _⟩
    refine h.withT f.1 fun x a=>?_
    rcases f.2 x a with a|rfl
    ·exact h.tb x a
    ·exact⟨j,k⟩
theorem zq(x:Sto)(v:AV):(aE x).set 113 v=aE { x with early:=v }:=by
 simp only[aE,akf,aU,aD,al8,Nat.reduceSub,Nat.reduceLT,amj,amy,amx]
theorem zp(x:Sto):(aE x).getD 113 .dead=x.early:=by
 simp only[aE,alt,aj2,aU,aD,al8,Nat.reduceSub,Nat.reduceLT,amj,ajB,amQ,amT]
theorem DB(s:ap)(a:bp)(h:StR s)(ha:a.vals.length<=2097152)(hj:∀j∈a.vals,0<=j/\j<s.latest.length)(l:List bp)(n:Nat):
 ay Tryz.prog 204 [.agg (aE { s.a with early:=.hs 67 0 0 n }),.agg (cy a.a)] [.vec 67 (rows bp.c l)] (.agg (aE { (castIn s a).a with early:=.hs 67 0 0 n })) [.vec 67 (rows bp.c l)]:=by
 refine dS 6 ?_;have c1:=yN s.latest a.target.ep a.root a.vals h.bl ha hj;unfold castIn;generalize uM s.latest a.target.ep a.root a.vals=C at *;obtain⟨C1,C2⟩:=C;dsimp only at c1 ⊢;refine gon ?_;refine ahG c1 ?_;exact ahY [] [0]
theorem BP(s:ap)(a:bp)(h:StR s)(ha:a.vals.length<=2097152):
 ay Tryz.prog 203 [.agg (aE { s.a with early:=.hs 67 0 0 s.early.length }),.agg (cy a.a)] [.vec 67 (rows bp.c s.early)] (.tup [.bool (cm s a).1,.int .i64 (cm s a).2]) [.vec 67 (rows bp.c s.early)]:=by
 refine ay.lend rfl ?_;have ht:List.take s.early.length (rows bp.c s.early)=rows bp.c s.early:=amf WM;(try simp only[go_sem,ht,al8,ama,ake,ako])
 exact sf s a h ha
theorem pZ{fr:Fr}{σ:St}{rs:List gN}{l:List AV}{n:Int}(hl:dH fr σ rs=some l)(hv:fz σ (List.range σ.length) (gk l)=.tup [.agg (aE kU),.int .i64 n]):PQ rs (.tup [.agg (aE jX.a),.int .i64 n]) .ret fr σ:=
 ⟨l,hl,.inr ⟨_,hv,(by simp[PuL,Pu,fy,kU,aE,eJ,mg,dI,ju,gV,ui,bW,cp0]),Wk.tup ⟨Qg,Wk.refl _,trivial⟩⟩⟩
def iw(s:ap)(k:Nat):ap:=bg (tickR s.early) (withE s []) k
theorem Mf(s:ap)(k:Nat):iw s (k+1)=tickR s.early k (iw s k):=rfl
theorem HI(s:ap)(m:Nat)(h:bP s m):PC Tryz.prog 114 [.agg (aE s.a)] (.tup [.agg (aE (gp s).1.a),.int .i64 (gp s).2]):=by
 refine ae 9 ?_;unfold gp;have hsp:=h.cfg.s1;have hs4:=h.cfg.s4;by_cases q1:1099511627776<=s.now
 ·have e1:decide ((1099511627776:Int)<=s.now)=true:=au q1;rw[al7 q1];refine aM e1 ?_;exact pZ (by first|rfl|exact evd) (by first|rfl|exact evd)
 have e1:decide ((1099511627776:Int)<=s.now)=false:=aA q1;rw[al5 q1];have hA:=h.tickA q1;have hB:=hA.tickB;have c1:=Hn (tickA s) hA.r.bn;have c2:=Jg (tickA s) (sQ (tickA s)).j (sQ (tickA s)).f hA.r
 have hmod:IntKind.u64.wrap (Int.tmod (tickA s).now (tickA s).cfg.spe)=Int.tmod (tickA s).now (tickA s).cfg.spe:=by
  have hn:=hA.nw.1;have hsp':1<=(tickA s).cfg.spe:=hsp;rw[aly hn.lo];have h1:=Int.emod_nonneg (tickA s).now (show (tickA s).cfg.spe≠0 by omega);have h2:=Int.emod_lt_of_pos (tickA s).now (show 0<(tickA s).cfg.spe by omega);have hs4':(tickA s).cfg.spe<=4:=hs4;exact aN h1 WL
 have hT1:Int.tmod (tickA s).now (tickA s).cfg.spe=0->tickB (tickA s)=dK (tickA s) (sQ (tickA s)).j (sQ (tickA s)).f:=fun hz=>by unfold tickB;rw[hmod,al7 hz]
 have hT2:Int.tmod (tickA s).now (tickA s).cfg.spe≠0->tickB (tickA s)=tickA s:=fun hz=>by unfold tickB;rw[hmod,al5 hz]
 show Tri _ _ _ _ (PQ _ (.tup [.agg (aE (iw (tickB (tickA s)) (tickB (tickA s)).early.length).a),.int .i64 0])) _ _
 generalize tickB (tickA s)=S2 at *;refine aF e1 ?_;refine xT (fun _=>[]) (fun _=>[.var (aE S2.a),.var (aE kU)]) (fun hT=>?_) (fun hF=>?_) ?_
 ·rw[hT1 (by rw[am0]at hT;exact hT)];refine gon ?_;refine ahG c1 ?_;refine ahG c2 ?_;exact ais [] [0,1]
 ·rw[hT2 (by rw[ajL]at hF;exact hF)];refine gon ?_;exact ais [] [0,1]
 clear hT1 hT2 hmod c1 c2;refine gon ?_;refine pS 0 113 67 ?_ WQ (by exact zp _);simp only[go_sem,zq];have hK:∀k,k<=S2.early.length->bP (iw S2 k) m/\(iw S2 k).early.length<=k:=bP.tickR hB.av hB.aa hB
 have hz:iw S2 0=withE S2 []:=rfl;have haa:=hB.aa;refine az (fun i:Nat=>[(6,.int .i64 i)]) (fun i=>[.var (aE { (iw S2 i).a with early:=.hs 67 2 0 (iw S2 i).early.length }),.var (aE kU),.vec 67 (rows bp.c (iw S2 i).early)]) (fun i=>S2.early.length-i) (fun i=>i<=S2.early.length) 0 (amc _) ?_ ?_
 ·rw[hz];unfold withE;exact ais [] [0,1,2]
 intro i hk;obtain⟨hki,hkl⟩:=hK i hk;have hsk:=Mf S2 i;refine dp ?_;by_cases h1:i<S2.early.length
 ·have e1:=inT h1
  have hw:=af h1 WL;have hgd:(rows bp.c S2.early).getD i []=cy (gO S2.early i).a:=aS (f:=bp.c) default h1;have hav:=(hB.av _ (ru h1)).len;have hc:tickR S2.early i (iw S2 i)=if (iw S2 i).now<=(gO S2.early i).slot then withE (iw S2 i) ((iw S2 i).early++[gO S2.early i])else if (cm (iw S2 i) (gO S2.early i)).2=0 then castIn (iw S2 i) (gO S2.early i)else iw S2 i:=rfl
  have c1:=BP (iw S2 i) (gO S2.early i) hki.r WL;have c2:=fun hj=>DB (iw S2 i) (gO S2.early i) hki.r WL hj (iw S2 i).early (iw S2 i).early.length
  have hj:(cm (iw S2 i) (gO S2.early i)).2=0->∀j∈(gO S2.early i).vals,0<=j/\j<(iw S2 i).latest.length:=fun hq j hjm=>by
   have hv:cE (gO S2.early i).vals (iw S2 i).cfg.bals.length=0:=by
    unfold cm at hq;split at hq
    ·rename_i h1;exact absurd hq h1
    ·rename_i h1;simpa using h1
   obtain⟨u,hm,rfl⟩:=amJ hjm;have:=(iS hv).2 u hm;rw[alt,al6 hm,amT]at this;have hll:=hki.ll;omega
  clear hK;have hcl:(castIn (iw S2 i) (gO S2.early i)).early=(iw S2 i).early:=rfl;rw[hc]at hsk;generalize hs:iw S2 i=s1 at *;generalize gO S2.early i=a at *;have hr:rows bp.c s1.early++[cy a.a]=rows bp.c (s1.early++[a]):=cR bp.c s1.early a;generalize hR:cm s1 a=R at *;obtain⟨R1,R2⟩:=R;dsimp only at c1 hsk hj;refine bw e1 ?_;refine ah hgd ?_;by_cases q2:s1.now<=a.slot
  ·have e2:=au q2;rw[al7 q2]at hsk;refine bw e2 ?_;refine dC hgd hr hw ?_;refine⟨i+1,h1,WL,?_⟩;rw[hsk];unfold withE;exact ais [] [0,1,3]
  ·have e2:=aA q2
   rw[al5 q2]at hsk;refine bJ e2 ?_;refine ah hgd ?_;refine drg [2] c1 ?_;by_cases q3:R2=0
   ·rw[al7 q3]at hsk;subst q3;have c3:=c2 (hj rfl);generalize hcs:castIn s1 a=s3 at *;refine Ff ?_;refine ah hgd ?_;refine dce [2] c3 ?_;refine ah hw ?_;refine⟨i+1,h1,WL,?_⟩;rw[hsk,hcl];exact ais [] [0,1,2]
   ·have e3:(R2==0)=false:=by simp[q3]
    rw[al5 q3]at hsk;refine bJ e3 ?_;refine ah hw ?_;refine⟨i+1,h1,WL,?_⟩;rw[hsk];exact ais [] [0,1,2]
 ·obtain rfl:i=S2.early.length:=WL
  have e1:=inF (S2.early.length);generalize iw S2 S2.early.length=s1 at *;have ht:List.take s1.early.length (rows bp.c s1.early)=rows bp.c s1.early:=amf WM;refine aF e1 ?_;refine⟨_,(by first|rfl|exact evd),.inl ?_⟩;exact uZ ht
theorem sS{t:List Nod}{i:Int}(h:(fD t i).2=0):(fD t i).1.length=t.length/\∀k,(nod (fD t i).1 k).up=(nod t k).up/\(nod (fD t i).1 k).blk=(nod t k).blk:=by
 unfold fD at *;split at h
 ·rename_i f;rw[al7 f];cases d:tD t (AI t i) 1 2 with
  |none=>grind
  |some u=>exact⟨ml d,fun k=>tC d k⟩
 omega
theorem zP{t:List Nod}{i:Int}(h:(kF t i).2=0):(kF t i).1.length=t.length/\∀k,(nod (kF t i).1 k).up=(nod t k).up/\(nod (kF t i).1 k).blk=(nod t k).blk:=by
 unfold kF at *;split at h
 ·rename_i f;rw[al7 f];cases d:tD t (im t i) 2 1 with
  |none=>grind
  |some u=>exact⟨ml d,fun k=>tC d k⟩
 omega
theorem sN{t:List Nod}{i:Int}{v:Vdt}{keep:List Int}(h:(iT t i v keep).2=0):(iT t i v keep).1.length=t.length/\∀k,(nod (iT t i v keep).1 k).up=(nod t k).up/\(nod (iT t i v keep).1 k).blk=(nod t k).blk:=by
 unfold iT at *;split at h
 ·omega
 rename_i h1;rw[al5 h1];split at h
 ·rename_i h2;rw[al7 h2];exact sS h
 rename_i h2;rw[al5 h2];split at h
 ·grind
 rename_i h3;rw[al5 h3];split at h
 ·omega
 rename_i h4;rw[al5 h4];split at h
 ·omega
 rename_i h5;rw[al5 h5];split at h
 ·rename_i h6
  rw[al7 h6];split at h
  ·omega
  ·rename_i h7;rw[al5 h7];have a:=sS (show (fD t (iY t i v.latest).1).2=0 by omega);have b:=zP h;grind
 ·rename_i h6;rw[al5 h6];exact zP h
theorem tT{t u:List Nod}(c:u.length=t.length)(d:∀k,(nod u k).blk=(nod t k).blk)(r:Rt):aj u r=aj t r:=by
 unfold aj;grind
theorem bP.judge{s:ap}{i:Nat}(h:bP s i){t:List Nod}(c:t.length=s.nodes.length)(b:∀k,(nod t k).up=(nod s.nodes k).up/\(nod t k).blk=(nod s.nodes k).blk):bP (dD s t) i:=by
 refine⟨h.cfg,⟨h.tree.ok.of_up c fun k=>(b k).1,by have:=h.tree.pos;show 0<t.length;omega,by show (nod t 0).up<0;rw[(b 0).1];exact h.tree.root⟩,?_,h.ll,by have:=h.nn;show t.length<=13;omega,fun n f=>?_,h.oo,h.uo,h.aa,h.av,h.tt,h.tb,h.qq,h.uj,h.uf,h.nw,h.ii,h.lv⟩
 ·show 0<=aj t s.j.rt
  rw[tT c fun k=>(b k).2];exact h.jf
 ·obtain⟨k,g,e⟩:=Ct f;rw[<-e];show np i (nod t k).blk;rw[(b k).2]
  exact h.blk (show k<s.nodes.length by have:k<t.length:=g;omega)
theorem BC(l:List Int)(n:Int):cE l n≠21:=by
 unfold cE;split
 ·simp
 ·have b:∀k i,l.length-i=k->nV l n i≠21:=by
   intro k;induction k with
   |zero=>intro i c;rw[oQ WL];simp
   | succ k d =>
     intro i c;rw[lY WL];split
     ·simp
     grind
  grind
theorem Mk(t:aW)(n:Int):gh t n≠21:=by unfold gh;omega
theorem tG(s:ap):(gp s).2≠21:=by unfold gp;grind
theorem GG(s:ap)(b:Blk):de s b≠21:=by
 unfold de;omega
theorem jE(s:ap)(b:Blk):(di s b).2.2≠21:=by
 unfold di;split
 ·grind
 ·split
  ·exact GG s b
  simp
theorem Gj(s:ap)(a:bp):(cm s a).2≠21:=by
 unfold cm;split
 ·exact BC _ _
 grind
theorem vC(s:ap)(a:bp):(mA s a).2≠21:=by
 unfold mA;split
 ·exact Gj s a
 grind
theorem qg(s:ap)(x:fe):(ik s x).2≠21:=by
 unfold ik;split
 ·unfold evE
  split
  ·exact BC _ _
  ·split
   ·exact BC _ _
   omega
 grind
theorem vP(s:ap)(t:aW):(kY s t).2≠21:=by
 unfold kY;split
 ·exact Mk _ _
 ·split
  ·simp
  ·split
   ·unfold iZ;split
    ·omega
    grind
   omega
structure fQ(s:aI)(i:Nat):Prop where
 sto:bP s.sto i
 rq:s.reqs.length<=10*i
 ut:∀r∈s.reqs,U64 r.tag
 yl:s.rets.length<=3
 tg:U64 s.tag
theorem fQ.up{s:aI}{i k:Nat}(h:fQ s i)(b:i<=k)(a:k<=40):fQ s k:=⟨h.sto.up b a,by have:=h.rq;omega,h.ut,h.yl,h.tg⟩
theorem pM{l:List Req}{k:Nat}(h:k<l.length):bm l k∈l:=bK _ h
theorem pW(t:List Nod)(l:List Req):(mm t l).length<=l.length/\∀r∈mm t l,r∈l:=by
 refine⟨by have:=ng (f:=kK t l) (a:=[]) (fun i o=>by unfold kK;grind) l.length;unfold mm;grind,?_⟩;refine Yy (f:=kK t l) (a:=[]) (fun _ o=>∀r∈o,r∈l) WM l.length (fun i o e g=>?_) _ (amb _);unfold kK;split
 ·intro r d;rw[amm,amn]at d;rcases d with d|rfl
  ·grind
  ·exact pM e
 omega
structure nq(s:aI)(i n:Nat):Prop where
 sto:bP s.sto i
 rq:s.reqs.length<=n
 ut:∀r∈s.reqs,U64 r.tag
 yl:s.rets.length<=3
 tg:U64 s.tag
theorem nq.a{s:aI}{i n:Nat}(h:nq s i n)(hn:n<=10*i):fQ s i:=⟨h.sto,ams h.rq hn,h.ut,h.yl,h.tg⟩
theorem fQ.q{s:aI}{i:Nat}(h:fQ s i):nq s i (10*i):=⟨h.sto,h.rq,h.ut,h.yl,h.tg⟩
theorem nq.drop{s:aI}{i n:Nat}(h:nq s i n):nq (mE s) i n:=by
 have a:=pW s.sto.nodes s.reqs;have c:=pW s.sto.nodes s.rets;exact⟨h.sto,ams a.1 h.rq,fun r b=>h.ut r (a.2 r b),ams c.1 h.yl,h.tg⟩
theorem nq.open1{s:aI}{i n:Nat}(h:nq s i n)(r:Rt)(k:Int):nq (nH s r k) i (n+1):=by
 refine⟨h.sto,by show (s.reqs++[_]).length<=_;have:=h.rq;grind,fun x a=>?_,h.yl,ce _⟩;rcases amm.1 a with a|a
 ·exact h.ut x a
 ·rw[amn]at a;rw[a];exact h.tg
theorem nq.le{s:aI}{i n m:Nat}(h:nq s i n)(hn:n<=m):nq s i m:=⟨h.sto,ams h.rq hn,h.ut,h.yl,h.tg⟩
theorem nq.opens{s:aI}{i n:Nat}(h:nq s i n)(l:List Rt):nq (nK s l) i (n+l.length):=by
 refine Yy (f:=mq l) (a:=s) (fun k t=>nq t i (n+k)) h l.length (fun k t c b=>?_) _ (amb _);unfold mq;split
 ·exact b.open1 _ _
 ·exact b.le WL
theorem nq.rets{s:aI}{i n:Nat}(h:nq s i n){l:List Req}(hl:l.length<=3):nq (gi s l) i n:=⟨h.sto,h.rq,h.ut,hl,h.tg⟩
theorem nq.due{s:aI}{i n:Nat}(h:nq s i n):nq (zQ s) i (n+3):=by
 have e:=Yy (f:=oZ s.rets) (a:=gi s []) (fun k t=>nq t i (n+k)/\t.rets.length<=k) ⟨h.rets WM,amb _⟩ s.rets.length (fun k t j b=>by
  have:=h.yl;unfold oZ;split
  ·exact⟨(b.1.rets WO).le WL,by show (t.rets++[_]).length<=k+1;grind⟩
  ·split
   ·exact⟨b.1.open1 _ _,akK b.2⟩
   ·exact⟨b.1.le WL,akK b.2⟩) _ (amb _)
 exact e.1.le (by have:=h.yl;omega)
theorem za:∀ (k:Nat) (l:List Req),(nS l k).length=l.length
 |0,l=>rfl
 | k + 1, l => by
   unfold nS;split
   ·rw[za k];simp
   simp
theorem fQ.later{s:aI}{i:Nat}(h:fQ s i)(r:Req):fQ (lO s r) i:=by
 unfold lO;split
 ·omega
 ·split
  ·exact⟨h.sto,h.rq,h.ut,h.yl,h.tg⟩
  ·have:=h.sto.cfg.lr;exact⟨h.sto,h.rq,h.ut,by show (nS _ _).length<=3;rw[za];grind,h.tg⟩
theorem FN(l:List Req)(i:Nat):(qh l i).length<=l.length/\∀r∈qh l i,r∈l:=by
 unfold qh;refine⟨WO,fun r c=>?_⟩;rcases amm.1 c with c|c
 ·grind
 grind
theorem fQ.mat{s:aI}{i:Nat}(h:fQ s i){v:Vdt}(c:(cz s v).2.2=0):fQ (cz s v).2.1 i:=by
 unfold cz at *;split at c
 ·rename_i k d;have a:=FN s.reqs k;exact⟨h.sto,ams a.1 h.rq,fun r b=>h.ut r (a.2 r b),h.yl,h.tg⟩
 grind
theorem bP.boostV{s:ap}{i:Nat}(h:bP s i):bP (boostV s) i:=by
 unfold Go.Proofs.YtmpddimhleianaaGreat.boostV;split
 ·exact h.withB _
 omega
theorem fQ.verd{s:aI}{i:Nat}(h:fQ s i){v:Vdt}(d:(ky s v).2=0\/(ky s v).2=21):fQ (ky s v).1 i:=by
 unfold ky at *;split at d
 ·grind
 ·rename_i g
  rw[al5 g];have a:=h.mat (v:=v) WL;split at d
  ·rename_i c;rw[al7 c];exact a.later _
  ·rename_i c
   rw[al5 c];split at d
   ·rename_i b;rw[al7 b];exact⟨h.sto,h.rq,h.ut,h.yl,h.tg⟩
   ·rename_i b;rw[al5 b];unfold judgeV at *;have e:=sN (show (iT (cz s v).2.1.sto.nodes _ v _).2=0 by simpa using b);exact⟨(a.sto.judge e.1 e.2).boostV,a.rq,a.ut,a.yl,a.tg⟩
structure OpR(x:VOp):Prop where
 blk:np 0 x.blk
 att:aam x.att
 fst:x.slg.fst.vals.length<=60
 snd:x.slg.snd.vals.length<=60
 tab:x.tab.bals.length<=60
 tep:U64 x.tab.cp.ep
theorem fQ.perf{s:aI}{i:Nat}(h:fQ s i)(hi:i<40){x:VOp}(hx:OpR x)(h2:(ia s x).2=0\/(ia s x).2=21):fQ (ia s x).1 (i+1):=by
 have hu:=h.up (akt i) WL;unfold ia at *;split at h2
 ·rename_i h3
  rw[al7 h3];split at h2
  ·rename_i h4;rw[al7 h4];have ht:=h.sto.tick h4;have hq:nq (ij s (gp s.sto).1) i (10*i):=⟨ht,h.rq,h.ut,h.yl,h.tg⟩;have hd:=hq.drop.due;exact⟨hd.sto.up (akt i) WL,by have:=hd.rq;dsimp only;omega,hd.ut,hd.yl,hd.tg⟩
  ·rename_i h4;exact absurd h2 (by intro h5;rcases h5 with h5|h5;exact h4 h5;exact tG _ h5)
 rename_i h3;rw[al5 h3];clear h3;split at h2
 ·rename_i h3
  rw[al7 h3];split at h2
  ·rename_i h4;rw[al7 h4];have ht:=h.sto.block (hx.blk.up (amc i)) h4;have hq:nq (ij s (di s.sto x.blk).1) i (10*i):=⟨ht.1,h.rq,h.ut,h.yl,h.tg⟩;have hd:=hq.drop.opens (di s.sto x.blk).2.1;have:=ht.2;exact⟨hd.sto.up (akt i) WL,by have:=hd.rq;dsimp only;omega,hd.ut,hd.yl,hd.tg⟩
  ·rename_i h4;exact absurd h2 (by intro h5;rcases h5 with h5|h5;exact h4 h5;exact jE _ _ h5)
 rename_i h3;rw[al5 h3];clear h3;split at h2
 ·rename_i h3;rw[al7 h3];exact⟨(h.sto.att hx.att (h2.resolve_right (vC _ _))).up (akt i) WL,hu.rq,hu.ut,hu.yl,hu.tg⟩
 rename_i h3;rw[al5 h3];clear h3;split at h2
 ·rename_i h3;rw[al7 h3];exact⟨h.sto.slash hx.fst hi (h2.resolve_right (qg _ _)),hu.rq,hu.ut,hu.yl,hu.tg⟩
 rename_i h3;rw[al5 h3];clear h3;split at h2
 ·rename_i h3;rw[al7 h3];exact⟨(h.sto.reg hx.tep (h2.resolve_right (vP _ _))).up (akt i) WL,hu.rq,hu.ut,hu.yl,hu.tg⟩
 rename_i h3;rw[al5 h3];clear h3;split at h2
 ·rename_i h3;rw[al7 h3];exact(h.verd h2).up (akt i) WL
 omega
theorem fQ.emit{s:aI}{i:Nat}(h:fQ s i):fQ (io s).1 i:=by
 unfold io;split
 ·omega
 ·exact⟨h.sto,h.rq,h.ut,h.yl,h.tg⟩
theorem fQ.step{s:aI}{i:Nat}(h:fQ s i)(b:i<40){x:VOp}(c:OpR x):fQ (kl s x).1 (i+1):=by
 have g:=h.up (akt i) WL;unfold kl;split
 ·omega
 ·split
  ·omega
  ·split
   ·rename_i e;exact h.perf b c (.inr e)
   ·split
    ·omega
    ·exact(h.perf b c (.inl WL)).emit
end Go.Proofs.YtmpddimhleianaaGreat
