/- Joined. -/
import Derived.Test.YtflhnmleodkjiaaGreatV6
import Derived.Test.YtflhnmleodkjiaaGreatW3
set_option linter.unusedVariables false
set_option linter.unusedSimpArgs false
set_option maxRecDepth 8000
set_option maxHeartbeats 4000000
namespace Go.Proofs.YtflhnmleodkjiaaGreat
open Go Go.FH Go.RowKit
def WdG(w:Wd):Prop:=∀n∈w.1,0<=n/\n<18446744073709551616
def Y1:Rt:=(rt0.set 0 100).set 31 188
structure np(i:Nat)(x:Blk):Prop where
 slot:U64 x.slot
 just:U64 x.just.ep
 fin:U64 x.fin.ep
 j:U64 x.pul.j.ep
 f:U64 x.pul.f.ep
 rt:i<=24->x.root≠Y1
 df:WdG x.diff
 pf:WdG x.pdiff
theorem np.u{i:Nat}{b:Blk}(h:np i b):NQ b:=⟨h.slot,h.just,h.fin,h.j,h.f⟩
def NwR(i:Nat)(n:Int):Prop:=U64 n/\(i<=24->n<=1099511627776)
structure afI(c:cU):Prop where
 s1:1<=c.spe
 s4:c.spe<=4
 b0:0<c.bals.length
 b1:c.bals.length<=6
 ln:c.lim.node<=13
 lo:c.lim.orph<=3
 la:c.lim.early<=3
 lt:c.lim.table<=4
 lr:c.lim.retry<=3
 tt:WdG c.ttd
 gn:c.gen≠Y1
structure aam(a:bp):Prop where
 len:a.vals.length<=10
 slot:U64 a.slot
 ep:U64 a.target.ep
structure agZ(t:aW):Prop where
 len:t.bals.length<=6
 ep:U64 t.cp.ep
structure bP(s:ap)(i:Nat):Prop where
 cfg:afI s.cfg
 tree:dU s.nodes
 jf:0<=aj s.nodes s.j.rt
 ll:s.latest.length=s.cfg.bals.length
 nn:s.nodes.length<=13
 un:∀n∈s.nodes,np i n.blk
 oo:s.orph.length<=3
 uo:∀b∈s.orph,np i b
 aa:s.early.length<=3
 av:∀a∈s.early,aam a
 tt:s.tabs.length<=4
 tb:∀t∈s.tabs,agZ t
 qq:s.eqv.length<=10*i
 uj:U64 s.j.ep
 uf:U64 s.f.ep
 nw:NwR i s.now
 ii:i<=30
 lv:∀v∈s.latest,U64 v.ep
theorem bP.r{s:ap}{i:Nat}(h:bP s i):StR s:=by
 have g:=h.cfg.s1;have e:=h.cfg.b1;have m:=h.nn;have n:=h.qq;have f:=h.ii;have c:=h.ll;have j:=h.tt;have k:=h.oo;have l:=h.aa;have b:=h.cfg.ln;exact⟨h.tree,by omega,by omega,by omega,by omega,by omega,fun t d=>by have:=(h.tb t d).len;omega,by omega,by omega,by omega,c,h.jf⟩
theorem cO(n:Int):U64 (IntKind.u64.wrap n):=by rw[Dg];exact⟨by omega,by omega⟩
theorem bK{α:Type}{l:List α}{i:Nat}(d:α)(h:i<l.length):l.getD i d∈l:=by
 grind
theorem bP.blk{s:ap}{i:Nat}(h:bP s i){k:Nat}(hk:k<s.nodes.length):np i (nod s.nodes k).blk:=h.un _ (bK _ hk)
theorem Ct{t:List Nod}{n:Nod}(h:n∈t):∃k,k<t.length/\nod t k=n:=by
 obtain⟨k,b,c⟩:=amJ h;exact⟨k,b,by unfold nod;grind⟩
theorem P1(s:ap)(j f:Cp):(dK s j f).cfg=s.cfg:=by unfold dK;grind
theorem afg(s:ap)(j f:Cp):(dK s j f).eqv=s.eqv:=by unfold dK;grind
theorem NL(s:ap)(j f:Cp):(dK s j f).early=s.early:=by unfold dK;grind
theorem Xf(s:ap)(j f:Cp):(dK s j f).now=s.now:=by unfold dK;grind
theorem Vy(s:ap)(j f:Cp):(dK s j f).latest=s.latest:=by unfold dK;grind
theorem YA(l:List Blk)(a:Int):∀b∈bg (tW l a) [] l.length,b∈l:=by
 refine Yy (f:=tW l a) (a:=[]) (fun _ o=>∀t∈o,t∈l) (by simp) l.length (fun i o e d=>?_) _ (amb _);unfold tW;split
 ·grind
 omega
theorem pT(s:ap)(j f:Cp):(dK s j f).orph.length<=s.orph.length/\∀b∈(dK s j f).orph,b∈s.orph:=by
 unfold dK;split
 ·simp
 ·split
  ·simp
  ·exact⟨xE _ _ _,YA _ _⟩
theorem Tm(s:ap)(j f:Cp):(dK s j f).tabs.length<=s.tabs.length/\∀b∈(dK s j f).tabs,b∈s.tabs:=by
 unfold dK;split
 ·simp
 ·split
  ·exact⟨oe _ _,oh _ _⟩
  ·exact⟨oe _ _,oh _ _⟩
theorem NM{s:ap}(h:dU s.nodes)(j f:Cp):(dK s j f).nodes.length<=s.nodes.length/\∀n∈(dK s j f).nodes,∃m,m<s.nodes.length/\n.blk=(nod s.nodes m).blk:=by
 have i:∀n∈s.nodes,∃m,m<s.nodes.length/\n.blk=(nod s.nodes m).blk:=fun n c=>by
  obtain⟨k,e,g⟩:=Ct c;grind
 unfold dK;split
 ·grind
 ·split
  ·grind
  ·refine⟨tf h _,fun n c=>?_⟩;obtain⟨k,e,g⟩:=Ct c;obtain⟨m,o,l⟩:=UP h _ k e;grind
theorem Im{a b:Cp}(e:U64 a.ep)(f:U64 b.ep):U64 (fh a b).ep:=by unfold fh;grind
theorem ac2{s:ap}(j f:Cp)(c:U64 s.j.ep)(d:U64 s.f.ep)(e:U64 j.ep)(b:U64 f.ep):U64 (dK s j f).j.ep/\U64 (dK s j f).f.ep:=by
 unfold dK;split
 ·grind
 ·split
  ·exact⟨Im c e,Im d b⟩
  ·exact⟨Im c e,Im d b⟩
theorem bP.upd{s:ap}{i:Nat}(h:bP s i){j f:Cp}(l:U64 j.ep)(o:U64 f.ep):bP (dK s j f) i:=by
 have a:=h.r.upd j f;have c:=NM h.tree j f;have e:=pT s j f;have d:=Tm s j f;have g:=ac2 j f h.uj h.uf l o;refine⟨by rw[P1];exact h.cfg,a.tree,a.jf,a.ll,ams c.1 h.nn,fun n p=>?_,ams e.1 h.oo,fun b q=>h.uo b (e.2 b q),by rw[NL];exact h.aa,by rw[NL];exact h.av,ams d.1 h.tt,fun t r=>h.tb t (d.2 t r),by rw[afg];exact h.qq,g.1,g.2,by rw[Xf];exact h.nw,h.ii,by rw[Vy];exact h.lv⟩;obtain⟨m,u,k⟩:=c.2 n p;rw[k];exact h.blk u
theorem bP.withB{s:ap}{i:Nat}(h:bP s i)(r:Rt):bP (withB s r) i:=
 ⟨h.cfg,h.tree,h.jf,h.ll,h.nn,h.un,h.oo,h.uo,h.aa,h.av,h.tt,h.tb,h.qq,h.uj,h.uf,h.nw,h.ii,h.lv⟩
theorem bP.withO{s:ap}{i:Nat}(h:bP s i){l:List Blk}(h1:l.length<=3)(h2:∀b∈l,np i b):bP (withO s l) i:=
 ⟨h.cfg,h.tree,h.jf,h.ll,h.nn,h.un,h1,h2,h.aa,h.av,h.tt,h.tb,h.qq,h.uj,h.uf,h.nw,h.ii,h.lv⟩
structure agV(s:ap)(b:Blk):Prop where
 root:b.root≠rt0
 kn:nL s b.root=false
 par:0<=aj s.nodes b.parent
 slot:(nod s.nodes (aj s.nodes b.parent).toNat).blk.slot<b.slot
 lim:(s.nodes.length:Int)<s.cfg.lim.node
theorem Mp {s : ap} {b : Blk} (h : de s b = 0) : agV s b := by
 unfold de at h;split at h
 ·omega
 ·split at h
  ·omega
  ·split at h
   ·omega
   ·split at h
    ·omega
    ·split at h
     ·omega
     ·split at h
      ·omega
      ·split at h
       ·simp at h
       ·split at h
        ·simp at h
        ·split at h
         ·simp at h
         ·split at h
          ·simp at h
          ·exact⟨by assumption,by simpa using ‹¬nL s b.root=true›,by omega,by omega,by omega⟩
theorem SV(b:Blk):0<=dc b/\dc b<=2:=by unfold dc;omega
theorem VX{s:ap}{b:Blk}(h:agV s b)(g:s.cfg.lim.node<=4096):(BV s.nodes b (dc b)).2=0:=by
 have e:=h.kn;unfold nL at e;have c:decide (0<=aj s.nodes b.root)=false:=by grind
 have d:=aky c;have i:=h.par;have j:=h.slot;have f:=h.lim;unfold BV;rw[al5 (by simp[SV b]),al5 d,al5 (by omega),al5 (by omega),al5 (by omega)]
theorem DR{t:List Nod}{n:Nod}{r:Rt}(h:0<=aj t r):0<=aj (t++[n]) r:=by
 obtain⟨c,d⟩:=dO h;exact lH (k:=(aj t r).toNat) (by grind) (by rw[eO,al7 c];omega)
theorem bP.insN{s:ap}{i:Nat}(h:bP s i){b:Blk}(g:de s b=0)(k:np i b):bP (dD s (BV s.nodes b (dc b)).1) i:=by
 have e:=Mp g;have d:=VX e (by have:=h.cfg.ln;omega);have j:=(OX d).1;have f:=h.tree.ins d;have m:=e.lim;have l:=h.cfg.ln;rw[j]at f ⊢;refine⟨h.cfg,f,DR h.jf,h.ll,by show (s.nodes++[_]).length<=13;simp;omega,fun n c=>?_,h.oo,h.uo,h.aa,h.av,h.tt,h.tb,h.qq,h.uj,h.uf,h.nw,h.ii,h.lv⟩;rcases amm.1 c with c|c
 ·exact h.un n c
 grind
theorem bP.ins{s:ap}{i:Nat}(h:bP s i){b:Blk}(d:de s b=0)(a:np i b):bP (kL s b) i:=by
 have e:=(h.insN d a).upd a.just a.fin;unfold kL;split
 ·exact e.upd a.j a.f
 omega
theorem ZY(l:List Blk)(i:Nat):∀b∈takeO l i,b∈l:=fun b c=>by
 rcases amm.1 c with c|c
 ·grind
 grind
theorem acY(l:List Blk)(i:Nat):(takeO l i).length<=l.length:=by
 unfold takeO;rw[akC,amA,ajJ];omega
theorem bP.takeO{s:ap}{i:Nat}(h:bP s i)(k:Nat):bP (Go.FH.withO s (takeO s.orph k)) i:=h.withO (ams (acY _ _) h.oo) fun b hb=>h.uo b (ZY _ _ b hb)
theorem bP.waitR{p:ap×List Rt}{i:Nat}(h:bP p.1 i)(e:0<=cY p.1):bP (waitR p).1 i:=by
 have d:=xw p.1;have c:=h.takeO (cY p.1).toNat
 unfold Go.Proofs.YtflhnmleodkjiaaGreat.waitR;split
 ·rename_i b;exact c.ins b (h.uo _ (bK _ (by omega)))
 omega
theorem bP.waitG{i:Nat}:∀ (f:Nat) {p:ap×List Rt},bP p.1 i->bP (waitG f p).1 i
 |0,_,h=>h
 | f + 1, p, h => by
   unfold Go.Proofs.YtflhnmleodkjiaaGreat.waitG;split
   ·omega
   ·exact bP.waitG f (h.waitR (by omega))
theorem aaf(p:ap×List Rt):(waitR p).2.length<=p.2.length+1:=by
 unfold waitR;grind
theorem NN:∀ (f:Nat) (p:ap×List Rt),(waitG f p).2.length<=p.2.length+f
 |0,p=>amb _
 | f + 1, p => by
   unfold waitG;split
   ·omega
   ·have d:=NN f (waitR p);have c:=aaf p;omega
theorem ag9{i:Nat}{b:Blk}(h:np i b):np i (noT b):=⟨h.slot,h.just,h.fin,h.j,h.f,h.rt,h.df,h.pf⟩
theorem bP.blockI{s:ap}{i:Nat}(h:bP s i){b:Blk}(c:de s b=0)(a:np i b):bP (blockI s b) i:=by
 unfold Go.Proofs.YtflhnmleodkjiaaGreat.blockI;split
 ·exact(h.ins c a).withB _
 ·exact h.ins c a
theorem bP.block{s:ap}{i:Nat}(h:bP s i){b:Blk}(j:np i b)(e:(di s b).2.2=0):bP (di s b).1 i/\(di s b).2.1.length<=5:=by
 unfold di at *;split at e
 ·rename_i f
  rw[al7 f];split at e
  ·grind
  ·rename_i d;rw[al5 d];have:=h.cfg.lo;refine⟨h.withO (by grind) (fun x a=>?_),by simp⟩;rw[amm,amn]at a;rcases a with a|rfl
   ·exact h.uo x a
   ·exact ag9 j
 ·rename_i f
  rw[al5 f];split at e
  ·grind
  ·rename_i d;rw[al5 d];have k:=h.blockI (by omega) j;have m:=k.oo;refine⟨bP.waitG _ k,?_⟩;have:=NN ((Go.Proofs.YtflhnmleodkjiaaGreat.blockI s b).orph.length+1) (Go.Proofs.YtflhnmleodkjiaaGreat.blockI s b,[b.root]);grind
structure fQ(s:aI)(i:Nat):Prop where
 sto:bP s.sto i
 rq:s.reqs.length<=10*i
 ut:∀r∈s.reqs,U64 r.tag
 yl:s.rets.length<=3
 tg:U64 s.tag
theorem pM{l:List Req}{k:Nat}(h:k<l.length):bm l k∈l:=bK _ h
structure nq(s:aI)(i n:Nat):Prop where
 sto:bP s.sto i
 rq:s.reqs.length<=n
 ut:∀r∈s.reqs,U64 r.tag
 yl:s.rets.length<=3
 tg:U64 s.tag
theorem nq.a{s:aI}{i n:Nat}(h:nq s i n)(hn:n<=10*i):fQ s i:=⟨h.sto,ams h.rq hn,h.ut,h.yl,h.tg⟩
theorem fQ.q{s:aI}{i:Nat}(h:fQ s i):nq s i (10*i):=⟨h.sto,h.rq,h.ut,h.yl,h.tg⟩
structure OpR(x:VOp):Prop where
 blk:np 0 x.blk
 att:aam x.att
 fst:x.slg.fst.vals.length<=10
 snd:x.slg.snd.vals.length<=10
 tab:x.tab.bals.length<=10
 tep:U64 x.tab.cp.ep
theorem fQ.emit{s:aI}{i:Nat}(h:fQ s i):fQ (io s).1 i:=by
 unfold io;split
 ·omega
 ·exact⟨h.sto,h.rq,h.ut,h.yl,h.tg⟩
theorem Sm.val{α:Type}{v:α}{F:α->Prop}(h:Sm (fun r=>r=v) F):F v:=by
 obtain⟨r,rfl,h⟩:=h;exact h
theorem aab(n:Nat):List.replicate n (al dL)=rows al (List.replicate n dL):=acs al n dL
theorem acF{fr:Fr}{σ:St}{rs:List gN}{l:List AV}{n:Int}{S:ap×Int}(hl:dH fr σ rs=some l)(hv:fz σ (List.range σ.length) (gk l)=.tup [.agg (aE kU),.int .i64 n])(hs:(jX,n)=S):
 Sm (fun r:ap×Int=>r=S) fun r=>PQ rs (.tup [.agg (aE r.1.a),.int .i64 r.2]) .ret fr σ:=
 ⟨(jX,n),hs,l,hl,.inr ⟨_,hv,(by simp[PuL,Pu,fy,kU,aE,eJ,mg,dI,ju,gV,ui,bW,cp0]),Wk.tup ⟨Qg,Wk.refl _,trivial⟩⟩⟩
theorem ae7(x:Sto)(p:Pul):spl (aE x) 47 (dB p)=aE { x with j:=p.j,f:=p.f }:=CZ x p.j p.f
theorem agK(x:Sto)(l:List (List AV)):Wk (.agg (aE { x with eqv:=.sl 0 true [],early:=.sl 0 true [],orph:=.sl 0 true [],tabs:=.sl 34 true l })) (.agg (aE { x with eqv:=.sl 1 false [],early:=.sl 67 false [],orph:=.sl 238 false [],tabs:=.sl 34 false l })):=by
 refine Wk.agg ?_;unfold aE;dsimp only;exact(WkC.refl _).app (.same _ (.cons (Wk.empty _ _ _) (fun h=>h) ((WkC.refl _).app ((WkC.refl _).app (.cons (Wk.empty _ _ _) (fun h=>h) (.cons (Wk.empty _ _ _) (fun h=>h) (.same _ (.same _ ((WkC.refl _).app (.one (Wk.open_ _ _ _) fun h=>h))))))))))
theorem aem(s:ap):PuL (aE { s.a with eqv:=.sl 0 true [],early:=.sl 0 true [],orph:=.sl 0 true [],tabs:=.sl 34 true (rows aW.c s.tabs) }):=by
 have h:=(uH _).1 s.pul;refine(uH _).2 ?_;simp only[Sto.Pure,Pu,fy,alq,alh]at *;simp[h,j8]
theorem RL(c:cU)(hb:c.bals.length<=2097152):PC Tryz.prog 75 [.agg (bW c.a)] (.tup [.agg (aE (O0 c).1.a),.int .i64 (O0 c).2]):=by
 refine Sm.val (F:=fun r:ap×Int=>PC Tryz.prog 75 [.agg (bW c.a)] (.tup [.agg (aE r.1.a),.int .i64 r.2])) ?_;refine md 9 Q5 (by simp) puA (fun r _=>puA) ?_;unfold EV;refine bd ?_;have c1:=xV ⟨⟨0,c.gen⟩,c.bals⟩ c.bals.length hb;have c2:=YH (adM c.gen) 1;have c3:=Hi ⟨⟨0,c.gen⟩,c.bals⟩ hb;generalize hV:gh ⟨⟨0,c.gen⟩,c.bals⟩ c.bals.length=V at *;have lt:∀ (a b:Int),decide (a > b)=decide (b<a):=fun _ _=>rfl
 iterate 5 (repeat'(first|refine cM ?_|(refine bR (fun h=>?_) (fun h=>?_)<;>try(exact absurd h (by decide)))|refine eo (fun h=>?_) (fun h=>?_));all_goals try refine db (TA _ _ _) ?_)
 repeat'(first|refine cM ?_|(refine bR (fun h=>?_) (fun h=>?_)<;>try(exact absurd h (by decide)))|refine eo (fun h=>?_) (fun h=>?_))
 all_goals try(refine acF (by first|rfl|exact evd) (by first|rfl|exact evd) ?_)
 rotate_left 2
 ·refine db c1 ?_
  repeat'(first|refine cM ?_|(refine bR (fun h=>?_) (fun h=>?_)<;>try(exact absurd h (by decide)))|refine eo (fun h=>?_) (fun h=>?_))
  ·refine acF (by first|rfl|exact evd) (by first|rfl|exact evd) ?_;(try simp only[akm,akh,amg,ami,aku,akz,am0,alf,ajL,akW,ajT,amZ,akc,ajY,amk,akM]at *)
   (simp only[O0,ib, *,reduceIte,ak2,ame,amp,amu,ajT,alh,alq,al3,al4,true_or,or_true,am6,al0,Int.reduceEq,amj,amt,eq_self,reduceCtorEq,alE,alQ,akF,am2,alB,ajq,alo,alp,alG,aj9,akh,akm])
  ·refine dZ c2 ?_
   refine cM ?_;refine dZ c3 ?_;have hrep:List.replicate c.bals.length (al ⟨false,0,rt0⟩)=rows al (List.replicate c.bals.length dL):=aab _;have ht:List.take c.bals.length (rows al (List.replicate c.bals.length ⟨false,0,rt0⟩))=rows al (List.replicate c.bals.length ⟨false,0,rt0⟩):=amf (by simp);repeat(first|refine cM ?_|simp only[go_sem,hrep,ae7])
   refine W3 (kO c,0) ?_ ⟨_,(by first|rfl|exact evd),.inr ⟨.tup [.agg (aE { (kO c).a with eqv:=.sl 0 true [],early:=.sl 0 true [],orph:=.sl 0 true [],tabs:=.sl 34 true (rows aW.c (kO c).tabs) }),.int .i64 0],?_,⟨aem _,trivial,trivial⟩,Wk.tup ⟨agK _ _,Wk.refl _,trivial⟩⟩⟩
   ·(try simp only[akm,akh,amg,ami,aku,akz,am0,alf,ajL,akW,ajT,amZ,akc,ajY,amk,akM]at *)
    (simp only[O0,ib, *,reduceIte,ak2,ame,amp,amu,ajT,alh,alq,al3,al4,true_or,or_true,am6,al0,Int.reduceEq,amj,amt,eq_self,reduceCtorEq,alE,alQ,akF,am2,alB,ajq,alo,alp,alG,aj9,akh,akm])
   ·(try simp only[go_sem,Nat.reduceAdd,Nat.reduceSub,Nat.reduceMul,Nat.reduceLT,Nat.reduceLeDiff,Nat.reduceEqDiff,reduceIte,Int.reduceToNat,Int.reduceLT,Int.reduceLE,Int.reduceEq,Int.reduceNeg,reduceCtorEq,Int.reduceBEq,Int.reduceBNe,akH,ht])
    rfl
 all_goals(try simp only[akm,akh,amg,ami,aku,akz,am0,alf,ajL,akW,ajT,amZ,akc,ajY,amk,akM]at *)
 all_goals(simp only[O0,ib, *,reduceIte,ak2,ame,amp,amu,ajT,alh,alq,al3,al4,true_or,or_true,am6,al0,Int.reduceEq,amj,amt,eq_self,reduceCtorEq,alE,alQ,akF,am2,alB,ajq,alo,alp,alG,aj9,akh,akm])
theorem zq(x:Sto)(v:AV):(aE x).set 113 v=aE { x with early:=v }:=by
 simp only[aE,akf,aU,aD,al8,Nat.reduceSub,Nat.reduceLT,amj,amy,amx]
theorem zp(x:Sto):(aE x).getD 113 .dead=x.early:=by
 simp only[aE,alt,aj2,aU,aD,al8,Nat.reduceSub,Nat.reduceLT,amj,ajB,amQ,amT]
end Go.Proofs.YtflhnmleodkjiaaGreat
