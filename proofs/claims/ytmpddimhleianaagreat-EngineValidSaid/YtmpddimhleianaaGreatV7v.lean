/- Joined. -/
import Derived.Test.YtmpddimhleianaaGreatV6v
import Derived.Test.YtmpddimhleianaaGreatW3v
set_option linter.unusedVariables false
set_option linter.unusedSimpArgs false
set_option maxRecDepth 8000
set_option maxHeartbeats 4000000
namespace Go.Proofs.YtmpddimhleianaaGreat
open Go Go.FH Go.RowKit
theorem Sm.val{α:Type}{v:α}{F:α->Prop}(h:Sm (fun r=>r=v) F):F v:=by
 obtain⟨r,rfl,h⟩:=h;exact h
theorem GX(n:Nat):List.replicate n (bJ eY)=rows bJ (List.replicate n eY):=Vx bJ n eY
theorem VL{fr:Fr}{σ:St}{rs:List fS}{l:List AV}{n:Int}{S:af×Int}(hl:dy fr σ rs=some l)(hv:fz σ (List.range σ.length) (fJ l)=.tup [.agg (ak i6),.int .i64 n])(hs:(kj,n)=S):
 Sm (fun r:af×Int=>r=S) fun r=>PQ rs (.tup [.agg (ak r.1.a),.int .i64 r.2]) .ret fr σ:=
 ⟨(kj,n),hs,l,hl,.inr ⟨_,hv,(by simp[PuL,Pu,fU,i6,ak,fy,kv,dH,jK,gG,rl,cV,cp0]),Wk.tup ⟨IZ,Wk.refl _,trivial⟩⟩⟩
theorem Ir(x:Sto)(p:Pul):spl (ak x) 47 (gc p)=ak { x with j:=p.j,f:=p.f }:=xx x p.j p.f
theorem Wr(x:Sto)(l:List (List AV)):Wk (.agg (ak { x with eqv:=.sl 0 true [],early:=.sl 0 true [],orph:=.sl 0 true [],tabs:=.sl 34 true l })) (.agg (ak { x with eqv:=.sl 1 false [],early:=.sl 67 false [],orph:=.sl 238 false [],tabs:=.sl 34 false l })):=by
 refine Wk.agg ?_;unfold ak;dsimp only;exact(WkC.refl _).app (.same _ (.cons (Wk.empty _ _ _) (fun h=>h) ((WkC.refl _).app ((WkC.refl _).app (.cons (Wk.empty _ _ _) (fun h=>h) (.cons (Wk.empty _ _ _) (fun h=>h) (.same _ (.same _ ((WkC.refl _).app (.one (Wk.open_ _ _ _) fun h=>h))))))))))
theorem OO(s:af):PuL (ak { s.a with eqv:=.sl 0 true [],early:=.sl 0 true [],orph:=.sl 0 true [],tabs:=.sl 34 true (rows aB.c s.tabs) }):=by
 have h:=(rB _).1 s.pul;refine(rB _).2 ?_;simp only[Sto.Pure,Pu,fU,afo,aes]at *;simp[h,i9]
theorem Kb(c:cI)(hb:c.bals.length<=2097152):PC Tryz.prog 44 [.agg (cV c.a)] (.tup [.agg (ak (wu c).1.a),.int .i64 (wu c).2]):=by
 refine Sm.val (F:=fun r:af×Int=>PC Tryz.prog 44 [.agg (cV c.a)] (.tup [.agg (ak r.1.a),.int .i64 r.2])) ?_;refine lX 9 JG af1 puA (fun r _=>puA) ?_;unfold yO;refine bd ?_;have c1:=tH ⟨⟨0,c.gen⟩,c.bals⟩ c.bals.length hb;have c2:=QI (xV c.gen) 1;have c3:=Bu ⟨⟨0,c.gen⟩,c.bals⟩ hb;generalize hV:fY ⟨⟨0,c.gen⟩,c.bals⟩ c.bals.length=V at *;have lt:∀ (a b:Int),decide (a > b)=decide (b<a):=fun _ _=>rfl
 iterate 5 (repeat'(first|refine db ?_|(refine bB (fun h=>?_) (fun h=>?_)<;>try(exact absurd h af2))|refine eK (fun h=>?_) (fun h=>?_));all_goals try refine dt (Lv _ _ _) ?_)
 repeat'(first|refine db ?_|(refine bB (fun h=>?_) (fun h=>?_)<;>try(exact absurd h af2))|refine eK (fun h=>?_) (fun h=>?_))
 all_goals try(refine VL (by first|rfl|exact evd) (by first|rfl|exact evd) ?_)
 rotate_left 2
 ·refine dt c1 ?_
  repeat'(first|refine db ?_|(refine bB (fun h=>?_) (fun h=>?_)<;>try(exact absurd h af2))|refine eK (fun h=>?_) (fun h=>?_))
  ·refine VL (by first|rfl|exact evd) (by first|rfl|exact evd) ?_;(try simp only[adZ,adP,afJ,afQ,ad3,aej,ac0,aeM,adu,aeC,afw,acE,adM,adm,afL,ad4]at *)
   (simp only[wu,gF, *,reduceIte,aei,afP,aeq,aeS,afw,aes,afo,afe,afr,afq,or_true,afp,aeO,Int.reduceEq,acq,aco,eq_self,reduceCtorEq,afb,afl,adI,acD,aef,acI,aeT,aeh,aeE,ac9,adP,adZ])
  ·refine ee c2 ?_
   refine db ?_;refine ee c3 ?_;have hrep:List.replicate c.bals.length (bJ ⟨false,0,rt0⟩)=rows bJ (List.replicate c.bals.length eY):=GX _;have ht:List.take c.bals.length (rows bJ (List.replicate c.bals.length ⟨false,0,rt0⟩))=rows bJ (List.replicate c.bals.length ⟨false,0,rt0⟩):=afD af1;repeat(first|refine db ?_|simp only[go_sem,hrep,Ir])
   refine OX (eG c,0) ?_ ⟨_,(by first|rfl|exact evd),.inr ⟨.tup [.agg (ak { (eG c).a with eqv:=.sl 0 true [],early:=.sl 0 true [],orph:=.sl 0 true [],tabs:=.sl 34 true (rows aB.c (eG c).tabs) }),.int .i64 0],?_,⟨OO _,trivial,trivial⟩,Wk.tup ⟨Wr _ _,Wk.refl _,trivial⟩⟩⟩
   ·(try simp only[adZ,adP,afJ,afQ,ad3,aej,ac0,aeM,adu,aeC,afw,acE,adM,adm,afL,ad4]at *)
    (simp only[wu,gF, *,reduceIte,aei,afP,aeq,aeS,afw,aes,afo,afe,afr,afq,or_true,afp,aeO,Int.reduceEq,acq,aco,eq_self,reduceCtorEq,afb,afl,adI,acD,aef,acI,aeT,aeh,aeE,ac9,adP,adZ])
   ·(try simp only[go_sem,Nat.reduceAdd,Nat.reduceSub,Nat.reduceMul,Nat.reduceLT,Nat.reduceLeDiff,Nat.reduceEqDiff,reduceIte,Int.reduceToNat,Int.reduceLT,Int.reduceLE,Int.reduceEq,Int.reduceNeg,reduceCtorEq,Int.reduceBEq,Int.reduceBNe,ada,ht])
    rfl
 all_goals(try simp only[adZ,adP,afJ,afQ,ad3,aej,ac0,aeM,adu,aeC,afw,acE,adM,adm,afL,ad4]at *)
 all_goals(simp only[wu,gF, *,reduceIte,aei,afP,aeq,aeS,afw,aes,afo,afe,afr,afq,or_true,afp,aeO,Int.reduceEq,acq,aco,eq_self,reduceCtorEq,afb,afl,adI,acD,aef,acI,aeT,aeh,aeE,ac9,adP,adZ])
def WdG(w:Wd):Prop:=∀n∈w.1,0<=n/\n<18446744073709551616
def XU:Rt:=(rt0.set 0 100).set 31 188
structure jL(i:Nat)(x:Blk):Prop where
 slot:U64 x.slot
 just:U64 x.just.ep
 fin:U64 x.fin.ep
 j:U64 x.pul.j.ep
 f:U64 x.pul.f.ep
 df:WdG x.diff
 pf:WdG x.pdiff
theorem jL.up{i k:Nat}{b:Blk}(h:jL i b)(hk:i<=k):jL k b:=⟨h.slot,h.just,h.fin,h.j,h.f,h.df,h.pf⟩
theorem jL.u{i:Nat}{b:Blk}(h:jL i b):I1 b:=⟨h.slot,h.just,h.fin,h.j,h.f⟩
def NwR(i:Nat)(n:Int):Prop:=U64 n/\(i<=34->n<=1099511627776)
theorem NwR.up{i k:Nat}{n:Int}(h:NwR i n)(b:i<=k):NwR k n:=⟨h.1,fun a=>h.2 af0⟩
structure Zd(c:cI):Prop where
 s1:1<=c.spe
 s4:c.spe<=4
 b0:0<c.bals.length
 b1:c.bals.length<=6
 ln:c.lim.node<=13
 lo:c.lim.orph<=3
 la:c.lim.early<=3
 lt:c.lim.table<=4
 lr:c.lim.retry<=3
 tt:WdG c.ttd
 gn:c.gen≠XU
structure SH(a:aX):Prop where
 len:a.vals.length<=60
 slot:U64 a.slot
 ep:U64 a.target.ep
structure aaw(t:aB):Prop where
 len:t.bals.length<=6
 ep:U64 t.cp.ep
structure bi(s:af)(i:Nat):Prop where
 cfg:Zd s.cfg
 tree:bk s.nodes
 jf:0<=ab s.nodes s.j.rt
 ll:s.latest.length=s.cfg.bals.length
 nn:s.nodes.length<=13
 un:∀n∈s.nodes,jL i n.blk
 oo:s.orph.length<=3
 uo:∀b∈s.orph,jL i b
 aa:s.early.length<=3
 av:∀a∈s.early,SH a
 tt:s.tabs.length<=4
 tb:∀t∈s.tabs,aaw t
 qq:s.eqv.length<=60*i
 uj:U64 s.j.ep
 uf:U64 s.f.ep
 nw:NwR i s.now
 ii:i<=40
 lv:∀v∈s.latest,U64 v.ep
theorem bi.r{s:af}{i:Nat}(h:bi s i):StR s:=by
 have g:=h.cfg.s1;have e:=h.cfg.b1;have m:=h.nn;have n:=h.qq;have f:=h.ii;have c:=h.ll;have j:=h.tt;have k:=h.oo;have l:=h.aa;have b:=h.cfg.ln;exact⟨h.tree,af0,af0,af0,af0,af0,fun t d=>by have:=(h.tb t d).len;omega,af0,af0,af0,c,h.jf⟩
theorem bi.up{s:af}{i k:Nat}(h:bi s i)(w:i<=k)(A:k<=40):bi s k:=by
 obtain⟨a,b,c,d,e,f,g,j,l,m,n,o,p,q,r,t,u,y⟩:=h;exact⟨a,b,c,d,e,fun x v=>(f x v).up w,g,fun x v=>(j x v).up w,l,m,n,o,af0,q,r,t.up w,A,y⟩
theorem dc(n:Int):U64 (IntKind.u64.wrap n):=by rw[lj];exact⟨af0,af0⟩
theorem cR{α:Type}{l:List α}{i:Nat}(d:α)(h:i<l.length):l.getD i d∈l:=by
 grind
theorem bi.blk{s:af}{i:Nat}(h:bi s i){k:Nat}(hk:k<s.nodes.length):jL i (nod s.nodes k).blk:=h.un _ (cR _ hk)
theorem qD{t:List Nod}{n:Nod}(h:n∈t):∃k,k<t.length/\nod t k=n:=by
 obtain⟨k,b,c⟩:=acp h;exact⟨k,b,by unfold nod;grind⟩
theorem IR(s:af)(j f:Cp):(dw s j f).cfg=s.cfg:=by unfold dw;grind
theorem YM(s:af)(j f:Cp):(dw s j f).eqv=s.eqv:=by unfold dw;grind
theorem GV(s:af)(j f:Cp):(dw s j f).early=s.early:=by unfold dw;grind
theorem Pc(s:af)(j f:Cp):(dw s j f).now=s.now:=by unfold dw;grind
theorem NR(s:af)(j f:Cp):(dw s j f).latest=s.latest:=by unfold dw;grind
theorem Qx(l:List Blk)(a:Int):∀b∈aH (pO l a) [] l.length,b∈l:=by
 refine dp (f:=pO l a) (a:=[]) (fun _ o=>∀t∈o,t∈l) af1 l.length (fun i o e d=>?_) _ (afE _);unfold pO;split
 ·grind
 omega
theorem mD(s:af)(j f:Cp):(dw s j f).orph.length<=s.orph.length/\∀b∈(dw s j f).orph,b∈s.orph:=by
 unfold dw;split
 ·simp
 ·split
  ·simp
  ·exact⟨te _ _ _,Qx _ _⟩
theorem Lk(s:af)(j f:Cp):(dw s j f).tabs.length<=s.tabs.length/\∀b∈(dw s j f).tabs,b∈s.tabs:=by
 unfold dw;split
 ·simp
 ·split
  ·exact⟨na _ _,nc _ _⟩
  ·exact⟨na _ _,nc _ _⟩
theorem GW{s:af}(h:bk s.nodes)(j f:Cp):(dw s j f).nodes.length<=s.nodes.length/\∀n∈(dw s j f).nodes,∃m,m<s.nodes.length/\n.blk=(nod s.nodes m).blk:=by
 have i:∀n∈s.nodes,∃m,m<s.nodes.length/\n.blk=(nod s.nodes m).blk:=fun n c=>by
  obtain⟨k,e,g⟩:=qD c;grind
 unfold dw;split
 ·grind
 ·split
  ·grind
  ·refine⟨qI h _,fun n c=>?_⟩;obtain⟨k,e,g⟩:=qD c;obtain⟨m,o,l⟩:=Nc h _ k e;grind
theorem u7{a b:Cp}(e:U64 a.ep)(f:U64 b.ep):U64 (eU a b).ep:=by unfold eU;grind
theorem Wi{s:af}(j f:Cp)(c:U64 s.j.ep)(d:U64 s.f.ep)(e:U64 j.ep)(b:U64 f.ep):U64 (dw s j f).j.ep/\U64 (dw s j f).f.ep:=by
 unfold dw;split
 ·grind
 ·split
  ·exact⟨u7 c e,u7 d b⟩
  ·exact⟨u7 c e,u7 d b⟩
theorem bi.upd{s:af}{i:Nat}(h:bi s i){j f:Cp}(l:U64 j.ep)(o:U64 f.ep):bi (dw s j f) i:=by
 have a:=h.r.upd j f;have c:=GW h.tree j f;have e:=mD s j f;have d:=Lk s j f;have g:=Wi j f h.uj h.uf l o;refine⟨by rw[IR];exact h.cfg,a.tree,a.jf,a.ll,acn c.1 h.nn,fun n p=>?_,acn e.1 h.oo,fun b q=>h.uo b (e.2 b q),by rw[GV];exact h.aa,by rw[GV];exact h.av,acn d.1 h.tt,fun t r=>h.tb t (d.2 t r),by rw[YM];exact h.qq,g.1,g.2,by rw[Pc];exact h.nw,h.ii,by rw[NR];exact h.lv⟩;obtain⟨m,u,k⟩:=c.2 n p;rw[k];exact h.blk u
theorem bi.withE{s:af}{i:Nat}(h:bi s i){l:List aX}(h1:l.length<=3)(h2:∀a∈l,SH a):bi (withE s l) i:=
 ⟨h.cfg,h.tree,h.jf,h.ll,h.nn,h.un,h.oo,h.uo,h1,h2,h.tt,h.tb,h.qq,h.uj,h.uf,h.nw,h.ii,h.lv⟩
theorem bi.withL{s:af}{i:Nat}(h:bi s i){l:List Vot}(h1:l.length=s.latest.length)(h2:∀v∈l,U64 v.ep):bi (withL s l) i:=
 ⟨h.cfg,h.tree,h.jf,h1.trans h.ll,h.nn,h.un,h.oo,h.uo,h.aa,h.av,h.tt,h.tb,h.qq,h.uj,h.uf,h.nw,h.ii,h2⟩
theorem bi.withB{s:af}{i:Nat}(h:bi s i)(r:Rt):bi (withB s r) i:=
 ⟨h.cfg,h.tree,h.jf,h.ll,h.nn,h.un,h.oo,h.uo,h.aa,h.av,h.tt,h.tb,h.qq,h.uj,h.uf,h.nw,h.ii,h.lv⟩
theorem bi.withO{s:af}{i:Nat}(h:bi s i){l:List Blk}(h1:l.length<=3)(h2:∀b∈l,jL i b):bi (withO s l) i:=
 ⟨h.cfg,h.tree,h.jf,h.ll,h.nn,h.un,h1,h2,h.aa,h.av,h.tt,h.tb,h.qq,h.uj,h.uf,h.nw,h.ii,h.lv⟩
theorem bi.withT{s:af}{i:Nat}(h:bi s i){l:List aB}(h1:l.length<=4)(h2:∀t∈l,aaw t):bi (withT s l) i:=
 ⟨h.cfg,h.tree,h.jf,h.ll,h.nn,h.un,h.oo,h.uo,h.aa,h.av,h1,h2,h.qq,h.uj,h.uf,h.nw,h.ii,h.lv⟩
theorem WP{d:Int}(h:U64 d)(b:Rt)(l:List Int)(v:List Vot)(e:∀x∈v,U64 x.ep):∀x∈(vJ v d b l).1,U64 x.ep:=by
 refine dp (f:=kP d b l) (a:=(v,0)) (fun _ p=>∀x∈p.1,U64 x.ep) e l.length (fun k p i g=>?_) _ (afE _);unfold kP;split
 ·grind
 omega
theorem bi.castIn{s:af}{i:Nat}(h:bi s i){a:aX}(ha:U64 a.target.ep):bi (castIn s a) i:=h.withL (nP _ _ _ _ _) (WP ha _ _ _ h.lv)
theorem bi.tickA{s:af}{i:Nat}(h:bi s i)(b:¬1099511627776<=s.now):bi (tickA s) i:=
 ⟨h.cfg,h.tree,h.jf,h.ll,h.nn,h.un,h.oo,h.uo,h.aa,h.av,h.tt,h.tb,h.qq,h.uj,h.uf,⟨dc _,fun _=>by have:=h.nw.1.lo;show IntKind.u64.wrap (s.now+1)<=_;rw[aC af0 af0];omega⟩,h.ii,h.lv⟩
theorem HY{i:Nat}{s:af}(h:∀k,k<s.nodes.length->jL i (nod s.nodes k).blk):U64 (kc s).j.ep/\U64 (kc s).f.ep:=by
 refine dp (f:=Ks s.nodes) (a:=(KE,false)) (fun _ p=>U64 p.1.j.ep/\U64 p.1.f.ep) ⟨⟨af2,af2⟩,⟨af2,af2⟩⟩ s.nodes.length (fun k p c e=>?_) _ (afE _);unfold Ks;split
 ·omega
 ·refine⟨?_,?_⟩
  ·split
   ·exact(h k c).j
   grind
  ·dsimp only;split
   ·exact(h k c).f
   grind
theorem bi.tickB{s:af}{i:Nat}(h:bi s i):bi (tickB s) i:=by
 unfold Go.Proofs.YtmpddimhleianaaGreat.tickB;split
 ·have:=HY (s:=s) fun k a=>h.blk a
  exact h.upd this.1 this.2
 omega
theorem rH{l:List aX}{k:Nat}(h:k<l.length):fB l k∈l:=cR _ h
theorem bi.tickR{l:List aX}(f:∀a∈l,SH a)(j:l.length<=3){s:af}{i:Nat}(h:bi s i):∀k,k<=l.length->bi (aH (tickR l) (Go.FH.withE s []) k) i/\(aH (tickR l) (Go.FH.withE s []) k).early.length<=k
 |0,_=>⟨h.withE af1 af1,afE _⟩
 | k + 1, m => by
   obtain⟨e,g⟩:=bi.tickR f j h k af0;rw[bg];generalize aH (Go.Proofs.YtmpddimhleianaaGreat.tickR l) (Go.FH.withE s []) k=t at *;unfold Go.Proofs.YtmpddimhleianaaGreat.tickR;split
   ·refine⟨e.withE af3 (fun a b=>?_),by show (t.early++[fB l k]).length<=k+1;simp;omega⟩;rw[afR,afN]at b;rcases b with b|rfl
    ·exact e.av a b
    ·exact f _ (rH af0)
   ·split
    ·exact⟨e.castIn (f _ (rH af0)).ep,aer g⟩
    grind
theorem bi.tickC{s:af}{i:Nat}(h:bi s i):bi (tickC s s.early) i:=(bi.tickR h.av h.aa h _ (afE _)).1
theorem bi.tick{s:af}{i:Nat}(h:bi s i)(b:(dF s).2=0):bi (dF s).1 i:=by
 unfold dF at *;split at b
 ·omega
 ·rename_i a;rw[afx a];exact(h.tickA a).tickB.tickC
structure aaq(s:af)(b:Blk):Prop where
 root:b.root≠rt0
 kn:ju s b.root=false
 par:0<=ab s.nodes b.parent
 slot:(nod s.nodes (ab s.nodes b.parent).toNat).blk.slot<b.slot
 lim:(s.nodes.length:Int)<s.cfg.lim.node
theorem Fp {s : af} {b : Blk} (h : bG s b = 0) : aaq s b := by
 unfold bG at h;split at h
 ·omega
 ·split at h
  ·omega
  ·split at h
   ·omega
   ·split at h
    ·omega
    ·split at h
     ·omega
     ·split at h
      ·omega
      ·split at h
       ·simp at h
       ·split at h
        ·simp at h
        ·split at h
         ·simp at h
         ·split at h
          ·simp at h
          ·exact⟨by assumption,by simpa using ‹¬ju s b.root=true›,af0,af0,af0⟩
theorem K4(b:Blk):0<=cC b/\cC b<=2:=by unfold cC;omega
theorem Ou{s:af}{b:Blk}(h:aaq s b)(g:s.cfg.lim.node<=4096):(eZ s.nodes b (cC b)).2=0:=by
 have e:=h.kn;unfold ju at e;have c:decide (0<=ab s.nodes b.root)=false:=af3
 have d:=adi c;have i:=h.par;have j:=h.slot;have f:=h.lim;unfold eZ;rw[afx (by simp[K4 b]),afx d,afx af0,afx af0,afx af0]
theorem xT{t:List Nod}{n:Nod}{r:Rt}(h:0<=ab t r):0<=ab (t++[n]) r:=by
 obtain⟨c,d⟩:=dD h;exact j5 (k:=(ab t r).toNat) af3 (by rw[eW,afA c];omega)
theorem bi.insN{s:af}{i:Nat}(h:bi s i){b:Blk}(g:bG s b=0)(k:jL i b):bi (bQ s (eZ s.nodes b (cC b)).1) i:=by
 have e:=Fp g;have d:=Ou e (by have:=h.cfg.ln;omega);have j:=(HP d).1;have f:=h.tree.ins d;have m:=e.lim;have l:=h.cfg.ln;rw[j]at f ⊢;refine⟨h.cfg,f,xT h.jf,h.ll,by show (s.nodes++[_]).length<=13;simp;omega,fun n c=>?_,h.oo,h.uo,h.aa,h.av,h.tt,h.tb,h.qq,h.uj,h.uf,h.nw,h.ii,h.lv⟩;rcases afR.1 c with c|c
 ·exact h.un n c
 grind
theorem bi.ins{s:af}{i:Nat}(h:bi s i){b:Blk}(d:bG s b=0)(a:jL i b):bi (gE s b) i:=by
 have e:=(h.insN d a).upd a.just a.fin;unfold gE;split
 ·exact e.upd a.j a.f
 omega
theorem Sd(l:List Blk)(i:Nat):∀b∈takeO l i,b∈l:=fun b c=>by
 rcases afR.1 c with c|c
 ·grind
 grind
theorem Wb(l:List Blk)(i:Nat):(takeO l i).length<=l.length:=by
 unfold takeO;rw[afB,adG,acT];omega
theorem bi.takeO{s:af}{i:Nat}(h:bi s i)(k:Nat):bi (Go.FH.withO s (takeO s.orph k)) i:=h.withO (acn (Wb _ _) h.oo) fun b hb=>h.uo b (Sd _ _ b hb)
theorem bi.waitR{p:af×List Rt}{i:Nat}(h:bi p.1 i)(e:0<=bW p.1):bi (waitR p).1 i:=by
 have d:=oA p.1;have c:=h.takeO (bW p.1).toNat
 unfold Go.Proofs.YtmpddimhleianaaGreat.waitR;split
 ·rename_i b;exact c.ins b (h.uo _ (cR _ af0))
 omega
theorem bi.waitG{i:Nat}:∀ (f:Nat) {p:af×List Rt},bi p.1 i->bi (waitG f p).1 i
 |0,_,h=>h
 | f + 1, p, h => by
   unfold Go.Proofs.YtmpddimhleianaaGreat.waitG;split
   ·omega
   ·exact bi.waitG f (h.waitR af0)
theorem Sx(p:af×List Rt):(waitR p).2.length<=p.2.length+1:=by
 unfold waitR;grind
theorem GY:∀ (f:Nat) (p:af×List Rt),(waitG f p).2.length<=p.2.length+f
 |0,p=>afE _
 | f + 1, p => by
   unfold waitG;split
   ·omega
   ·have d:=GY f (waitR p);have c:=Sx p;omega
theorem aaP{i:Nat}{b:Blk}(h:jL i b):jL i (noT b):=⟨h.slot,h.just,h.fin,h.j,h.f,h.df,h.pf⟩
theorem bi.blockI{s:af}{i:Nat}(h:bi s i){b:Blk}(c:bG s b=0)(a:jL i b):bi (blockI s b) i:=by
 unfold Go.Proofs.YtmpddimhleianaaGreat.blockI;split
 ·exact(h.ins c a).withB _
 ·exact h.ins c a
theorem bi.block{s:af}{i:Nat}(h:bi s i){b:Blk}(j:jL i b)(e:(bR s b).2.2=0):bi (bR s b).1 i/\(bR s b).2.1.length<=5:=by
 unfold bR at *;split at e
 ·rename_i f
  rw[afA f];split at e
  ·grind
  ·rename_i d;rw[afx d];have:=h.cfg.lo;refine⟨h.withO af3 (fun x a=>?_),af1⟩;rw[afR,afN]at a;rcases a with a|rfl
   ·exact h.uo x a
   ·exact aaP j
 ·rename_i f
  rw[afx f];split at e
  ·grind
  ·rename_i d;rw[afx d];have k:=h.blockI af0 j;have m:=k.oo;refine⟨bi.waitG _ k,?_⟩;have:=GY ((Go.Proofs.YtmpddimhleianaaGreat.blockI s b).orph.length+1) (Go.Proofs.YtmpddimhleianaaGreat.blockI s b,[b.root]);grind
theorem bi.att{s:af}{i:Nat}(h:bi s i){a:aX}(e:SH a)(c:(kH s a).2=0):bi (kH s a).1 i:=by
 unfold kH at *;split at c
 ·omega
 ·rename_i f
  rw[afx f];split at c
  ·rename_i d;rw[afA d];exact h.castIn e.ep
  ·rename_i d
   rw[afx d];split at c
   ·omega
   ·rename_i g;rw[afx g];have:=h.cfg.la;refine h.withE af3 (fun x b=>?_);rw[afR,afN]at b;rcases b with b|rfl
    ·exact h.av x b
    omega
theorem bi.slash{s:af}{i:Nat}(h:bi s i){x:gi}(b:x.fst.vals.length<=60)(k:i<40)(c:(d7 s x).2=0):bi (d7 s x).1 (i+1):=by
 unfold d7 at *;split at c
 ·omega
 ·rename_i e
  rw[afx e];split at c
  ·omega
  ·rename_i f;rw[afx f];have g:=rS x.fst.vals x.snd.vals x.fst.vals.length;have j:=Ap s.eqv (gk x.fst.vals x.snd.vals x.fst.vals.length) (gk x.fst.vals x.snd.vals x.fst.vals.length).length;have l:=h.qq;exact⟨h.cfg,h.tree,h.jf,h.ll,h.nn,fun x b=>(h.un x b).up (ad5 i),h.oo,fun x b=>(h.uo x b).up (ad5 i),h.aa,h.av,h.tt,h.tb,by show (ym s.eqv _).length<=_;unfold ym;omega,h.uj,h.uf,h.nw.up (ad5 i),af0,h.lv⟩
theorem AL(l:List aB)(t:aB):(mF l t).length=l.length+1:=by
 unfold mF;simp only[afB,adG,acT,afG,afM];omega
theorem uQ(l:List aB)(t:aB):∀x∈mF l t,x∈l\/x=t:=fun x b=>by
 unfold mF at b;simp only[afR]at b;rcases b with (b|b)|b
 ·grind
 ·grind
 grind
theorem bi.reg{s:af}{i:Nat}(h:bi s i){t:aB}(k:U64 t.cp.ep)(d:(iL s t).2=0):bi (iL s t).1 i:=by
 unfold iL at *;split at d
 ·omega
 ·rename_i l
  rw[afx l];split at d
  ·omega
  ·rename_i m
   rw[afx m];split at d
   ·omega
   ·rename_i g
    rw[afx g];have e:fY t s.cfg.bals.length=0:=af0
    have j:t.bals.length<=6:=by
     have:=h.cfg.b1;unfold fY at e;split at e
     ·omega
     omega
    have f:(ib s.tabs t s.cfg.bals.length s.cfg.lim.table).1.length<=4/\∀x∈(ib s.tabs t s.cfg.bals.length s.cfg.lim.table).1,x∈s.tabs\/x=t:=by
     have:=h.cfg.lt;unfold ib;rw[afx af0];split
     ·exact⟨h.tt,fun x a=>.inl a⟩
     ·split
      ·exact⟨h.tt,fun x a=>.inl a⟩
      ·exact⟨by rw[AL];omega,uQ _ _⟩
    refine h.withT f.1 fun x a=>?_
    rcases f.2 x a with a|rfl
    ·exact h.tb x a
    ·exact⟨j,k⟩
theorem uI(x:Sto)(v:AV):(ak x).set 113 v=ak { x with early:=v }:=by
 simp only[ak,aek,bh,aF,afG,Nat.reduceSub,Nat.reduceLT,acq,acx,act]
theorem uH(x:Sto):(ak x).getD 113 .dead=x.early:=by
 simp only[ak,afy,adr,bh,aF,afG,Nat.reduceSub,Nat.reduceLT,acq,aed,adq,ac7]
theorem LQ(s:af)(a:aX)(h:StR s)(ha:a.vals.length<=2097152)(hj:∀j∈a.vals,0<=j/\j<s.latest.length)(l:List aX)(n:Nat):
 aJ Tryz.prog 204 [.agg (ak { s.a with early:=.hs 67 0 0 n }),.agg (cK a.a)] [.vec 67 (rows aX.c l)] (.agg (ak { (castIn s a).a with early:=.hs 67 0 0 n })) [.vec 67 (rows aX.c l)]:=by
 refine cZ 6 ?_;have c1:=Fm s.latest a.target.ep a.root a.vals h.bl ha hj;unfold castIn;generalize vJ s.latest a.target.ep a.root a.vals=C at *;obtain⟨C1,C2⟩:=C;dsimp only at c1 ⊢;refine gon ?_;refine abl c1 ?_;exact abF [] [0]
theorem Jm(s:af)(a:aX)(h:StR s)(ha:a.vals.length<=2097152):
 aJ Tryz.prog 203 [.agg (ak { s.a with early:=.hs 67 0 0 s.early.length }),.agg (cK a.a)] [.vec 67 (rows aX.c s.early)] (.tup [.bool (ei s a).1,.int .i64 (ei s a).2]) [.vec 67 (rows aX.c s.early)]:=by
 refine aJ.lend rfl ?_;have ht:List.take s.early.length (rows aX.c s.early)=rows aX.c s.early:=afD af1;(try simp only[go_sem,ht,afG,afM,acV,adl])
 exact yP s a h ha
theorem iG{fr:Fr}{σ:St}{rs:List fS}{l:List AV}{n:Int}(hl:dy fr σ rs=some l)(hv:fz σ (List.range σ.length) (fJ l)=.tup [.agg (ak i6),.int .i64 n]):PQ rs (.tup [.agg (ak kj.a),.int .i64 n]) .ret fr σ:=
 ⟨l,hl,.inr ⟨_,hv,(by simp[PuL,Pu,fU,i6,ak,fy,kv,dH,jK,gG,rl,cV,cp0]),Wk.tup ⟨IZ,Wk.refl _,trivial⟩⟩⟩
def dA(s:af)(k:Nat):af:=aH (tickR s.early) (withE s []) k
theorem O9(s:af)(k:Nat):dA s (k+1)=tickR s.early k (dA s k):=rfl
theorem Sf(s:af)(m:Nat)(h:bi s m):PC Tryz.prog 114 [.agg (ak s.a)] (.tup [.agg (ak (dF s).1.a),.int .i64 (dF s).2]):=by
 refine aQ 9 ?_;unfold dF;have hsp:=h.cfg.s1;have hs4:=h.cfg.s4;by_cases q1:1099511627776<=s.now
 ·have e1:decide ((1099511627776:Int)<=s.now)=true:=ax q1;rw[afA q1];refine aW e1 ?_;exact iG (by first|rfl|exact evd) (by first|rfl|exact evd)
 have e1:decide ((1099511627776:Int)<=s.now)=false:=aD q1;rw[afx q1];have hA:=h.tickA q1;have hB:=hA.tickB;have c1:=Q1 (tickA s) hA.r.bn;have c2:=Dw (tickA s) (kc (tickA s)).j (kc (tickA s)).f hA.r
 have hmod:IntKind.u64.wrap (Int.tmod (tickA s).now (tickA s).cfg.spe)=Int.tmod (tickA s).now (tickA s).cfg.spe:=by
  have hn:=hA.nw.1;have hsp':1<=(tickA s).cfg.spe:=hsp;rw[adC hn.lo];have h1:=Int.emod_nonneg (tickA s).now (show (tickA s).cfg.spe≠0 by omega);have h2:=Int.emod_lt_of_pos (tickA s).now (show 0<(tickA s).cfg.spe by omega);have hs4':(tickA s).cfg.spe<=4:=hs4;exact aC h1 af0
 have hT1:Int.tmod (tickA s).now (tickA s).cfg.spe=0->tickB (tickA s)=dw (tickA s) (kc (tickA s)).j (kc (tickA s)).f:=fun hz=>by unfold tickB;rw[hmod,afA hz]
 have hT2:Int.tmod (tickA s).now (tickA s).cfg.spe≠0->tickB (tickA s)=tickA s:=fun hz=>by unfold tickB;rw[hmod,afx hz]
 show Tri _ _ _ _ (PQ _ (.tup [.agg (ak (dA (tickB (tickA s)) (tickB (tickA s)).early.length).a),.int .i64 0])) _ _
 generalize tickB (tickA s)=S2 at *;refine aS e1 ?_;refine tF (fun _=>[]) (fun _=>[.var (ak S2.a),.var (ak i6)]) (fun hT=>?_) (fun hF=>?_) ?_
 ·rw[hT1 (by rw[ac0]at hT;exact hT)];refine gon ?_;refine abl c1 ?_;refine abl c2 ?_;exact abS [] [0,1]
 ·rw[hT2 (by rw[adu]at hF;exact hF)];refine gon ?_;exact abS [] [0,1]
 clear hT1 hT2 hmod c1 c2;refine gon ?_;refine ou 0 113 67 ?_ af5 (by exact uH _);simp only[go_sem,uI];have hK:∀k,k<=S2.early.length->bi (dA S2 k) m/\(dA S2 k).early.length<=k:=bi.tickR hB.av hB.aa hB
 have hz:dA S2 0=withE S2 []:=rfl;have haa:=hB.aa;refine aE (fun i:Nat=>[(6,.int .i64 i)]) (fun i=>[.var (ak { (dA S2 i).a with early:=.hs 67 2 0 (dA S2 i).early.length }),.var (ak i6),.vec 67 (rows aX.c (dA S2 i).early)]) (fun i=>S2.early.length-i) (fun i=>i<=S2.early.length) 0 (afK _) ?_ ?_
 ·rw[hz];unfold withE;exact abS [] [0,1,2]
 intro i hk;obtain⟨hki,hkl⟩:=hK i hk;have hsk:=O9 S2 i;refine fM ?_;by_cases h1:i<S2.early.length
 ·have e1:=inT h1
  have hw:=ae h1 af0;have hgd:(rows aX.c S2.early).getD i []=cK (fB S2.early i).a:=aK (f:=aX.c) default h1;have hav:=(hB.av _ (rH h1)).len;have hc:tickR S2.early i (dA S2 i)=if (dA S2 i).now<=(fB S2.early i).slot then withE (dA S2 i) ((dA S2 i).early++[fB S2.early i])else if (ei (dA S2 i) (fB S2.early i)).2=0 then castIn (dA S2 i) (fB S2.early i)else dA S2 i:=rfl
  have c1:=Jm (dA S2 i) (fB S2.early i) hki.r af0;have c2:=fun hj=>LQ (dA S2 i) (fB S2.early i) hki.r af0 hj (dA S2 i).early (dA S2 i).early.length
  have hj:(ei (dA S2 i) (fB S2.early i)).2=0->∀j∈(fB S2.early i).vals,0<=j/\j<(dA S2 i).latest.length:=fun hq j hjm=>by
   have hv:cM (fB S2.early i).vals (dA S2 i).cfg.bals.length=0:=by
    unfold ei at hq;split at hq
    ·rename_i h1;exact absurd hq h1
    ·rename_i h1;simpa using h1
   obtain⟨u,hm,rfl⟩:=acp hjm;have:=(ie hv).2 u hm;rw[afy,afz hm,ac7]at this;have hll:=hki.ll;omega
  clear hK;have hcl:(castIn (dA S2 i) (fB S2.early i)).early=(dA S2 i).early:=rfl;rw[hc]at hsk;generalize hs:dA S2 i=s1 at *;generalize fB S2.early i=a at *;have hr:rows aX.c s1.early++[cK a.a]=rows aX.c (s1.early++[a]):=dn aX.c s1.early a;generalize hR:ei s1 a=R at *;obtain⟨R1,R2⟩:=R;dsimp only at c1 hsk hj;refine bO e1 ?_;refine aA hgd ?_;by_cases q2:s1.now<=a.slot
  ·have e2:=ax q2;rw[afA q2]at hsk;refine bO e2 ?_;refine eS hgd hr hw ?_;refine⟨i+1,h1,af0,?_⟩;rw[hsk];unfold withE;exact abS [] [0,1,3]
  ·have e2:=aD q2
   rw[afx q2]at hsk;refine da e2 ?_;refine aA hgd ?_;refine drg [2] c1 ?_;by_cases q3:R2=0
   ·rw[afA q3]at hsk;subst q3;have c3:=c2 (hj rfl);generalize hcs:castIn s1 a=s3 at *;refine kT ?_;refine aA hgd ?_;refine dce [2] c3 ?_;refine aA hw ?_;refine⟨i+1,h1,af0,?_⟩;rw[hsk,hcl];exact abS [] [0,1,2]
   ·have e3:(R2==0)=false:=by simp[q3]
    rw[afx q3]at hsk;refine da e3 ?_;refine aA hw ?_;refine⟨i+1,h1,af0,?_⟩;rw[hsk];exact abS [] [0,1,2]
 ·obtain rfl:i=S2.early.length:=af0
  have e1:=inF (S2.early.length);generalize dA S2 S2.early.length=s1 at *;have ht:List.take s1.early.length (rows aX.c s1.early)=rows aX.c s1.early:=afD af1;refine aS e1 ?_;refine⟨_,(by first|rfl|exact evd),.inl ?_⟩;exact uv ht
theorem pW{t:List Nod}{i:Int}(h:(bL t i).2=0):(bL t i).1.length=t.length/\∀k,(nod (bL t i).1 k).up=(nod t k).up/\(nod (bL t i).1 k).blk=(nod t k).blk:=by
 unfold bL at *;split at h
 ·rename_i f;rw[afA f];cases d:qK t (aZ t i) 1 2 with
  |none=>grind
  |some u=>exact⟨jD d,fun k=>tw d k⟩
 omega
theorem zZ{t:List Nod}{i:Int}(h:(fg t i).2=0):(fg t i).1.length=t.length/\∀k,(nod (fg t i).1 k).up=(nod t k).up/\(nod (fg t i).1 k).blk=(nod t k).blk:=by
 unfold fg at *;split at h
 ·rename_i f;rw[afA f];cases d:qK t (ej t i) 2 1 with
  |none=>grind
  |some u=>exact⟨jD d,fun k=>tw d k⟩
 omega
theorem pN{t:List Nod}{i:Int}{v:Vdt}{keep:List Int}(h:(dR t i v keep).2=0):(dR t i v keep).1.length=t.length/\∀k,(nod (dR t i v keep).1 k).up=(nod t k).up/\(nod (dR t i v keep).1 k).blk=(nod t k).blk:=by
 unfold dR at *;split at h
 ·omega
 rename_i h1;rw[afx h1];split at h
 ·rename_i h2;rw[afA h2];exact pW h
 rename_i h2;rw[afx h2];split at h
 ·grind
 rename_i h3;rw[afx h3];split at h
 ·omega
 rename_i h4;rw[afx h4];split at h
 ·omega
 rename_i h5;rw[afx h5];split at h
 ·rename_i h6
  rw[afA h6];split at h
  ·omega
  ·rename_i h7;rw[afx h7];have a:=pW (show (bL t (dh t i v.latest).1).2=0 by omega);have b:=zZ h;grind
 ·rename_i h6;rw[afx h6];exact zZ h
theorem tc{t u:List Nod}(c:u.length=t.length)(d:∀k,(nod u k).blk=(nod t k).blk)(r:Rt):ab u r=ab t r:=by
 unfold ab;grind
theorem bi.judge{s:af}{i:Nat}(h:bi s i){t:List Nod}(c:t.length=s.nodes.length)(b:∀k,(nod t k).up=(nod s.nodes k).up/\(nod t k).blk=(nod s.nodes k).blk):bi (bQ s t) i:=by
 refine⟨h.cfg,⟨h.tree.ok.of_up c fun k=>(b k).1,by have:=h.tree.pos;show 0<t.length;omega,by show (nod t 0).up<0;rw[(b 0).1];exact h.tree.root⟩,?_,h.ll,by have:=h.nn;show t.length<=13;omega,fun n f=>?_,h.oo,h.uo,h.aa,h.av,h.tt,h.tb,h.qq,h.uj,h.uf,h.nw,h.ii,h.lv⟩
 ·show 0<=ab t s.j.rt
  rw[tc c fun k=>(b k).2];exact h.jf
 ·obtain⟨k,g,e⟩:=qD f;rw[<-e];show jL i (nod t k).blk;rw[(b k).2]
  exact h.blk (show k<s.nodes.length by have:k<t.length:=g;omega)
theorem IS(l:List Int)(n:Int):cM l n≠21:=by
 unfold cM;split
 ·simp
 ·have b:∀k i,l.length-i=k->mX l n i≠21:=by
   intro k;induction k with
   |zero=>intro i c;rw[nH af0];simp
   | succ k d =>
     intro i c;rw[lU af0];split
     ·simp
     grind
  grind
theorem YT(t:aB)(n:Int):fY t n≠21:=by unfold fY;omega
theorem qM(s:af):(dF s).2≠21:=by unfold dF;grind
theorem PR(s:af)(b:Blk):bG s b≠21:=by
 unfold bG;omega
theorem nM(s:af)(b:Blk):(bR s b).2.2≠21:=by
 unfold bR;split
 ·grind
 ·split
  ·exact PR s b
  simp
theorem PO(s:af)(a:aX):(ei s a).2≠21:=by
 unfold ei;split
 ·exact IS _ _
 grind
theorem uR(s:af)(a:aX):(kH s a).2≠21:=by
 unfold kH;split
 ·exact PO s a
 grind
theorem oh(s:af)(x:gi):(d7 s x).2≠21:=by
 unfold d7;split
 ·unfold evE
  split
  ·exact IS _ _
  ·split
   ·exact IS _ _
   omega
 grind
theorem vd(s:af)(t:aB):(iL s t).2≠21:=by
 unfold iL;split
 ·exact YT _ _
 ·split
  ·simp
  ·split
   ·unfold ib;split
    ·omega
    grind
   omega
structure fT(s:al)(i:Nat):Prop where
 sto:bi s.sto i
 rq:s.reqs.length<=10*i
 ut:∀r∈s.reqs,U64 r.tag
 yl:s.rets.length<=3
 tg:U64 s.tag
theorem fT.up{s:al}{i k:Nat}(h:fT s i)(b:i<=k)(a:k<=40):fT s k:=⟨h.sto.up b a,by have:=h.rq;omega,h.ut,h.yl,h.tg⟩
theorem lc{l:List Req}{k:Nat}(h:k<l.length):aO l k∈l:=cR _ h
theorem nY(t:List Nod)(l:List Req):(fZ t l).length<=l.length/\∀r∈fZ t l,r∈l:=by
 refine⟨by have:=jI (f:=jS t l) (a:=[]) (fun i o=>by unfold jS;grind) l.length;unfold fZ;grind,?_⟩;refine dp (f:=jS t l) (a:=[]) (fun _ o=>∀r∈o,r∈l) af1 l.length (fun i o e g=>?_) _ (afE _);unfold jS;split
 ·intro r d;rw[afR,afN]at d;rcases d with d|rfl
  ·grind
  ·exact lc e
 omega
structure mE(s:al)(i n:Nat):Prop where
 sto:bi s.sto i
 rq:s.reqs.length<=n
 ut:∀r∈s.reqs,U64 r.tag
 yl:s.rets.length<=3
 tg:U64 s.tag
theorem mE.a{s:al}{i n:Nat}(h:mE s i n)(hn:n<=10*i):fT s i:=⟨h.sto,acn h.rq hn,h.ut,h.yl,h.tg⟩
theorem fT.q{s:al}{i:Nat}(h:fT s i):mE s i (10*i):=⟨h.sto,h.rq,h.ut,h.yl,h.tg⟩
theorem mE.drop{s:al}{i n:Nat}(h:mE s i n):mE (fE s) i n:=by
 have a:=nY s.sto.nodes s.reqs;have c:=nY s.sto.nodes s.rets;exact⟨h.sto,acn a.1 h.rq,fun r b=>h.ut r (a.2 r b),acn c.1 h.yl,h.tg⟩
theorem mE.open1{s:al}{i n:Nat}(h:mE s i n)(r:Rt)(k:Int):mE (jo s r k) i (n+1):=by
 refine⟨h.sto,by show (s.reqs++[_]).length<=_;have:=h.rq;grind,fun x a=>?_,h.yl,dc _⟩;rcases afR.1 a with a|a
 ·exact h.ut x a
 ·rw[afN]at a;rw[a];exact h.tg
theorem mE.le{s:al}{i n m:Nat}(h:mE s i n)(hn:n<=m):mE s i m:=⟨h.sto,acn h.rq hn,h.ut,h.yl,h.tg⟩
theorem mE.opens{s:al}{i n:Nat}(h:mE s i n)(l:List Rt):mE (jT s l) i (n+l.length):=by
 refine dp (f:=fX l) (a:=s) (fun k t=>mE t i (n+k)) h l.length (fun k t c b=>?_) _ (afE _);unfold fX;split
 ·exact b.open1 _ _
 ·exact b.le af0
theorem mE.rets{s:al}{i n:Nat}(h:mE s i n){l:List Req}(hl:l.length<=3):mE (fw s l) i n:=⟨h.sto,h.rq,h.ut,hl,h.tg⟩
theorem mE.due{s:al}{i n:Nat}(h:mE s i n):mE (tK s) i (n+3):=by
 have e:=dp (f:=oD s.rets) (a:=fw s []) (fun k t=>mE t i (n+k)/\t.rets.length<=k) ⟨h.rets af1,afE _⟩ s.rets.length (fun k t j b=>by
  have:=h.yl;unfold oD;split
  ·exact⟨(b.1.rets af3).le af0,by show (t.rets++[_]).length<=k+1;grind⟩
  ·split
   ·exact⟨b.1.open1 _ _,aer b.2⟩
   ·exact⟨b.1.le af0,aer b.2⟩) _ (afE _)
 exact e.1.le (by have:=h.yl;omega)
theorem GH:∀ (k:Nat) (l:List Req),(mA l k).length=l.length
 |0,l=>rfl
 | k + 1, l => by
   unfold mA;split
   ·rw[GH k];simp
   simp
theorem fT.later{s:al}{i:Nat}(h:fT s i)(r:Req):fT (gZ s r) i:=by
 unfold gZ;split
 ·omega
 ·split
  ·exact⟨h.sto,h.rq,h.ut,h.yl,h.tg⟩
  ·have:=h.sto.cfg.lr;exact⟨h.sto,h.rq,h.ut,by show (mA _ _).length<=3;rw[GH];grind,h.tg⟩
theorem O8(l:List Req)(i:Nat):(mC l i).length<=l.length/\∀r∈mC l i,r∈l:=by
 unfold mC;refine⟨af3,fun r c=>?_⟩;rcases afR.1 c with c|c
 ·grind
 grind
theorem fT.mat{s:al}{i:Nat}(h:fT s i){v:Vdt}(c:(aL s v).2.2=0):fT (aL s v).2.1 i:=by
 unfold aL at *;split at c
 ·rename_i k d;have a:=O8 s.reqs k;exact⟨h.sto,acn a.1 h.rq,fun r b=>h.ut r (a.2 r b),h.yl,h.tg⟩
 grind
theorem bi.boostV{s:af}{i:Nat}(h:bi s i):bi (boostV s) i:=by
 unfold Go.Proofs.YtmpddimhleianaaGreat.boostV;split
 ·exact h.withB _
 omega
theorem fT.verd{s:al}{i:Nat}(h:fT s i){v:Vdt}(d:(eg s v).2=0\/(eg s v).2=21):fT (eg s v).1 i:=by
 unfold eg at *;split at d
 ·grind
 ·rename_i g
  rw[afx g];have a:=h.mat (v:=v) af0;split at d
  ·rename_i c;rw[afA c];exact a.later _
  ·rename_i c
   rw[afx c];split at d
   ·rename_i b;rw[afA b];exact⟨h.sto,h.rq,h.ut,h.yl,h.tg⟩
   ·rename_i b;rw[afx b];unfold judgeV at *;have e:=pN (show (dR (aL s v).2.1.sto.nodes _ v _).2=0 by simpa using b);exact⟨(a.sto.judge e.1 e.2).boostV,a.rq,a.ut,a.yl,a.tg⟩
structure OpR(x:VOp):Prop where
 blk:jL 0 x.blk
 att:SH x.att
 fst:x.slg.fst.vals.length<=60
 snd:x.slg.snd.vals.length<=60
 tab:x.tab.bals.length<=60
 tep:U64 x.tab.cp.ep
theorem fT.perf{s:al}{i:Nat}(h:fT s i)(hi:i<40){x:VOp}(hx:OpR x)(h2:(de s x).2=0\/(de s x).2=21):fT (de s x).1 (i+1):=by
 have hu:=h.up (ad5 i) af0;unfold de at *;split at h2
 ·rename_i h3
  rw[afA h3];split at h2
  ·rename_i h4;rw[afA h4];have ht:=h.sto.tick h4;have hq:mE (cy s (dF s.sto).1) i (10*i):=⟨ht,h.rq,h.ut,h.yl,h.tg⟩;have hd:=hq.drop.due;exact⟨hd.sto.up (ad5 i) af0,by have:=hd.rq;dsimp only;omega,hd.ut,hd.yl,hd.tg⟩
  ·rename_i h4;exact absurd h2 (by intro h5;rcases h5 with h5|h5;exact h4 h5;exact qM _ h5)
 rename_i h3;rw[afx h3];clear h3;split at h2
 ·rename_i h3
  rw[afA h3];split at h2
  ·rename_i h4;rw[afA h4];have ht:=h.sto.block (hx.blk.up (afK i)) h4;have hq:mE (cy s (bR s.sto x.blk).1) i (10*i):=⟨ht.1,h.rq,h.ut,h.yl,h.tg⟩;have hd:=hq.drop.opens (bR s.sto x.blk).2.1;have:=ht.2;exact⟨hd.sto.up (ad5 i) af0,by have:=hd.rq;dsimp only;omega,hd.ut,hd.yl,hd.tg⟩
  ·rename_i h4;exact absurd h2 (by intro h5;rcases h5 with h5|h5;exact h4 h5;exact nM _ _ h5)
 rename_i h3;rw[afx h3];clear h3;split at h2
 ·rename_i h3;rw[afA h3];exact⟨(h.sto.att hx.att (h2.resolve_right (uR _ _))).up (ad5 i) af0,hu.rq,hu.ut,hu.yl,hu.tg⟩
 rename_i h3;rw[afx h3];clear h3;split at h2
 ·rename_i h3;rw[afA h3];exact⟨h.sto.slash hx.fst hi (h2.resolve_right (oh _ _)),hu.rq,hu.ut,hu.yl,hu.tg⟩
 rename_i h3;rw[afx h3];clear h3;split at h2
 ·rename_i h3;rw[afA h3];exact⟨(h.sto.reg hx.tep (h2.resolve_right (vd _ _))).up (ad5 i) af0,hu.rq,hu.ut,hu.yl,hu.tg⟩
 rename_i h3;rw[afx h3];clear h3;split at h2
 ·rename_i h3;rw[afA h3];exact(h.verd h2).up (ad5 i) af0
 omega
theorem fT.emit{s:al}{i:Nat}(h:fT s i):fT (dC s).1 i:=by
 unfold dC;split
 ·omega
 ·exact⟨h.sto,h.rq,h.ut,h.yl,h.tg⟩
theorem fT.step{s:al}{i:Nat}(h:fT s i)(b:i<40){x:VOp}(c:OpR x):fT (bV s x).1 (i+1):=by
 have g:=h.up (ad5 i) af0;unfold bV;split
 ·omega
 ·split
  ·omega
  ·split
   ·rename_i e;exact h.perf b c (.inr e)
   ·split
    ·omega
    ·exact(h.perf b c (.inl af0)).emit
end Go.Proofs.YtmpddimhleianaaGreat
