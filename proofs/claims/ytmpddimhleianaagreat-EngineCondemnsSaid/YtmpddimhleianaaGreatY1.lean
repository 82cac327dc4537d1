/- Joined. -/
import Derived.Test.YtmpddimhleianaaGreatW3
import Derived.Test.YtmpddimhleianaaGreatE5
import Derived.Test.YtmpddimhleianaaGreatY0
import Derived.Test.YtmpddimhleianaaGreatE7
import Derived.Test.YtmpddimhleianaaGreatP1
import Derived.Test.YtmpddimhleianaaGreatP5
set_option linter.unusedVariables false
set_option linter.unusedSimpArgs false
set_option maxRecDepth 8000
set_option maxHeartbeats 4000000
namespace Go.FH
open Go Go.RowKit
theorem Kc(x:Cmd)(o n:Nat)(c:0<=o)(b:o+n<=32):cut (AZ x) o n=cut (rtc x.head) (o-0) n:=by unfold AZ;rw[cL1 (ak _)];simp
attribute [go_sem] Kc
end Go.FH
namespace Go.Proofs.YtmpddimhleianaaGreat
open Go Go.FH Go.RowKit
def RtN(s:ap):Prop:=∀n∈s.nodes,n.blk.root≠rt0
theorem RtN.step{s:aI}(h:RtN s.sto)(hv:StV s.sto)(x:VOp):RtN (kl s x).1.sto:=fun n hn=>by
 rcases (Adv.step hv x).nd n hn with⟨m,hm,e,_⟩|g
 ·rw[<-e];exact h m hm
 ·exact g.1
theorem TP{t:List Nod}(ht:dU t){a b:Nat}(h:eh t a b=true):∀n k:Nat,k<n->k<t.length->eh t b k=true->eh t a k=true
 |0,k,hk,_,_=>by omega
 | n + 1, k, hk, hl, hb => by
   rw[CK ht hl,ajY,amk,amg,amg]at hb;rcases hb with hb|⟨h0,hb⟩
   ·have:b=k:=WL
    rw[<-this];exact h
   ·by_cases hk0:k=0
    ·subst hk0;have:=ht.root;omega
    ·have hu:=ht.ok k WL hl;obtain⟨u,hue⟩:∃u:Nat,(nod t k).up=u:=⟨_,(amC hu.1).symm⟩
     rw[CK ht hl,ajY,amk,amg,amg];rw[hue]at hb ⊢;exact .inr ⟨WL,TP ht h n u WL WL hb⟩
theorem Un{t:List Nod}{i:Int}{k:Nat}(hk:k<t.length)(h:eh t i k=true):(k:Int)∈im t i:=by
 have:∀n,k<n->(k:Int)∈bg (fun k l=>if eh t i k=true then l++[(k:Int)]else l) [] n:=by
  intro n;induction n with
  |zero=>intro h;omega
  | succ n ih =>
    intro h2;rw[cX];by_cases hkn:k=n
    ·subst hkn;rw[al7 h];simp
    ·have:=ih WL;split
     ·exact aka _ this
     ·exact this
 exact this _ hk
theorem Oi{t:List Nod}{i:Int}:∀x∈im t i,∃k:Nat,x=k/\k<t.length/\eh t i k=true:=
 Yy (f := fun k l => if eh t i k = true then l ++ [(k : Int)] else l) (a := []) (fun _ l => ∀ x ∈ l, ∃ k : Nat, x = k /\ k < t.length /\ eh t i k = true) (fun x hx => by cases hx) t.length (fun k l hk hl x hx => by
  split at hx
  ·rename_i h;rcases amm.1 hx with hx|hx
   ·exact hl x hx
   ·exact⟨k,amn.1 hx,hk,h⟩
  ·exact hl x hx) _ (amb _)
theorem Ud{s:ap}{j:Nat}(hj:j<s.nodes.length)(hs:∀k:Nat,k<s.nodes.length->eh s.nodes j k=true->(nod s.nodes k).status=2):(nk s).getD j 0=0:=by
 unfold nk;generalize (AC s.cfg.spe s.cfg.boost (EI (TK s)).1).1=A;generalize TK s=bal
 have hd:∀k,k<s.nodes.length->(nod s.nodes k).status=2->(rk s.nodes (Gw s.nodes s.latest s.eqv bal) s.boost A).getD k 0=0:=fun k hk h2=>by
  have h3:(Gw s.nodes s.latest s.eqv bal).getD k 0=0:=by
   have:∀n,bg (fun i l=>l++[if (nod s.nodes i).status≠2 then GI s.latest s.eqv bal [(nod s.nodes i).blk.root]else 0]) [] n=(List.range n).map fun i=>if (nod s.nodes i).status≠2 then GI s.latest s.eqv bal [(nod s.nodes i).blk.root]else 0:=by
    intro n;induction n with
    |zero=>rfl
    |succ n ih=>rw[cX,ih,ake,amN];rfl
   unfold Gw;rw[this];simp[alt,hk,h2]
  unfold rk;split
  ·rename_i hb;have hne:(aj s.nodes s.boost).toNat≠k:=fun q=>hb.2.1 (by rw[q];exact h2)
   rw[alt,ak8,al5 hne,<-alt];exact h3
  ·exact h3
 generalize rk s.nodes (Gw s.nodes s.latest s.eqv bal) s.boost A=d at *;unfold ahl;rw[KU]
 have h0:tS s.nodes (d.getD · 0) j=0:=OS fun k hk=>by
  split
  ·rename_i h;exact hd k hk (hs k hk h)
  ·rfl
 rw[alt,ajv,alm hj];show IntKind.u64.wrap (tS s.nodes (d.getD · 0) j)=0
 rw[h0];rfl
theorem Uf{s:ap}(h:TrV s.nodes):∀n i:Nat,s.nodes.length-i<=n->i<s.nodes.length->(nod s.nodes i).status=2->nE s i=false
 |0,i,h1,h2,_=>by omega
 | n + 1, i, h1, h2, h3 => by
   rw[abx h.r i WL,akM];constructor
   ·unfold IC;rw[amw,aA (p:=(nod s.nodes i).status≠2) (fun q=>q h3),alB,ajq]
   ·rw[List.any_eq_false];intro x hx;obtain⟨k1,k2,k3,k4⟩:=gK h.r hx;obtain⟨k,rfl⟩:=ajO k2;rw[amw]at k4;have h5:=h.iv k WL WL (by rw[k4,amw];exact h3);rw[Uf h n k WL WL h5];decide
theorem Um{s:ap}{j:Nat}(h:j<s.nodes.length):(Il s).getD j false=nE s j:=by
 rw[<-Rr,ND h];unfold lP;rw[al7 (amc _)]
theorem LZ(t:List Nod)(w:List Int)(a:List Bool)(l:List Int):∀n,bg (tw t w a l) (-1) n=-1\/a.getD (bg (tw t w a l) (-1) n).toNat false=true
 |0=>.inl rfl
 | n + 1 => by
   rw[cX];have:=LZ t w a l n;generalize bg (tw t w a l) (-1) n=b at *;unfold tw;split
   ·rename_i h;exact .inr h.1
   ·exact this
theorem Ue{s:ap}(h:TrV s.nodes):∀ (f:Nat) (i:Int),0<=i->i<s.nodes.length->(nod s.nodes i.toNat).status≠2->(nod s.nodes (Ch s.nodes (nk s) (Il s) f i).toNat).status≠2
 |0,i,_,_,hs=>hs
 | f + 1, i, h0, h1, hs => by
   unfold Ch;split
   ·exact hs
   ·rename_i hb
    rcases aaC h.r (nk s) (Il s) i with h2|⟨h2,h3,h4⟩
    ·omega
    ·refine Ue h f _ h3 h4 fun h5=>?_
     rcases LZ s.nodes (nk s) (Il s) (ly s.nodes i) (ly s.nodes i).length with h6|h6
     ·unfold oY at h3;omega
     ·change (Il s).getD (oY s.nodes (nk s) (Il s) i).toNat false=true at h6
      obtain⟨k,hk⟩:=ajO h3;rw[hk,amw]at h6 h5;rw[Um WL,Uf h _ k (amb _) WL h5]at h6;cases h6
theorem U0{s:ap}(h:StW s):(nod s.nodes (HY s).toNat).status≠2/\0<=HY s/\HY s<s.nodes.length:=by
 obtain⟨h1,_⟩:=dO h.jf;have hb:=Rx h.tree.r (nk s) (Il s) (s.nodes.length+1) (aj s.nodes s.j.rt) (by have:=h.jf;omega);have h2:=h.jf;exact⟨Ue h.tree _ _ h.jf WL h.ji,by unfold HY;omega,hb.2⟩
theorem Uk(s:aI):(io s).1.last=X3 s.sto:=by
 unfold io;split
 ·rename_i h;exact h.2
 ·rfl
theorem Sk{t:List Nod}(ht:dU t){c:Int}(h:(kF t c).2=0){k:Nat}(hk:k<t.length)(ha:eh t c k=true):(nod (kF t c).1 k).status=2:=by
 unfold kF at *;split at h
 ·rename_i h3
  rw[al7 h3];split at h
  ·rename_i u hs;exact((Fg WN (fun x hx=>by obtain⟨m,rfl,hm,_⟩:=Oi x hx;exact⟨WL,WL⟩) hs k hk).1 (Un hk ha)).2
  ·cases h
 ·cases h
theorem Ul{t:List Nod}(h:TrV t){i:Nat}{v:Vdt}{keep:List Int}(hv:v.kind=2)(h2:(iT t i v keep).2=0){k:Nat}(hk:k<t.length)(ha:eh t i k=true):(nod (iT t i v keep).1 k).status=2:=by
 unfold iT at *;by_cases q1:isN t i=false
 ·rw[al7 q1]at h2;cases h2
 rw[al5 q1]at h2 ⊢
 have hi:i<t.length:=by
  have:isN t i=true:=by simpa using q1
  simp[isN]at this;exact this
 rw[al5 WL]at h2 ⊢;rw[al5 WL]at h2 ⊢;rw[al5 WL]at h2 ⊢;split at h2
 ·cases h2
 ·rename_i q5
  rw[al5 q5];obtain⟨c,hc,hcl,hca⟩:=Oy h.r hi v.latest;have hck:=TP h.r hca (k+1) k (akR _) hk ha;rw[hc]at h2 ⊢;by_cases q6:0<=(iY t i v.latest).1
  ·rw[al7 q6]at h2 ⊢;by_cases q7:(fD t (iY t i v.latest).1).2≠0
   ·rw[al7 q7]at h2;exact absurd h2 q7
   rw[al5 q7]at h2 ⊢;have q7:(fD t (iY t i v.latest).1).2=0:=by simpa using q7
   obtain⟨u1,u2⟩:=sS q7;refine Sk (h.raise q7).1.r h2 (by rw[u1];exact hk) ?_;rw[Mt u1 fun k=>(u2 k).1];exact hck
  ·rw[al5 q6]at h2 ⊢;exact Sk h.r h2 hk hck
def opV(tag:Int)(L:Rt):VOp:=⟨6,cw,xo,uU,uX,⟨tag,2,L⟩,0,0⟩
theorem Vi(tag:Int)(L:Rt):vOp (toV (opV tag L))=0:=by
 unfold vOp
 have h1:(fld (toV (opV tag L))).2=0:=by
  unfold fld;rw[al5 (by show ¬ ((6:Int)=2);decide),al5 (by show ¬ ((6:Int)=3);decide),al5 (by show ¬ ((6:Int)=4);decide),al5 (by show ¬ ((6:Int)=5);decide),al7 (show (toV (opV tag L)).kind=6 from rfl)];show (if uC ⟨tag,2,L⟩then (3:Int)else 0)=0
  rw[al5 (by unfold uC;show ¬ ((2:Int)<1\/4<2);decide)]
 rw[al5 (by show ¬ ((6:Int)<1\/8<6);decide),al5 (fun h=>h h1),al7];rw[Ll];rfl
theorem Qd{s:aI}{i:Nat}(hg:j6 s i)(hh:s.halt=false){k:Nat}(hk:k<s.reqs.length)(L:Rt):
 ((kl s (opV (bm s.reqs k).tag L)).2.2=21/\(kl s (opV (bm s.reqs k).tag L)).1.halt=true) \/
 ((kl s (opV (bm s.reqs k).tag L)).2.2 = 0 /\ StV (kl s (opV (bm s.reqs k).tag L)).1.sto /\ 0 <= aj (kl s (opV (bm s.reqs k).tag L)).1.sto.nodes (bm s.reqs k).block /\
   ∀ d : Nat, d < (kl s (opV (bm s.reqs k).tag L)).1.sto.nodes.length -> eh (kl s (opV (bm s.reqs k).tag L)).1.sto.nodes (aj (kl s (opV (bm s.reqs k).tag L)).1.sto.nodes (bm s.reqs k).block) d = true ->
     (nod (kl s (opV (bm s.reqs k).tag L)).1.sto.nodes d).status=2/\(nk (kl s (opV (bm s.reqs k).tag L)).1.sto).getD d 0=0/\(kl s (opV (bm s.reqs k).tag L)).1.last.head≠(nod (kl s (opV (bm s.reqs k).tag L)).1.sto.nodes d).blk.root):=by
 have hv:=Vi (bm s.reqs k).tag L
 have hm:cz s ⟨(bm s.reqs k).tag,2,L⟩=(bm s.reqs k,Ml s (qh s.reqs k),0):=by
  unfold cz
  rw[Lh (k:=k) hk WM (fun j hj=>by
   have:=ajW.1 hg.w.q1 j k WL hk hj;rw[ami];unfold bm;rw[alt,alt,al6 hk,al6 (show j<s.reqs.length by omega)];dsimp only[Option.getD_some];omega)]
 have hp:ia s (opV (bm s.reqs k).tag L)=ky s ⟨(bm s.reqs k).tag,2,L⟩:=by
  unfold ia;rw[al5 (by show ¬ ((6:Int)=1);decide),al5 (by show ¬ ((6:Int)=2);decide),al5 (by show ¬ ((6:Int)=3);decide),al5 (by show ¬ ((6:Int)=4);decide),al5 (by show ¬ ((6:Int)=5);decide),al7 (show (opV (bm s.reqs k).tag L).kind=6 from rfl)];rfl
 have hst:=StV.verd hg.v (v:=⟨(bm s.reqs k).tag,2,L⟩);have hfr:=hg.f.q _ (pM hk)
 have hvd:ky s ⟨(bm s.reqs k).tag,2,L⟩=if (judgeV s.sto (bm s.reqs k).block ⟨(bm s.reqs k).tag,2,L⟩).2≠0 then (⟨s.sto,s.reqs,s.rets,s.tag,s.sent,s.last,s.over,true⟩,21)else (ij (Ml s (qh s.reqs k)) (boostV (dD s.sto (judgeV s.sto (bm s.reqs k).block ⟨(bm s.reqs k).tag,2,L⟩).1)),0):=by
  unfold ky;rw[hm];dsimp only;rw[al5 WN,al5 WN];rfl
 rw[hvd]at hst;unfold kl;rw[al5 (by rw[hh];decide),al5 (fun h=>h hv),hp,hvd];by_cases q:(judgeV s.sto (bm s.reqs k).block ⟨(bm s.reqs k).tag,2,L⟩).2≠0
 ·rw[al7 q];left
  rw[al7 (show ((⟨s.sto,s.reqs,s.rets,s.tag,s.sent,s.last,s.over,true⟩:aI),(21:Int)).2=21 from rfl)];exact⟨rfl,rfl⟩
 ·rw[al5 q]at hst ⊢
  right
  have hst:=hst (.inl rfl);rw[al5 (by show ¬ ((0:Int)=21);decide),al5 (by show ¬ ((0:Int)≠0);decide)];have hst2:StV (boostV (dD s.sto (judgeV s.sto (bm s.reqs k).block ⟨(bm s.reqs k).tag,2,L⟩).1)):=hst;have hj0:(iT s.sto.nodes (aj s.sto.nodes (bm s.reqs k).block) ⟨(bm s.reqs k).tag,2,L⟩ [aj s.sto.nodes s.sto.j.rt,aj s.sto.nodes s.sto.f.rt]).2=0:=Decidable.not_not.1 q;obtain⟨u1,u2⟩:=sN hj0
  have hn:(boostV (dD s.sto (judgeV s.sto (bm s.reqs k).block ⟨(bm s.reqs k).tag,2,L⟩).1)).nodes=(iT s.sto.nodes (aj s.sto.nodes (bm s.reqs k).block) ⟨(bm s.reqs k).tag,2,L⟩ [aj s.sto.nodes s.sto.j.rt,aj s.sto.nodes s.sto.f.rt]).1:=by
   unfold boostV;split<;>rfl
  have he:(io (ij (Ml s (qh s.reqs k)) (boostV (dD s.sto (judgeV s.sto (bm s.reqs k).block ⟨(bm s.reqs k).tag,2,L⟩).1)))).1.sto=boostV (dD s.sto (judgeV s.sto (bm s.reqs k).block ⟨(bm s.reqs k).tag,2,L⟩).1):=pm _;have hl:(io (ij (Ml s (qh s.reqs k)) (boostV (dD s.sto (judgeV s.sto (bm s.reqs k).block ⟨(bm s.reqs k).tag,2,L⟩).1)))).1.last=X3 (boostV (dD s.sto (judgeV s.sto (bm s.reqs k).block ⟨(bm s.reqs k).tag,2,L⟩).1)):=Uk _;refine⟨rfl,?_⟩;show StV (io _).1.sto/\0<=aj (io _).1.sto.nodes _/\∀d:Nat,d<(io _).1.sto.nodes.length->eh (io _).1.sto.nodes (aj (io _).1.sto.nodes _) d=true->(nod (io _).1.sto.nodes d).status=2/\(nk (io _).1.sto).getD d 0=0/\(io _).1.last.head≠(nod (io _).1.sto.nodes d).blk.root
  rw[he,hl];generalize boostV (dD s.sto (judgeV s.sto (bm s.reqs k).block ⟨(bm s.reqs k).tag,2,L⟩).1)=T at *;obtain⟨f1,f2⟩:=dO hfr;have hfe:aj T.nodes (bm s.reqs k).block=aj s.sto.nodes (bm s.reqs k).block:=by rw[hn];exact tT u1 (fun k=>(u2 k).2) _
  refine⟨hst2,by rw[hfe];exact hfr,fun d hd ha=>?_⟩
  have hall:∀m:Nat,m<T.nodes.length->eh T.nodes (aj T.nodes (bm s.reqs k).block) m=true->(nod T.nodes m).status=2:=fun m hm hma=>by
   rw[hfe]at hma;obtain⟨n,hnn⟩:=ajO hfr;rw[hn,Mt u1 fun k=>(u2 k).1,hnn]at hma;rw[hn,hnn];rw[hnn]at hj0;exact Ul hg.v.w.tree rfl hj0 (by rw[hn,u1]at hm;exact hm) hma
  obtain⟨n,hnn⟩:=ajO (show 0<=aj T.nodes (bm s.reqs k).block by rw[hfe];exact hfr);rw[hnn]at ha hall;refine⟨hall d hd ha,Ud hd fun m hm hma=>hall m hm (TP hst2.w.tree.r ha (m+1) m (akR _) hm hma),fun hr=>?_⟩;obtain⟨g1,g2,g3⟩:=U0 hst2.w;have e1:=xC hst2.w.tree hd rfl;have e2:=xC hst2.w.tree (k:=(HY T).toNat) WL (r:=(nod T.nodes d).blk.root) hr;rw[e1]at e2;exact g1 (by rw[<-show d=(HY T).toNat by omega];exact hall d hd ha)
theorem pc_wk{P:Program}{f:FuncId}{args args':List AV}{r:AV}(h:PC P f args r)(hw:WkL args' args)(hp:PuL args'):PC P f args' r:=⟨th h.call hw,hp,h.pr⟩
theorem UG{c:cU}(hc:Qp c):RtN (iW c).1.sto:=by
 rw[DJ hc];intro n hn;obtain rfl:n=⟨adM c.gen,-1,1⟩:=amn.1 hn;show c.gen≠rt0
 rw[hc.g1];decide
theorem Tw(l:List Int):∃s:aI,(j6 s 24/\RtN s.sto)/\PC Tryz.prog 18 [.sl 1 false (aH .i64 l)] (.agg (aV s.a)):=by
 obtain⟨s,⟨h,i,hi,h1,h2⟩,c⟩:=Dd (fun i s=>j6 s i/\RtN s.sto) (fun c hc=>⟨HU hc,UG hc⟩) (fun s i x hI hi h hx=>⟨h.1.step WL hx,h.2.step h.1.v x⟩) l;exact⟨s,⟨h1.up hi WL,h2⟩,c⟩
theorem Vj(a:Int):∃m:Nat,lI .i64 a 65535=(m:Int):=by
 unfold lI;refine⟨(BitVec.ofInt IntKind.i64.bits a &&& BitVec.ofInt IntKind.i64.bits 65535).toNat,?_⟩
 have h:(BitVec.ofInt IntKind.i64.bits a &&& BitVec.ofInt IntKind.i64.bits 65535).toNat<=65535:=by
  rw[alc];exact ams WE WN
 rw[aL WL WL]
theorem Ug{s:ap}(h:StW s)(hn:RtN s):(s.boost=rt0/\aj s.nodes s.boost<0)\/(¬s.boost=rt0/\¬aj s.nodes s.boost<0):=by
 by_cases q:s.boost=rt0
 ·exact .inl ⟨q,Cy.2 fun m hm e=>hn m hm (e.trans q)⟩
 ·have:=h.bo.resolve_left q;exact .inr ⟨q,WL⟩
theorem Vv(s:aI){i:Nat}(h:j6 s i){k:Nat}(hk:k<s.reqs.length)(L:Rt):OpG (opV (bm s.reqs k).tag L):=uq vE tI tJ tK (h.a.ut _ (pM hk)) WN WN
theorem pc_EngineCondemns(l:List Int)(hl:l.length<=maxLen)(hwl:∀z∈l,(Lit.int .i64 z).wf=true)(k:Int)(hk:(Lit.int .i64 k).wf=true):PC Tryz.prog 9 [.sl 1 false (aH .i64 l),.int .i64 k] (.bool true):=by
 have ca:=sM;refine ae 14 ?_;obtain⟨s,⟨hg,hr⟩,cs⟩:=Tw l;by_cases q0:((s.reqs.length:Nat):Int)=0
 ·clear hg hr;exact aw
 by_cases q1:s.halt=true
 ·clear hg hr;exact aw
 have q1:s.halt=false:=by simpa using q1
 obtain⟨K,hK⟩:=Vj k;obtain⟨p,hp,hpl⟩:=dF (k:=(K:Int)) (n:=s.reqs.length) WL WL;have cL:=ig 4000;have hx:=Vv s hg hpl (zk 4000);have hc:=Qd hg q1 hpl (zk 4000);have c0:=rQ hg WN hx;have c1:=pc_wk (args':=[.agg (aV s.a),.agg (dj ⟨6,cw,Do,KY,yp,⟨(bm s.reqs p).tag,2,zk 4000⟩,0,0⟩)]) c0 ⟨Wk.refl _,Wk.agg (lw rfl rfl jI jJ jL rfl rfl rfl),trivial⟩ ⟨aI.pul s,(jd _).2 ⟨trivial,⟨trivial,trivial⟩,trivial⟩,trivial⟩;have hr2:=hr.step hg.v (opV (bm s.reqs p).tag (zk 4000));have hg2:=hg.step WN hx;have hgd:(rows aP s.reqs).getD p []=aP (bm s.reqs p):=aS (f:=aP) gT hpl;clear c0 hx;generalize kl s (opV (bm s.reqs p).tag (zk 4000))=T at *;obtain⟨t,T2,T3⟩:=T;dsimp only at c1 hg2 hr2 hc;generalize zk 4000=L at *;generalize bm s.reqs p=r at *;rcases hc with⟨rfl,h2⟩|⟨rfl,hv,hf,hd⟩
 ·clear hg hr hg2 hr2;exact aw
 have hn2:=hg2.a.sto.nn;have ht:=hv.w.tree.r;have c2:=cC t.sto.nodes r.block WL;have c3:=Pf hg2;have c4:=P9 t.sto hg2.a.sto.r;have hwl:=P8 t.sto;have c5:=cC t.sto.nodes t.sto.boost WL;have hb:=Ug hv.w hr2;have hfb:=fM t.sto.nodes r.block;generalize aj t.sto.nodes r.block=J at *;have c6:=Mx t.sto.nodes ht.ok WL J;have hm:=Oi (t:=t.sto.nodes) (i:=J);have hdl:(im t.sto.nodes J).length<=0+t.sto.nodes.length:=Hl t.sto.nodes J t.sto.nodes.length;have hj:¬J<0:=WL
 generalize aj t.sto.nodes t.sto.boost=Bo at *;generalize im t.sto.nodes J=d at *;generalize nk t.sto=w at *;clear hg hr hg2 hr2 hv ht;refine nx fun _=>?_
 refine BA d.length (fun i=>[(13,.int .i64 i),(7,.ptr 2 0)]) (fun _=>[.var (aV s.a),.var (aP r),.var (aV t.a)]) (fun i h1 hw h2=>?_) (fun h=>?_)
 ·obtain⟨x,hx,hxl,hxa⟩:=hm _ (bK 0 h1);obtain⟨d1,d2,d3⟩:=hd x hxl hxa;have hgi:=gdn (k:=.i64) h1;rw[hx]at hgi;have hgw:=gdn (k:=.u64) (ns:=w) (i:=x) WL;rw[d2]at hgw;have hgn:=dy hxl;clear hm hd hb hx;exact aw
 ·clear hm hd
  rcases hb with⟨b1,b2⟩|⟨b1,b2⟩
  ·rw[b1]at c5;exact aw
  ·exact aw
end Go.Proofs.YtmpddimhleianaaGreat
