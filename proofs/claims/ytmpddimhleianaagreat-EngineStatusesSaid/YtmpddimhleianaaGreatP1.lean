/- Joined. -/
import Derived.Test.YtmpddimhleianaaGreatV4
import Derived.Test.YtmpddimhleianaaGreatV5
import Derived.Test.YtmpddimhleianaaGreatW3
import Derived.Test.YtmpddimhleianaaGreatChecked
import Derived.KernelRfl
import Derived.Test.YtmpddimhleianaaGreatT6
import Derived.Test.YtmpddimhleianaaGreatV7
set_option linter.unusedVariables false
set_option linter.unusedSimpArgs false
set_option maxRecDepth 8000
set_option maxHeartbeats 4000000
namespace Go.Proofs.YtmpddimhleianaaGreat
open Go Go.FH Go.RowKit
theorem vW(t:List Nod)(r:Rt):0<=aj t r↔r∈t.map (·.blk.root):=by
 constructor
 ·intro h;obtain⟨d,c⟩:=dO h;rw[amV];refine⟨nod t (aj t r).toNat,?_,c⟩;unfold nod;grind
 ·intro h;obtain⟨n,d,c⟩:=amV.1 h;obtain⟨k,f,g⟩:=amJ d;refine lH (k:=k) f ?_;unfold nod;grind
theorem ab1{s:ap}{i:Nat}(h1:¬ (dn s.orph i).root=rt0)(h2:¬0<=aj s.nodes (dn s.orph i).root)(h3:¬0<=aj s.nodes (dn s.orph i).parent)(h4:(dn s.orph i).timely=false)(h5:¬s.now<(dn s.orph i).slot)(h6:¬ (dn s.orph i).slot<=(dk s.f.ep s.cfg.spe).1)(h7:(dn s.orph i).root∉(s.orph.take i).map (·.root)):qt s i=0:=by
 rw[vW]at h2 h3;unfold qt tn;rw[al5 h1,al5 h2,al5 h7,al5 h3,al5 (by rw[h4];decide),al5 h5,al5 h6]
structure uK(s:ap):Prop where
 a1:(nod s.nodes 0).blk.root=s.f.rt
 a2:0<=aj s.nodes s.j.rt
 a3:(nod s.nodes (aj s.nodes s.j.rt).toNat).status≠2
 a4:s.f.ep<=s.j.ep
 a5:0<=dJ s.tabs s.j
 a6:frE (pR s) (s.tabs.length-0) 0=0
 a7:(decide (s.latest.length=s.cfg.bals.length)&&(!(dW (fun i=>!(vot s.latest i).has&&decide (vot s.latest i≠dL)) s.latest.length).isSome&&(decide (s.eqv.length=0) || decide (cE s.eqv s.cfg.bals.length=0))))=true
 a8:s.boost=rt0\/0<=aj s.nodes s.boost
 a9:s.now<=1099511627776
 a10:s.j.ep<=dg s s.now
 a11:jA s 0 s.f.ep=true
 a12:(dW (fun i=>decide (s.now<(nod s.nodes i).blk.slot) || !pY s (nod s.nodes i).blk) s.nodes.length).isSome=false
 a13:zV s=true
theorem abX(p:Nat->Bool):∀n,orN p n=true↔∃k,k<n/\p k=true
 |0=>⟨fun h=>(by cases h),fun ⟨k,hk,_⟩=>absurd hk (aju k)⟩
 | n + 1 => by
   show (orN p n || p n)=true↔_
   rw[ajY,abX p n];constructor
   ·rintro (⟨k,h1,h2⟩|h)
    ·exact⟨k,WL,h2⟩
    ·exact⟨n,WL,h⟩
   ·rintro⟨k,h1,h2⟩;by_cases hk:k=n
    ·subst hk;exact .inr h2
    ·exact .inl ⟨k,WL,h2⟩
theorem HO(l:List aW)(c:Cp):0<=dJ l c↔orN (fun i=>decide ((tab l i).cp=c)) l.length=true:=by
 rw[abX];unfold dJ;cases h:dW (fun i=>decide ((tab l i).cp=c)) l.length with
 | none =>
   rw[jP];exact⟨fun h=>absurd h WN,fun ⟨k,h1,h2⟩=>by rw[iL h k h1]at h2;cases h2⟩
 | some k =>
   obtain⟨h1,h2,_⟩:=fZ h;rw[Ck];exact⟨fun _=>⟨k,h1,h2⟩,fun _=>WL⟩
theorem QX{s:ap}(h1:1<=s.cfg.spe)(h2:s.cfg.spe<=64)(n:Int):(kJ n s.cfg.spe).1=dg s n:=by
 unfold kJ vy;rw[au h1,au h2];rfl
theorem Iq{c:cU}(h:ib c=0):1<=c.spe/\c.spe<=64:=by
 unfold ib at h;by_cases h1:c.spe<1
 ·rw[al7 h1]at h;cases h
 ·rw[al5 h1]at h;by_cases h2:64<c.spe
  ·rw[al7 h2]at h;cases h
  ·exact⟨WL,WL⟩
theorem agq{s:ap}(h1:1<=s.cfg.spe)(h2:s.cfg.spe<=64)(b:Blk):RU s b=pY s b:=by
 unfold RU pY;rw[QX h1 h2]
theorem ac4{s:ap}(hn:ib s.cfg=0)(hs:statV s.nodes=0)(z1:¬s.cfg.lim.node<s.nodes.length)(z2:¬s.cfg.lim.orph<s.orph.length)(z3:¬s.cfg.lim.early<s.early.length)(z4:¬s.cfg.lim.table<s.tabs.length)(hf:U64 s.f.ep)(hw:U64 s.now):(uK s->oL s=0)/\(¬uK s->oL s=2):=by
 obtain⟨p1,p2⟩:=Iq hn
 have key:oL s=if KK s=false then 2 else if (decide (frE (pR s) (s.tabs.length-0) 0=0)&&orN (fun i=>decide ((tab s.tabs i).cp=s.j)) s.tabs.length)=false then 2
  else if nF s=false then 2 else if wy s=false then 2 else if zV s=false then 2 else 0:=by
  unfold oL;rw[al5 (fun h=>h hn),al5 (fun h=>h hs),al5 z1,al5 z2,al5 z3,al5 z4]
 have hv:nF s=(decide (s.latest.length=s.cfg.bals.length)&&(!(dW (fun i=>!(vot s.latest i).has&&decide (vot s.latest i≠dL)) s.latest.length).isSome&&(decide (s.eqv.length=0) || decide (cE s.eqv s.cfg.bals.length=0)))):=by
  unfold nF
  have e1:decide ((s.latest.length:Int)=(s.cfg.bals.length:Int))=decide (s.latest.length=s.cfg.bals.length):=by
   by_cases q:s.latest.length=s.cfg.bals.length
   ·rw[au q,au WL]
   ·rw[aA q,aA WL]
  have e2:decide ((s.eqv.length:Int)=0)=decide (s.eqv.length=0):=by
   by_cases q:s.eqv.length=0
   ·rw[au q,au WL]
   ·rw[aA q,aA WL]
  rw[e1,e2,Bool.and_left_comm]
 have hnd:wy s=!(dW (fun i=>decide (s.now<(nod s.nodes i).blk.slot) || !pY s (nod s.nodes i).blk) s.nodes.length).isSome:=by
  have he:(fun i=>decide (s.now<(nod s.nodes i).blk.slot) || !RU s (nod s.nodes i).blk)=(fun i=>decide (s.now<(nod s.nodes i).blk.slot) || !pY s (nod s.nodes i).blk):=funext fun i=>by rw[agq p1 p2]
  unfold wy;rw[he]
 have hfin:KK s=true↔((nod s.nodes 0).blk.root=s.f.rt/\0<=aj s.nodes s.j.rt/\(nod s.nodes (aj s.nodes s.j.rt).toNat).status≠2/\s.f.ep<=s.j.ep)/\((s.boost=rt0\/0<=aj s.nodes s.boost)/\s.now<=1099511627776/\s.j.ep<=dg s s.now)/\(dk s.f.ep s.cfg.spe).2=0/\(nod s.nodes 0).blk.slot<=(dk s.f.ep s.cfg.spe).1:=by
  unfold KK;rw[QX p1 p2];simp only[amk,ajY,amg];exact⟨fun ⟨⟨a,b⟩,c⟩=>⟨a,b,c⟩,fun ⟨a,b,c⟩=>⟨⟨a,b⟩,c⟩⟩
 have hea:jA s 0 s.f.ep=true↔((dk s.f.ep s.cfg.spe).2≠0\/(nod s.nodes 0).blk.slot<=(dk s.f.ep s.cfg.spe).1):=by
  unfold jA da;by_cases q:(dk s.f.ep s.cfg.spe).2=0
  ·simp[q]
  ·simp[q]
 constructor
 ·intro h;have hst:(dk s.f.ep s.cfg.spe).2=0:=CY hf.lo p1 p2 hw.lo hw.hi (akT h.a4 h.a10);have hF:KK s=true:=hfin.2 ⟨⟨h.a1,h.a2,h.a3,h.a4⟩,⟨h.a8,h.a9,h.a10⟩,hst,(hea.1 h.a11).resolve_left (fun hh=>hh hst)⟩;have hT:=(HO s.tabs s.j).1 h.a5;rw[key,hF,al5 WN,hT,au h.a6,hv,h.a7,hnd,h.a12,h.a13];rfl
 ·intro h;rw[key];by_cases q1:KK s=false
  ·rw[al7 q1]
  rw[al5 q1];by_cases q2:(decide (frE (pR s) (s.tabs.length-0) 0=0)&&orN (fun i=>decide ((tab s.tabs i).cp=s.j)) s.tabs.length)=false
  ·rw[al7 q2]
  rw[al5 q2];by_cases q3:nF s=false
  ·rw[al7 q3]
  rw[al5 q3];by_cases q4:wy s=false
  ·rw[al7 q4]
  rw[al5 q4];by_cases q5:zV s=false
  ·rw[al7 q5]
  exfalso
  simp only[akc]at q1 q2 q3 q4 q5;obtain⟨⟨b1,b2,b3,b4⟩,⟨b5,b6,b7⟩,b8,b9⟩:=hfin.1 q1;rw[amk,amg]at q2;rw[hnd]at q4;exact h ⟨b1,b2,b3,b4,(HO _ _).2 q2.2,q2.1,hv▸q3,b5,b6,b7,hea.2 (.inr b9),by simpa using q4,q5⟩
end Go.Proofs.YtmpddimhleianaaGreat
