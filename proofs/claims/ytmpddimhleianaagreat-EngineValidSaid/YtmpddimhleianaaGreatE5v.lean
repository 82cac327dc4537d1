/- Joined. -/
import Derived.Test.YtmpddimhleianaaGreatO7v
import Derived.Test.YtmpddimhleianaaGreatE1v
import Derived.Test.YtmpddimhleianaaGreatU2v
set_option linter.unusedVariables false
set_option linter.unusedSimpArgs false
set_option maxRecDepth 8000
set_option maxHeartbeats 4000000
namespace Go.Proofs.YtmpddimhleianaaGreat
open Go Go.FH Go.RowKit
theorem XQ{s:al}{x:VOp}(h:(de s x).2=21):x.kind=6/\(de s x).1=⟨s.sto,s.reqs,s.rets,s.tag,s.sent,s.last,s.over,true⟩:=by
 unfold de at h ⊢;by_cases q1:x.kind=1
 ·rw[afA q1]at h;split at h
  ·cases h
  ·exact absurd h (qM _)
 rw[afx q1]at h ⊢;by_cases q2:x.kind=2
 ·rw[afA q2]at h;split at h
  ·cases h
  ·exact absurd h (nM _ _)
 rw[afx q2]at h ⊢;by_cases q3:x.kind=3
 ·rw[afA q3]at h;exact absurd h (uR _ _)
 rw[afx q3]at h ⊢;by_cases q4:x.kind=4
 ·rw[afA q4]at h;exact absurd h (oh _ _)
 rw[afx q4]at h ⊢;by_cases q5:x.kind=5
 ·rw[afA q5]at h;exact absurd h (vd _ _)
 rw[afx q5]at h ⊢;by_cases q6:x.kind=6
 ·rw [afA q6] at h ⊢
  refine⟨q6,?_⟩;unfold eg at h ⊢;split at h
  ·rename_i h0
   have:(aL s x.vdt).2.2≠21:=by
    unfold aL;split<;>(dsimp only;decide)
   exact absurd h this
  ·rename_i h0
   rw[afx h0];split at h
   ·cases h
   ·rename_i h1
    rw[afx h1];split at h
    ·rename_i h2;rw[afA h2]
    ·cases h
 ·rw[afx q6]at h;cases h
structure Adv(s t:af):Prop where
 ep:s.f.ep<=t.f.ep
 nd:∀n∈t.nodes,(∃m∈s.nodes,m.blk=n.blk/\(m.status=n.status\/m.status=0))\/(n.blk.root≠rt0/\∀m∈s.nodes,m.blk.root≠n.blk.root)
 od:∀b∈t.orph,b.root≠rt0/\∀m∈s.nodes,m.blk.root≠b.root
theorem Adv.refl{s:af}(h:StV s):Adv s s:=⟨afT _,fun n hn=>.inl ⟨n,hn,rfl,.inl rfl⟩,fun b hb=>⟨(h.w.ob b hb).rt,mr.1 (h.w.ob b hb).un⟩⟩
theorem Adv.same{s t u:af}(h:Adv s t)(e:u.f=t.f)(n:u.nodes=t.nodes)(o:∀b∈u.orph,b∈t.orph):Adv s u:=⟨by rw[e];exact h.ep,by rw[n];exact h.nd,fun b hb=>h.od b (o b hb)⟩
theorem Rc(t:List Nod)(i:Int):∀n∈(fo t i).1,∃m∈t,m.blk=n.blk/\m.status=n.status:=
 dp (f := dM t i) (a := ([], [])) (fun _ p => ∀ n ∈ p.1, ∃ m ∈ t, m.blk = n.blk /\ m.status = n.status) (fun n hn => by cases hn) t.length (fun k p hk hp n hn => by
  unfold dM at hn;split at hn
  ·rcases afR.1 hn with hn|hn
   ·exact hp n hn
   ·rw[afN]at hn;subst hn;exact⟨nod t k,nj hk,rfl,rfl⟩
  ·exact hp n hn) _ (afE _)
theorem Adv.upd{s t:af}(h:Adv s t)(j f:Cp):Adv s (dw t j f):=by
 have ho:=(mD t j f).2;refine⟨?_,?_,fun b hb=>h.od b (ho b hb)⟩
 ·have h1:=h.ep
  have h2:=HR t.f f;unfold dw;split
  ·exact h1
  ·split
   ·show s.f.ep<=(eU t.f f).ep;omega
   ·show s.f.ep<=(eU t.f f).ep;omega
 ·unfold dw
  split
  ·exact h.nd
  ·split
   ·exact h.nd
   ·intro n hn;obtain⟨m,hm,e1,e2⟩:=Rc _ _ n hn;rcases h.nd m hm with⟨k,hk,g1,g2⟩|g
    ·exact .inl ⟨k,hk,g1.trans e1,by rw[<-e2];exact g2⟩
    ·exact .inr (by rw[<-e1];exact g)
theorem Adv.ins{s t:af}(h:Adv s t){b:Blk}(hb:b.root≠rt0/\∀m∈s.nodes,m.blk.root≠b.root):Adv s (gE t b):=by
 have h0:Adv s (bQ t (eZ t.nodes b (cC b)).1):=⟨h.ep,fun n hn=>by
  change n∈(eZ t.nodes b (cC b)).1 at hn
  unfold eZ at hn;repeat' split at hn
  all_goals first|(cases hn;done)|skip
  rcases afR.1 hn with hn|hn
  ·exact h.nd n hn
  ·rw[afN]at hn;subst hn;exact .inr hb,h.od⟩
 have h1:=h0.upd b.just b.fin;unfold gE;split
 ·exact h1.upd _ _
 ·exact h1
theorem Adv.wait{s:af}{p:af×List Rt}(h:Adv s p.1)(h0:0<=bW p.1):Adv s (waitR p).1:=by
 have h1:=oA p.1;have h2:Adv s (withO p.1 (takeO p.1.orph (bW p.1).toNat)):=h.same rfl rfl fun b hb=>(GS _ _).subset hb
 have h3:=h.od (cU p.1.orph (bW p.1).toNat) (cR _ af0);unfold waitR;split
 ·exact h2.ins h3
 ·exact h2
theorem Adv.waitG{s:af}:∀ (f:Nat) {p:af×List Rt},Adv s p.1->Adv s (waitG f p).1
 |0,p,h=>h
 | f + 1, p, h => by
   unfold Go.Proofs.YtmpddimhleianaaGreat.waitG;split
   ·exact h
   ·exact Adv.waitG f (h.wait af0)
theorem Adv.block{s:af}(h:StV s){b:Blk}(h2:(bR s b).2.2=0):Adv s (bR s b).1:=by
 have r:=Adv.refl h;unfold bR at *;by_cases h3:bG s b=10
 ·rw [afA h3] at h2 ⊢
  split at h2
  ·cases h2
  ·rename_i h4
   rw[afx h4];have k:=And.intro (xK h3).root (mr.1 (wm (xK h3).kn).1)
   exact⟨r.ep,r.nd,fun x hx=>by
    rcases afR.1 hx with hx|hx
    ·exact r.od x hx
    ·rw[afN]at hx;subst hx;exact k⟩
 ·rw[afx h3]at h2 ⊢
  by_cases h4:bG s b≠0
  ·rw[afA h4]at h2;exact absurd h2 h4
  ·rw[afx h4];have k:=And.intro (vK (by simpa using h4)).root (mr.1 (wm (vK (by simpa using h4)).kn).1);refine Adv.waitG _ (p:=(blockI s b,[b.root])) ?_;unfold blockI;split
   ·exact(r.ins k).same rfl rfl fun b hb=>hb
   ·exact r.ins k
theorem Adv.at{s t:af}(h:Adv s t)(hs:TrV s.nodes){i:Nat}(hi:i<t.nodes.length)(hf:0<=ab s.nodes (nod t.nodes i).blk.root):
 (nod s.nodes (ab s.nodes (nod t.nodes i).blk.root).toNat).blk=(nod t.nodes i).blk/\((nod s.nodes (ab s.nodes (nod t.nodes i).blk.root).toNat).status=(nod t.nodes i).status\/(nod s.nodes (ab s.nodes (nod t.nodes i).blk.root).toNat).status=0):=by
 obtain⟨k1,k2⟩:=dD hf;rcases h.nd _ (nj hi)with⟨m,hm,e1,e2⟩|g
 ·obtain⟨k,hk,rfl⟩:=qD hm;have:=j6 hs hk (r:=(nod t.nodes i).blk.root) (by rw[e1]);rw[this,afH];exact⟨e1,e2⟩
 ·exact absurd k2 (g.2 _ (nj k1))
theorem Gp{t:List Nod}(ht:bk t){i:Nat}(hi:i<t.length)(latest:Rt):∃c:Nat,(dh t i latest).2=c/\c<t.length/\bw t c i=true:=by
 have hself:=lD ht hi
 have hget:∀k,k<(aZ t i).length->∃c:Nat,(aZ t i).getD k 0=c/\c<t.length/\bw t c i=true:=fun k hk=>by
  have hm:(aZ t i).getD k 0∈aZ t i:=cR 0 hk;obtain⟨h0,_,h2⟩:=dL ht.ok hm;obtain⟨c,hc⟩:=afF h0;exact⟨c,hc,af0,by rw[<-hc];unfold bw;exact ax hm⟩
 have hp:0<(aZ t i).length:=by
  rw[nE ht hi,afB];exact Nat.succ_pos _
 unfold dh;rw[afx af0];split
 ·split
  ·rename_i k hk;exact hget k (cJ hk).1
  ·exact⟨i,rfl,hi,hself⟩
 ·split
  ·rename_i k hk;refine hget (k+1) ?_;have:=(ye hk).1;omega
  ·exact⟨i,rfl,hi,hself⟩
def aa7:VOp:=⟨0,dx,sU,rh,ri,jn,0,0⟩
def opA(l:List VOp)(i:Nat):VOp:=l.getD i aa7
def abJ(l:List VOp)(i:Nat)(p:al×List Int×List Cmd):al×List Int×List Cmd:=((bV p.1 (opA l i)).1,p.2.1++[(bV p.1 (opA l i)).2.2],p.2.2++(bV p.1 (opA l i)).2.1)
def lk(s:al)(l:List VOp)(k:Nat):al×List Int×List Cmd:=aH (abJ l) (s,[],[]) k
def rf(s:al)(l:List VOp):al×List Int×List Cmd:=lk s l l.length
theorem CM(s:al)(l:List VOp)(k:Nat):lk s l (k+1)=((bV (lk s l k).1 (opA l k)).1,(lk s l k).2.1++[(bV (lk s l k).1 (opA l k)).2.2],(lk s l k).2.2++(bV (lk s l k).1 (opA l k)).2.1):=rfl
theorem Ky(s:al)(l:List VOp):∀k,(lk s l k).2.1.length=k
 |0=>rfl
 |k+1=>by rw[CM];simp[Ky s l k]
theorem Tu(s:al):(dC s).2.length<=1:=by
 unfold dC;split
 ·exact afK _
 ·exact afE _
theorem xu(s:al)(x:VOp):(bV s x).2.1.length<=1:=by
 unfold bV;(repeat' split)<;>first|exact afK _|exact Tu _
theorem Kx(s:al)(l:List VOp):∀k,(lk s l k).2.2.length<=k
 |0=>afE _
 | k + 1 => by
   have:=Kx s l k;have:=xu (lk s l k).1 (opA l k);rw[CM];simp only[afB];omega
theorem OH{l:List VOp}{i:Nat}(h:i<l.length):opA l i∈l:=cR _ h
end Go.Proofs.YtmpddimhleianaaGreat
