/- Joined. -/
import Derived.Test.YtmpddimhleianaaGreatO7
import Derived.Test.YtmpddimhleianaaGreatE1
import Derived.Test.YtmpddimhleianaaGreatU2
set_option linter.unusedVariables false
set_option linter.unusedSimpArgs false
set_option maxRecDepth 8000
set_option maxHeartbeats 4000000
namespace Go.Proofs.YtmpddimhleianaaGreat
open Go Go.FH Go.RowKit
theorem KH{s:aI}{x:VOp}(h:(ia s x).2=21):x.kind=6/\(ia s x).1=⟨s.sto,s.reqs,s.rets,s.tag,s.sent,s.last,s.over,true⟩:=by
 unfold ia at h ⊢;by_cases q1:x.kind=1
 ·rw[al7 q1]at h;split at h
  ·cases h
  ·exact absurd h (tG _)
 rw[al5 q1]at h ⊢;by_cases q2:x.kind=2
 ·rw[al7 q2]at h;split at h
  ·cases h
  ·exact absurd h (jE _ _)
 rw[al5 q2]at h ⊢;by_cases q3:x.kind=3
 ·rw[al7 q3]at h;exact absurd h (vC _ _)
 rw[al5 q3]at h ⊢;by_cases q4:x.kind=4
 ·rw[al7 q4]at h;exact absurd h (qg _ _)
 rw[al5 q4]at h ⊢;by_cases q5:x.kind=5
 ·rw[al7 q5]at h;exact absurd h (vP _ _)
 rw[al5 q5]at h ⊢;by_cases q6:x.kind=6
 ·rw [al7 q6] at h ⊢
  refine⟨q6,?_⟩;unfold ky at h ⊢;split at h
  ·rename_i h0
   have:(cz s x.vdt).2.2≠21:=by
    unfold cz;split<;>(dsimp only;decide)
   exact absurd h this
  ·rename_i h0
   rw[al5 h0];split at h
   ·cases h
   ·rename_i h1
    rw[al5 h1];split at h
    ·rename_i h2;rw[al7 h2]
    ·cases h
 ·rw[al5 q6]at h;cases h
structure Adv(s t:ap):Prop where
 ep:s.f.ep<=t.f.ep
 nd:∀n∈t.nodes,(∃m∈s.nodes,m.blk=n.blk/\(m.status=n.status\/m.status=0))\/(n.blk.root≠rt0/\∀m∈s.nodes,m.blk.root≠n.blk.root)
 od:∀b∈t.orph,b.root≠rt0/\∀m∈s.nodes,m.blk.root≠b.root
theorem Adv.refl{s:ap}(h:StV s):Adv s s:=⟨amr _,fun n hn=>.inl ⟨n,hn,rfl,.inl rfl⟩,fun b hb=>⟨(h.w.ob b hb).rt,Cy.1 (h.w.ob b hb).un⟩⟩
theorem Adv.same{s t u:ap}(h:Adv s t)(e:u.f=t.f)(n:u.nodes=t.nodes)(o:∀b∈u.orph,b∈t.orph):Adv s u:=⟨by rw[e];exact h.ep,by rw[n];exact h.nd,fun b hb=>h.od b (o b hb)⟩
theorem Oq(t:List Nod)(i:Int):∀n∈(eF t i).1,∃m∈t,m.blk=n.blk/\m.status=n.status:=
 Yy (f := ei t i) (a := ([], [])) (fun _ p => ∀ n ∈ p.1, ∃ m ∈ t, m.blk = n.blk /\ m.status = n.status) (fun n hn => by cases hn) t.length (fun k p hk hp n hn => by
  unfold ei at hn;split at hn
  ·rcases amm.1 hn with hn|hn
   ·exact hp n hn
   ·rw[amn]at hn;subst hn;exact⟨nod t k,Cw hk,rfl,rfl⟩
  ·exact hp n hn) _ (amb _)
theorem Adv.upd{s t:ap}(h:Adv s t)(j f:Cp):Adv s (dK t j f):=by
 have ho:=(pT t j f).2;refine⟨?_,?_,fun b hb=>h.od b (ho b hb)⟩
 ·have h1:=h.ep
  have h2:=E4 t.f f;unfold dK;split
  ·exact h1
  ·split
   ·show s.f.ep<=(fh t.f f).ep;omega
   ·show s.f.ep<=(fh t.f f).ep;omega
 ·unfold dK
  split
  ·exact h.nd
  ·split
   ·exact h.nd
   ·intro n hn;obtain⟨m,hm,e1,e2⟩:=Oq _ _ n hn;rcases h.nd m hm with⟨k,hk,g1,g2⟩|g
    ·exact .inl ⟨k,hk,g1.trans e1,by rw[<-e2];exact g2⟩
    ·exact .inr (by rw[<-e1];exact g)
theorem Adv.ins{s t:ap}(h:Adv s t){b:Blk}(hb:b.root≠rt0/\∀m∈s.nodes,m.blk.root≠b.root):Adv s (kL t b):=by
 have h0:Adv s (dD t (BV t.nodes b (dc b)).1):=⟨h.ep,fun n hn=>by
  change n∈(BV t.nodes b (dc b)).1 at hn
  unfold BV at hn;repeat' split at hn
  all_goals first|(cases hn;done)|skip
  rcases amm.1 hn with hn|hn
  ·exact h.nd n hn
  ·rw[amn]at hn;subst hn;exact .inr hb,h.od⟩
 have h1:=h0.upd b.just b.fin;unfold kL;split
 ·exact h1.upd _ _
 ·exact h1
theorem Adv.wait{s:ap}{p:ap×List Rt}(h:Adv s p.1)(h0:0<=cY p.1):Adv s (waitR p).1:=by
 have h1:=i6 p.1;have h2:Adv s (withO p.1 (takeO p.1.orph (cY p.1).toNat)):=h.same rfl rfl fun b hb=>(ZZ _ _).subset hb
 have h3:=h.od (dn p.1.orph (cY p.1).toNat) (bK _ WL);unfold waitR;split
 ·exact h2.ins h3
 ·exact h2
theorem Adv.waitG{s:ap}:∀ (f:Nat) {p:ap×List Rt},Adv s p.1->Adv s (waitG f p).1
 |0,p,h=>h
 | f + 1, p, h => by
   unfold Go.Proofs.YtmpddimhleianaaGreat.waitG;split
   ·exact h
   ·exact Adv.waitG f (h.wait WL)
theorem Adv.block{s:ap}(h:StV s){b:Blk}(h2:(di s b).2.2=0):Adv s (di s b).1:=by
 have r:=Adv.refl h;unfold di at *;by_cases h3:de s b=10
 ·rw [al7 h3] at h2 ⊢
  split at h2
  ·cases h2
  ·rename_i h4
   rw[al5 h4];have k:=And.intro (XT h3).root (Cy.1 (RF (XT h3).kn).1)
   exact⟨r.ep,r.nd,fun x hx=>by
    rcases amm.1 hx with hx|hx
    ·exact r.od x hx
    ·rw[amn]at hx;subst hx;exact k⟩
 ·rw[al5 h3]at h2 ⊢
  by_cases h4:de s b≠0
  ·rw[al7 h4]at h2;exact absurd h2 h4
  ·rw[al5 h4];have k:=And.intro (QK (by simpa using h4)).root (Cy.1 (RF (QK (by simpa using h4)).kn).1);refine Adv.waitG _ (p:=(blockI s b,[b.root])) ?_;unfold blockI;split
   ·exact(r.ins k).same rfl rfl fun b hb=>hb
   ·exact r.ins k
theorem Adv.at{s t:ap}(h:Adv s t)(hs:TrV s.nodes){i:Nat}(hi:i<t.nodes.length)(hf:0<=aj s.nodes (nod t.nodes i).blk.root):
 (nod s.nodes (aj s.nodes (nod t.nodes i).blk.root).toNat).blk=(nod t.nodes i).blk/\((nod s.nodes (aj s.nodes (nod t.nodes i).blk.root).toNat).status=(nod t.nodes i).status\/(nod s.nodes (aj s.nodes (nod t.nodes i).blk.root).toNat).status=0):=by
 obtain⟨k1,k2⟩:=dO hf;rcases h.nd _ (Cw hi)with⟨m,hm,e1,e2⟩|g
 ·obtain⟨k,hk,rfl⟩:=Ct hm;have:=xC hs hk (r:=(nod t.nodes i).blk.root) (by rw[e1]);rw[this,amw];exact⟨e1,e2⟩
 ·exact absurd k2 (g.2 _ (Cw k1))
theorem Oy{t:List Nod}(ht:dU t){i:Nat}(hi:i<t.length)(latest:Rt):∃c:Nat,(iY t i latest).2=c/\c<t.length/\eh t c i=true:=by
 have hself:=xz ht hi
 have hget:∀k,k<(AI t i).length->∃c:Nat,(AI t i).getD k 0=c/\c<t.length/\eh t c i=true:=fun k hk=>by
  have hm:(AI t i).getD k 0∈AI t i:=bK 0 hk;obtain⟨h0,_,h2⟩:=gu ht.ok hm;obtain⟨c,hc⟩:=ajO h0;exact⟨c,hc,WL,by rw[<-hc];unfold eh;exact au hm⟩
 have hp:0<(AI t i).length:=by
  rw[gE ht hi,akC];exact Nat.succ_pos _
 unfold iY;rw[al5 WL];split
 ·split
  ·rename_i k hk;exact hget k (fZ hk).1
  ·exact⟨i,rfl,hi,hself⟩
 ·split
  ·rename_i k hk;refine hget (k+1) ?_;have:=(rr hk).1;omega
  ·exact⟨i,rfl,hi,hself⟩
def Tx:VOp:=⟨0,cw,xo,uU,uX,lZ,0,0⟩
def opA(l:List VOp)(i:Nat):VOp:=l.getD i Tx
def TM(l:List VOp)(i:Nat)(p:aI×List Int×List Cmd):aI×List Int×List Cmd:=((kl p.1 (opA l i)).1,p.2.1++[(kl p.1 (opA l i)).2.2],p.2.2++(kl p.1 (opA l i)).2.1)
def eM(s:aI)(l:List VOp)(k:Nat):aI×List Int×List Cmd:=bg (TM l) (s,[],[]) k
def xf(s:aI)(l:List VOp):aI×List Int×List Cmd:=eM s l l.length
theorem xg(s:aI)(l:List VOp)(k:Nat):eM s l (k+1)=((kl (eM s l k).1 (opA l k)).1,(eM s l k).2.1++[(kl (eM s l k).1 (opA l k)).2.2],(eM s l k).2.2++(kl (eM s l k).1 (opA l k)).2.1):=rfl
theorem Er(s:aI)(l:List VOp):∀k,(eM s l k).2.1.length=k
 |0=>rfl
 |k+1=>by rw[xg];simp[Er s l k]
theorem C6(s:aI):(io s).2.length<=1:=by
 unfold io;split
 ·exact amc _
 ·exact amb _
theorem qD(s:aI)(x:VOp):(kl s x).2.1.length<=1:=by
 unfold kl;(repeat' split)<;>first|exact amc _|exact C6 _
theorem Ep(s:aI)(l:List VOp):∀k,(eM s l k).2.2.length<=k
 |0=>amb _
 | k + 1 => by
   have:=Ep s l k;have:=qD (eM s l k).1 (opA l k);rw[xg];simp only[akC];omega
theorem KG{l:List VOp}{i:Nat}(h:i<l.length):opA l i∈l:=bK _ h
end Go.Proofs.YtmpddimhleianaaGreat
