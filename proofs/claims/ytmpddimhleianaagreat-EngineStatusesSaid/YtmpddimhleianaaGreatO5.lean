/- Joined. -/
import Derived.Test.YtmpddimhleianaaGreatO3
import Derived.Test.YtmpddimhleianaaGreatV2
import Derived.Test.YtmpddimhleianaaGreatO1
import Derived.Test.YtmpddimhleianaaGreatV1
import Derived.Test.YtmpddimhleianaaGreatW7
import Derived.Test.YtmpddimhleianaaGreatW3
import Derived.Test.YtmpddimhleianaaGreatChecked
import Derived.KernelRfl
import Derived.Test.YtmpddimhleianaaGreatW9
import Derived.Test.YtmpddimhleianaaGreatW8
import Derived.Test.YtmpddimhleianaaGreatV7
import Derived.Test.YtmpddimhleianaaGreatU2
import Derived.Test.YtmpddimhleianaaGreatU1
set_option linter.unusedVariables false
set_option linter.unusedSimpArgs false
set_option maxRecDepth 8000
set_option maxHeartbeats 4000000
namespace Go.Proofs.YtmpddimhleianaaGreat
open Go Go.FH Go.RowKit
structure GQ(s:aI):Prop where
 hr:Qw s.sto
 l6:U64 s.sto.cfg.lim.backoff
 c1:U64 s.sto.cfg.spe
 c2:U64 s.sto.cfg.boost
 c3:WdU s.sto.cfg.ttd
 v1:∀v∈s.sto.latest,U64 v.ep
 j:U64 s.sto.j.ep
 a:∀a∈s.sto.early,U64 a.slot/\U64 a.target.ep
 o:∀b∈s.sto.orph,Dh b
 n:∀n∈s.sto.nodes,Dh n.blk
 w:U64 s.sto.now
 t:∀t∈s.sto.tabs,U64 t.cp.ep/\t.bals.length<=1024
 ql:s.reqs.length<=2097152
 yl:s.rets.length<=2097152
 q:∀r∈s.reqs,U64 r.tag/\U64 r.due
 y:∀r∈s.rets,U64 r.tag/\U64 r.due
 g:U64 s.tag
theorem rJ{α:Type}(d:α){l:List α}{x:α}(h:x∈l):∃i,i<l.length/\l.getD i d=x:=by
 obtain⟨i,hi,rfl⟩:=amJ h;exact⟨i,hi,by rw[alt,al6 hi];rfl⟩
theorem Vz{l:List Int}{n m:Int}(hm:n<=m):∀ (k i:Nat),l.length-i<=k->nV l n i=0->nV l m i=0:=by
 intro k;induction k with
 |zero=>intro i hk h;rw[oQ WL]
 | succ k ih =>
   intro i hk h;by_cases hi:i<l.length
   ·rw [lY hi] at h ⊢
    split at h
    ·cases h
    ·rename_i h1
     rw[al5 WL];split at h
     ·cases h
     ·rename_i h2;rw[al5 h2];exact ih _ WL h
   ·rw[oQ hi]
theorem Z7{l:List Int}{n m:Int}(hm:n<=m)(h:cE l n=0):cE l m=0:=by
 unfold cE at h ⊢;split at h
 ·cases h
 ·rename_i h1;rw[al5 h1];exact Vz hm _ _ (amb _) h
theorem abJ{c:cU}(h:ib c=0):fR c.lim.node/\fR c.lim.orph/\fR c.lim.early/\fR c.lim.table/\fR c.lim.retry/\c.bals.length<=1024:=by
 unfold ib wit at h;by_cases q0:c.spe<1
 ·rw[al7 q0]at h;cases h
 by_cases q1:64<c.spe
 ·rw[al5 q0,al7 q1]at h;cases h
 by_cases q2:100<c.boost
 ·rw[al5 q0,al5 q1,al7 q2]at h;cases h
 by_cases q3:1024<(c.bals.length:Int)
 ·rw[al5 q0,al5 q1,al5 q2,al7 q3]at h;cases h
 rw[al5 q0,al5 q1,al5 q2,al5 q3]at h;clear q0 q1 q2
 have key:∀ {b:Bool} {x y:Int},(if b=false then (3:Int)else y)=0->b=true/\y=0:=by
  intro b x y h;cases b
  ·cases h
  ·exact⟨rfl,h⟩
 obtain⟨a1,h⟩:=key (x:=0) h;obtain⟨a2,h⟩:=key (x:=0) h;obtain⟨a3,h⟩:=key (x:=0) h;obtain⟨a4,h⟩:=key (x:=0) h;obtain⟨a5,h⟩:=key (x:=0) h;simp only[amk,amg]at a1 a2 a3 a4 a5;refine⟨⟨?_,?_⟩,⟨?_,?_⟩,⟨?_,?_⟩,⟨?_,?_⟩,⟨?_,?_⟩,?_⟩<;>omega
theorem acX{t:List Nod}(h:statV t=0):∀n∈t,fR (n.up+1)/\fR n.status:=by
 intro n hn;obtain⟨i,hi,rfl⟩:=rJ gr hn;change fR ((nod t i).up+1)/\fR (nod t i).status
 have h1:nU t=0:=by
  unfold statV at h;split at h
  ·rename_i q;exact absurd h q
  ·rename_i q;simpa using q
 have h4:=(xu h1).2;unfold nU at h1;split at h1
 ·cases h1
 have h2:=sJ.1 h1 i (amc _) WL;unfold An at h2;split at h2
 ·cases h2
 rename_i a1;split at h2
 ·cases h2
 rename_i a2;split at h2
 ·cases h2
 rename_i a3;refine⟨⟨?_,?_⟩,⟨?_,?_⟩⟩<;>omega
theorem ac5{s:ap}(h:nF s=true)(hb:s.cfg.bals.length<=1024):(∀v∈s.latest,v.has=false->v=dL)/\∀n∈s.eqv,fR n:=by
 unfold nF at h;simp only[amk,aku,ajY,amg]at h;obtain⟨h1,h2,h3⟩:=h;constructor
 ·intro v hv hf
  obtain⟨i,hi,rfl⟩:=rJ dL hv;cases hn:dW (fun i=>!(vot s.latest i).has&&decide (vot s.latest i≠dL)) s.latest.length with
  |some j=>rw[hn]at h1;cases h1
  | none =>
    have h4:=iL hn i hi;change (!(vot s.latest i).has&&decide (vot s.latest i≠dL))=false at h4
    change (vot s.latest i).has=false at hf
    rw[hf]at h4;by_cases q:vot s.latest i=dL
    ·exact q
    ·simp[q]at h4
 ·intro n hn
  obtain⟨i,hi,rfl⟩:=rJ 0 hn;rcases h3 with h3|h3
  ·omega
  ·have:=(iS h3).2 i hi;exact⟨this.1,WL⟩
theorem ags{s:ap}(h:zV s=true)(hb:s.cfg.bals.length<=1024):∀a∈s.early,cE a.vals 1024=0:=by
 unfold zV at h;simp only[amk,amg]at h;intro a ha;obtain⟨i,hi,rfl⟩:=rJ default ha;have:=sJ.1 h.1 i (amc _) WL;exact Z7 WL this
theorem afj{s:ap}(h:oL s=0):ib s.cfg=0/\statV s.nodes=0/\nF s=true/\zV s=true:=by
 unfold oL at h;by_cases q1:ib s.cfg=0
 case neg=>rw[al7 q1]at h;exact absurd h q1
 rw[al5 (by simp[q1])]at h;by_cases q2:statV s.nodes=0
 case neg=>rw[al7 q2]at h;exact absurd h q2
 rw[al5 (by simp[q2])]at h;refine⟨q1,q2,?_,?_⟩
 ·cases q:nF s with
  |true=>rfl
  | false =>
    rw[q]at h;simp only[amt]at h;(repeat' split at h)<;>cases h
 ·cases q:zV s with
  |true=>rfl
  | false =>
    rw[q]at h;simp only[amt]at h;(repeat' split at h)<;>cases h
theorem afi{s:aI}(h:LP s=0):(s.sent=false->s.last=fS)/\pN s:=by
 unfold LP at h;split at h
 ·cases h
 rename_i q;split at h
 ·rename_i q2;refine⟨fun hs=>?_,q2⟩;by_cases q3:s.last=fS
  ·exact q3
  ·exact absurd (.inr (.inr ⟨hs,q3⟩)) q
 ·cases h
theorem afh{s:aI}(h:valA s=0):oL s.sto=0/\LP s=0:=by
 unfold valA at h;split at h
 ·rename_i q;exact absurd h q
 ·rename_i q;exact⟨by simpa using q,h⟩
theorem aev{s:aI}(h:pN s):(∀r∈s.reqs,fR r.tries)/\∀r∈s.rets,fR r.tries:=by
 constructor
 ·intro r hr;obtain⟨i,hi,rfl⟩:=rJ gT hr;have:=(h.1 i hi).2.2.1;exact⟨this.2.2.1,this.2.2.2.1⟩
 ·intro r hr;obtain⟨i,hi,rfl⟩:=rJ gT hr;have:=(h.2 i hi).2.2.1;exact⟨akT WN this.2.2.1,this.2.2.2.1⟩
theorem GQ.toW{s:aI}(h:GQ s)(hv:valA s=0):AB s:=by
 obtain⟨h1,h2⟩:=afh hv;obtain⟨n1,n2,n3,n4⟩:=afj h1;obtain⟨b1,b2⟩:=afi h2;obtain⟨l1,l2,l3,l4,l5,l6⟩:=abJ n1;obtain⟨v1,v2⟩:=ac5 n3 l6;obtain⟨r1,r2⟩:=aev b2
 exact⟨l1,l2,l3,l4,l5,h.l6,h.c1,h.c2,h.c3,fun n hn=>⟨(h.hr.cu n hn).1,(h.hr.cu n hn).2⟩,fun v hv=>⟨h.v1 v hv,v1 v hv⟩,v2,h.j,h.hr.uf,fun a ha=>⟨(h.a a ha).1,(h.a a ha).2,ags n4 l6 a ha⟩,h.o,
  fun n hn=>⟨h.n n hn,acX n2 n hn⟩,h.w,fun t ht=>⟨(h.t t ht).1,(h.t t ht).2,fun n hn=>⟨(h.hr.bu t ht n hn).1,(h.hr.bu t ht n hn).2⟩⟩,fun r hr=>⟨(h.q r hr).1,r1 r hr,(h.q r hr).2⟩,fun r hr=>⟨(h.y r hr).1,r2 r hr,(h.y r hr).2⟩,h.g,b1⟩
theorem VR{α:Type}{f:α->List UInt8}{c:Nat}:∀l:List α,(∀a∈l,(f a).length<=c)->(l.flatMap f).length<=l.length*c
 | [],_=>amc _
 | a :: l, h => by
   have h1:=VR l fun b hb=>h b (amM _ hb)
   have h2:=h a akj;rw[List.flatMap_cons,akC,al8,amW];omega
theorem sY{α:Type}{f:α->List UInt8}{c:Nat}{m:Nat}(l:List α)(h:∀a∈l,(f a).length<=c)(hl:l.length<=m)(hm:m<=2097152):(lsE f l).length<=10+m*c:=by
 unfold lsE;have h1:=VR l h;have h2:=dT (n:=l.length) WL;have h3:l.length*c<=m*c:=amz c hl;rw[akC];omega
theorem lx{n:Int}(h:U64 n):(iE n).length<=10:=dT (by have:=h.2;have:=h.1;omega)
theorem PD{n:Int}(h:fR n):U64 n:=⟨h.1,by have:=h.2;omega⟩
theorem afk{v:Vot}(h:U64 v.ep):(rd v).length<=43:=by
 have h1:=lx h;have h2:=v.root.2;unfold rd fW;rw[akC];cases v.has
 ·simp
 ·simp only[amt,akC,al8,ama];omega
theorem ads{a:bp}(h1:U64 a.slot)(h2:U64 a.target.ep)(h3:cE a.vals 1024=0):(sC a).length<=10400:=by
 have k1:=h1.len;have k2:=eK h2;have k3:=Cr h3;have k4:=a.root.2
 have k5:(oW a.a a.vals).length<=10340:=by
  unfold oW;simp only[akC];change (br a.slot.toNat).length+a.root.1.length+(dt a.target).length+(sW a.vals).length<=_
  omega
 have k6:=dT (n:=(oW a.a a.vals).length) WL;unfold sC uD;rw[akC];omega
theorem afl{t:aW}(h1:U64 t.cp.ep)(h2:t.bals.length<=1024)(h3:∀n∈t.bals,U64 n):(pU t).length<=10400:=by
 have k1:=eK h1;have k2:=dT (n:=t.bals.length) WL;have k3:=Gy h3;unfold pU oK;simp only[akC];change (dt t.cp).length+(br t.bals.length).length+(wx t.bals).length<=_
 omega
theorem ad5{n:Nod}(h:Dh n.blk/\fR (n.up+1)/\fR n.status):(rZ n).length<=1020:=by
 have k1:=VY h.1.u;have k2:=lx (PD h.2.1);have k3:=lx (PD h.2.2);unfold rZ;simp only[akC];omega
theorem WT{r:Req}(h:U64 r.tag/\fR r.tries/\U64 r.due):(mZ r).length<=62:=by
 have k1:=lx h.1;have k2:=lx (PD h.2.1);have k3:=lx h.2.2;have k4:=r.block.2;unfold mZ;simp only[akC];omega
theorem acW{s:aI}(h:AB s){n1 n2 n3 n4 n5 n6 n7 n8 n9:Nat}(l1:s.sto.cfg.bals.length<=n1)(l2:s.sto.latest.length<=n2)(l3:s.sto.eqv.length<=n3)(l4:s.sto.early.length<=n4)(l5:s.sto.orph.length<=n5)(l6:s.sto.nodes.length<=n6)(l7:s.sto.tabs.length<=n7)(l8:s.reqs.length<=n8)(l9:s.rets.length<=n9)
 (m1:n1<=2097152) (m2:n2<=2097152) (m3:n3<=2097152) (m4:n4<=2097152) (m5:n5<=2097152) (m6:n6<=2097152) (m7:n7<=2097152) (m8:n8<=2097152) (m9:n9<=2097152):(ej s).length<=n1*10+n2*43+n3*10+n4*10400+n5*1000+n6*1020+n7*10400+n8*62+n9*62+600:=by
 have b1:=sY (f:=iE) s.sto.cfg.bals (fun n hn=>lx (h.c4 n hn)) l1 m1;have b2:=sY (f:=rd) s.sto.latest (fun v hv=>afk (h.v1 v hv).1) l2 m2;have b3:=sY (f:=iE) s.sto.eqv (fun n hn=>lx (PD (h.v2 n hn))) l3 m3;have b4:=sY (f:=sC) s.sto.early (fun a ha=>ads (h.a a ha).1 (h.a a ha).2.1 (h.a a ha).2.2) l4 m4;have b5:=sY (f:=i9) s.sto.orph (fun b hb=>VY (h.o b hb).u) l5 m5;have b6:=sY (f:=rZ) s.sto.nodes (fun n hn=>ad5 (h.n n hn)) l6 m6;have b7:=sY (f:=pU) s.sto.tabs (fun a ha=>afl (h.t a ha).1 (h.t a ha).2.1 (h.t a ha).2.2) l7 m7;have b8:=sY (f:=mZ) s.reqs (fun r hr=>WT (h.q r hr)) l8 m8;have b9:=sY (f:=mZ) s.rets (fun r hr=>WT (h.y r hr)) l9 m9;have c1:=lx (PD h.l1);have c2:=lx (PD h.l2);have c3:=lx (PD h.l3);have c4:=lx (PD h.l4);have c5:=lx (PD h.l5);have c6:=lx h.l6;have c7:=lx h.c1;have c8:=lx h.c2;have d1:=eK h.j;have d2:=eK h.f;have d3:=lx h.w;have d4:=lx h.g;have f1:=(cK s.sto.cfg.ttd).2;have f2:=s.sto.cfg.gen.2;have f3:=s.sto.boost.2
 have f4:(if s.sent=true then QO s.last else []).length<=96:=by
  have g1:=s.last.head.2;have g2:=s.last.safe.2;have g3:=s.last.fin.2;split
  ·unfold QO;simp only[akC];omega
  ·exact amc _
 have f5:∀b:Bool,(fW b).length=1:=fun b=>by cases b<;>rfl
 unfold ej vt YF;simp only[akC,f5];omega
theorem age{s:aI}(h:AB s)(t:GQ s):Dk s:=
 ⟨ams (acW h t.hr.bc t.hr.bl t.hr.be t.hr.ba t.hr.bo t.hr.bn t.hr.bt t.ql t.yl (amb _) (amb _) (amb _) (amb _) (amb _) (amb _) (amb _) (amb _) (amb _)) WN⟩
theorem GQ.enc{s:aI}(h:GQ s):afK s:=⟨h.hr,h.w,h.ql,h.yl,fun r hr=>(h.q r hr).2.1,fun h0=>⟨h.toW h0,age (h.toW h0) h⟩⟩
structure EP{α:Type}(r:RR α)(k:Nat)(p:α->Prop):Prop where
 l:∀b e,(r b e).2.1.length<=b.length
 s:∀b e,(r b e).2.2=0->e=0
 p:∀b,b.length<=2097152->(r b 0).2.2=0->(r b 0).2.1.length+k<=b.length/\p (r b 0).1
def agY(t:aW):Prop:=U64 t.cp.ep/\t.bals.length<=1024/\∀n∈t.bals,U64 n
def afH(a:bp):Prop:=U64 a.slot/\U64 a.target.ep/\a.vals.length<=1024
structure ado(d:Rdr):Prop where
 C:EP d.C 1 fun n=>0<=n
 W:EP d.W 1 fun n=>0<=n
 A:EP d.A 1 afH
 B:EP d.B 1 Dh
 T:EP d.T 1 agY
theorem ae8{s:aI}(h:GQ s)(b:pn s=0):afO s:=by
 unfold pn at b;split at b
 ·omega
 split at b
 ·omega
 exact⟨h.toW WL,WL⟩
variable{P:Program}{nt k:Nat}{fr:Fr}{σ:St}
structure uJ where
 C:Nat->Nat->List AV
 rn:∀ρ i n,bZ ρ (C i n)=C (ρ i) n
 fz:∀σ i n,fzL σ [] (C i n)=C i n
structure oU(α:Type) where
 f:List α->List (List AV)
 rn:∀ρ l,bH ρ (f l)=f l
 fz:∀σ l,dh σ [] (f l)=f l
end Go.Proofs.YtmpddimhleianaaGreat
