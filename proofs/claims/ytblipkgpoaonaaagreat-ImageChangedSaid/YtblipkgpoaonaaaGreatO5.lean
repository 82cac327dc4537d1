/- Joined. -/
import Derived.Test.YtblipkgpoaonaaaGreatO3
import Derived.Test.YtblipkgpoaonaaaGreatV2
import Derived.Test.YtblipkgpoaonaaaGreatO4
import Derived.Test.YtblipkgpoaonaaaGreatV1
import Derived.Test.YtblipkgpoaonaaaGreatU1
import Derived.Test.YtblipkgpoaonaaaGreatR1
set_option linter.unusedVariables false
set_option linter.unusedSimpArgs false
set_option maxRecDepth 8000
set_option maxHeartbeats 4000000
namespace Go.Proofs.YtblipkgpoaonaaaGreat
open Go Go.FH Go.RowKit
structure GQ(s:aI):Prop where
 hr:Qw s.sto
 l6:U64 s.sto.cfg.lim.backoff
 c1:U64 s.sto.cfg.spe
 c2:U64 s.sto.cfg.boost
 c3:WdU s.sto.cfg.ttd
 v1:∀v∈s.sto.latest,U64 v.ep
 j:U64 s.sto.j.ep
 a:∀a∈s.sto.early,U64 a.slot/\U64 a.target.ep
 o:∀b∈s.sto.orph,Dh b
 n:∀n∈s.sto.nodes,Dh n.blk
 w:U64 s.sto.now
 t:∀t∈s.sto.tabs,U64 t.cp.ep/\t.bals.length<=1024
 ql:s.reqs.length<=2097152
 yl:s.rets.length<=2097152
 q:∀r∈s.reqs,U64 r.tag/\U64 r.due
 y:∀r∈s.rets,U64 r.tag/\U64 r.due
 g:U64 s.tag
theorem D1{α:Type}(d:α){l:List α}{x:α}(h:x∈l):∃i,i<l.length/\l.getD i d=x:=by
 obtain⟨i,hi,rfl⟩:=amJ h;exact⟨i,hi,by rw[alt,al6 hi];rfl⟩
theorem Vz{l:List Int}{n m:Int}(hm:n<=m):∀ (k i:Nat),l.length-i<=k->nV l n i=0->nV l m i=0:=by
 intro k;induction k with
 |zero=>intro i hk h;rw[oQ NB]
 | succ k ih =>
   intro i hk h;by_cases hi:i<l.length
   ·rw [lY hi] at h ⊢
    split at h
    ·cases h
    ·rename_i h1
     rw[al5 NB];split at h
     ·cases h
     ·rename_i h2;rw[al5 h2];exact ih _ NB h
   ·rw[oQ hi]
theorem Z7{l:List Int}{n m:Int}(hm:n<=m)(h:cE l n=0):cE l m=0:=by
 unfold cE at h ⊢;split at h
 ·cases h
 ·rename_i h1;rw[al5 h1];exact Vz hm _ _ (amb _) h
theorem abJ{c:cU}(h:ib c=0):fR c.lim.node/\fR c.lim.orph/\fR c.lim.early/\fR c.lim.table/\fR c.lim.retry/\c.bals.length<=1024:=by
 unfold ib wit at h;by_cases q0:c.spe<1
 ·rw[al7 q0]at h;cases h
 by_cases q1:64<c.spe
 ·rw[al5 q0,al7 q1]at h;cases h
 by_cases q2:100<c.boost
 ·rw[al5 q0,al5 q1,al7 q2]at h;cases h
 by_cases q3:1024<(c.bals.length:Int)
 ·rw[al5 q0,al5 q1,al5 q2,al7 q3]at h;cases h
 rw[al5 q0,al5 q1,al5 q2,al5 q3]at h;clear q0 q1 q2
 have key:∀ {b:Bool} {x y:Int},(if b=false then (3:Int)else y)=0->b=true/\y=0:=by
  intro b x y h;cases b
  ·cases h
  ·exact⟨rfl,h⟩
 obtain⟨a1,h⟩:=key (x:=0) h;obtain⟨a2,h⟩:=key (x:=0) h;obtain⟨a3,h⟩:=key (x:=0) h;obtain⟨a4,h⟩:=key (x:=0) h;obtain⟨a5,h⟩:=key (x:=0) h;simp only[amk,amg]at a1 a2 a3 a4 a5;refine⟨⟨?_,?_⟩,⟨?_,?_⟩,⟨?_,?_⟩,⟨?_,?_⟩,⟨?_,?_⟩,?_⟩<;>omega
theorem acX{t:List Nod}(h:statV t=0):∀n∈t,fR (n.up+1)/\fR n.status:=by
 intro n hn;obtain⟨i,hi,rfl⟩:=D1 gr hn;change fR ((nod t i).up+1)/\fR (nod t i).status
 have h1:nU t=0:=by
  unfold statV at h;split at h
  ·rename_i q;exact absurd h q
  ·rename_i q;simpa using q
 have h4:=(xu h1).2;unfold nU at h1;split at h1
 ·cases h1
 have h2:=sJ.1 h1 i (amc _) NB;unfold An at h2;split at h2
 ·cases h2
 rename_i a1;split at h2
 ·cases h2
 rename_i a2;split at h2
 ·cases h2
 rename_i a3;refine⟨⟨?_,?_⟩,⟨?_,?_⟩⟩<;>omega
theorem ac5{s:ap}(h:nF s=true)(hb:s.cfg.bals.length<=1024):(∀v∈s.latest,v.has=false->v=dL)/\∀n∈s.eqv,fR n:=by
 unfold nF at h;simp only[amk,aku,ajY,amg]at h;obtain⟨h1,h2,h3⟩:=h;constructor
 ·intro v hv hf
  obtain⟨i,hi,rfl⟩:=D1 dL hv;cases hn:dW (fun i=>!(vot s.latest i).has&&decide (vot s.latest i≠dL)) s.latest.length with
  |some j=>rw[hn]at h1;cases h1
  | none =>
    have h4:=iL hn i hi;change (!(vot s.latest i).has&&decide (vot s.latest i≠dL))=false at h4
    change (vot s.latest i).has=false at hf
    rw[hf]at h4;by_cases q:vot s.latest i=dL
    ·exact q
    ·simp[q]at h4
 ·intro n hn
  obtain⟨i,hi,rfl⟩:=D1 0 hn;rcases h3 with h3|h3
  ·omega
  ·have:=(iS h3).2 i hi;exact⟨this.1,NB⟩
theorem ags{s:ap}(h:zV s=true)(hb:s.cfg.bals.length<=1024):∀a∈s.early,cE a.vals 1024=0:=by
 unfold zV at h;simp only[amk,amg]at h;intro a ha;obtain⟨i,hi,rfl⟩:=D1 default ha;have:=sJ.1 h.1 i (amc _) NB;exact Z7 NB this
theorem afj{s:ap}(h:oL s=0):ib s.cfg=0/\statV s.nodes=0/\nF s=true/\zV s=true:=by
 unfold oL at h;by_cases q1:ib s.cfg=0
 case neg=>rw[al7 q1]at h;exact absurd h q1
 rw[al5 (by simp[q1])]at h;by_cases q2:statV s.nodes=0
 case neg=>rw[al7 q2]at h;exact absurd h q2
 rw[al5 (by simp[q2])]at h;refine⟨q1,q2,?_,?_⟩
 ·cases q:nF s with
  |true=>rfl
  | false =>
    rw[q]at h;simp only[amt]at h;(repeat' split at h)<;>cases h
 ·cases q:zV s with
  |true=>rfl
  | false =>
    rw[q]at h;simp only[amt]at h;(repeat' split at h)<;>cases h
theorem afi{s:aI}(h:LP s=0):(s.sent=false->s.last=fS)/\pN s:=by
 unfold LP at h;split at h
 ·cases h
 rename_i q;split at h
 ·rename_i q2;refine⟨fun hs=>?_,q2⟩;by_cases q3:s.last=fS
  ·exact q3
  ·exact absurd (.inr (.inr ⟨hs,q3⟩)) q
 ·cases h
theorem afh{s:aI}(h:valA s=0):oL s.sto=0/\LP s=0:=by
 unfold valA at h;split at h
 ·rename_i q;exact absurd h q
 ·rename_i q;exact⟨by simpa using q,h⟩
theorem aev{s:aI}(h:pN s):(∀r∈s.reqs,fR r.tries)/\∀r∈s.rets,fR r.tries:=by
 constructor
 ·intro r hr;obtain⟨i,hi,rfl⟩:=D1 gT hr;have:=(h.1 i hi).2.2.1;exact⟨this.2.2.1,this.2.2.2.1⟩
 ·intro r hr;obtain⟨i,hi,rfl⟩:=D1 gT hr;have:=(h.2 i hi).2.2.1;exact⟨akT NE this.2.2.1,this.2.2.2.1⟩
theorem GQ.toW{s:aI}(h:GQ s)(hv:valA s=0):AB s:=by
 obtain⟨h1,h2⟩:=afh hv;obtain⟨n1,n2,n3,n4⟩:=afj h1;obtain⟨b1,b2⟩:=afi h2;obtain⟨l1,l2,l3,l4,l5,l6⟩:=abJ n1;obtain⟨v1,v2⟩:=ac5 n3 l6;obtain⟨r1,r2⟩:=aev b2
 exact⟨l1,l2,l3,l4,l5,h.l6,h.c1,h.c2,h.c3,fun n hn=>⟨(h.hr.cu n hn).1,(h.hr.cu n hn).2⟩,fun v hv=>⟨h.v1 v hv,v1 v hv⟩,v2,h.j,h.hr.uf,fun a ha=>⟨(h.a a ha).1,(h.a a ha).2,ags n4 l6 a ha⟩,h.o,
  fun n hn=>⟨h.n n hn,acX n2 n hn⟩,h.w,fun t ht=>⟨(h.t t ht).1,(h.t t ht).2,fun n hn=>⟨(h.hr.bu t ht n hn).1,(h.hr.bu t ht n hn).2⟩⟩,fun r hr=>⟨(h.q r hr).1,r1 r hr,(h.q r hr).2⟩,fun r hr=>⟨(h.y r hr).1,r2 r hr,(h.y r hr).2⟩,h.g,b1⟩
theorem VR{α:Type}{f:α->List UInt8}{c:Nat}:∀l:List α,(∀a∈l,(f a).length<=c)->(l.flatMap f).length<=l.length*c
 | [],_=>amc _
 | a :: l, h => by
   have h1:=VR l fun b hb=>h b (amM _ hb)
   have h2:=h a akj;rw[List.flatMap_cons,akC,al8,amW];omega
theorem sY{α:Type}{f:α->List UInt8}{c:Nat}{m:Nat}(l:List α)(h:∀a∈l,(f a).length<=c)(hl:l.length<=m)(hm:m<=2097152):(lsE f l).length<=10+m*c:=by
 unfold lsE;have h1:=VR l h;have h2:=dT (n:=l.length) NB;have h3:l.length*c<=m*c:=amz c hl;rw[akC];omega
theorem lx{n:Int}(h:U64 n):(iE n).length<=10:=dT (by have:=h.2;have:=h.1;omega)
theorem PD{n:Int}(h:fR n):U64 n:=⟨h.1,by have:=h.2;omega⟩
theorem afk{v:Vot}(h:U64 v.ep):(rd v).length<=43:=by
 have h1:=lx h;have h2:=v.root.2;unfold rd fW;rw[akC];cases v.has
 ·simp
 ·simp only[amt,akC,al8,ama];omega
theorem ads{a:bp}(h1:U64 a.slot)(h2:U64 a.target.ep)(h3:cE a.vals 1024=0):(sC a).length<=10400:=by
 have k1:=h1.len;have k2:=eK h2;have k3:=Cr h3;have k4:=a.root.2
 have k5:(oW a.a a.vals).length<=10340:=by
  unfold oW;simp only[akC];change (br a.slot.toNat).length+a.root.1.length+(dt a.target).length+(sW a.vals).length<=_
  omega
 have k6:=dT (n:=(oW a.a a.vals).length) NB;unfold sC uD;rw[akC];omega
theorem afl{t:aW}(h1:U64 t.cp.ep)(h2:t.bals.length<=1024)(h3:∀n∈t.bals,U64 n):(pU t).length<=10400:=by
 have k1:=eK h1;have k2:=dT (n:=t.bals.length) NB;have k3:=Gy h3;unfold pU oK;simp only[akC];change (dt t.cp).length+(br t.bals.length).length+(wx t.bals).length<=_
 omega
theorem ad5{n:Nod}(h:Dh n.blk/\fR (n.up+1)/\fR n.status):(rZ n).length<=1020:=by
 have k1:=VY h.1.u;have k2:=lx (PD h.2.1);have k3:=lx (PD h.2.2);unfold rZ;simp only[akC];omega
theorem WT{r:Req}(h:U64 r.tag/\fR r.tries/\U64 r.due):(mZ r).length<=62:=by
 have k1:=lx h.1;have k2:=lx (PD h.2.1);have k3:=lx h.2.2;have k4:=r.block.2;unfold mZ;simp only[akC];omega
theorem acW{s:aI}(h:AB s){n1 n2 n3 n4 n5 n6 n7 n8 n9:Nat}(l1:s.sto.cfg.bals.length<=n1)(l2:s.sto.latest.length<=n2)(l3:s.sto.eqv.length<=n3)(l4:s.sto.early.length<=n4)(l5:s.sto.orph.length<=n5)(l6:s.sto.nodes.length<=n6)(l7:s.sto.tabs.length<=n7)(l8:s.reqs.length<=n8)(l9:s.rets.length<=n9)
 (m1:n1<=2097152) (m2:n2<=2097152) (m3:n3<=2097152) (m4:n4<=2097152) (m5:n5<=2097152) (m6:n6<=2097152) (m7:n7<=2097152) (m8:n8<=2097152) (m9:n9<=2097152):(ej s).length<=n1*10+n2*43+n3*10+n4*10400+n5*1000+n6*1020+n7*10400+n8*62+n9*62+600:=by
 have b1:=sY (f:=iE) s.sto.cfg.bals (fun n hn=>lx (h.c4 n hn)) l1 m1;have b2:=sY (f:=rd) s.sto.latest (fun v hv=>afk (h.v1 v hv).1) l2 m2;have b3:=sY (f:=iE) s.sto.eqv (fun n hn=>lx (PD (h.v2 n hn))) l3 m3;have b4:=sY (f:=sC) s.sto.early (fun a ha=>ads (h.a a ha).1 (h.a a ha).2.1 (h.a a ha).2.2) l4 m4;have b5:=sY (f:=i9) s.sto.orph (fun b hb=>VY (h.o b hb).u) l5 m5;have b6:=sY (f:=rZ) s.sto.nodes (fun n hn=>ad5 (h.n n hn)) l6 m6;have b7:=sY (f:=pU) s.sto.tabs (fun a ha=>afl (h.t a ha).1 (h.t a ha).2.1 (h.t a ha).2.2) l7 m7;have b8:=sY (f:=mZ) s.reqs (fun r hr=>WT (h.q r hr)) l8 m8;have b9:=sY (f:=mZ) s.rets (fun r hr=>WT (h.y r hr)) l9 m9;have c1:=lx (PD h.l1);have c2:=lx (PD h.l2);have c3:=lx (PD h.l3);have c4:=lx (PD h.l4);have c5:=lx (PD h.l5);have c6:=lx h.l6;have c7:=lx h.c1;have c8:=lx h.c2;have d1:=eK h.j;have d2:=eK h.f;have d3:=lx h.w;have d4:=lx h.g;have f1:=(cK s.sto.cfg.ttd).2;have f2:=s.sto.cfg.gen.2;have f3:=s.sto.boost.2
 have f4:(if s.sent=true then QO s.last else []).length<=96:=by
  have g1:=s.last.head.2;have g2:=s.last.safe.2;have g3:=s.last.fin.2;split
  ·unfold QO;simp only[akC];omega
  ·exact amc _
 have f5:∀b:Bool,(fW b).length=1:=fun b=>by cases b<;>rfl
 unfold ej vt YF;simp only[akC,f5];omega
theorem age{s:aI}(h:AB s)(t:GQ s):Dk s:=
 ⟨ams (acW h t.hr.bc t.hr.bl t.hr.be t.hr.ba t.hr.bo t.hr.bn t.hr.bt t.ql t.yl (amb _) (amb _) (amb _) (amb _) (amb _) (amb _) (amb _) (amb _) (amb _)) NE⟩
theorem GQ.enc{s:aI}(h:GQ s):afK s:=⟨h.hr,h.w,h.ql,h.yl,fun r hr=>(h.q r hr).2.1,fun h0=>⟨h.toW h0,age (h.toW h0) h⟩⟩
structure EP{α:Type}(r:RR α)(k:Nat)(p:α->Prop):Prop where
 l:∀b e,(r b e).2.1.length<=b.length
 s:∀b e,(r b e).2.2=0->e=0
 p:∀b,b.length<=2097152->(r b 0).2.2=0->(r b 0).2.1.length+k<=b.length/\p (r b 0).1
theorem EP.rt1{α:Type}{p:α->Prop}{v:α}(h:p v):EP (Go.Proofs.YtblipkgpoaonaaaGreat.rt1 v) 0 p:=⟨fun b e=>amb _,fun b e he=>he,fun b _ _=>⟨amb _,h⟩⟩
theorem EP.rb{α β:Type}{r:RR α}{f:α->RR β}{k m:Nat}{p:α->Prop}{q:β->Prop}(h:EP r k p)(g:∀v,EP (f v) m fun w=>p v->q w):EP (Go.Proofs.YtblipkgpoaonaaaGreat.rb r f) k q:=by
 refine⟨fun b e=>ams ((g _).l _ _) (h.l b e),fun b e a=>h.s b e ((g _).s _ _ a),fun b d a=>?_⟩;have c:(r b 0).2.2=0:=(g _).s _ _ a;obtain⟨n,o⟩:=h.p b d c;unfold Go.Proofs.YtblipkgpoaonaaaGreat.rb at a ⊢;rw[c]at a ⊢;obtain⟨t,j⟩:=(g _).p _ (ams (h.l b 0) d) a;grind
theorem EP.weak{α:Type}{r:RR α}{k m:Nat}{p q:α->Prop}(h:EP r k p)(e:m<=k)(d:∀v,p v->q v):EP r m q:=⟨h.l,h.s,fun b a c=>⟨by have:=(h.p b a c).1;omega,d _ (h.p b a c).2⟩⟩
theorem EP.lp{α:Type}{one:RR α}{p:α->Prop}(h:EP one 1 p):∀ (n:Nat) (a:List α) (b:List UInt8) (e:Int),(rLp one n a b e).2.1.length<=b.length/\((rLp one n a b e).2.2=0->e=0)/\(b.length<=2097152->(rLp one n a b e).2.2=0->(rLp one n a b e).2.1.length+(rLp one n a b e).1.length<=b.length+a.length/\((∀x∈a,p x)->∀x∈(rLp one n a b e).1,p x))
 |0,a,b,e=>⟨amb _,fun g=>g,fun _ _=>⟨amb _,fun j=>j⟩⟩
 | n + 1, a, b, e => by
   by_cases q:e=0
   ·subst q;obtain⟨v,f,d,i⟩:∃v f d,one b 0=(v,f,d):=⟨_,_,_,rfl⟩
    have l:=h.l b 0;have m:=h.p b;rw[afv _ _ _ _ i];obtain⟨o,r,k⟩:=EP.lp h n (a++[v]) f d;grind
   ·rw[afu _ _ _ _ q];simp
theorem EP.rLs{α:Type}{a:RR Int}{one:RR α}{k:Nat}{p:α->Prop}{c:Int->Prop}(j:EP a k c)(h:EP one 1 p):EP (Go.Proofs.YtblipkgpoaonaaaGreat.rLs a one) 0 fun l=>(∀x∈l,p x)/\l.length<=2097152:=
 (j.rb (m:=0) fun n=>⟨fun b e=>(EP.lp h n.toNat [] b e).1,fun b e=>(EP.lp h n.toNat [] b e).2.1,fun b i g=>by
  obtain⟨r,q⟩:=(EP.lp h n.toNat [] b 0).2.2 i g;grind⟩).weak (amc _) fun v f=>f
theorem Nv:∀ (l:List UInt8) (i:Nat) (v:Int),(fO l i v).2.2=0->i<(fO l i v).2.1
 | [],i,v,h=>by simp[fO]at h
 | b :: l, i, v, h => by
   rw[fO]at h ⊢;split at h
   ·grind
   rename_i d;rw[al5 d];split at h
   ·grind
   ·rename_i c;rw[al5 c];exact Nat.lt_trans (akR _) (Nv l (i+1) _ h)
theorem WO(m:Int)(d:0<=m):EP (fun bs e=>aR bs e m) 1 fun n=>0<=n/\n<=m:=⟨fun b e=>cV b e m,fun b e=>(pL m).z,fun b g f=>by
 refine⟨?_,gw b 0 m,mW b 0 m d⟩;have h:=WU b;have c:=Nv (b.take 10) 0 0;change (iN b).2.2=0->0<(iN b).2.1 at c
 unfold aR at f ⊢;grind⟩
theorem qG:EP rN 1 U64:=(WO bU NC).weak (amb _) fun v b=>⟨b.1,alA b.2 NE⟩
theorem zj:EP pp 0 fun _=>True:=⟨fun b e=>(eY b e).length_le,fun b e=>pK.z,fun b hb he=>⟨(eY b 0).length_le,trivial⟩⟩
theorem R9:EP fE 1 fun _=>True:=⟨fun b e=>(xL b e).length_le,fun b e=>ab7.z,fun b f d=>by
 unfold fE at d ⊢;grind⟩
theorem M6:EP rCp 1 fun c=>U64 c.ep:=⟨fun b e=>(xN b e).length_le,fun b e=>agt.z,fun b h f=>by
 unfold rCp at f ⊢;by_cases q:(pp (aR b 0 bU).2.1 (aR b 0 bU).2.2).2.2≠0
 ·grind
 ·rw[al5 q]at f ⊢;have i:(aR b 0 bU).2.2=0:=pK.z f;have j:(aR b 0 bU).2.1.length+1<=b.length:=(qG.p b h i).1;have k:=(eY (aR b 0 bU).2.1 (aR b 0 bU).2.2).length_le;dsimp only at j k ⊢;exact⟨NB,CK b 0⟩⟩
theorem ace:EP gE 0 WdU:=⟨fun b e=>(sf b e).length_le,fun b e=>acf.z,fun b f g=>by
 refine⟨(sf b 0).length_le,?_⟩;unfold gE wof;generalize (pp b 0).1=r
 have:∀k,WdG (pV r k):=by
  intro k;induction k with
  |zero=>rw[GJ];exact xx
  | succ k d =>
    rw[GK];exact d.set _ (cO _)
 exact this 32⟩
theorem aep:EP zW 1 Dh:=(show EP (rb rN fun s=>rb pp fun r=>rb pp fun p=>rb pp fun y=>rb gE fun d=>rb gE fun g=>rb rCp fun j=>rb rCp fun f=>rb rCp fun u=>rb rCp fun v=>rb fE fun t=>rt1 (⟨⟨u,v⟩,s,r,p,y,d,g,j,f,t⟩:Blk)) 1 Dh from
 qG.rb fun s=>zj.rb fun r=>zj.rb fun p=>zj.rb fun y=>ace.rb fun d=>ace.rb fun g=>M6.rb fun j=>M6.rb fun f=>M6.rb fun u=>M6.rb fun v=>R9.rb fun t=>EP.rt1 fun _ hv hu hf hj hg hd _ _ _ hs=>⟨⟨hs,hj,hf,hu,hv⟩,hd,hg⟩)
def agY(t:aW):Prop:=U64 t.cp.ep/\t.bals.length<=1024/\∀n∈t.bals,U64 n
theorem Sn:∀ (n:Nat) (a:List Int) (b:List UInt8) (e:Int),(∀x∈a,U64 x)->∀x∈(gm n a b e).1,U64 x
 |0,a,b,e,f=>f
 | n + 1, a, b, e, f => by
   show ∀x∈(if e≠0 then (a,b,e)else gm n (a++[(aR b e bU).1]) (aR b e bU).2.1 (aR b e bU).2.2).1,U64 x
   split
   ·omega
   ·exact Sn n _ _ _ fun x d=>by
     rcases amm.1 d with d|d
     ·grind
     ·rw[amn]at d;subst d;exact CK b e
theorem acd(b:List UInt8)(g:(mV b 0).2.2=0)(f:b.length<=2097152):(mV b 0).2.1.length+1<=b.length:=by
 have e:(aR b 0 bU).2.2=0:=pK.z ((pL 1024).z ((CH _ _).z g));have j:(aR b 0 bU).2.1.length+1<=b.length:=(qG.p b f e).1;have i:=(eY (aR b 0 bU).2.1 (aR b 0 bU).2.2).length_le;have h:=cV (pp (aR b 0 bU).2.1 (aR b 0 bU).2.2).2.1 (pp (aR b 0 bU).2.1 (aR b 0 bU).2.2).2.2 1024;refine ams (Nat.add_le_add_right (Er _ _ _ _).length_le 1) ?_;omega
theorem aer:EP (fun bs e=>(S8 (mV bs e).1,(mV bs e).2)) 1 agY:=⟨fun b e=>(Pe b e).length_le,fun b e=>WM.z,fun b d f=>⟨acd b f d,CK b 0,acb b 0,Sn _ _ _ _ fun x g=>NF⟩⟩
def afH(a:bp):Prop:=U64 a.slot/\U64 a.target.ep/\a.vals.length<=1024
theorem adI(b:List UInt8):afH (XC (Ds b.length (D9 b 0)).1):=by
 have h:=aaT b;have c:=CK b 0
 have d:U64 (rCp (pp (aR b 0 bU).2.1 (aR b 0 bU).2.2).2.1 (pp (aR b 0 bU).2.1 (aR b 0 bU).2.2).2.2).1.ep:=by
  unfold rCp;split
  ·exact⟨show (0:Int)<=0 by simp,show (0:Int)<18446744073709551616 by simp⟩
  ·exact CK _ _
 refine⟨?_,?_,h⟩
 ·unfold Ds
  split
  ·exact⟨show (0:Int)<=0 by simp,show (0:Int)<18446744073709551616 by simp⟩
  ·split
   ·exact c
   ·exact⟨show (0:Int)<=0 by simp,show (0:Int)<18446744073709551616 by simp⟩
 ·unfold Ds
  split
  ·exact⟨show (0:Int)<=0 by simp,show (0:Int)<18446744073709551616 by simp⟩
  ·split
   ·exact d
   ·exact⟨show (0:Int)<=0 by simp,show (0:Int)<18446744073709551616 by simp⟩
theorem M5{b:List UInt8}{e m:Int}(h:(gv b e m).2.2=0):e=0/\(b.length<=2097152->(gv b e m).2.1.length+1<=b.length):=by
 unfold gv at h ⊢;by_cases q:(aR b e bU).2.2≠0
 ·grind
 ·have d:(aR b e bU).2.2=0:=NB
  have g:e=0:=(pL bU).z d;subst g;split at h
  ·grind
  split at h
  ·grind
  refine⟨rfl,fun f=>?_⟩;have i:(aR b 0 bU).2.1.length+1<=b.length:=(qG.p b f d).1;grind
theorem J7:EP Zi 1 afH:=⟨fun b e=>(Gh b e).length_le,fun b e a=>by
 unfold Zi at a;dsimp only at a;split at a
 ·omega
 ·exact(M5 a).1,fun b f a=>⟨by
  unfold Zi at a ⊢;dsimp only at a ⊢;split at a
  ·omega
  ·exact(M5 a).2 f,adI _⟩⟩
structure ado(d:Rdr):Prop where
 C:EP d.C 1 fun n=>0<=n
 W:EP d.W 1 fun n=>0<=n
 A:EP d.A 1 afH
 B:EP d.B 1 Dh
 T:EP d.T 1 agY
theorem KV:ado dR:=⟨(WO _ NC).weak (amb _) fun v b=>b.1,(WO _ NC).weak (amb _) fun v b=>b.1,J7,aep,aer⟩
theorem WP:EP Gg 1 fun v=>U64 v.ep:=R9.rb (m:=0) fun x=>by
 cases x
 ·exact EP.rt1 fun _=>⟨NE,NE⟩
 ·exact(qG.rb fun e=>zj.rb fun r=>EP.rt1 fun _ d _=>d).weak (amc _) fun v c=>c
theorem WJ{d:Rdr}(h:ado d):EP (KS d) 1 fun n=>Dh n.blk:=h.B.rb fun b=>h.W.rb fun u=>h.W.rb fun s=>EP.rt1 fun _ _ hb=>hb
theorem Pd{d:Rdr}(h:ado d):EP (zY d) 1 fun r=>U64 r.tag/\U64 r.due:=qG.rb fun t=>zj.rb fun b=>h.W.rb fun k=>qG.rb fun u=>EP.rt1 fun hu _ _ ht=>⟨ht,hu⟩
theorem WK{d:Rdr}(h:ado d):EP (Es d) 1 GQ:=by
 have A:EP (Y6 d.W) 1 fun l=>U64 l.backoff:=h.W.rb fun a=>h.W.rb fun b=>h.W.rb fun c=>h.W.rb fun e=>h.W.rb fun f=>qG.rb fun k=>EP.rt1 fun U _ _ _ _ _=>U
 have hc:EP (O9 d) 1 fun c=>U64 c.lim.backoff/\U64 c.spe/\U64 c.boost/\WdU c.ttd/\(∀n∈c.bals,U64 n)/\c.bals.length<=2097152:=
  A.rb fun l=>qG.rb fun a=>qG.rb fun b=>ace.rb fun w=>zj.rb fun r=>(EP.rLs h.C qG).rb fun l'=>EP.rt1 fun s _ Q T p A=>⟨A,p,T,Q,s.1,s.2⟩
 have V:=WP;have i:=WJ h;have N:=Pd h;have hm:EP Sf 0 fun _=>True:=zj.rb fun a=>zj.rb fun b=>zj.rb fun c=>EP.rt1 fun _ _ _=>trivial
 have O:∀b:Bool,EP (if b=true then Sf else rt1 fS) 0 fun _=>True:=fun b=>by
  cases b
  ·exact EP.rt1 trivial
  grind
 exact hc.rb fun P => (EP.rLs h.C V).rb fun x => (EP.rLs h.C h.W).rb fun Y => M6.rb fun j => M6.rb fun f => (EP.rLs h.C h.A).rb fun early => (EP.rLs h.C h.B).rb fun D => (EP.rLs h.C i).rb fun y => qG.rb fun R => zj.rb fun z => (EP.rLs h.C h.T).rb fun E =>
  (EP.rLs h.C N).rb fun B=>(EP.rLs h.C N).rb fun F=>qG.rb fun Z=>R9.rb fun q=>(O q).rb fun G=>R9.rb fun H=>R9.rb fun I=>EP.rt1 fun _ _ _ _ S C K o _ W L J v k5 k4 k3 M g=>
   ⟨⟨L.2, M.2, k3.2, o.2, fun t m => ams (o.1 t m).2.1 NC, fun t m n i => ⟨((o.1 t m).2.2 n i).lo, ((o.1 t m).2.2 n i).hi⟩, J.2, v.2, fun a p => ams (v.1 a p).2.2 NC, g.2.2.2.2.2, fun n i => ⟨(g.2.2.2.2.1 n i).lo, (g.2.2.2.2.1 n i).hi⟩, k5⟩,
     g.1,g.2.1,g.2.2.1,g.2.2.2.1,M.1,k4,fun a p=>⟨(v.1 a p).1,(v.1 a p).2.1⟩,J.1,L.1,W,fun t m=>⟨(o.1 t m).1,(o.1 t m).2.1⟩,K.2,C.2,K.1,C.1,S⟩
def FJ(d:Rdr)(b:List UInt8):aI×Int:=
 if (Es d b 0).2.2=0/\(Es d b 0).2.1=[]/\pn (Es d b 0).1=0/\ej (Es d b 0).1=b then ((Es d b 0).1,0)else (Fx,25)
theorem ae8{s:aI}(h:GQ s)(b:pn s=0):afO s:=by
 unfold pn at b;split at b
 ·omega
 split at b
 ·omega
 exact⟨h.toW NB,NB⟩
theorem X7{d:Rdr}(h:adn d){s:aI}(b:afO s)(e:pn s=0):FJ d (ej s)=(s,0):=by
 have c:=(Y8 h b).f [];unfold FJ;grind
theorem Km{d d':Rdr}(h:ado d)(j:adn d')(f:ado d')(i:adn d){b:List UInt8}(g:b.length<=2097152):FJ d b=FJ d' b:=by
 by_cases q:(Es d b 0).2.2=0/\(Es d b 0).2.1=[]/\pn (Es d b 0).1=0/\ej (Es d b 0).1=b
 ·have a:=X7 j (ae8 (((WK h).p b g q.1).2) q.2.2.1) q.2.2.1;rw[q.2.2.2]at a;rw[a];unfold FJ;grind
 ·by_cases e:(Es d' b 0).2.2=0/\(Es d' b 0).2.1=[]/\pn (Es d' b 0).1=0/\ej (Es d' b 0).1=b
  ·have a:=X7 i (ae8 (((WK f).p b g e.1).2) e.2.2.1) e.2.2.1;rw[e.2.2.2]at a;rw[a];unfold FJ;grind
  ·unfold FJ;grind
theorem adJ{d:Rdr}{b:List UInt8}{s:aI}{b':List UInt8}{e':Int}(h:Es d b 0=(s,b',e'))(q:¬ (e'=0/\b'=[]/\pn s=0/\ej s=b)):FJ d b=(Fx,25):=by
 unfold FJ;rw[h,al5 q]
theorem aaV{d:Rdr}{b:List UInt8}{s:aI}(h:Es d b 0=(s,[],0))(q1:pn s=0)(q2:ej s=b):FJ d b=(s,0):=by
 unfold FJ;rw[h,al7 ⟨rfl,rfl,q1,q2⟩]
theorem Ja(b:List UInt8)(hb2:b.length<=2097152):PC Tryz.prog 11 [.sl 1 false (bts b)] (.tup [.agg (aV (FJ dR b).1.a),.int .i64 (FJ dR b).2]):=by
 have hb:b.length<=140737488355328:=NB
 obtain⟨s1,c1⟩:=KG b b 0 (amP _) hb;have ht:=(WK KV).p b hb2;obtain⟨s,b',e',hR⟩:∃s b' e',Es dR b 0=(s,b',e'):=⟨_,_,_,rfl⟩
 have k1:=adJ hR;have k2:=fun(h1:b'=[]) (h2:e'=0)=>aaV (b:=b) (s:=s) (d:=dR) (by rw[hR,h1,h2])
 rw[hR]at s1 c1 ht;dsimp only at s1 c1 ht;clear hR;have c2:=Jd b b' e' s1 hb;have c3:=fun h:e'=0=>Zp s (ht h).2.enc
 have hB:pn s=0->Dt s=ej s:=fun h=>by unfold Dt;rw[al7 h]
 generalize FJ dR b=R at *;generalize pn s=V at *;generalize Dt s=W at *;have hr0:sro false b b 0=.var [.sl 1 false (bts b),.int .i64 0,.int .i64 0]:=by unfold sro;simp
 rw[hr0]at c1;refine cD 11 ?_;refine gon ?_;refine ocg [1] c1 ?_;refine oce [1] c2 ?_;by_cases q:e'=0/\b'=[]
 ·obtain⟨rfl,rfl⟩:=q
  have hc:(if ((0:Int)=0/\([]:List UInt8)≠[])then (2:Int)else 0)=0:=NC
  rw[hc];refine bk ?_;refine am (c3 rfl) ?_;by_cases q1:V=0
  ·subst q1
   rw[hB rfl];by_cases q2:ej s=b
   ·rw[k2 rfl rfl rfl q2];have e2:(ej s==b)=true:=by simp[q2]
    subst q2;refine bk ?_;exact ai
   ·rw[k1 (fun h=>q2 h.2.2.2)];have e2:(ej s==b)=false:=by simp[q2]
    refine aM e2 ?_;refine⟨_,(by first|rfl|exact evd),.inr ⟨.tup [.agg (aV rD),.int .i64 25],?_,⟨uG,trivial,trivial⟩,Wk.tup ⟨C9,Wk.refl _,trivial⟩⟩⟩;exact evd
  ·rw[k1 (fun h=>q1 h.2.2.1)];have e1:(V != 0)=true:=by simp[q1]
   refine aM e1 ?_;refine⟨_,(by first|rfl|exact evd),.inr ⟨.tup [.agg (aV rD),.int .i64 25],?_,⟨uG,trivial,trivial⟩,Wk.tup ⟨C9,Wk.refl _,trivial⟩⟩⟩;exact evd
 ·rw[k1 (fun h=>q ⟨h.1,h.2.1⟩)]
  have hc:((if (e'=0/\b'≠[])then (2:Int)else e') != 0)=true:=by
   by_cases q1:e'=0
   ·rw[al7 ⟨q1,fun h=>q ⟨q1,h⟩⟩];decide
   ·rw[al5 (fun h=>q1 h.1)];simp[q1]
  refine aM hc ?_;refine⟨_,(by first|rfl|exact evd),.inr ⟨.tup [.agg (aV rD),.int .i64 25],?_,⟨uG,trivial,trivial⟩,Wk.tup ⟨C9,Wk.refl _,trivial⟩⟩⟩;exact evd
def Rq{α:Type}(f:FuncId)(a:AV)(xs:List AV)(c:α->AV)(r:RR α):Prop:=∀ (b:List UInt8) (e:Int),b.length<=140737488355328->(r b e).2.1.length<=b.length/\ay Tryz.prog f (a::xs) [rdr false b e] (c (r b e).1) [rdr false (r b e).2.1 (r b e).2.2]
theorem Rq.st{α:Type}{f:FuncId}{a:AV}{xs:List AV}{c:α->AV}{r:RR α}(h:Rq f a xs c r){b:List UInt8}(e:Int)(hb:b.length<=140737488355328):∃v b' e',r b e=(v,b',e')/\b'.length<=140737488355328/\ay Tryz.prog f (a::xs) [rdr false b e] (c v) [rdr false b' e']:=
 ⟨_,_,_,rfl,ams (h b e hb).1 hb,(h b e hb).2⟩
theorem R3(m:Int):Rq 109 (.ptr 0 0) [.int .u64 m] (fun v=>.int .u64 v) (rU m):=fun b e hb=>⟨cV b e m,lX b false e m hb⟩
theorem CC:Rq 41 (.ptr 0 0) [] (fun v=>.bool v) fE:=fun b e hb=>⟨(xL b e).length_le,Mi b false e hb⟩
theorem pH:Rq 42 (.ptr 0 0) [] (fun v=>.agg (rtc v)) pp:=fun b e hb=>⟨(eY b e).length_le,jS b false e hb⟩
theorem ab6:Rq 197 (.ptr 0 0) [] (fun v=>.agg (wdc v)) gE:=fun b e hb=>⟨(sf b e).length_le,EM b false e hb⟩
theorem ab3:Rq 99 (.ptr 0 0) [] (fun v=>.agg (cpC v)) rCp:=fun b e hb=>⟨(xN b e).length_le,xB b false e hb⟩
abbrev rS:RR Int:=rU 1099511627776
theorem oD:Rq 40 (.agg [.ptr 0 0]) [] (fun v=>.int .u64 v) rN:=fun b e hb=>by
 obtain⟨v,b',e',q,s,p⟩:=(R3 bU).st e hb;have hl:=cV b e bU;change rN b e=_ at q
 change (rN b e).2.1.length<=_ at hl
 rw[q]at hl ⊢;refine⟨hl,?_⟩;refine dS 3 ?_;refine gon ?_;refine ocg [0] p ?_;exact ahY [] [0]
theorem YC:Rq 105 (.agg [.ptr 0 0]) [] (fun v=>.int .i64 v) rS:=fun b e hb=>by
 obtain⟨v,b',e',q,s,p⟩:=(R3 1099511627776).st e hb;have hl:=cV b e 1099511627776;have hv:=WN 1099511627776 NE q;have hw:IntKind.i64.wrap v=v:=aL NB NB;change (rS b e).2.1.length<=_ at hl
 change rS b e=_ at q
 rw[q]at hl ⊢;refine⟨hl,?_⟩;refine dS 3 ?_;refine gon ?_;refine oce [0] p ?_;refine ah hw ?_;exact ahY [] [0]
theorem Vv(bs:List UInt8)(cl:Bool)(e x:Int):ay Tryz.prog 203 [.ptr 0 0,.int .i64 0,.int .i64 x] [rdr cl bs e] (.tup []) [rdr cl bs (if e=0 then x else e)]:=by
 by_cases he:e=0
 ·subst he;have:=EJ bs cl x 0 (amc _);rw[acZ]at this;rw[al7 rfl];exact this
 ·rw[al5 he];refine dS 3 ?_;have he':(e != 0)=true:=by simpa using he
  refine aM he' ?_;exact ahY [] [0]
def rTk{α:Type}(z:α)(r:RR α):RR α:=fun b e=>if e≠0 then (z,b,e)else if (r b 0).2.2≠0 then (z,b,(r b 0).2.2)else ((r b 0).1,(r b 0).2.1,0)
def tX:RR bp:=fun bs e=>
 let x:=gv bs e 1048576
 let d:=Ds x.1.length (D9 x.1 0)
 (XC d.1,x.2.1,if x.2.2=0 then (if d.2.2=0/\d.2.1≠x.1.length then 2 else d.2.2)else x.2.2)
def dP:Rdr:=⟨rS,rS,tX,rTk cw zW,fun bs e=>(S8 (rTk j4 mV bs e).1,(rTk j4 mV bs e).2)⟩
theorem aaW{α:Type}{z:α}{r:RR α}(h:dN r)(b:List UInt8):∃k:Nat,k<=b.length/\dec z b.length (r b 0)=((rTk z r b 0).1,(k:Int),(rTk z r b 0).2.2)/\tkl b k (rTk z r b 0).2.2=(rTk z r b 0).2.1:=by
 have hT:rTk z r b 0=if (r b 0).2.2≠0 then (z,b,(r b 0).2.2)else ((r b 0).1,(r b 0).2.1,0):=by
  unfold rTk;rw[al5 NC]
 rw[hT];unfold dec;obtain⟨p,hp⟩:=h b 0;by_cases q:(r b 0).2.2=0
 ·have q':¬ (r b 0).2.2≠0:=by simp[q]
  rw[al5 q',al5 q'];refine⟨b.length-(r b 0).2.1.length,Nat.sub_le _ _,rfl,?_⟩;dsimp only;unfold tkl;rw[al7 rfl]
  have h1:p.length=b.length-(r b 0).2.1.length:=by
   have:=ajG List.length hp;rw[akC]at this;omega
  rw[<-h1];conv=>lhs;rw[<-hp]
  exact alS
 ·rw[al7 q,al7 q];exact⟨0,amc _,rfl,acZ _ _⟩
theorem MY{b:List UInt8}(hb:b.length<=140737488355328):ay Tryz.prog 103 [.agg [.ptr 0 0]] [rdr false b 0] (.agg (aO (dP.B b 0).1)) [rdr false (dP.B b 0).2.1 (dP.B b 0).2.2]:=by
 have c1:=aci b hb;obtain⟨k,hk,h1,h2⟩:=aaW (z:=cw) O8 b;rw[h1]at c1;have c2:=EJ b false (rTk cw zW b 0).2.2 k hk;rw[h2]at c2;change ay Tryz.prog 103 [.agg [.ptr 0 0]] [rdr false b 0] (.agg (aO (rTk cw zW b 0).1)) [rdr false (rTk cw zW b 0).2.1 (rTk cw zW b 0).2.2]
 generalize rTk cw zW b 0=R at *;obtain⟨v,b',e'⟩:=R;dsimp only at c1 c2 ⊢;clear h1 h2;refine dS 6 ?_;refine gon ?_;refine ocg [0] (NH b false 0) ?_;refine ahG c1 ?_;refine ocg [0] c2 ?_;exact ahY [] [0]
theorem YV{b:List UInt8}(hb:b.length<=140737488355328):ay Tryz.prog 107 [.agg [.ptr 0 0]] [rdr false b 0] (.agg (cx (dP.T b 0).1.a)) [rdr false (dP.T b 0).2.1 (dP.T b 0).2.2]:=by
 have c1:=acj b hb;obtain⟨k,hk,h1,h2⟩:=aaW (z:=j4) Pe b;rw[h1]at c1;have c2:=EJ b false (rTk j4 mV b 0).2.2 k hk;rw[h2]at c2;change ay Tryz.prog 107 [.agg [.ptr 0 0]] [rdr false b 0] (.agg (cx (S8 (rTk j4 mV b 0).1).a)) [rdr false (rTk j4 mV b 0).2.1 (rTk j4 mV b 0).2.2]
 generalize rTk j4 mV b 0=R at *;obtain⟨v,b',e'⟩:=R;dsimp only at c1 c2 ⊢;change PC Tryz.prog 206 [.sl 1 false (bts b)] (.tup [.agg (cx (S8 v).a),.int .i64 k,.int .i64 e'])at c1
 generalize S8 v=v at *;clear h1 h2;refine dS 6 ?_;refine gon ?_;refine ocg [0] (NH b false 0) ?_;refine ahG c1 ?_;refine ocg [0] c2 ?_;exact ahY [] [0]
theorem aei:Rq 101 (.agg [.ptr 0 0]) [] (fun v=>.agg (cy v.a)) tX:=fun b e hb=>by
 have c0:=TP b false e 1048576 hb;have hl:=(o8 1048576 b e).length_le;have hl2:=UZ b e 1048576;obtain⟨x,b1,e1,q1⟩:∃x b1 e1,gv b e 1048576=(x,b1,e1):=⟨_,_,_,rfl⟩
 dsimp only at hl;rw[q1]at c0 hl hl2;have c1:=ach x (ams hl2 hb);obtain⟨a,u,d,hd⟩:∃a u d,Ds x.length (D9 x 0)=(a,u,d):=⟨_,_,_,rfl⟩
 rw[hd]at c1;change PC Tryz.prog 202 [.sl 1 false (bts x)] (.tup [.agg (cy (XC a).a),.int .i64 u,.int .i64 d])at c1
 have hone:tX b e=(XC a,b1,if e1=0 then (if d=0/\u≠x.length then 2 else d)else e1):=by
  unfold tX;rw[q1];dsimp only;rw[hd]
 rw[hone];clear hone hd q1;generalize XC a=v at *;refine⟨hl,?_⟩;dsimp only at c0 c1 ⊢;have c2:=Vv b1 false e1 (if d=0/\u≠x.length then 2 else d);obtain⟨X,hX⟩:∃X,X=if d=0/\u≠x.length then 2 else d:=⟨_,rfl⟩
 rw[<-hX]at c2 ⊢;refine dS 7 ?_;refine gon ?_;refine ocg [0] c0 ?_;refine am c1 ?_;by_cases q:d=0
 ·subst q
  by_cases q2:u=x.length
  ·have k1:(u != (x.length:Int))=false:=by simp[q2]
   rw[al5 (by simp[q2])]at hX;subst hX;refine aF k1 ?_;refine ocg [0] c2 ?_;exact ahY [] [0]
  ·have k1:(u != (x.length:Int))=true:=by simp[q2]
   rw[al7 ⟨rfl,q2⟩]at hX;subst hX;refine aM k1 ?_;refine ocg [0] c2 ?_;exact ahY [] [0]
 ·have k1:(d==0)=false:=by simp[q]
  rw[al5 (by simp[q])]at hX;subst hX;refine aF k1 ?_;refine ocg [0] c2 ?_;exact ahY [] [0]
theorem WH:Rq 38 (.agg [.ptr 0 0]) [] (fun v=>.agg (aP v)) (zY dP):=fun b e hb=>by
 obtain⟨v1,b1,e1,q1,s1,p1⟩:=oD.st e hb;obtain⟨v2,b2,e2,q2,s2,p2⟩:=pH.st e1 s1;obtain⟨v3,b3,e3,q3,s3,p3⟩:=YC.st e2 s2;obtain⟨v4,b4,e4,q4,s4,p4⟩:=oD.st e3 s3
 have hl:b4.length<=b.length:=by
  have l1:=cV b e bU;have l2:=(eY b1 e1).length_le;have l3:=cV b2 e2 1099511627776;have l4:=cV b3 e3 bU;change (rN b e).2.1.length<=_ at l1
  change (rS b2 e2).2.1.length<=_ at l3
  change (rN b3 e3).2.1.length<=_ at l4
  rw[q1]at l1;rw[q2]at l2;rw[q3]at l3;rw[q4]at l4;dsimp only at l1 l2 l3 l4;omega
 have hone:zY dP b e=(⟨v1,v2,v3,v4⟩,b4,e4):=by
  unfold zY;rw[dw q1,dw q2,dw (show dP.W b2 e2=_ from q3),dw q4];rfl
 rw[hone];refine⟨hl,?_⟩;clear hone q1 q2 q3 q4 hl;refine dS 4 ?_;refine gon ?_;refine ocg [0] p1 ?_;refine dce [0] p2 ?_;refine ue ?_;refine dce [0] p3 ?_;refine ue ?_;refine dcg [0] p4 ?_;exact ahY [] [0]
variable{P:Program}{nt k:Nat}{fr:Fr}{σ:St}
theorem S9{α:Type}{one:RR α}{x:ab}{Q:Ex->Fr->St->Prop}{nv:Nat}{vs:List AV}{ts:List (Nat×AV)}(S:List α->List UInt8->Int->St)(us:Nat->List (Nat×AV)){n:Nat}{L:List α}{bL B b1:List UInt8}{eL e1:Int}(hL:rLp one n [] b1 e1=(L,bL,eL))(s0:b1 <:+ B)(sB:B.length<=2097152)
 (h0:GC k ⟨nv,vs,ts⟩ σ ⟨nv,jc (us 0) vs,[]⟩ (S [] b1 e1))
 (ht:∀b,b.length<=2097152->(one b 0).2.2=0->(one b 0).2.1.length+1<=b.length)
 (hr:∀ (i:Nat) acc b,i<n->b <:+ B->acc.length=i->acc.length+b.length<=b1.length->∃v b' e',one b 0=(v,b',e')/\b' <:+ B/\Tri P nt k x (gf (fun fr σ=>GC k fr σ ⟨nv,jc (us (i+1)) vs,[]⟩ (S (acc++[v]) b' e')) Q) ⟨nv,jc (us i) vs,[]⟩ (S acc b 0))
 (hx:L.length<n->eL≠0->Tri P nt k x (gf (fun _ _=>False) Q) ⟨nv,jc (us L.length) vs,[]⟩ (S L bL eL))
 (hy:n=L.length->Tri P nt k x (gf (fun _ _=>False) Q) ⟨nv,jc (us L.length) vs,[]⟩ (S L bL eL)):Tri P nt k (.loop x) Q ⟨nv,vs,ts⟩ σ:=by
 refine az (fun x:Nat×List α×List UInt8×Int=>us x.1) (fun x=>S x.2.1 x.2.2.1 x.2.2.2) (fun x=>n-x.1) (fun x=>x.1<=n/\x.2.2.1 <:+ B/\x.2.1.length=x.1/\(x.2.2.2=0->x.2.1.length+x.2.2.1.length<=b1.length)/\rLp one (n-x.1) x.2.1 x.2.2.1 x.2.2.2=(L,bL,eL)) (0,[],b1,e1) ⟨amc _,s0,rfl,fun _=>NC,hL⟩ h0 ?_;rintro⟨i,acc,b,e⟩ ⟨hi,hs,hla,hI,hB⟩;dsimp only at hi hs hla hI hB ⊢
 have hf:∀ {R:Fr->St->Prop} {y:ab} {fr:Fr} {σ:St},Tri P nt k y (gf (fun _ _=>False) Q) fr σ->Tri P nt k y (gf R Q) fr σ:=fun h=>h.mono fun e fr σ hq=>by
  cases e<;>first|exact hq|exact hq.elim
 by_cases h1:i<n
 ·by_cases q:e=0
  ·subst q
   obtain⟨k',hk⟩:∃k,n-i=k+1:=⟨n-i-1,NB⟩
   obtain⟨v,b',e',hone,hs',hh⟩:=hr i acc b h1 hs hla (hI rfl);rw[hk,afv _ _ _ _ hone]at hB;refine hh.mono fun e fr σ hq=>?_
   cases e with
   | normal => exact ⟨(i + 1, acc ++ [v], b', e'), ⟨h1, hs', by simp; omega, fun q => by
     have h2:=ht b (ams hs.length_le sB);rw[hone]at h2;have h3:=h2 q;have h4:=hI rfl;simp only[akC,ajr]at h3 ⊢;omega,by rw[show n-(i+1)=k' by omega];exact hB⟩,by dsimp only;omega,hq⟩
   |_=>exact hq
  ·rw[afu _ _ _ _ q]at hB;obtain⟨rfl,rfl,rfl⟩:acc=L/\b=bL/\e=eL:=by simpa using hB
   rw[<-hla];exact hf (hx NB q)
 ·obtain rfl:i=n:=NB
  rw[akQ,ahe]at hB;obtain⟨rfl,rfl,rfl⟩:acc=L/\b=bL/\e=eL:=by simpa using hB
  rw[<-hla];exact hf (hy hla.symm)
structure uJ where
 C:Nat->Nat->List AV
 rn:∀ρ i n,bZ ρ (C i n)=C (ρ i) n
 fz:∀σ i n,fzL σ [] (C i n)=C i n
structure oU(α:Type) where
 f:List α->List (List AV)
 rn:∀ρ l,bH ρ (f l)=f l
 fz:∀σ l,dh σ [] (f l)=f l
theorem uJ.ren(S:uJ)(ρ:Nat->Nat)(i n:Nat):bZ ρ (S.C i n)=S.C (ρ i) n:=S.rn ρ i n
theorem uJ.fzz(S:uJ)(σ:St)(i n:Nat):fzL σ [] (S.C i n)=S.C i n:=S.fz σ i n
theorem oU.ren{α:Type}(S:oU α)(ρ:Nat->Nat)(l:List α):bH ρ (S.f l)=S.f l:=S.rn ρ l
theorem oU.fzz{α:Type}(S:oU α)(σ:St)(l:List α):dh σ [] (S.f l)=S.f l:=S.fz σ l
attribute [go_sem] uJ.ren uJ.fzz oU.ren oU.fzz
theorem jE{α:Type}{one:RR α}(fn:FuncId)(S:uJ)(el:Nat)(cs:List AV)(off:Nat)(h0:cs.getD off .dead=.sl 0 true [])(hS:∀i,cs.set off (.hs el i 0 0)=S.C i 0)(hcr:∀ρ,bZ ρ cs=cs)(hcz:∀σ,fzL σ [] cs=cs)(R:oU α)(hR:R.f []=[])(ho:dN one)(ht:∀b,b.length<=2097152->(one b 0).2.2=0->(one b 0).2.1.length+1<=b.length)
 (hc:∀acc b v b' e',one b 0=(v,b',e')->b.length<=140737488355328->acc.length<=2097152->ay Tryz.prog fn [.ptr 1 0,.ptr 2 0] [rdr false b 0,.var (S.C 3 acc.length),.var [.ptr 0 0],.vec el (R.f acc)] (.tup []) [rdr false b' e',.var (S.C 4 (acc++[v]).length),.var [.ptr 0 0],.gone,.vec el (R.f (acc++[v]))])
 {b bL:List UInt8} {e eL:Int} {L:List α} (hb2:b.length<=2097152) (hL:rLs rS one b e=(L,bL,eL)):
 ay Tryz.prog 36 [.agg [.ptr 0 0],.fn (.func fn) [.ptr 1 0,.ptr 2 0]] [rdr false b e,.var cs,.var [.ptr 0 0]] (.tup []) [rdr false bL eL,.var (S.C 3 L.length),.var [.ptr 0 0],.vec el (R.f L)]:=by
 have hb:b.length<=140737488355328:=NB
 have hb3:=cV b e 1099511627776;change (rS b e).2.1.length<=_ at hb3
 obtain⟨v1,b1,e1,q1,s1,p1⟩:=YC.st e hb;rw[q1]at hb3;obtain⟨hv1,hv2⟩:=WN 1099511627776 NE q1;obtain⟨n,rfl⟩:∃n:Nat,v1=n:=⟨v1.toNat,NB⟩
 have hL':rLp one n [] b1 e1=(L,bL,eL):=by
  rw[<-hL];unfold rLs;rw[dw q1,amw]
 clear hL q1;have lL:=Pa (one:=one) n [] b1 e1;rw[hL']at lL;simp only[ama,amO]at lL;refine dS 5 ?_;refine aZ hcr hcz ?_;refine aG [0] (p1) (by(try simp only[go_sem,hcr,hcz]);try exact evd) (aq.mk' NC (by(try simp only[go_sem,hcr,hcz]);try exact evd)) ?_;refine evg ?_;refine aZ hcr hcz ?_;refine pS 1 off el ?_ NT (by exact h0);simp only[go_sem,hS];refine S9 (fun l b e=>[rdr false b e,.var (S.C 4 l.length),.var [.ptr 0 0],.var [.ptr 0 0],.vec el (R.f l)]) (fun i=>[(4,.int .i64 ((n-i:Nat):Int))]) hL' (B:=b1) (amP _) (by dsimp only at hb3;omega) ?_ ht ?_ ?_ ?_
 ·rw[hR];exact ais [] [0,1,2,3,4]
 ·intro i acc b h1 hs hla hI
  subst hla;obtain⟨v,b',e',q⟩:∃v b' e',one b 0=(v,b',e'):=⟨_,_,_,rfl⟩
  have hbl:=ams hs.length_le s1;have c1:=hc acc b v b' e' q hbl (by dsimp only at hb3;omega);refine⟨v,b',e',q,?_,?_⟩
  ·have:=ho b 0;rw[q]at this;exact this.trans hs
  have k1:decide (((n-acc.length:Nat):Int) > 0)=true:=au NB;have k2:decide ((0:Int)<((n-acc.length:Nat):Int))=true:=au NB;have hw:IntKind.i64.wrap (((n-acc.length:Nat):Int)-1)=((n-(acc.length+1):Nat):Int):=by rw[aL NB NB];omega
  have hln:(acc++[v]).length=acc.length+1:=NC
  generalize n-acc.length=m at *;generalize n-(acc.length+1)=m' at *;refine aZ k1 k2 ?_;refine oce [0] (po b false 0) ?_;refine aX ?_;refine oce [0,1,2,4] c1 ?_;refine ah hw ?_;exact ais [] [0,1,2,3,5]
 ·intro h1 q;have k1:decide (((n-L.length:Nat):Int) > 0)=true:=au NB;have k2:decide ((0:Int)<((n-L.length:Nat):Int))=true:=au NB;have k0:(eL==0)=false:=by simp[q]
  generalize n-L.length=m at *;refine aZ k1 k2 ?_;refine oce [0] (po bL false eL) ?_;refine aF k0 ?_;exact ahY [] [0,1,2,4]
 ·intro h1;have k0:n-L.length=0:=NB
  rw[k0];refine bk ?_;exact ahY [] [0,1,2,4]
theorem IA{α:Type}{one:RR α}(fn:FuncId)(S:uJ)(el:Nat)(cs:List AV)(off:Nat)(h0:cs.getD off .dead=.sl 0 true [])(hS:∀i,cs.set off (.hs el i 0 0)=S.C i 0)(hcr:∀ρ,bZ ρ cs=cs)(hcz:∀σ,fzL σ [] cs=cs)(R:oU α)(hR:R.f []=[])(ho:dN one)(ht:∀b,b.length<=2097152->(one b 0).2.2=0->(one b 0).2.1.length+1<=b.length)
 (hc:∀acc b v b' e',one b 0=(v,b',e')->b.length<=140737488355328->acc.length<=2097152->ay Tryz.prog fn [.ptr 2 0,.ptr 1 0] [rdr false b 0,.var (S.C 3 acc.length),.var [.ptr 0 0],.vec el (R.f acc)] (.tup []) [rdr false b' e',.var (S.C 4 (acc++[v]).length),.var [.ptr 0 0],.gone,.vec el (R.f (acc++[v]))])
 {b bL:List UInt8} {e eL:Int} {L:List α} (hb2:b.length<=2097152) (hL:rLs rS one b e=(L,bL,eL)):
 ay Tryz.prog 36 [.agg [.ptr 0 0],.fn (.func fn) [.ptr 2 0,.ptr 1 0]] [rdr false b e,.var cs,.var [.ptr 0 0]] (.tup []) [rdr false bL eL,.var (S.C 3 L.length),.var [.ptr 0 0],.vec el (R.f L)]:=by
 have hb:b.length<=140737488355328:=NB
 have hb3:=cV b e 1099511627776;change (rS b e).2.1.length<=_ at hb3
 obtain⟨v1,b1,e1,q1,s1,p1⟩:=YC.st e hb;rw[q1]at hb3;obtain⟨hv1,hv2⟩:=WN 1099511627776 NE q1;obtain⟨n,rfl⟩:∃n:Nat,v1=n:=⟨v1.toNat,NB⟩
 have hL':rLp one n [] b1 e1=(L,bL,eL):=by
  rw[<-hL];unfold rLs;rw[dw q1,amw]
 clear hL q1;have lL:=Pa (one:=one) n [] b1 e1;rw[hL']at lL;simp only[ama,amO]at lL;refine dS 5 ?_;refine aZ hcr hcz ?_;refine aG [0] (p1) (by(try simp only[go_sem,hcr,hcz]);try exact evd) (aq.mk' NC (by(try simp only[go_sem,hcr,hcz]);try exact evd)) ?_;refine evg ?_;refine aZ hcr hcz ?_;refine pS 1 off el ?_ NT (by exact h0);simp only[go_sem,hS];refine S9 (fun l b e=>[rdr false b e,.var (S.C 4 l.length),.var [.ptr 0 0],.var [.ptr 0 0],.vec el (R.f l)]) (fun i=>[(4,.int .i64 ((n-i:Nat):Int))]) hL' (B:=b1) (amP _) (by dsimp only at hb3;omega) ?_ ht ?_ ?_ ?_
 ·rw[hR];exact ais [] [0,1,2,3,4]
 ·intro i acc b h1 hs hla hI
  subst hla;obtain⟨v,b',e',q⟩:∃v b' e',one b 0=(v,b',e'):=⟨_,_,_,rfl⟩
  have hbl:=ams hs.length_le s1;have c1:=hc acc b v b' e' q hbl (by dsimp only at hb3;omega);refine⟨v,b',e',q,?_,?_⟩
  ·have:=ho b 0;rw[q]at this;exact this.trans hs
  have k1:decide (((n-acc.length:Nat):Int) > 0)=true:=au NB;have k2:decide ((0:Int)<((n-acc.length:Nat):Int))=true:=au NB;have hw:IntKind.i64.wrap (((n-acc.length:Nat):Int)-1)=((n-(acc.length+1):Nat):Int):=by rw[aL NB NB];omega
  have hln:(acc++[v]).length=acc.length+1:=NC
  generalize n-acc.length=m at *;generalize n-(acc.length+1)=m' at *;refine aZ k1 k2 ?_;refine oce [0] (po b false 0) ?_;refine aX ?_;refine oce [0,1,2,4] c1 ?_;refine ah hw ?_;exact ais [] [0,1,2,3,5]
 ·intro h1 q;have k1:decide (((n-L.length:Nat):Int) > 0)=true:=au NB;have k2:decide ((0:Int)<((n-L.length:Nat):Int))=true:=au NB;have k0:(eL==0)=false:=by simp[q]
  generalize n-L.length=m at *;refine aZ k1 k2 ?_;refine oce [0] (po bL false eL) ?_;refine aF k0 ?_;exact ahY [] [0,1,2,4]
 ·intro h1;have k0:n-L.length=0:=NB
  rw[k0];refine bk ?_;exact ahY [] [0,1,2,4]
end Go.Proofs.YtblipkgpoaonaaaGreat
