/- Joined. -/
import Derived.Test.YtmpddimhleianaaGreatO3v
import Derived.Test.YtmpddimhleianaaGreatV2v
import Derived.Test.YtmpddimhleianaaGreatO1v
import Derived.Test.YtmpddimhleianaaGreatV1v
import Derived.Test.YtmpddimhleianaaGreatW7v
import Derived.Test.YtmpddimhleianaaGreatW3v
import Derived.Test.YtmpddimhleianaaGreatChecked
import Derived.KernelRfl
import Derived.Test.YtmpddimhleianaaGreatW9v
import Derived.Test.YtmpddimhleianaaGreatW8v
import Derived.Test.YtmpddimhleianaaGreatR1v
import Derived.Test.YtmpddimhleianaaGreatV7v
import Derived.Test.YtmpddimhleianaaGreatU2v
import Derived.Test.YtmpddimhleianaaGreatU1v
set_option linter.unusedVariables false
set_option linter.unusedSimpArgs false
set_option maxRecDepth 8000
set_option maxHeartbeats 4000000
namespace Go.Proofs.YtmpddimhleianaaGreat
open Go Go.FH Go.RowKit
structure DC(s:al):Prop where
 hr:Ly s.sto
 l6:U64 s.sto.cfg.lim.backoff
 c1:U64 s.sto.cfg.spe
 c2:U64 s.sto.cfg.boost
 c3:WdU s.sto.cfg.ttd
 v1:∀v∈s.sto.latest,U64 v.ep
 j:U64 s.sto.j.ep
 a:∀a∈s.sto.early,U64 a.slot/\U64 a.target.ep
 o:∀b∈s.sto.orph,Lx b
 n:∀n∈s.sto.nodes,Lx n.blk
 w:U64 s.sto.now
 t:∀t∈s.sto.tabs,U64 t.cp.ep/\t.bals.length<=1024
 ql:s.reqs.length<=2097152
 yl:s.rets.length<=2097152
 q:∀r∈s.reqs,U64 r.tag/\U64 r.due
 y:∀r∈s.rets,U64 r.tag/\U64 r.due
 g:U64 s.tag
theorem yf{α:Type}(d:α){l:List α}{x:α}(h:x∈l):∃i,i<l.length/\l.getD i d=x:=by
 obtain⟨i,hi,rfl⟩:=acp h;exact⟨i,hi,by rw[afy,afz hi];rfl⟩
theorem NT{l:List Int}{n m:Int}(hm:n<=m):∀ (k i:Nat),l.length-i<=k->mX l n i=0->mX l m i=0:=by
 intro k;induction k with
 |zero=>intro i hk h;rw[nH af0]
 | succ k ih =>
   intro i hk h;by_cases hi:i<l.length
   ·rw [lU hi] at h ⊢
    split at h
    ·cases h
    ·rename_i h1
     rw[afx af0];split at h
     ·cases h
     ·rename_i h2;rw[afx h2];exact ih _ af0 h
   ·rw[nH hi]
theorem Sk{l:List Int}{n m:Int}(hm:n<=m)(h:cM l n=0):cM l m=0:=by
 unfold cM at h ⊢;split at h
 ·cases h
 ·rename_i h1;rw[afx h1];exact NT hm _ _ (afE _) h
theorem UR{c:cI}(h:gF c=0):md c.lim.node/\md c.lim.orph/\md c.lim.early/\md c.lim.table/\md c.lim.retry/\c.bals.length<=1024:=by
 unfold gF wit at h;by_cases q0:c.spe<1
 ·rw[afA q0]at h;cases h
 by_cases q1:64<c.spe
 ·rw[afx q0,afA q1]at h;cases h
 by_cases q2:100<c.boost
 ·rw[afx q0,afx q1,afA q2]at h;cases h
 by_cases q3:1024<(c.bals.length:Int)
 ·rw[afx q0,afx q1,afx q2,afA q3]at h;cases h
 rw[afx q0,afx q1,afx q2,afx q3]at h;clear q0 q1 q2
 have key:∀ {b:Bool} {x y:Int},(if b=false then (3:Int)else y)=0->b=true/\y=0:=by
  intro b x y h;cases b
  ·cases h
  ·exact⟨rfl,h⟩
 obtain⟨a1,h⟩:=key (x:=0) h;obtain⟨a2,h⟩:=key (x:=0) h;obtain⟨a3,h⟩:=key (x:=0) h;obtain⟨a4,h⟩:=key (x:=0) h;obtain⟨a5,h⟩:=key (x:=0) h;simp only[afL,afJ]at a1 a2 a3 a4 a5;refine⟨⟨?_,?_⟩,⟨?_,?_⟩,⟨?_,?_⟩,⟨?_,?_⟩,⟨?_,?_⟩,?_⟩<;>omega
theorem V9{t:List Nod}(h:statV t=0):∀n∈t,md (n.up+1)/\md n.status:=by
 intro n hn;obtain⟨i,hi,rfl⟩:=yf kr hn;change md ((nod t i).up+1)/\md (nod t i).status
 have h1:mW t=0:=by
  unfold statV at h;split at h
  ·rename_i q;exact absurd h q
  ·rename_i q;simpa using q
 have h4:=(sS h1).2;unfold mW at h1;split at h1
 ·cases h1
 have h2:=vZ.1 h1 i (afK _) af0;unfold vo at h2;split at h2
 ·cases h2
 rename_i a1;split at h2
 ·cases h2
 rename_i a2;split at h2
 ·cases h2
 rename_i a3;refine⟨⟨?_,?_⟩,⟨?_,?_⟩⟩<;>omega
theorem Wo{s:af}(h:mP s=true)(hb:s.cfg.bals.length<=1024):(∀v∈s.latest,v.has=false->v=eY)/\∀n∈s.eqv,md n:=by
 unfold mP at h;simp only[afL,ad3,adm,afJ]at h;obtain⟨h1,h2,h3⟩:=h;constructor
 ·intro v hv hf
  obtain⟨i,hi,rfl⟩:=yf eY hv;cases hn:cm (fun i=>!(vot s.latest i).has&&decide (vot s.latest i≠eY)) s.latest.length with
  |some j=>rw[hn]at h1;cases h1
  | none =>
    have h4:=fh hn i hi;change (!(vot s.latest i).has&&decide (vot s.latest i≠eY))=false at h4
    change (vot s.latest i).has=false at hf
    rw[hf]at h4;by_cases q:vot s.latest i=eY
    ·exact q
    ·simp[q]at h4
 ·intro n hn
  obtain⟨i,hi,rfl⟩:=yf 0 hn;rcases h3 with h3|h3
  ·omega
  ·have:=(ie h3).2 i hi;exact⟨this.1,af0⟩
theorem ZR{s:af}(h:vb s=true)(hb:s.cfg.bals.length<=1024):∀a∈s.early,cM a.vals 1024=0:=by
 unfold vb at h;simp only[afL,afJ]at h;intro a ha;obtain⟨i,hi,rfl⟩:=yf default ha;have:=vZ.1 h.1 i (afK _) af0;exact Sk af0 this
theorem YQ{s:af}(h:oz s=0):gF s.cfg=0/\statV s.nodes=0/\mP s=true/\vb s=true:=by
 unfold oz at h;by_cases q1:gF s.cfg=0
 case neg=>rw[afA q1]at h;exact absurd h q1
 rw[afx (by simp[q1])]at h;by_cases q2:statV s.nodes=0
 case neg=>rw[afA q2]at h;exact absurd h q2
 rw[afx (by simp[q2])]at h;refine⟨q1,q2,?_,?_⟩
 ·cases q:mP s with
  |true=>rfl
  | false =>
    rw[q]at h;simp only[aco]at h;(repeat' split at h)<;>cases h
 ·cases q:vb s with
  |true=>rfl
  | false =>
    rw[q]at h;simp only[aco]at h;(repeat' split at h)<;>cases h
theorem YP{s:al}(h:Lo s=0):(s.sent=false->s.last=jB)/\uC s:=by
 unfold Lo at h;split at h
 ·cases h
 rename_i q;split at h
 ·rename_i q2;refine⟨fun hs=>?_,q2⟩;by_cases q3:s.last=jB
  ·exact q3
  ·exact absurd (.inr (.inr ⟨hs,q3⟩)) q
 ·cases h
theorem YO{s:al}(h:valA s=0):oz s.sto=0/\Lo s=0:=by
 unfold valA at h;split at h
 ·rename_i q;exact absurd h q
 ·rename_i q;exact⟨by simpa using q,h⟩
theorem XX{s:al}(h:uC s):(∀r∈s.reqs,md r.tries)/\∀r∈s.rets,md r.tries:=by
 constructor
 ·intro r hr;obtain⟨i,hi,rfl⟩:=yf gU hr;have:=(h.1 i hi).2.2.1;exact⟨this.2.2.1,this.2.2.2.1⟩
 ·intro r hr;obtain⟨i,hi,rfl⟩:=yf gU hr;have:=(h.2 i hi).2.2.1;exact⟨adK af2 this.2.2.1,this.2.2.2.1⟩
theorem DC.toW{s:al}(h:DC s)(hv:valA s=0):SN s:=by
 obtain⟨h1,h2⟩:=YO hv;obtain⟨n1,n2,n3,n4⟩:=YQ h1;obtain⟨b1,b2⟩:=YP h2;obtain⟨l1,l2,l3,l4,l5,l6⟩:=UR n1;obtain⟨v1,v2⟩:=Wo n3 l6;obtain⟨r1,r2⟩:=XX b2
 exact⟨l1,l2,l3,l4,l5,h.l6,h.c1,h.c2,h.c3,fun n hn=>⟨(h.hr.cu n hn).1,(h.hr.cu n hn).2⟩,fun v hv=>⟨h.v1 v hv,v1 v hv⟩,v2,h.j,h.hr.uf,fun a ha=>⟨(h.a a ha).1,(h.a a ha).2,ZR n4 l6 a ha⟩,h.o,
  fun n hn=>⟨h.n n hn,V9 n2 n hn⟩,h.w,fun t ht=>⟨(h.t t ht).1,(h.t t ht).2,fun n hn=>⟨(h.hr.bu t ht n hn).1,(h.hr.bu t ht n hn).2⟩⟩,fun r hr=>⟨(h.q r hr).1,r1 r hr,(h.q r hr).2⟩,fun r hr=>⟨(h.y r hr).1,r2 r hr,(h.y r hr).2⟩,h.g,b1⟩
theorem Oi{α:Type}{f:α->List UInt8}{c:Nat}:∀l:List α,(∀a∈l,(f a).length<=c)->(l.flatMap f).length<=l.length*c
 | [],_=>afK _
 | a :: l, h => by
   have h1:=Oi l fun b hb=>h b (acA _ hb)
   have h2:=h a adX;rw[List.flatMap_cons,afB,afG,acQ];omega
theorem qC{α:Type}{f:α->List UInt8}{c:Nat}{m:Nat}(l:List α)(h:∀a∈l,(f a).length<=c)(hl:l.length<=m)(hm:m<=2097152):(lsE f l).length<=10+m*c:=by
 unfold lsE;have h1:=Oi l h;have h2:=d8 (n:=l.length) af0;have h3:l.length*c<=m*c:=acr c hl;rw[afB];omega
theorem ly{n:Int}(h:U64 n):(iE n).length<=10:=d8 (by have:=h.2;have:=h.1;omega)
theorem Iq{n:Int}(h:md n):U64 n:=⟨h.1,by have:=h.2;omega⟩
theorem YR{v:Vot}(h:U64 v.ep):(Wn v).length<=43:=by
 have h1:=ly h;have h2:=v.root.2;unfold Wn oC;rw[afB];cases v.has
 ·simp
 ·simp only[aco,afB,afG,afM];omega
theorem WE{a:aX}(h1:U64 a.slot)(h2:U64 a.target.ep)(h3:cM a.vals 1024=0):(Pt a).length<=10400:=by
 have k1:=h1.len;have k2:=fe h2;have k3:=Ai h3;have k4:=a.root.2
 have k5:(LA a.a a.vals).length<=10340:=by
  unfold LA;simp only[afB];change (br a.slot.toNat).length+a.root.1.length+(eM a.target).length+(pm a.vals).length<=_
  omega
 have k6:=d8 (n:=(LA a.a a.vals).length) af0;unfold Pt aa8;rw[afB];omega
theorem YS{t:aB}(h1:U64 t.cp.ep)(h2:t.bals.length<=1024)(h3:∀n∈t.bals,U64 n):(Su t).length<=10400:=by
 have k1:=fe h1;have k2:=d8 (n:=t.bals.length) af0;have k3:=Aj h3;unfold Su Dr;simp only[afB];change (eM t.cp).length+(br t.bals.length).length+(yh t.bals).length<=_
 omega
theorem Xx{n:Nod}(h:Lx n.blk/\md (n.up+1)/\md n.status):(US n).length<=1020:=by
 have k1:=Ow h.1.u;have k2:=ly (Iq h.2.1);have k3:=ly (Iq h.2.2);unfold US;simp only[afB];omega
theorem OR{r:Req}(h:U64 r.tag/\md r.tries/\U64 r.due):(KK r).length<=62:=by
 have k1:=ly h.1;have k2:=ly (Iq h.2.1);have k3:=ly h.2.2;have k4:=r.block.2;unfold KK;simp only[afB];omega
theorem V8{s:al}(h:SN s){n1 n2 n3 n4 n5 n6 n7 n8 n9:Nat}(l1:s.sto.cfg.bals.length<=n1)(l2:s.sto.latest.length<=n2)(l3:s.sto.eqv.length<=n3)(l4:s.sto.early.length<=n4)(l5:s.sto.orph.length<=n5)(l6:s.sto.nodes.length<=n6)(l7:s.sto.tabs.length<=n7)(l8:s.reqs.length<=n8)(l9:s.rets.length<=n9)
 (m1:n1<=2097152) (m2:n2<=2097152) (m3:n3<=2097152) (m4:n4<=2097152) (m5:n5<=2097152) (m6:n6<=2097152) (m7:n7<=2097152) (m8:n8<=2097152) (m9:n9<=2097152):(pp s).length<=n1*10+n2*43+n3*10+n4*10400+n5*1000+n6*1020+n7*10400+n8*62+n9*62+600:=by
 have b1:=qC (f:=iE) s.sto.cfg.bals (fun n hn=>ly (h.c4 n hn)) l1 m1;have b2:=qC (f:=Wn) s.sto.latest (fun v hv=>YR (h.v1 v hv).1) l2 m2;have b3:=qC (f:=iE) s.sto.eqv (fun n hn=>ly (Iq (h.v2 n hn))) l3 m3;have b4:=qC (f:=Pt) s.sto.early (fun a ha=>WE (h.a a ha).1 (h.a a ha).2.1 (h.a a ha).2.2) l4 m4;have b5:=qC (f:=Es) s.sto.orph (fun b hb=>Ow (h.o b hb).u) l5 m5;have b6:=qC (f:=US) s.sto.nodes (fun n hn=>Xx (h.n n hn)) l6 m6;have b7:=qC (f:=Su) s.sto.tabs (fun a ha=>YS (h.t a ha).1 (h.t a ha).2.1 (h.t a ha).2.2) l7 m7;have b8:=qC (f:=KK) s.reqs (fun r hr=>OR (h.q r hr)) l8 m8;have b9:=qC (f:=KK) s.rets (fun r hr=>OR (h.y r hr)) l9 m9;have c1:=ly (Iq h.l1);have c2:=ly (Iq h.l2);have c3:=ly (Iq h.l3);have c4:=ly (Iq h.l4);have c5:=ly (Iq h.l5);have c6:=ly h.l6;have c7:=ly h.c1;have c8:=ly h.c2;have d1:=fe h.j;have d2:=fe h.f;have d3:=ly h.w;have d4:=ly h.g;have f1:=(cQ s.sto.cfg.ttd).2;have f2:=s.sto.cfg.gen.2;have f3:=s.sto.boost.2
 have f4:(if s.sent=true then WX s.last else []).length<=96:=by
  have g1:=s.last.head.2;have g2:=s.last.safe.2;have g3:=s.last.fin.2;split
  ·unfold WX;simp only[afB];omega
  ·exact afK _
 have f5:∀b:Bool,(oC b).length=1:=fun b=>by cases b<;>rfl
 unfold pp aay aaN;simp only[afB,f5];omega
theorem ZD{s:al}(h:SN s)(t:DC s):aas s:=
 ⟨acn (V8 h t.hr.bc t.hr.bl t.hr.be t.hr.ba t.hr.bo t.hr.bn t.hr.bt t.ql t.yl (afE _) (afE _) (afE _) (afE _) (afE _) (afE _) (afE _) (afE _) (afE _)) af2⟩
theorem DC.enc{s:al}(h:DC s):abn s:=⟨h.hr,h.w,h.ql,h.yl,fun r hr=>(h.q r hr).2.1,fun h0=>⟨h.toW h0,ZD (h.toW h0) h⟩⟩
structure EP{α:Type}(r:RR α)(k:Nat)(p:α->Prop):Prop where
 l:∀b e,(r b e).2.1.length<=b.length
 s:∀b e,(r b e).2.2=0->e=0
 p:∀b,b.length<=2097152->(r b 0).2.2=0->(r b 0).2.1.length+k<=b.length/\p (r b 0).1
def abu(t:aB):Prop:=U64 t.cp.ep/\t.bals.length<=1024/\∀n∈t.bals,U64 n
def abm(a:aX):Prop:=U64 a.slot/\U64 a.target.ep/\a.vals.length<=1024
structure abR(d:Rdr):Prop where
 C:EP d.C 1 fun n=>0<=n
 W:EP d.W 1 fun n=>0<=n
 A:EP d.A 1 abm
 B:EP d.B 1 Lx
 T:EP d.T 1 abu
theorem YA{s:al}(h:DC s)(b:P9 s=0):aav s:=by
 unfold P9 at b;split at b
 ·omega
 split at b
 ·omega
 exact⟨h.toW af0,af0⟩
variable{P:Program}{nt k:Nat}{fr:Fr}{σ:St}
structure abt where
 C:Nat->Nat->List AV
 rn:∀ρ i n,dN ρ (C i n)=C (ρ i) n
 fz:∀σ i n,fzL σ [] (C i n)=C i n
structure abO(α:Type) where
 f:List α->List (List AV)
 rn:∀ρ l,dm ρ (f l)=f l
 fz:∀σ l,gm σ [] (f l)=f l
end Go.Proofs.YtmpddimhleianaaGreat
