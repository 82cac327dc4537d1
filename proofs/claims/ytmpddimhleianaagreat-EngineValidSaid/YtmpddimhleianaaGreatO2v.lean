/- Joined. -/
import Derived.Test.YtmpddimhleianaaGreatO1v
import Derived.Test.YtmpddimhleianaaGreatW8v
import Derived.Test.YtmpddimhleianaaGreatR1v
import Derived.Test.YtmpddimhleianaaGreatV7v
import Derived.Test.YtmpddimhleianaaGreatW3v
import Derived.Test.YtmpddimhleianaaGreatP1v
set_option linter.unusedVariables false
set_option linter.unusedSimpArgs false
set_option maxRecDepth 8000
set_option maxHeartbeats 4000000
namespace Go.Proofs.YtmpddimhleianaaGreat
open Go Go.FH Go.RowKit
def eE(s:al):List UInt8:=oC s.over++oC s.halt
def eD(s:al):List UInt8:=(if s.sent=true then WX s.last else [])++eE s
def eC(s:al):List UInt8:=iE s.tag++(oC s.sent++eD s)
def eB(s:al):List UInt8:=lsE KK s.reqs++(lsE KK s.rets++eC s)
def eA(s:al):List UInt8:=iE s.sto.now++(s.sto.boost.1++(lsE Su s.sto.tabs++eB s))
def e9(s:al):List UInt8:=lsE US s.sto.nodes++eA s
def e8(s:al):List UInt8:=lsE Es s.sto.orph++e9 s
def e7(s:al):List UInt8:=lsE Pt s.sto.early++e8 s
def e6(s:al):List UInt8:=eM s.sto.j++(eM s.sto.f++e7 s)
def e5(s:al):List UInt8:=lsE iE s.sto.eqv++e6 s
def e4(s:al):List UInt8:=lsE Wn s.sto.latest++e5 s
structure aas(s:al):Prop where
 w:(pp s).length<=1099511627776
def cL(s:al):List Req:=s.reqs++s.rets
def isY(s:al)(i:Nat):Bool:=decide ((i:Int) ≥ ((s.reqs.length:Nat):Int))
def okA(s:al)(i:Nat):Prop:=YI s (aO (cL s) i) (if isY s i=true then 1 else 0)/\isY s i=decide ((aO (cL s) i).due ≥ 1)/\∀k,k<i->(aO (cL s) k).tag≠(aO (cL s) i).tag
theorem mh{s:al}{i:Nat}(h:i<s.reqs.length):aO (cL s) i=aO s.reqs i:=by
 unfold aO cL;rw[afy,afU h,<-afy]
theorem qr{s:al}{i:Nat}:aO (cL s) (s.reqs.length+i)=aO s.rets i:=by
 unfold aO cL;rw[afy,acS af0,afy];congr 3;omega
theorem f9{l:List Req}{n:Int}{k:Nat}(hk:k<=l.length):n∈(l.take k).map (·.tag)↔∃i,i<k/\(aO l i).tag=n:=by
 rw[acz];constructor
 ·rintro⟨r,hr,h⟩;obtain⟨i,hi,he⟩:=adt.1 hr;refine⟨i,af0,?_⟩;unfold aO;rw[afy,afz af0];rw[<-h,<-he];rfl
 ·rintro⟨i,hi,h⟩;refine⟨aO l i,adt.2 ⟨i,af0,?_⟩,h⟩;unfold aO;rw[afy,afz af0];rfl
theorem A8{s:al}(hd:∀r∈s.reqs,0<=r.due):uC s↔(∀i,i<s.reqs.length+s.rets.length->okA s i)/\(∀i,0<i->i<s.reqs.length->(aO s.reqs (i-1)).tag<(aO s.reqs i).tag)/\∀i,0<i->i<s.rets.length->fv (aO s.rets (i-1)) (aO s.rets i)=true:=by
 have all_len:s.reqs.map (·.tag)=(s.reqs.take s.reqs.length).map (·.tag):=by rw[acL]
 constructor
 ·rintro⟨h1,h2⟩
  refine⟨fun i hi=>?_,fun i h0 hi=>(h1 i hi).1.resolve_left af0,fun i h0 hi=>(h2 i hi).1.resolve_left af0⟩;by_cases hq:i<s.reqs.length
  ·have hy:isY s i=false:=aD af0;obtain⟨_,g2,g3,g4⟩:=h1 i hq;unfold okA;rw[mh hq,hy];refine⟨g3,(aD af0).symm,fun k hk he=>g4 ((f9 af0).2 ⟨k,hk,?_⟩)⟩;rw[<-he,mh af0]
  ·obtain⟨j,rfl⟩:∃j,i=s.reqs.length+j:=⟨i-s.reqs.length,af0⟩
   have hy:isY s (s.reqs.length+j)=true:=ax af0;obtain⟨_,g2,g3,g4⟩:=h2 j af0;rw[afR,GG]at g4;unfold okA;rw[qr,hy];refine⟨g3,(ax g2).symm,fun k hk he=>?_⟩;by_cases hk2:k<s.reqs.length
   ·rw[all_len]at g4;exact g4.1 ((f9 (afE _)).2 ⟨k,hk2,by rw[<-he,mh hk2]⟩)
   ·obtain⟨m,rfl⟩:∃m,k=s.reqs.length+m:=⟨k-s.reqs.length,af0⟩
    exact g4.2 ((f9 af0).2 ⟨m,af0,by rw[<-he,qr]⟩)
 ·rintro⟨h1,h2,h3⟩
  refine⟨fun i hi=>?_,fun i hi=>?_⟩
  ·have hy:isY s i=false:=aD af0
   obtain⟨g1,g2,g3⟩:=h1 i af0;rw[mh hi,hy]at g1 g2;have hm:aO s.reqs i∈s.reqs:=lc hi;have:=hd _ hm;refine⟨?_,?_,g1,fun hc=>?_⟩
   ·by_cases h0:i=0
    ·exact .inl h0
    ·exact .inr (h2 i af0 hi)
   ·have:=adi g2.symm;omega
   ·obtain⟨k,hk,he⟩:=(f9 af0).1 hc;exact g3 k hk (by rw[mh af0,he,mh hi])
  ·have hy:isY s (s.reqs.length+i)=true:=ax af0
   obtain⟨g1,g2,g3⟩:=h1 (s.reqs.length+i) af0;rw[qr,hy]at g1 g2;refine⟨?_,ac3 g2.symm,g1,fun hc=>?_⟩
   ·by_cases h0:i=0
    ·exact .inl h0
    ·exact .inr (h3 i af0 hi)
   ·rcases afR.1 hc with hc|hc
    ·rw[all_len]at hc;obtain⟨k,hk,he⟩:=(f9 (afE _)).1 hc;exact g3 k af0 (by rw[mh hk,he,qr])
    ·obtain⟨k,hk,he⟩:=(f9 af0).1 hc;exact g3 (s.reqs.length+k) af0 (by rw[qr,he,qr])
def okV(l:List Req)(p:Req->Req->Prop)(n:Nat):Prop:=∀i,0<i->i<n->i<l.length->p (aO l (i-1)) (aO l i)
theorem okV.step{l:List Req}{p:Req->Req->Prop}{n:Nat}(h:okV l p (n+1))(h1:p (aO l n) (aO l (n+1))):okV l p (n+1+1):=fun i h0 hi hl=>by
 by_cases q:i=n+1
 ·subst q;exact h1
 ·exact h i h0 af0 hl
def FG(s:al)(t:Int)(n:Nat):Prop:=∀k,k<n->(aO (cL s) k).tag≠t
theorem A9 (s : al) (hn : s.sto.nodes.length <= 2097152) (hq : s.reqs.length <= 2097152) (hy : s.rets.length <= 2097152) (hd : ∀ r ∈ s.reqs, 0 <= r.due) (R : Int) (hv1 : uC s -> R = 0) (hv2 : ¬ uC s -> R = 2) : Tri Tryz.prog 183 0 (cx.tl 3) (PQ [.tmp 2] (.int .i64 R)) ⟨14, [.dead, .ptr 0 0, .int .i64 0, .int .i64 0, .dead, .dead, .dead, .dead, .dead, .dead, .dead, .dead, .dead, .dead], []⟩ [.var (aG s.a)] := by
 unfold cx;refine bd ?_;simp only[am.tl];rw[A8 hd]at hv1 hv2;have hap:rows ay s.reqs++rows ay s.rets=rows ay (cL s):=by unfold rows cL;rw[acu]
 have hla:(cL s).length=s.reqs.length+s.rets.length:=by unfold cL;rw[afB]
 refine nx fun _=>?_
 refine oU (s.reqs.length+s.rets.length) (okU s okA) (fun i=>[(5,.int .i64 i),(4,.hs 35 1 0 (s.reqs.length+s.rets.length))]) (fun i=>[.var (aG s.a),.vec 35 (rows ay (cL s))]) (fun k hk=>absurd hk (acJ k)) (fun i h1 hk0 hw h2=>?_) (fun hA _=>?_)
 ·have hgd:(rows ay (cL s)).getD i []=ay (aO (cL s) i):=aK (f:=ay) gU af0
  have hxl:i<(cL s).length:=af0
  have hR:¬okA s i->R=2:=fun hn=>hv2 fun h=>hn (h.1 i h1)
  have hI:=hk0.step (n:=i);have c1:=cj s.sto.nodes (aO (cL s) i).block hn;have hin:∀k,k<i->(rows ay (cL s)).getD k []=ay (aO (cL s) k)/\k<(cL s).length:=fun k hk=>⟨aK (f:=ay) gU af0,af0⟩
  clear hv1 hv2 hap hk0;generalize okU s okA (i+1)=C at *;unfold okA isY at hR hI;generalize hr0:aO (cL s) i=r at *;unfold YI at hR hI;generalize ab s.sto.nodes r.block=D at *;generalize hDu:decide (r.due ≥ 1)=Du at *;refine nx fun _=>?_
  generalize hL:decide ((i:Int) ≥ ((s.reqs.length:Nat):Int))=L at *;refine tF (fun t=>[(7,.int .i64 (if t=true then 1 else 0))]) (fun _=>[.var (aG s.a),.vec 35 (rows ay (cL s)),.var (ay r)]) (fun hT=>?_) (fun hF=>?_) ?_
  ·subst hT;exact aw
  ·subst hF;exact aw
  generalize hlow:(if L=true then (1:Int)else 0)=low at *;simp only[dS,dE,act,acx];by_cases q:(1<=r.tag/\r.tag<s.tag/\low<=r.tries/\r.tries<=1099511627776/\0<=D)/\L=Du
  case neg=>
   obtain rfl:=hR fun h=>q ⟨h.1,h.2.1⟩
   clear hR hI hL hlow;by_cases q1:r.tag<1
   ·exact aw
   by_cases q2:s.tag<=r.tag
   ·exact aw
   by_cases q3:r.tries<low
   ·exact aw
   by_cases q4:1099511627776<r.tries
   ·exact aw
   by_cases q5:L=Du
   ·have q6:D<0:=by
     refine Int.not_le.1 fun h=>q ⟨⟨af0,af0,af0,af0,h⟩,q5⟩
    clear q;subst q5;have n7:(L==L)=true:=af1
    have n8:(L != L)=false:=af1
    exact aw
   ·have n7:(L==Du)=false:=by simp[q5]
    have n8:(L != Du)=true:=by simp[q5]
    clear q q5;exact aw
  obtain⟨⟨q1,q2,q3,q4,q6⟩,q5⟩:=q;subst q5;have n1:¬r.tag<1:=af0
  have n2:¬s.tag<=r.tag:=af0
  have n3:¬r.tries<low:=af0
  have n4:¬1099511627776<r.tries:=af0
  have n6:¬D<0:=af0
  have n7:(L==L)=true:=af1
  have n8:(L != L)=false:=af1
  refine nx fun _=>?_
  refine oU i (FG s r.tag) (fun k=>[(9,.int .i64 k)]) (fun _=>[.var (aG s.a),.vec 35 (rows ay (cL s)),.var (ay r)]) (fun k hk=>absurd hk (acJ k)) (fun k g1 hkn hw2 g2=>?_) (fun hkn _=>?_)
  ·obtain⟨g3,g4⟩:=hin k g1
   by_cases q7:(aO (cL s) k).tag=r.tag
   ·obtain rfl:=hR fun h=>h.2.2 k g1 q7
    generalize aO (cL s) k=x at *;clear hR hI hin;exact aw
   ·have hnx:FG s r.tag (k+1):=fun j hj=>by
     by_cases hjk:j=k
     ·subst hjk;exact q7
     ·exact hkn j af0
    generalize aO (cL s) k=x at *;clear hR hI hin hkn;exact aw
  ·have hC:=hI ⟨⟨q1,q2,q3,q4,q6⟩,rfl,hkn⟩;clear hI hR hin hL hlow;exact aw
 ·clear hap hla
  refine nx fun _=>?_
  refine oU (s.reqs.length-1) (fun i=>okV s.reqs (fun a b=>a.tag<b.tag) (i+1)) (fun i=>[(10,.int .i64 ((i+1:Nat):Int)),(4,.dead)]) (fun _=>[.var (aG s.a)]) (fun k h0 hk=>af0) (fun i h1 ho _ _=>?_) (fun hQ _=>?_)
  ·have h2:((i+1:Nat):Int)<((s.reqs.length:Nat):Int):=af0
   have h3:i+1<s.reqs.length:=af0
   have h4:(i:Int)<((s.reqs.length:Nat):Int):=af0
   have h5:i<s.reqs.length:=af0
   have hw:=ae (n:=s.reqs.length) h3 af0;have hw1:IntKind.i64.wrap (((i+1:Nat):Int)-1)=(i:Int):=by rw[ar af0 af0];omega
   have hgd:(rows ay s.reqs).getD (i+1) []=ay (aO s.reqs (i+1)):=aK (f:=ay) gU h3;have hgp:(rows ay s.reqs).getD i []=ay (aO s.reqs i):=aK (f:=ay) gU h5;by_cases q1:(aO s.reqs i).tag<(aO s.reqs (i+1)).tag
   ·have ho:=ho.step q1;clear hv1 hv2;generalize aO s.reqs i=p at *;generalize aO s.reqs (i+1)=r at *;exact aw
   ·obtain rfl:=hv2 fun h=>q1 (h.2.1 (i+1) af0 h3)
    clear hv1 hv2;generalize aO s.reqs i=p at *;generalize aO s.reqs (i+1)=r at *;exact aw
  ·have h2:¬ ((s.reqs.length-1+1:Nat):Int)<((s.reqs.length:Nat):Int):=af0
   have hQ:∀k,0<k->k<s.reqs.length->(aO s.reqs (k-1)).tag<(aO s.reqs k).tag:=fun k h0 hk=>hQ k h0 af0 hk
   refine nx fun _=>?_
   refine oU (s.rets.length-1) (fun i=>okV s.rets (fun a b=>fv a b=true) (i+1)) (fun i=>[(11,.int .i64 ((i+1:Nat):Int)),(4,.dead)]) (fun _=>[.var (aG s.a)]) (fun k h0 hk=>af0) (fun i h1 ho _ _=>?_) (fun hY _=>?_)
   ·have h2:((i+1:Nat):Int)<((s.rets.length:Nat):Int):=af0
    have h3:i+1<s.rets.length:=af0
    have h4:(i:Int)<((s.rets.length:Nat):Int):=af0
    have h5:i<s.rets.length:=af0
    have hw:=ae (n:=s.rets.length) h3 af0;have hw1:IntKind.i64.wrap (((i+1:Nat):Int)-1)=(i:Int):=by rw[ar af0 af0];omega
    have hgd:(rows ay s.rets).getD (i+1) []=ay (aO s.rets (i+1)):=aK (f:=ay) gU h3;have hgp:(rows ay s.rets).getD i []=ay (aO s.rets i):=aK (f:=ay) gU h5;have hf:¬fv (aO s.rets i) (aO s.rets (i+1))=true->R=2:=fun q1=>hv2 fun h=>q1 (h.2.2 (i+1) af0 h3)
    have ho:fv (aO s.rets i) (aO s.rets (i+1))=true->okV s.rets (fun a b=>fv a b=true) (i+1+1):=fun q1=>ho.step q1
    clear hv1 hv2 hQ;by_cases q1:fv (aO s.rets i) (aO s.rets (i+1))=true
    ·have ho:=ho q1
     clear hf;unfold fv at q1;generalize aO s.rets i=p at *;generalize aO s.rets (i+1)=r at *;by_cases q2:r.due<p.due
     ·simp at q1;omega
     by_cases q3:r.due=p.due
     ·have q4:¬r.tag<=p.tag:=by simp at q1;omega
      clear q1;exact aw
     ·clear q1;exact aw
    ·obtain rfl:=hf q1
     clear ho;unfold fv at q1;generalize aO s.rets i=p at *;generalize aO s.rets (i+1)=r at *;by_cases q2:r.due<p.due
     ·exact aw
     ·have q3:r.due=p.due:=by simp at q1;omega
      have q4:r.tag<=p.tag:=by simp at q1;omega
      clear q1;exact aw
   ·have h2:¬ ((s.rets.length-1+1:Nat):Int)<((s.rets.length:Nat):Int):=af0
    obtain rfl:=hv1 ⟨hA,hQ,fun k h0 hk=>hY k h0 af0 hk⟩;clear hv2 hQ hA hY;exact aw
theorem xQ(s:al)(hr:Ly s.sto)(hnw:U64 s.sto.now)(hq:s.reqs.length<=2097152)(hy:s.rets.length<=2097152)(hd:∀r∈s.reqs,0<=r.due):PC Tryz.prog 40 [.agg (aG s.a)] (.int .i64 (valA s)):=by
 have hend:=A9 s hr.bn hq hy hd;refine pfn 14 rV ?_;have hc:cx=.seq cx.hd (.seq (cx.tl 1).hd (.seq (cx.tl 2).hd (cx.tl 3))):=rfl;rw[hc];clear hc;generalize cx.tl 3=cT at *;unfold cx;refine bd ?_;simp only[am.tl,am.hd];have c1:=RA s.sto hr hnw;unfold valA;generalize oz s.sto=V at *;by_cases q1:V=0
 case neg=>
  rw[afA q1];clear hend;exact aw
 subst q1;rw[afx af2];generalize hR:Lo s=R;unfold Lo at hR;by_cases q2:s.tag<1\/s.sto.cfg.lim.retry<s.rets.length\/(s.sent=false/\s.last≠jB)
 ·rw[afA q2]at hR;subst hR;clear hend;by_cases q3:s.tag<1
  ·exact aw
  by_cases q4:s.sto.cfg.lim.retry<s.rets.length
  ·exact aw
  obtain⟨q5,q6⟩:=(q2.resolve_left q3).resolve_left q4;have q7:(s.last=(⟨rt0,rt0,rt0⟩:Cmd))=False:=eq_false q6;clear q2 q6;exact aw
 rw[afx q2]at hR;have hend:=hend R (fun h=>by rw[<-hR,afA h]) (fun h=>by rw[<-hR,afx h]);rw[GG,GG]at q2;obtain⟨q2,q3,q4⟩:=q2;clear hR;by_cases q5:s.sent=true
 ·clear q4;refine nx fun _=>?_
  exact fN (by exact gcA) hend
 ·rw[acE]at q5;have q6:(s.last=(⟨rt0,rt0,rt0⟩:Cmd))=True:=eq_true (ae9 fun h=>q4 ⟨q5,h⟩);clear q4;refine nx fun _=>?_
  exact fN (by exact gcA) hend
end Go.Proofs.YtmpddimhleianaaGreat
