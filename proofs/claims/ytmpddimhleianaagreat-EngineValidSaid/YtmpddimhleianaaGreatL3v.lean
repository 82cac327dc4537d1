/- Joined. -/
import Derived.Test.YtmpddimhleianaaGreatE7v
import Derived.Test.YtmpddimhleianaaGreatFiv
import Derived.Test.YtmpddimhleianaaGreatO2v
import Derived.Test.YtmpddimhleianaaGreatP5v
set_option linter.unusedVariables false
set_option linter.unusedSimpArgs false
set_option maxRecDepth 8000
set_option maxHeartbeats 4000000
namespace Go.Proofs.YtmpddimhleianaaGreat
open Go Go.FH Go.RowKit
theorem vF(X:al)(r:Ly X.sto)(hw:U64 X.sto.now)(h:CpA X)(hd:∀q∈X.reqs,0<=q.due):Tri Tryz.prog 167 0 (bx.tl 8) (PQ [.tmp 6] (.bool true)) ⟨137,[.dead,.dead,.dead,.dead,.dead,.dead,.bool false,.ptr 0 0,.dead,.dead,.dead,.dead,.dead,.dead,.dead,.dead,.dead,.dead,.dead,.dead,.dead,.dead,.dead,.dead,.dead,.dead,.dead,.dead,.dead,.dead,.dead,.dead,.dead,.dead,.dead,.dead,.dead,.dead,.dead,.dead,.dead,.dead,.dead,.dead,.dead,.dead,.dead,.dead,.dead,.dead,.dead,.dead,.dead,.dead,.dead,.dead,.dead,.dead,.dead,.dead,.dead,.dead,.dead,.dead,.dead,.dead,.dead,.dead,.dead,.dead,.dead,.dead,.dead,.dead,.dead,.dead,.dead,.dead,.dead,.dead,.dead,.dead,.dead,.dead,.dead,.dead,.dead,.dead,.dead,.dead,.dead,.dead,.dead,.dead,.dead,.dead,.dead,.dead,.dead,.dead,.dead,.dead,.dead,.dead,.dead,.dead,.dead,.dead,.dead,.dead,.dead,.dead,.dead,.dead,.dead,.dead,.dead,.dead,.dead,.dead,.dead,.dead,.dead,.dead,.dead,.dead,.dead,.dead,.dead,.dead,.dead,.dead,.dead,.dead,.dead,.dead,.dead],[]⟩ [.var (aG X.a)]:=by
 unfold bx;refine bd ?_;simp only[am.tl];have ca:=G8;have c1:=xQ X r hw h.rq h.ry hd;have c2:=Np X r h.rq h.ry;generalize valA X=V at *;by_cases q:V=0
 ·subst q;have c3:=W9 X h c2;refine nx fun _=>?_
  refine oce [] c3 ?_;exact aw
 ·have c3:=Fk X V q c2;exact aw
theorem pc_EngineValid(l:List Int)(hl:l.length<=maxLen)(hwl:∀z∈l,(Lit.int .i64 z).wf=true)(which:Int)(hwh:(Lit.int .i64 which).wf=true)(k:Int)(hk:(Lit.int .i64 k).wf=true):PC Tryz.prog 11 [.sl 1 false (ah .i64 l),.int .i64 which,.int .i64 k] (.bool true):=by
 have tl:=vF;obtain⟨s,hg,cs⟩:=Dd l;have r:=hg.ty.hr;have hw:=hg.a.sto.nw.1;have hC:=hg.cp;have cv:=Np s r hC.rq hC.ry;rw[hg.valA]at cv;have hd:∀q∈s.reqs,0<=q.due:=fun q hq=>by have:=(hg.w.q2 q hq).2.2.1;omega
 have hrq:=hg.a.rq;have hyl:=hg.a.yl;have hii:=hg.a.sto.ii;have hnp:=hg.v.w.tree.pos;obtain⟨K,hK⟩:=Xo k;obtain⟨p,hp,hpl⟩:=dP (k:=fd .i64 (K:Int) 4) (n:=s.sto.nodes.length) (ni 4 af0) hnp;have hgn:=dv hpl;have hn0:¬ ((s.sto.nodes.length:Nat):Int)=0:=af0
 have cb:=gM 3000;obtain⟨A,hA⟩:∃A,IntKind.u64.wrap (gD .i64 (K:Int) 7)=A:=⟨_,rfl⟩
 obtain⟨B,hB⟩:∃B,IntKind.u64.wrap (gD .i64 (K:Int) 15)=B:=⟨_,rfl⟩
 obtain⟨D,hD,hD0⟩:∃D,IntKind.u64.wrap (gD .i64 (fd .i64 (K:Int) 10) 3)=D/\0<=D:=⟨_,rfl,(dc _).1⟩
 obtain⟨E,hE⟩:∃E,gD .i64 (fd .i64 (K:Int) 8) 3=E:=⟨_,rfl⟩
 have aj:=tl s r hw hC hd;clear hg;refine pfn 137 mg ?_;have hc:bx=.seq bx.hd (.seq (bx.tl 1).hd (.seq (bx.tl 2).hd (.seq (bx.tl 3).hd (.seq (bx.tl 4).hd (.seq (bx.tl 5).hd (.seq (bx.tl 6).hd (.seq (bx.tl 7).hd (bx.tl 8)))))))):=rfl;rw[hc];clear hc;generalize bx.tl 8=cT at *;unfold bx;refine bd ?_;simp only[am.tl,am.hd];generalize hW:gD .i64 which 15=W;have hsn:=dn ay s.reqs ⟨B,(nod s.sto.nodes p).blk.root,E,D⟩;have hsy:=dn ay s.rets ⟨B,(nod s.sto.nodes p).blk.root,E,D⟩;by_cases q0:W=0
 ·subst q0;have t:=tl ⟨s.sto,s.reqs,s.rets,A,s.sent,s.last,s.over,s.halt⟩ r hw ⟨hC.st,hC.rq,hC.ry⟩ hd;refine nx fun _=>?_
  refine fN ?_ t;exact GC.mk' [2,3] [0] af1 rfl af1 af1 evd evd
 by_cases q1:W=1
 ·subst q1
  have t:=tl ⟨s.sto,s.reqs++[⟨B,(nod s.sto.nodes p).blk.root,E,D⟩],s.rets,s.tag,s.sent,s.last,s.over,s.halt⟩ r hw ⟨hC.st,by simp;omega,hC.ry⟩ (fun q hq=>by
   rcases afR.1 hq with h|h
   ·exact hd q h
   ·obtain rfl:=afN.1 h;exact hD0)
  refine nx fun _=>?_
  refine fN ?_ t;exact GC.mk' [4,3] [0] af1 rfl af1 af1 evd evd
 by_cases q2:W=2
 ·subst q2;have t:=tl ⟨s.sto,s.reqs,s.rets++[⟨B,(nod s.sto.nodes p).blk.root,E,D⟩],s.tag,s.sent,s.last,s.over,s.halt⟩ r hw ⟨hC.st,hC.rq,by simp;omega⟩ hd;refine nx fun _=>?_
  refine fN ?_ t;exact GC.mk' [2,4] [0] af1 rfl af1 af1 evd evd
 by_cases q3:W=3
 ·subst q3;have t:=tl ⟨s.sto,s.reqs,s.rets,s.tag,!s.sent,s.last,s.over,s.halt⟩ r hw ⟨hC.st,hC.rq,hC.ry⟩ hd;refine nx fun _=>?_
  refine fN ?_ t;exact GC.mk' [2,3] [0] af1 rfl af1 af1 evd evd
 by_cases q8:W=8
 ·subst q8;have t:=tl ⟨⟨s.sto.cfg,s.sto.latest,s.sto.eqv,s.sto.j,s.sto.f,s.sto.early,s.sto.orph,s.sto.nodes,s.sto.now,lz 3000,s.sto.tabs⟩,s.reqs,s.rets,s.tag,s.sent,s.last,s.over,s.halt⟩ ⟨r.bn,r.bl,r.be,r.bt,r.bb,r.bu,r.bo,r.ba,r.bv,r.bc,r.cu,r.uf⟩ hw ⟨⟨hC.st.bn,hC.st.bl,hC.st.be,hC.st.bt,hC.st.bb,hC.st.bo,hC.st.ba,hC.st.bv,hC.st.bc⟩,hC.rq,hC.ry⟩ hd;refine nx fun _=>?_
  refine fN ?_ t;exact GC.mk' [2,3] [0] af1 rfl af1 af1 evd evd
 have hset:=pY ay;by_cases q4:W=4\/W=7
 ·by_cases hn:s.reqs.length=0
  ·have h0:¬ (0:Int)<(s.reqs.length:Int):=af0
   clear hn;rcases q4 with rfl|rfl<;>(refine nx fun _=>?_;refine fN ?_ aj;exact GC.mk' [2,3] [0] af1 rfl af1 af1 evd evd)
  have h0:(0:Int)<(s.reqs.length:Int):=af0
  have h1:0<s.reqs.length:=af0
  have hg0:=aK (f:=ay) (l:=s.reqs) (i:=0) gU h1;have hm:∀v:Req,List.take s.reqs.length (rows ay (s.reqs.set 0 v))=rows ay (s.reqs.set 0 v):=fun v=>afD af1
  have hd0:=hd _ (cR gU h1);generalize s.reqs.getD 0 gU=R0 at *;obtain⟨a,b,c,d⟩:=R0
  have t:=fun(v:Req) (hv:0<=v.due)=>tl ⟨s.sto,s.reqs.set 0 v,s.rets,s.tag,s.sent,s.last,s.over,s.halt⟩ r hw ⟨hC.st,by simp;omega,hC.ry⟩ (fun q hq=>by
   rcases aeB hq with h|rfl
   ·exact hd q h
   ·exact hv)
  clear aj tl;rcases q4 with rfl|rfl
  ·have t:=t ⟨a,b,c,1⟩ Int.one_nonneg;refine nx fun _=>?_
   refine fN ?_ t;exact GC.mk' [2,3] [0] af1 rfl af1 af1 (by(try simp only[go_sem,hm,adO]);try exact evd) evd
  ·have t:=t ⟨a,lz 3000,c,d⟩ hd0;refine nx fun _=>?_
   refine fN ?_ t;exact GC.mk' [2,3] [0] af1 rfl af1 af1 (by(try simp only[go_sem,hm,adO]);try exact evd) evd
 have n4:¬W=4:=fun h=>q4 (.inl h)
 have n7:¬W=7:=fun h=>q4 (.inr h)
 clear q4;by_cases q5:W=5
 ·subst q5
  by_cases hn:s.rets.length=0
  ·have h0:¬ (0:Int)<(s.rets.length:Int):=af0
   clear hn;refine nx fun _=>?_
   refine fN ?_ aj;exact GC.mk' [2,3] [0] af1 rfl af1 af1 evd evd
  have h0:(0:Int)<(s.rets.length:Int):=af0
  have h1:0<s.rets.length:=af0
  have hg0:=aK (f:=ay) (l:=s.rets) (i:=0) gU h1;have hm:∀v:Req,List.take s.rets.length (rows ay (s.rets.set 0 v))=rows ay (s.rets.set 0 v):=fun v=>afD af1
  generalize s.rets.getD 0 gU=R0 at *;obtain⟨a,b,c,d⟩:=R0;have t:=tl ⟨s.sto,s.reqs,s.rets.set 0 ⟨a,b,0,d⟩,s.tag,s.sent,s.last,s.over,s.halt⟩ r hw ⟨hC.st,hC.rq,by simp;omega⟩ hd;clear aj tl;refine nx fun _=>?_
  refine fN ?_ t;exact GC.mk' [2,3] [0] af1 rfl af1 af1 (by(try simp only[go_sem,hm,adO]);try exact evd) evd
 by_cases q6:W=6
 ·subst q6
  by_cases hn:s.reqs.length<=1
  ·have h0:¬ (1:Int)<(s.reqs.length:Int):=af0
   refine nx fun _=>?_
   refine fN ?_ aj;exact GC.mk' [2,3] [0] af1 rfl af1 af1 evd evd
  have h0:(1:Int)<(s.reqs.length:Int):=af0
  have h1:0<s.reqs.length:=af0
  have h2:1<s.reqs.length:=af0
  have hg0:=aK (f:=ay) (l:=s.reqs) (i:=0) gU h1;have hg1:=aK (f:=ay) (l:=s.reqs) (i:=1) gU h2;have hm:∀u v:Req,List.take s.reqs.length (rows ay ((s.reqs.set 0 u).set 1 v))=rows ay ((s.reqs.set 0 u).set 1 v):=fun u v=>afD af1
  have hd0:=hd _ (cR gU h1);have hd1:=hd _ (cR gU h2);generalize s.reqs.getD 0 gU=R0 at *;generalize s.reqs.getD 1 gU=R1 at *
  have t:=tl ⟨s.sto,(s.reqs.set 0 R1).set 1 R0,s.rets,s.tag,s.sent,s.last,s.over,s.halt⟩ r hw ⟨hC.st,by simp;omega,hC.ry⟩ (fun q hq=>by
   rcases aeB hq with h|rfl
   ·rcases aeB h with h|rfl
    ·exact hd q h
    ·exact hd1
   ·exact hd0)
  clear aj tl;refine nx fun _=>?_
  refine fN ?_ t;exact GC.mk' [2,3] [0] af1 rfl af1 af1 (by(try simp only[go_sem,hm,adO]);try exact evd) evd
 refine nx fun _=>?_
 refine fN ?_ aj;exact GC.mk' [2,3] [0] af1 rfl af1 af1 evd evd
end Go.Proofs.YtmpddimhleianaaGreat
