/- Joined. -/
import Derived.Test.YtmpddimhleianaaGreatT6v
import Derived.Test.YtmpddimhleianaaGreatV6v
import Derived.Test.YtmpddimhleianaaGreatR1v
import Derived.Test.YtmpddimhleianaaGreatW3v
import Derived.Test.YtmpddimhleianaaGreatT1v
import Derived.Test.YtmpddimhleianaaGreatV1v
import Derived.Test.YtmpddimhleianaaGreatW8v
set_option linter.unusedVariables false
set_option linter.unusedSimpArgs false
set_option maxRecDepth 8000
set_option maxHeartbeats 4000000
namespace Go.Proofs.YtmpddimhleianaaGreat
open Go Go.FH Go.RowKit
def mtg(T:List Int):List (List AV):=mns .u64 (T.map fun n=>(n,true))
theorem Ka(n:Int)(T:List Int):ko none (.int .u64 n) (mtg T)=some (T.findIdx? fun x=>x==n):=by
 unfold mtg;rw[sq,List.findIdx?_map];rfl
theorem ZF{n:Int}{T:List Int}(h:n∉T):ko none (.int .u64 n) (mtg T)=some none:=by
 rw[Ka,List.findIdx?_eq_none_iff.2 fun x hx=>by rw[adu];rintro rfl;exact h hx]
theorem Xu{n:Int}{T:List Int}(h:n∈T):∃j,ko none (.int .u64 n) (mtg T)=some (some j)/\((mtg T).getD j []).getD 1 .dead=.bool true:=by
 rw[Ka];cases hf:T.findIdx? fun x=>x==n with
 | none =>
   rw[List.findIdx?_eq_none_iff]at hf;have:=hf n h;simp at this
 | some j =>
   obtain⟨hj,_,_⟩:=adn.1 hf;exact⟨j,rfl,by unfold mtg;rw[wq _ _ _ (by simpa using hj)];simp⟩
theorem UP(T:List Int)(n:Int):mtg T++[[.int .u64 n,.bool true]]=mtg (T++[n]):=by simp[mtg,mns]
theorem I4(T:List Int):fU (mtg T):=AH _ _
theorem Rq(ρ:Nat->Nat)(T:List Int):dm ρ (mtg T)=mtg T:=(I4 T).ren ρ
theorem TJ(σ:St)(zs:List Nat)(T:List Int):gm σ zs (mtg T)=mtg T:=(I4 T).fz σ zs
attribute [go_sem] Rq TJ UP
def YI(s:al)(r:Req)(least:Int):Prop:=1<=r.tag/\r.tag<s.tag/\least<=r.tries/\r.tries<=1099511627776/\0<=ab s.sto.nodes r.block
def okQ(s:al)(k:Nat):Prop:=(k=0\/(aO s.reqs (k-1)).tag<(aO s.reqs k).tag)/\(aO s.reqs k).due=0/\YI s (aO s.reqs k) 0/\(aO s.reqs k).tag∉(s.reqs.take k).map (·.tag)
def okY(s:al)(k:Nat):Prop:=(k=0\/fv (aO s.rets (k-1)) (aO s.rets k)=true)/\1<=(aO s.rets k).due/\YI s (aO s.rets k) 1/\(aO s.rets k).tag∉s.reqs.map (·.tag)++(s.rets.take k).map (·.tag)
instance (s:al) (r:Req) (n:Int):Decidable (YI s r n):=by unfold YI;infer_instance
instance (s:al) (k:Nat):Decidable (okQ s k):=by unfold okQ;infer_instance
instance (s:al) (k:Nat):Decidable (okY s k):=by unfold okY;infer_instance
def uC(s:al):Prop:=(∀k,k<s.reqs.length->okQ s k)/\∀k,k<s.rets.length->okY s k
instance (s:al):Decidable (uC s):=by unfold uC;infer_instance
def Lo(s:al):Int:=if s.tag<1\/s.sto.cfg.lim.retry<s.rets.length\/(s.sent=false/\s.last≠jB)then 2 else if uC s then 0 else 2
def valA(s:al):Int:=if oz s.sto≠0 then oz s.sto else Lo s
def uW(s:al)(r:Req)(least:Int)(T:List Int):Bool:=decide (1<=r.tag/\r.tag<s.tag/\r.tag∉T/\least<=r.tries/\r.tries<=1099511627776)
theorem By(s:al)(hn:s.sto.nodes.length<=2097152)(r:Req)(least:Int)(T:List Int):
 aJ Tryz.prog 82 [.agg (aG s.a),.agg (ay r),.int .i64 least,.mp 0] [.map (mtg T)] (.bool (uW s r least T&&decide (0<=ab s.sto.nodes r.block))) [.map (mtg (if uW s r least T=true then T++[r.tag]else T))]:=by
 refine cZ 9 ?_;have c1:=dW s.sto.nodes r.block hn;generalize ab s.sto.nodes r.block=D at *;unfold uW;by_cases q1:r.tag<1
 ·have e1:=ax q1;rw[aD (p:=(1<=r.tag/\_)) (fun h=>af0),acI,afx af2];refine aW e1 ?_;exact abF [] [0]
 have e1:=aD q1;by_cases q2:s.tag<=r.tag
 ·have e2:decide (r.tag ≥ s.tag)=true:=ax q2;rw[aD (p:=(1<=r.tag/\_)) (fun h=>af0),acI,afx af2];refine dV e1 e2 ?_;exact abF [] [0]
 have e2:decide (r.tag ≥ s.tag)=false:=aD q2;by_cases q3:r.tag∈T
 ·obtain⟨j,j1,j2⟩:=Xu q3;rw[aD (p:=(1<=r.tag/\_)) (fun h=>h.2.2.1 q3),acI,afx af2];refine BR e1 e2 j1 j2 ?_;exact abF [] [0]
 have j1:=ZF q3;by_cases q4:r.tries<least
 ·have e4:=ax q4;rw[aD (p:=(1<=r.tag/\_)) (fun h=>af0),acI,afx af2];repeat(first|refine aM ?_|simp only[go_sem,e1,e2,j1,e4])
  refine aac ?_;exact abF [] [0]
 have e4:=aD q4;by_cases q5:1099511627776<r.tries
 ·have e5:decide (r.tries > 1099511627776)=true:=ax q5;have e5':decide (1099511627776<r.tries)=true:=ax q5;rw[aD (p:=(1<=r.tag/\_)) (fun h=>af0),acI,afx af2];repeat(first|refine aM ?_|simp only[go_sem,e1,e2,j1,e4,e5,e5'])
  refine aac ?_;exact abF [] [0]
 have e5:decide (r.tries > 1099511627776)=false:=aD q5;have e5':decide (1099511627776<r.tries)=false:=aD q5;rw[ax (p:=(1<=r.tag/\_)) ⟨af0,af0,q3,af0,af0⟩,acD,afA rfl];repeat(first|refine aM ?_|simp only[go_sem,e1,e2,j1,e4,e5,e5'])
 refine aI ?_;refine aA j1 ?_;refine abl c1 ?_;exact abF [] [0]
theorem MN(a b:Req):decide (orI [m0 a.due b.due,m0 a.tag b.tag] ≥ 0)=!fv a b:=by
 unfold fv;simp only[orI,m0];rcases Int.lt_trichotomy a.due b.due with h|h|h
 ·simp[h]
 ·rcases Int.lt_trichotomy a.tag b.tag with g|g|g
  ·simp[h,g,afu]
  ·simp[h,g,afu]
  ·simp[h,g,afu,ac8.2 (aez g)]
 ·simp[h,ac8.2 (aez h),show ¬a.due=b.due by omega]
theorem Kg(a b:Req):PC Tryz.prog 83 [.agg (ay a),.agg (ay b)] (.int .i64 (orI [m0 a.due b.due,m0 a.tag b.tag])):=by
 refine aQ 5 ?_;have c1:=yF a.due b.due;have c2:=yF a.tag b.tag;have c3:=OK [m0 a.due b.due,m0 a.tag b.tag] true af1;exact aw
def okU(s:al)(p:al->Nat->Prop)(n:Nat):Prop:=∀k,k<n->p s k
theorem okU.step{s:al}{p:al->Nat->Prop}{n:Nat}(h:okU s p n)(h1:p s n):okU s p (n+1):=fun k hk=>by
 by_cases q:k=n
 ·subst q;exact h1
 ·exact h k af0
theorem vE{l:List Req}{i:Nat}(h:i<l.length):(l.take (i+1)).map (·.tag)=(l.take i).map (·.tag)++[(aO l i).tag]:=by
 rw[acB,afz h,acu];unfold aO;rw[afy,afz h];rfl
theorem kK{s:al}{r:Req}{l:Int}{T:List Int}(h:YI s r l/\r.tag∉T):uW s r l T=true/\decide (0<=ab s.sto.nodes r.block)=true:=by
 obtain⟨⟨u1,u2,u3,u4,u5⟩,u6⟩:=h;unfold uW;exact⟨ax ⟨u1,u2,u6,u3,u4⟩,ax u5⟩
theorem vD{s:al}{r:Req}{l:Int}{T:List Int}(h:¬ (YI s r l/\r.tag∉T)):(uW s r l T&&decide (0<=ab s.sto.nodes r.block))=false:=by
 rw[<-acE,afL];rintro⟨h1,h2⟩;unfold uW at h1;rw[afJ]at h1 h2;exact h ⟨⟨h1.1,h1.2.1,h1.2.2.2.1,h1.2.2.2.2,h2⟩,h1.2.2.1⟩
theorem Rg(s:al)(hr:Ly s.sto)(hq:s.reqs.length<=2097152)(hy:s.rets.length<=2097152)(R:Int)(hv1:uC s->R=0)(hv2:¬uC s->R=2):Tri Tryz.prog 112 0 (dq.tl 3) (PQ [.tmp 2] (.int .i64 R)) ⟨82,[.dead,.ptr 0 0,.int .i64 0,.int .i64 0,.dead,.dead,.dead,.dead,.dead,.dead,.dead,.dead,.dead,.dead,.dead,.dead,.dead,.dead,.dead,.dead,.dead,.dead,.dead,.dead,.dead,.dead,.dead,.dead,.dead,.dead,.dead,.dead,.dead,.dead,.dead,.dead,.dead,.dead,.dead,.dead,.dead,.dead,.dead,.dead,.dead,.dead,.dead,.dead,.dead,.dead,.dead,.dead,.dead,.dead,.dead,.dead,.dead,.dead,.dead,.dead,.dead,.dead,.dead,.dead,.dead,.dead,.dead,.dead,.dead,.dead,.dead,.dead,.dead,.dead,.dead,.dead,.dead,.dead,.dead,.dead,.dead,.dead],[]⟩ [.var (aG s.a)]:=by
 unfold dq;refine bd ?_;simp only[am.tl];have ht0:mtg []=[]:=rfl;refine nx fun _=>?_
 refine oU s.reqs.length (okU s okQ) (fun i=>[(44,.int .i64 i)]) (fun i=>[.var (aG s.a),.map (mtg ((s.reqs.take i).map (·.tag)))]) (fun k hk=>absurd hk (acJ k)) (fun i h1 hk0 hw h2=>?_) (fun hQ _=>?_)
 ·have hgd:(rows ay s.reqs).getD i []=ay (aO s.reqs i):=aK (f:=ay) gU h1
  have hgp:(rows ay s.reqs).getD (i-1) []=ay (aO s.reqs (i-1)):=aK (f:=ay) gU af0;have hps:=vE h1;have hR:¬okQ s i->R=2:=fun hn=>hv2 fun h=>hn (h.1 i h1)
  have hI:=hk0.step (n:=i);have c2:=By s hr.bn (aO s.reqs i) 0 ((s.reqs.take i).map (·.tag));clear hv1 hv2 hk0;generalize okU s okQ (i+1)=C at *;unfold okQ at hR hI;generalize (s.reqs.take i).map (·.tag)=T at *;generalize aO s.reqs (i-1)=p at *;generalize aO s.reqs i=r at *;by_cases hz0:i=0
  ·have e0:¬ (i:Int) > 0:=af0
   have hz:i=0\/p.tag<r.tag:=.inl hz0;clear hz0;by_cases q2:r.due=0
   case neg=>
    obtain rfl:=hR fun h=>q2 (by have:=h.2.1;omega)
    exact aw
   by_cases q3:YI s r 0/\r.tag∉T
   ·have hC:=hI ⟨hz,af0,q3⟩;rw[(kK q3).1,(kK q3).2,afA rfl]at c2;refine nx fun _=>?_
    refine dce [1] c2 ?_;exact aw
   ·obtain rfl:=hR fun h=>q3 h.2.2
    rw[vD q3]at c2;refine nx fun _=>?_
    refine dce [1] c2 ?_;exact aw
  ·have e0:(i:Int) > 0:=af0
   have hw1:IntKind.i64.wrap ((i:Int)-1)=((i-1:Nat):Int):=by rw[ar af0 af0];omega
   have hlt:i-1<s.reqs.length:=af0
   have hltI:((i-1:Nat):Int)<((s.reqs.length:Nat):Int):=af0
   by_cases q1:p.tag<r.tag
   case neg=>
    obtain rfl:=hR fun h=>q1 (h.1.resolve_left hz0)
    exact aw
   have q0:¬r.tag<=p.tag:=af0
   by_cases q2:r.due=0
   case neg=>
    obtain rfl:=hR fun h=>q2 (by have:=h.2.1;omega)
    exact aw
   by_cases q3:YI s r 0/\r.tag∉T
   ·have hC:=hI ⟨.inr q1,af0,q3⟩;rw[(kK q3).1,(kK q3).2,afA rfl]at c2;refine nx fun _=>?_
    refine dce [1] c2 ?_;exact aw
   ·obtain rfl:=hR fun h=>q3 h.2.2
    rw[vD q3]at c2;refine nx fun _=>?_
    refine dce [1] c2 ?_;exact aw
 ·rw [acL]
  clear ht0;refine nx fun _=>?_
  refine oU s.rets.length (okU s okY) (fun i=>[(81,.int .i64 i)]) (fun i=>[.var (aG s.a),.map (mtg (s.reqs.map (·.tag)++(s.rets.take i).map (·.tag)))]) (fun k hk=>absurd hk (acJ k)) (fun i h1 hk0 hw h2=>?_) (fun hY _=>?_)
  ·have hgd:(rows ay s.rets).getD i []=ay (aO s.rets i):=aK (f:=ay) gU h1
   have hgp:(rows ay s.rets).getD (i-1) []=ay (aO s.rets (i-1)):=aK (f:=ay) gU af0;have hps:=vE h1;have hR:¬okY s i->R=2:=fun hn=>hv2 fun h=>hn (h.2 i h1)
   have hI:=hk0.step (n:=i);have c2:=By s hr.bn (aO s.rets i) 1 (s.reqs.map (·.tag)++(s.rets.take i).map (·.tag));have c3:=Kg (aO s.rets (i-1)) (aO s.rets i);have e3:=MN (aO s.rets (i-1)) (aO s.rets i);replace hps:s.reqs.map (·.tag)++(s.rets.take (i+1)).map (·.tag)=s.reqs.map (·.tag)++(s.rets.take i).map (·.tag)++[(aO s.rets i).tag]:=by rw[hps,afZ]
   clear hv1 hv2 hk0;generalize okU s okY (i+1)=C at *;unfold okY at hR hI;generalize s.reqs.map (·.tag)++(s.rets.take i).map (·.tag)=T at *;generalize aO s.rets (i-1)=p at *;generalize aO s.rets i=r at *;generalize orI [m0 p.due r.due,m0 p.tag r.tag]=O at *;by_cases hz0:i=0
   ·have e0:¬ (i:Int) > 0:=af0
    have hz:i=0\/fv p r=true:=.inl hz0;clear hz0;clear e3;by_cases q2:¬r.due<1
    case neg=>
     obtain rfl:=hR fun h=>q2 (by have:=h.2.1;omega)
     exact aw
    by_cases q3:YI s r 1/\r.tag∉T
    ·have hC:=hI ⟨hz,af0,q3⟩;rw[(kK q3).1,(kK q3).2,afA rfl]at c2;refine nx fun _=>?_
     refine dce [1] c2 ?_;exact aw
    ·obtain rfl:=hR fun h=>q3 h.2.2
     rw[vD q3]at c2;refine nx fun _=>?_
     refine dce [1] c2 ?_;exact aw
   ·have e0:(i:Int) > 0:=af0
    have hw1:IntKind.i64.wrap ((i:Int)-1)=((i-1:Nat):Int):=by rw[ar af0 af0];omega
    have hlt:i-1<s.rets.length:=af0
    have hltI:((i-1:Nat):Int)<((s.rets.length:Nat):Int):=af0
    by_cases q1:fv p r=true
    case neg=>
     obtain rfl:=hR fun h=>q1 (h.1.resolve_left hz0)
     rw[acE]at q1;rw[q1]at e3;replace e3:0<=O:=ac3 e3
     exact aw
    rw[q1]at e3;replace e3:¬0<=O:=adi e3
    by_cases q2:¬r.due<1
    case neg=>
     obtain rfl:=hR fun h=>q2 (by have:=h.2.1;omega)
     exact aw
    by_cases q3:YI s r 1/\r.tag∉T
    ·have hC:=hI ⟨.inr q1,af0,q3⟩;rw[(kK q3).1,(kK q3).2,afA rfl]at c2;refine nx fun _=>?_
     refine dce [1] c2 ?_;exact aw
    ·obtain rfl:=hR fun h=>q3 h.2.2
     rw[vD q3]at c2;refine nx fun _=>?_
     refine dce [1] c2 ?_;exact aw
  ·obtain rfl:=hv1 ⟨hQ,hY⟩;clear hv2;exact aw
theorem Np(s:al)(hr:Ly s.sto)(hq:s.reqs.length<=2097152)(hy:s.rets.length<=2097152):PC Tryz.prog 39 [.agg (aG s.a)] (.int .i64 (valA s)):=by
 have hend:=Rg s hr hq hy;refine pfn 82 vT ?_;have hc:dq=.seq dq.hd (.seq (dq.tl 1).hd (.seq (dq.tl 2).hd (dq.tl 3))):=rfl;rw[hc];clear hc;generalize dq.tl 3=cT at *;unfold dq;refine bd ?_;simp only[am.tl,am.hd];have c1:=Rf s.sto hr;unfold valA;generalize oz s.sto=V at *;by_cases q1:V=0
 case neg=>
  rw[afA q1];clear hend;exact aw
 subst q1;rw[afx af2];generalize hR:Lo s=R;unfold Lo at hR;by_cases q2:s.tag<1\/s.sto.cfg.lim.retry<s.rets.length\/(s.sent=false/\s.last≠jB)
 ·rw[afA q2]at hR;subst hR;clear hend;by_cases q3:s.tag<1
  ·exact aw
  by_cases q4:s.sto.cfg.lim.retry<s.rets.length
  ·exact aw
  obtain⟨q5,q6⟩:=(q2.resolve_left q3).resolve_left q4;have q7:(s.last=(⟨rt0,rt0,rt0⟩:Cmd))=False:=eq_false q6;clear q2 q6;exact aw
 rw[afx q2]at hR;have hend:=hend R (fun h=>by rw[<-hR,afA h]) (fun h=>by rw[<-hR,afx h]);rw[GG,GG]at q2;obtain⟨q2,q3,q4⟩:=q2;clear hR;by_cases q5:s.sent=true
 ·clear q4;refine nx fun _=>?_
  exact fN (by exact gcA) hend
 ·rw[acE]at q5;have q6:(s.last=(⟨rt0,rt0,rt0⟩:Cmd))=True:=eq_true (ae9 fun h=>q4 ⟨q5,h⟩);clear q4;refine nx fun _=>?_
  exact fN (by exact gcA) hend
end Go.Proofs.YtmpddimhleianaaGreat
namespace Go.Proofs.YtmpddimhleianaaGreat
open Go Go.FH
structure Mn{α:Type}(r:RR α):Prop where
 z:∀ {bs e},(r bs e).2.2=0->e=0
 m:∀ {bs:List UInt8},(r bs 0).2.2=0->∀t,r (bs++t) 0=((r bs 0).1,(r bs 0).2.1++t,0)
def rb{α β:Type}(r:RR α)(f:α->RR β):RR β:=fun bs e=>f (r bs e).1 (r bs e).2.1 (r bs e).2.2
end Go.Proofs.YtmpddimhleianaaGreat
namespace Go.Proofs.YtmpddimhleianaaGreat
open Go Go.FH Go.RowKit
def iE(n:Int):List UInt8:=br n.toNat
def lsE{α:Type}(f:α->List UInt8)(l:List α):List UInt8:=br l.length++l.flatMap f
def aaN(x:Lim):List UInt8:=iE x.node++(iE x.orph++(iE x.early++(iE x.table++(iE x.retry++iE x.backoff))))
def aay(c:cI):List UInt8:=aaN c.lim++(iE c.spe++(iE c.boost++((cQ c.ttd).1++(c.gen.1++lsE iE c.bals))))
def Wn(v:Vot):List UInt8:=oC v.has++if v.has=true then iE v.ep++v.root.1 else []
def Pt(a:aX):List UInt8:=aa8 (LA a.a a.vals)
def US(n:Nod):List UInt8:=Es n.blk++(iE (n.up+1)++iE n.status)
def Su(t:aB):List UInt8:=Dr t.a t.bals
def KK(r:Req):List UInt8:=iE r.tag++(r.block.1++(iE r.tries++iE r.due))
def WX(c:Cmd):List UInt8:=c.head.1++(c.safe.1++c.fin.1)
def pp(s:al):List UInt8:=aay s.sto.cfg++(lsE Wn s.sto.latest++(lsE iE s.sto.eqv++(eM s.sto.j++(eM s.sto.f++(lsE Pt s.sto.early++(lsE Es s.sto.orph++(lsE US s.sto.nodes++(iE s.sto.now++(s.sto.boost.1++(lsE Su s.sto.tabs
 ++ (lsE KK s.reqs++(lsE KK s.rets++(iE s.tag++(oC s.sent++((if s.sent=true then WX s.last else [])++(oC s.over++oC s.halt))))))))))))))))
structure Rdr where
 C:RR Int
 W:RR Int
 A:RR aX
 B:RR Blk
 T:RR aB
structure Wy{α:Type}(r:RR α)(enc:List UInt8)(v:α):Prop where
 f:∀t,r (enc++t) 0=(v,t,0)
def aau(r:RR Int)(m:Int):Prop:=∀n,0<=n->n<=m->Wy r (iE n) n
abbrev WdU(a:Wd):Prop:=∀n∈a.1,0<=n/\n<18446744073709551616
abbrev md(n:Int):Prop:=0<=n/\n<=1099511627776
structure Lx(b:Blk):Prop where
 u:I1 b
 d:WdU b.diff
 p:WdU b.pdiff
structure SN(s:al):Prop where
 l1:md s.sto.cfg.lim.node
 l2:md s.sto.cfg.lim.orph
 l3:md s.sto.cfg.lim.early
 l4:md s.sto.cfg.lim.table
 l5:md s.sto.cfg.lim.retry
 l6:U64 s.sto.cfg.lim.backoff
 c1:U64 s.sto.cfg.spe
 c2:U64 s.sto.cfg.boost
 c3:WdU s.sto.cfg.ttd
 c4:∀n∈s.sto.cfg.bals,U64 n
 v1:∀v∈s.sto.latest,U64 v.ep/\(v.has=false->v=eY)
 v2:∀n∈s.sto.eqv,md n
 j:U64 s.sto.j.ep
 f:U64 s.sto.f.ep
 a:∀a∈s.sto.early,U64 a.slot/\U64 a.target.ep/\cM a.vals 1024=0
 o:∀b∈s.sto.orph,Lx b
 n:∀n∈s.sto.nodes,Lx n.blk/\md (n.up+1)/\md n.status
 w:U64 s.sto.now
 t:∀t∈s.sto.tabs,U64 t.cp.ep/\t.bals.length<=1024/\∀n∈t.bals,U64 n
 q:∀r∈s.reqs,U64 r.tag/\md r.tries/\U64 r.due
 y:∀r∈s.rets,U64 r.tag/\md r.tries/\U64 r.due
 g:U64 s.tag
 m:s.sent=false->s.last=jB
structure aav(s:al):Prop extends SN s where
 len:(pp s).length<=1048576
structure abQ(d:Rdr):Prop where
 C:aau d.C 1048576
 W:aau d.W 1099511627776
 A:∀a:aX,U64 a.slot->U64 a.target.ep->cM a.vals 1024=0->Wy d.A (Pt a) a
 B:∀b,Lx b->Wy d.B (Es b) b
 T:∀t:aB,U64 t.cp.ep->t.bals.length<=1024->(∀n∈t.bals,U64 n)->Wy d.T (Su t) t
end Go.Proofs.YtmpddimhleianaaGreat
