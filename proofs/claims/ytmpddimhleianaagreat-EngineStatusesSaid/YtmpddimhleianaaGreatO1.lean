/- Joined. -/
import Derived.Test.YtmpddimhleianaaGreatT6
import Derived.Test.YtmpddimhleianaaGreatV6
import Derived.Test.YtmpddimhleianaaGreatW3
import Derived.Test.YtmpddimhleianaaGreatChecked
import Derived.KernelRfl
import Derived.Test.YtmpddimhleianaaGreatT1
import Derived.Test.YtmpddimhleianaaGreatV1
import Derived.Test.YtmpddimhleianaaGreatW8
set_option linter.unusedVariables false
set_option linter.unusedSimpArgs false
set_option maxRecDepth 8000
set_option maxHeartbeats 4000000
namespace Go.Proofs.YtmpddimhleianaaGreat
open Go Go.FH Go.RowKit
def Z6(s:aI)(r:Req)(least:Int):Prop:=1<=r.tag/\r.tag<s.tag/\least<=r.tries/\r.tries<=1099511627776/\0<=aj s.sto.nodes r.block
def okQ(s:aI)(k:Nat):Prop:=(k=0\/(bm s.reqs (k-1)).tag<(bm s.reqs k).tag)/\(bm s.reqs k).due=0/\Z6 s (bm s.reqs k) 0/\(bm s.reqs k).tag∉(s.reqs.take k).map (·.tag)
def okY(s:aI)(k:Nat):Prop:=(k=0\/gC (bm s.rets (k-1)) (bm s.rets k)=true)/\1<=(bm s.rets k).due/\Z6 s (bm s.rets k) 1/\(bm s.rets k).tag∉s.reqs.map (·.tag)++(s.rets.take k).map (·.tag)
instance (s:aI) (r:Req) (n:Int):Decidable (Z6 s r n):=by unfold Z6;infer_instance
instance (s:aI) (k:Nat):Decidable (okQ s k):=by unfold okQ;infer_instance
instance (s:aI) (k:Nat):Decidable (okY s k):=by unfold okY;infer_instance
def pN(s:aI):Prop:=(∀k,k<s.reqs.length->okQ s k)/\∀k,k<s.rets.length->okY s k
instance (s:aI):Decidable (pN s):=by unfold pN;infer_instance
def LP(s:aI):Int:=if s.tag<1\/s.sto.cfg.lim.retry<s.rets.length\/(s.sent=false/\s.last≠fS)then 2 else if pN s then 0 else 2
def valA(s:aI):Int:=if oL s.sto≠0 then oL s.sto else LP s
theorem abZ(a b:Req):decide (orI [xX a.due b.due,xX a.tag b.tag] ≥ 0)=!gC a b:=by
 unfold gC;simp only[orI,xX];rcases Int.lt_trichotomy a.due b.due with h|h|h
 ·simp[h]
 ·rcases Int.lt_trichotomy a.tag b.tag with g|g|g
  ·simp[h,g,alW]
  ·simp[h,g,alW]
  ·simp[h,g,alW,alY.2 (ala g)]
 ·simp[h,alY.2 (ala h),show ¬a.due=b.due by omega]
theorem ab0(a b:Req):PC Tryz.prog 83 [.agg (aP a),.agg (aP b)] (.int .i64 (orI [xX a.due b.due,xX a.tag b.tag])):=by
 refine ae 5 ?_;have c1:=EL a.due b.due;have c2:=EL a.tag b.tag;have c3:=WD [xX a.due b.due,xX a.tag b.tag] true WM;refine gon ?_;refine aK (c1) ?_;refine gon ?_;refine aK (c2) ?_;refine gon ?_;refine aK (c3) ?_;refine gon ?_;exact ai
end Go.Proofs.YtmpddimhleianaaGreat
namespace Go.Proofs.YtmpddimhleianaaGreat
open Go Go.FH
structure Mn{α:Type}(r:RR α):Prop where
 z:∀ {bs e},(r bs e).2.2=0->e=0
 m:∀ {bs:List UInt8},(r bs 0).2.2=0->∀t,r (bs++t) 0=((r bs 0).1,(r bs 0).2.1++t,0)
def rb{α β:Type}(r:RR α)(f:α->RR β):RR β:=fun bs e=>f (r bs e).1 (r bs e).2.1 (r bs e).2.2
end Go.Proofs.YtmpddimhleianaaGreat
namespace Go.Proofs.YtmpddimhleianaaGreat
open Go Go.FH Go.RowKit
def iE(n:Int):List UInt8:=br n.toNat
def lsE{α:Type}(f:α->List UInt8)(l:List α):List UInt8:=br l.length++l.flatMap f
def YF(x:Lim):List UInt8:=iE x.node++(iE x.orph++(iE x.early++(iE x.table++(iE x.retry++iE x.backoff))))
def vt(c:cU):List UInt8:=YF c.lim++(iE c.spe++(iE c.boost++((cK c.ttd).1++(c.gen.1++lsE iE c.bals))))
def rd(v:Vot):List UInt8:=fW v.has++if v.has=true then iE v.ep++v.root.1 else []
def sC(a:bp):List UInt8:=uD (oW a.a a.vals)
def rZ(n:Nod):List UInt8:=i9 n.blk++(iE (n.up+1)++iE n.status)
def pU(t:aW):List UInt8:=oK t.a t.bals
def mZ(r:Req):List UInt8:=iE r.tag++(r.block.1++(iE r.tries++iE r.due))
def QO(c:Cmd):List UInt8:=c.head.1++(c.safe.1++c.fin.1)
def ej(s:aI):List UInt8:=vt s.sto.cfg++(lsE rd s.sto.latest++(lsE iE s.sto.eqv++(dt s.sto.j++(dt s.sto.f++(lsE sC s.sto.early++(lsE i9 s.sto.orph++(lsE rZ s.sto.nodes++(iE s.sto.now++(s.sto.boost.1++(lsE pU s.sto.tabs
 ++ (lsE mZ s.reqs++(lsE mZ s.rets++(iE s.tag++(fW s.sent++((if s.sent=true then QO s.last else [])++(fW s.over++fW s.halt))))))))))))))))
structure Rdr where
 C:RR Int
 W:RR Int
 A:RR bp
 B:RR Blk
 T:RR aW
structure gZ{α:Type}(r:RR α)(enc:List UInt8)(v:α):Prop where
 f:∀t,r (enc++t) 0=(v,t,0)
def Xq(r:RR Int)(m:Int):Prop:=∀n,0<=n->n<=m->gZ r (iE n) n
abbrev WdU(a:Wd):Prop:=∀n∈a.1,0<=n/\n<18446744073709551616
abbrev fR(n:Int):Prop:=0<=n/\n<=1099511627776
structure Dh(b:Blk):Prop where
 u:NQ b
 d:WdU b.diff
 p:WdU b.pdiff
structure AB(s:aI):Prop where
 l1:fR s.sto.cfg.lim.node
 l2:fR s.sto.cfg.lim.orph
 l3:fR s.sto.cfg.lim.early
 l4:fR s.sto.cfg.lim.table
 l5:fR s.sto.cfg.lim.retry
 l6:U64 s.sto.cfg.lim.backoff
 c1:U64 s.sto.cfg.spe
 c2:U64 s.sto.cfg.boost
 c3:WdU s.sto.cfg.ttd
 c4:∀n∈s.sto.cfg.bals,U64 n
 v1:∀v∈s.sto.latest,U64 v.ep/\(v.has=false->v=dL)
 v2:∀n∈s.sto.eqv,fR n
 j:U64 s.sto.j.ep
 f:U64 s.sto.f.ep
 a:∀a∈s.sto.early,U64 a.slot/\U64 a.target.ep/\cE a.vals 1024=0
 o:∀b∈s.sto.orph,Dh b
 n:∀n∈s.sto.nodes,Dh n.blk/\fR (n.up+1)/\fR n.status
 w:U64 s.sto.now
 t:∀t∈s.sto.tabs,U64 t.cp.ep/\t.bals.length<=1024/\∀n∈t.bals,U64 n
 q:∀r∈s.reqs,U64 r.tag/\fR r.tries/\U64 r.due
 y:∀r∈s.rets,U64 r.tag/\fR r.tries/\U64 r.due
 g:U64 s.tag
 m:s.sent=false->s.last=fS
structure afO(s:aI):Prop extends AB s where
 len:(ej s).length<=1048576
structure adn(d:Rdr):Prop where
 C:Xq d.C 1048576
 W:Xq d.W 1099511627776
 A:∀a:bp,U64 a.slot->U64 a.target.ep->cE a.vals 1024=0->gZ d.A (sC a) a
 B:∀b,Dh b->gZ d.B (i9 b) b
 T:∀t:aW,U64 t.cp.ep->t.bals.length<=1024->(∀n∈t.bals,U64 n)->gZ d.T (pU t) t
end Go.Proofs.YtmpddimhleianaaGreat
