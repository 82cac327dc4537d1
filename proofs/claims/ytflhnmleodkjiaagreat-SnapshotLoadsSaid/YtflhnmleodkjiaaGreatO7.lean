/- Joined. -/
import Derived.Test.YtflhnmleodkjiaaGreatO6
import Derived.Test.YtflhnmleodkjiaaGreatP5
import Derived.Test.YtflhnmleodkjiaaGreatT6
set_option linter.unusedVariables false
set_option linter.unusedSimpArgs false
set_option maxRecDepth 8000
set_option maxHeartbeats 4000000
namespace Go.Proofs.YtflhnmleodkjiaaGreat
open Go Go.FH Go.RowKit
structure fH(s:aI)(n T:Int):Prop where
 t0:1<=s.tag
 t1:s.tag<=T
 q1:s.reqs.Pairwise fun a b=>a.tag<b.tag
 q2:∀r∈s.reqs,1<=r.tag/\r.tag<s.tag/\r.due=0/\0<=r.tries/\r.tries<=n
 y1:s.rets.Pairwise fun a b=>gC a b=true
 y2:∀r∈s.rets,1<=r.tag/\r.tag<s.tag/\1<=r.due/\r.due<18446744073709551616/\1<=r.tries/\r.tries<=n
 y3:∀r∈s.reqs,∀y∈s.rets,r.tag≠y.tag
 y4:s.rets.Pairwise fun a b=>a.tag≠b.tag
 yl:(s.rets.length:Int)<=s.sto.cfg.lim.retry
 sn:s.sent=false->s.last=fS
 bo:0<=s.sto.cfg.boost
structure kV(s:aI):Prop where
 q:∀r∈s.reqs,0<=aj s.sto.nodes r.block
 y:∀r∈s.rets,0<=aj s.sto.nodes r.block
theorem sk{l:List Req}{k:Nat}(h:k<l.length):l.take (k+1)=l.take k++[bm l k]:=by
 unfold bm;rw[List.take_succ_eq_append_getElem h,alt,al6 h];rfl
theorem Cu{c:cU}(h:ib c=0):1<=c.lim.backoff/\c.lim.backoff<=1048576:=by
 unfold ib at h;constructor
 ·omega
 omega
theorem fH.emit{s:aI}{n T:Int}(h:fH s n T)(a:kV s):fH (io s).1 n T/\kV (io s).1:=by
 unfold io;split
 ·grind
 ·exact⟨⟨h.t0,h.t1,h.q1,h.q2,h.y1,h.y2,h.y3,h.y4,h.yl,(fun h=>by grind),h.bo⟩,a.q,a.y⟩
theorem Is{l:List Req}(h:l.Pairwise fun a b=>a.tag≠b.tag){k:Nat}(e:k<l.length):(bm l k).tag∉(l.take k).map (·.tag):=by
 have f:=h;rw[<-amF (k+1) l,sk e,ajw,ajw]at f;grind
theorem WI{l:List Req}{R:Req->Req->Prop}(h:l.Pairwise R){k:Nat}(b:k<l.length):k=0\/R (bm l (k-1)) (bm l k):=by
 rcases ajQ k with c|c
 ·omega
 ·have d:=ajW.1 h (k-1) k (by omega) b (by omega);unfold bm;grind
theorem agH{s:aI}{n T:Int}(h:fH s n T)(i:kV s)(r:n<=1099511627776):LP s=0:=by
 unfold LP
 have m:pN s:=by
  refine⟨fun k d=>?_,fun k d=>?_⟩
  ·have e:=pM d;have c:=h.q2 _ e;refine⟨WI h.q1 d,c.2.2.1,⟨c.1,c.2.1,c.2.2.2.1,by omega,i.q _ e⟩,Is (h.q1.imp fun h=>by omega) d⟩
  ·have e:=pM d
   have c:=h.y2 _ e;refine⟨WI h.y1 d,c.2.2.1,⟨c.1,c.2.1,c.2.2.2.2.1,by omega,i.y _ e⟩,fun f=>?_⟩;rcases amm.1 f with f|f
   ·obtain⟨y,o,l⟩:=amV.1 f;exact h.y3 y o _ e l
   ·exact Is h.y4 d f
 have a:=h.t0;have b:=h.yl;rw[al5 (by rintro (q|q|⟨p,j⟩);omega;omega;exact j (h.sn p)),al7 m]
theorem agD{s:aI}{i:Nat}{n T:Int}(c:fQ s i)(m:StV s.sto)(o:qP s.sto)(h:fH s n T):GQ s:=by
 have I:=c.sto;have d:=Cu m.w.ne;have z:=c.rq;have A:=I.ii;have B:=I.spe;refine⟨ahn I o,⟨by omega,by omega⟩,⟨by omega,by omega⟩,?_,I.cfg.tt,I.lv,I.uj,fun a l=>⟨(I.av a l).slot,(I.av a l).ep⟩,fun b d=>⟨(I.uo b d).u,(I.uo b d).df,(I.uo b d).pf⟩,fun n g=>⟨(I.un n g).u,(I.un n g).df,(I.un n g).pf⟩,I.nw.1,fun t k=>⟨(I.tb t k).ep,by have:=(I.tb t k).len;omega⟩,by omega,by have:=c.yl;omega,fun r e=>?_,fun r e=>?_,c.tg⟩
 ·have y:s.sto.cfg.boost<=100:=by
   have:=m.w.ne;unfold ib at this;by_cases q:100<s.sto.cfg.boost
   ·omega
   omega
  exact⟨h.bo,by omega⟩
 ·have:=h.q2 r e;exact⟨c.ut r e,⟨by omega,by omega⟩⟩
 ·have C:=h.y2 r e;have:=c.tg.hi;exact⟨⟨by omega,by omega⟩,⟨by omega,by omega⟩⟩
structure j6(s:aI)(i:Nat):Prop where
 a:fQ s i
 v:StV s.sto
 b:qP s.sto
 n:s.sto.now<=(i:Int)
 w:fH s i (1+10*i)
 f:kV s
theorem HU{c:cU}(b:Qp c):j6 (iW c).1 0:=by
 have j:∀x∈c.bals,0<=x/\x<18446744073709551616:=fun x h=>by have:=b.bu x h;omega
 have e:=Mh b;unfold iW at e ⊢;rw[al7 b.new]at e ⊢
 have d:(0:Int)<=c.lim.retry:=by
  have:=b.new;unfold ib at this;by_cases q:wit c.lim.retry 0 256=false
  ·grind
  ·unfold wit at q;simp at q;omega
 have g:fH ⟨kO c,[],[],1,false,fS,false,false⟩ (0:Nat) (1+10*(0:Nat)):=⟨amr _,amr _,List.Pairwise.nil,fun r d=>(by grind),List.Pairwise.nil,fun r d=>(by grind),fun r d=>(by simp),List.Pairwise.nil,d,fun _=>rfl,b.bo⟩;have f:kV ⟨kO c,[],[],1,false,fS,false,false⟩:=⟨fun r d=>(by grind),fun r d=>(by grind)⟩;refine⟨e,?_,?_,?_,(g.emit f).1,(g.emit f).2⟩
 ·exact StV.new b.new
 ·exact⟨fun t i=>by rw[amn.1 i];omega,j⟩
 ·exact amr _
theorem j6.valA{s:aI}{i:Nat}(h:j6 s i):valA s=0:=by
 have b:oL s.sto=0:=by
  have:=h.a.sto.cfg.ln;exact h.v.val (by omega) h.a.sto.uf h.a.sto.nw.1
 unfold Go.Proofs.YtflhnmleodkjiaaGreat.valA;rw[al5 (by omega)];exact agH h.w h.f (by have:=h.a.sto.ii;omega)
theorem j6.ty{s:aI}{i:Nat}(h:j6 s i):GQ s:=agD h.a h.v h.b h.w
theorem j6.len{s:aI}{i:Nat}(h:j6 s i):(ej s).length<=200000:=by
 have I:=h.a.sto;have c:=I.ii;have d:=h.a.rq;have f:=I.qq;have g:=I.ll;have b:=I.cfg.b1;have e:=acW (h.ty.toW h.valA) b (by omega:s.sto.latest.length<=6) (by omega:s.sto.eqv.length<=300) I.aa I.oo I.nn I.tt (by omega:s.reqs.length<=300) h.a.yl (by simp) (by simp) (by simp) (by simp) (by simp) (by simp) (by simp) (by simp) (by simp);omega
theorem j6.enc{s:aI}{i:Nat}(h:j6 s i):pn s=0/\Dt s=ej s:=by
 have a:pn s=0:=by
  have:=h.len;unfold pn;rw[al5 (by rw[h.valA];simp),al5 (by omega)]
 exact⟨a,by unfold Dt;grind⟩
theorem j6.dec{s:aI}{i:Nat}(h:j6 s i){d:Rdr}(hd:adn d):FJ d (ej s)=(s,0):=X7 hd (ae8 h.ty h.enc.1) h.enc.1
theorem Nw(l:List Req)(hl:l.length<=2097152):PC Tryz.prog 56 [.sl 35 false (rows aP l),.sl 35 false (rows aP l)] (.bool true):=by
 refine pfn 6 vR ?_;unfold mG;refine bd ?_;have e0:((l.length:Int) != (l.length:Int))=false:=by simp
 repeat(first|refine bY ?_|omega)
 refine agE ?_;refine az (fun i:Nat=>[(5,.int .i64 i)]) (fun _=>[]) (fun i=>l.length-i) (fun i=>i<=l.length) 0 (amc _) ?_ ?_
 ·exact ais [] []
 intro i hi;refine dp ?_;by_cases h1:i<l.length
 ·have e1:=inT h1;have hw:=af h1 (by omega);have hgd:(rows aP l).getD i []=aP (bm l i):=aS (f:=aP) gT h1;refine bw e1 ?_;repeat(first|refine bY ?_|simp_all)
  refine aB ?_;repeat(first|refine bY ?_|simp_all)
  refine⟨i+1,h1,by omega,?_⟩;exact ais [] []
 ·obtain rfl:i=l.length:=by omega
  have e1:=inF (l.length);refine aF e1 ?_;exact ai
theorem Fq(s:aI)(h:afM s.sto)(f:s.reqs.length<=2097152)(d:s.rets.length<=2097152):PC Tryz.prog 15 [.agg (aV s.a),.agg (aV s.a)] (.bool true):=by
 refine pfn 5 OR ?_;unfold AY;refine bd ?_;have g:=Vh s.sto h;have i:=Nw s.reqs f;have e:=Nw s.rets d;refine gon ?_;refine ahG g ?_;refine ahG i ?_;refine am e ?_;repeat(first|refine bY ?_|omega)
 exact ai
theorem GQ.sam{s:aI}(h:GQ s):afM s.sto:=by
 have r:=h.hr;exact⟨r.bn,r.bl,r.be,r.bt,r.bb,r.bo,r.ba,r.bv,r.bc⟩
theorem Kc:afM Fx.sto:=by
 have h:=Jg;exact⟨h.bn,h.bl,h.be,ams h.bt (by simp),h.bb,h.bo,ams h.ba (by simp),h.bv,h.bc⟩
theorem Jn{d:Rdr}(i:ado d){b:List UInt8}(j:b.length<=2097152):PC Tryz.prog 15 [.agg (aV (FJ d b).1.a),.agg (aV (FJ d b).1.a)] (.bool true):=by
 by_cases q:(Es d b 0).2.2=0/\(Es d b 0).2.1=[]/\pn (Es d b 0).1=0/\ej (Es d b 0).1=b
 ·have h:=((WK i).p b j q.1).2;have e:FJ d b=((Es d b 0).1,0):=by unfold FJ;grind
  rw[e];exact Fq _ h.sam h.ql h.yl
 ·have e:FJ d b=(Fx,25):=by unfold FJ;grind
  rw[e];exact Fq _ Kc (amc _) (amc _)
theorem j6.e{s:aI}{i:Nat}(h:j6 s i):afO s:=ae8 h.ty h.enc.1
theorem aaB{c:cU}(d:Qp c):(iW c).2.2=0/\(iW c).1.sto.nodes.length=1:=by
 unfold iW;rw[al7 d.new];refine⟨rfl,?_⟩;rfl
theorem acV(s:aI):0<(ej s).length:=by
 have h:=s.sto.boost.2;unfold ej;simp only[akC];omega
end Go.Proofs.YtflhnmleodkjiaaGreat
