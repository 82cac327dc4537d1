/-
 My texts Yc, joined.
-/
import Derived.Test.YtnjdpnfglgcjcaaGreatO7
import Derived.Test.YtnjdpnfglgcjcaaGreatT8
set_option linter.unusedVariables false
set_option linter.unusedSimpArgs false
set_option maxRecDepth 8000
set_option maxHeartbeats 4000000
namespace Go.Proofs.YtnjdpnfglgcjcaaGreat
open Go Go.FH Go.RowKit
theorem Nw(l:List Req)(hl:l.length<=2097152):PC Tryz.prog 77 [.sl 35 false (rows aP l),.sl 35 false (rows aP l)] (.bool true):=by
 refine PC.fact 6 vR (by simp) puA puA ?_;unfold mG;refine bd ?_;have e0:((l.length:Int) != (l.length:Int))=false:=by simp
 refine aF e0 ?_;refine az (fun i:Nat=>[(5,.int .i64 i)]) (fun _=>[]) (fun i=>l.length-i) (fun i=>i<=l.length) 0 (aix _) ?_ ?_
 ·exact ais [] []
 intro i hi;refine dp ?_;by_cases h1:i<l.length
 ·have e1:=inT h1;have hw:=af h1 (by omega);have hgd:(rows aP l).getD i []=aP (bm l i):=aS (f:=aP) gT h1;refine bw e1 ?_;refine bJ hgd ?_;refine ah hw ?_;refine⟨i+1,h1,by omega,?_⟩;exact ais [] []
 ·obtain rfl:i=l.length:=by omega
  have e1:=inF (l.length);refine aF e1 ?_;exact ai
theorem Fq(s:aI)(h:afM s.sto)(hq:s.reqs.length<=2097152)(hy:s.rets.length<=2097152):PC Tryz.prog 19 [.agg (aV s.a),.agg (aV s.a)] (.bool true):=by
 refine PC.fact 5 OR (by simp) puA puA ?_;unfold AY;refine bd ?_;have c1:=Vh s.sto h;have c2:=Nw s.reqs hq;have c3:=Nw s.rets hy;have e0:∀n:Int,(n==n)=true:=fun n=>by simp
 have e1:∀n:Bool,(n==n)=true:=fun n=>by simp
 refine gon ?_;refine ahG c1 ?_;refine ahG c2 ?_;refine am c3 ?_;refine aZ e0 e1 ?_;exact ai
theorem GQ.sam{s:aI}(h:GQ s):afM s.sto:=by
 have r:=h.hr;exact⟨r.bn,r.bl,r.be,r.bt,r.bb,r.bo,r.ba,r.bv,r.bc⟩
theorem EW:afM Fx.sto:=by
 have h:=B4;exact⟨h.bn,h.bl,h.be,aiK h.bt (by decide),h.bb,h.bo,aiK h.ba (by decide),h.bv,h.bc⟩
theorem Cm{d:Rdr}(hd:ado d){b:List UInt8}(hb:b.length<=2097152):PC Tryz.prog 19 [.agg (aV (FJ d b).1.a),.agg (aV (FJ d b).1.a)] (.bool true):=by
 by_cases q:(Es d b 0).2.2=0/\(Es d b 0).2.1=[]/\pn (Es d b 0).1=0/\ej (Es d b 0).1=b
 ·have h:=((WK hd).p b hb q.1).2;have e:FJ d b=((Es d b 0).1,0):=by unfold FJ;rw[Fy q]
  rw[e];exact Fq _ h.sam h.ql h.yl
 ·have e:FJ d b=(Fx,25):=by unfold FJ;rw[Fw q]
  rw[e];exact Fq _ EW (aix _) (aix _)
theorem aaU:FJ dP []=(Fx,25):=by
 have h:(Es dP [] 0).2.2≠0:=fun h=>by
  have:=((WK Hk).p [] (aix _) h).1;simp at this
 unfold FJ;rw[Fw fun q=>h q.1]
theorem aaB{c:cU}(hc:Qp c):(iW c).2.2=0/\(iW c).1.sto.nodes.length=1:=by
 unfold iW;rw[Fy hc.new];refine⟨rfl,?_⟩;show (io _).1.sto.nodes.length=1
 rw[pm];rfl
theorem acV(s:aI):0<(ej s).length:=by
 have h:=s.sto.boost.2;unfold ej;simp only[E4];omega
theorem N2:PC Tryz.prog 20 [] (.bool true):=by
 refine PC.fact 10 J7 (by simp) puA puA ?_;unfold yJ;refine bd ?_;obtain⟨c,hc,cc⟩:=L9 [];have hg:=HU hc;have c1:=GZ c (by have:=hc.r.b1;omega) fun _=>(bP.new hc.r).r
 obtain⟨k1,k2⟩:=aaB hc;rw[k1]at c1;generalize (iW c).1=s at *;generalize (iW c).2.1=cs at *;have c2:=D7 s hg.ty.enc;rw[hg.enc.1,hg.enc.2]at c2;have hl:=hg.len;have hp:=acV s;have c3:=D6 (ej s) (by omega);rw[hg.dec ag3]at c3;have c4:=D6 [] (aix _);rw[aaU]at c4;have c5:=Fq s hg.ty.sam hg.ty.ql hg.ty.yl;have e0:decide (((ej s).length:Int) > 0)=true:=au (by omega);have e1:(((s.sto.nodes.length:Nat):Int)==1)=true:=by rw[k2];rfl
 generalize ej s=B at *;refine gon ?_;refine pG cc ⟨Wk.empty _ _ _,trivial⟩ ⟨trivial,trivial⟩ ?_;refine gon ?_;refine ahG c1 ?_;refine ahG c2 ?_;refine ahG c3 ?_;refine pG c4 ⟨Wk.empty _ _ _,trivial⟩ ⟨trivial,trivial⟩ ?_;refine ah e0 ?_;refine am c5 ?_;refine ah e1 ?_;exact ai
theorem pc_ImageDecodes(b:List UInt8)(hb:b.length<=maxLen):PC Tryz.prog 5 [.sl 1 false (bts b)] (.bool true):=by
 refine PC.fact 7 pZ (by simp) puA puA ?_;unfold hY;refine bd ?_;by_cases h:3000<b.length
 ·have h':decide ((3000:Int)<(b.length:Int))=true:=au (by omega);refine aM h' ?_;refine ahG N2 ?_;exact ai
 ·have h':decide ((3000:Int)<(b.length:Int))=false:=aA (by omega);have hb2:b.length<=2097152:=by omega
  have c1:=D6 b hb2;have c2:=B1 b hb2;have c3:=Cm B8 hb2;rw[CT hb2]at c1;have e0:∀n:Int,(n==n)=true:=fun n=>by simp
  generalize FJ dR b=R at *;refine aF h' ?_;refine ahG c1 ?_;refine am c2 ?_;refine ah e0 ?_;refine ahG c3 ?_;refine ahG N2 ?_;exact ai
end Go.Proofs.YtnjdpnfglgcjcaaGreat
