/- Joined. -/
import Derived.Test.YtnjdpnfglgcjcaaGreatO7
import Derived.Test.YtnjdpnfglgcjcaaGreatT8
set_option linter.unusedVariables false
set_option linter.unusedSimpArgs false
set_option maxRecDepth 8000
set_option maxHeartbeats 4000000
namespace Go.Proofs.YtnjdpnfglgcjcaaGreat
open Go Go.FH Go.RowKit
theorem Nw(l:List Req)(hl:l.length<=2097152):PC Tryz.prog 77 [.sl 35 false (rows aP l),.sl 35 false (rows aP l)] (.bool true):=by
 refine PC.fact 6 vR (by simp) puA puA ?_;unfold mG;refine bd ?_;have e0:((l.length:Int) != (l.length:Int))=false:=by simp
 repeat(first|refine bY ?_|omega)
 refine agE ?_;refine az (fun i:Nat=>[(5,.int .i64 i)]) (fun _=>[]) (fun i=>l.length-i) (fun i=>i<=l.length) 0 (amc _) ?_ ?_
 ·exact ais [] []
 intro i hi;refine dp ?_;by_cases h1:i<l.length
 ·have e1:=inT h1;have hw:=af h1 (by omega);have hgd:(rows aP l).getD i []=aP (bm l i):=aS (f:=aP) gT h1;refine bw e1 ?_;repeat(first|refine bY ?_|simp_all)
  refine aB ?_;repeat(first|refine bY ?_|simp_all)
  refine⟨i+1,h1,by omega,?_⟩;exact ais [] []
 ·obtain rfl:i=l.length:=by omega
  have e1:=inF (l.length);refine aF e1 ?_;exact ai
theorem Fq(s:aI)(h:afM s.sto)(f:s.reqs.length<=2097152)(d:s.rets.length<=2097152):PC Tryz.prog 19 [.agg (aV s.a),.agg (aV s.a)] (.bool true):=by
 refine PC.fact 5 OR (by simp) puA puA ?_;unfold AY;refine bd ?_;have g:=Vh s.sto h;have i:=Nw s.reqs f;have e:=Nw s.rets d;refine gon ?_;refine ahG g ?_;refine ahG i ?_;refine am e ?_;repeat(first|refine bY ?_|omega)
 exact ai
theorem GQ.sam{s:aI}(h:GQ s):afM s.sto:=by
 have r:=h.hr;exact⟨r.bn,r.bl,r.be,r.bt,r.bb,r.bo,r.ba,r.bv,r.bc⟩
theorem aaU:FJ dP []=(Fx,25):=by
 have h:(Es dP [] 0).2.2≠0:=fun h=>by
  have:=((WK Hk).p [] (amc _) h).1;grind
 unfold FJ;grind
theorem j6.e{s:aI}{i:Nat}(h:j6 s i):afO s:=ae8 h.ty h.enc.1
theorem aaB{c:cU}(d:Qp c):(iW c).2.2=0/\(iW c).1.sto.nodes.length=1:=by
 unfold iW;rw[al7 d.new];refine⟨rfl,?_⟩;rfl
theorem acV(s:aI):0<(ej s).length:=by
 have h:=s.sto.boost.2;unfold ej;simp only[akC];omega
theorem N2:PC Tryz.prog 20 [] (.bool true):=by
 refine PC.fact 10 J7 (by simp) puA puA ?_;unfold yJ;refine bd ?_;obtain⟨c,hc,cc⟩:=L9 [];have hg:=HU hc;have c1:=GZ c (by have:=hc.r.b1;omega) fun _=>(bP.new hc.r).r
 obtain⟨k1,k2⟩:=aaB hc;rw[k1]at c1;generalize (iW c).1=s at *;generalize (iW c).2.1=cs at *;have c2:=D7 s hg.ty.enc;rw[hg.enc.1,hg.enc.2]at c2;have hl:=hg.len;have hp:=acV s;have c3:=D6 (ej s) (by omega);rw[hg.dec ag3]at c3;have c4:=D6 [] (amc _);rw[aaU]at c4;have c5:=Fq s hg.ty.sam hg.ty.ql hg.ty.yl;have e0:decide (((ej s).length:Int) > 0)=true:=au (by omega);have e1:(((s.sto.nodes.length:Nat):Int)==1)=true:=by grind
 generalize ej s=B at *;refine gon ?_;refine pG cc ⟨Wk.empty _ _ _,trivial⟩ ⟨trivial,trivial⟩ ?_;refine gon ?_;refine ahG c1 ?_;refine ahG c2 ?_;refine ahG c3 ?_;refine pG c4 ⟨Wk.empty _ _ _,trivial⟩ ⟨trivial,trivial⟩ ?_;refine ah e0 ?_;refine am c5 ?_;refine ah e1 ?_;exact ai
theorem pc_ImageBack(l:List Int)(hl:l.length<=maxLen)(hwl:∀z∈l,(Lit.int .i64 z).wf=true):PC Tryz.prog 3 [.sl 1 false (aH .i64 l)] (.bool true):=by
 refine PC.fact 10 Ol (by simp) puA puA ?_;unfold GW;refine bd ?_;obtain⟨s,hg,cs⟩:=E3 l;have c2:=D7 s hg.ty.enc;have c3:=Zp s hg.ty.enc;rw[hg.enc.1,hg.enc.2]at c2 c3;have hl:=hg.len;have c4:=D6 (ej s) (by omega);rw[hg.dec ag3]at c4;have c5:=Fq s hg.ty.sam hg.ty.ql hg.ty.yl;have e0:(ej s==ej s)=true:=by simp
 generalize ej s=B at *;refine gon ?_;refine ahG cs ?_;refine ahG c2 ?_;refine ahG c3 ?_;refine am c4 ?_;repeat(first|refine bY ?_|omega)
 refine ahG c5 ?_;refine ahG N2 ?_;exact ai
theorem IN(X:aI)(hX:GQ X):∃B:List UInt8,∃V:Int,PC Tryz.prog 16 [.agg (aV X.a)] (.tup [.sl 1 false (bts B),.int .i64 V])/\PC Tryz.prog 17 [.agg (aV X.a)] (.tup [.sl 1 false (bts B),.int .i64 V]):=
 ⟨_,_,D7 X hX.enc,Zp X hX.enc⟩
end Go.Proofs.YtnjdpnfglgcjcaaGreat
