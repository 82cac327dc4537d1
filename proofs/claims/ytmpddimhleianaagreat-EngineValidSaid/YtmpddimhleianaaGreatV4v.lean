/- Joined. -/
import Derived.Test.YtmpddimhleianaaGreatW3v
import Derived.Test.YtmpddimhleianaaGreatV3v
set_option linter.unusedVariables false
set_option linter.unusedSimpArgs false
set_option maxRecDepth 8000
set_option maxHeartbeats 4000000
namespace Go.Proofs.YtmpddimhleianaaGreat
open Go Go.FH Go.RowKit
abbrev nA(t:List Nod):AV:=.sl 240 false (rows aT t)
theorem dv{t:List Nod}{i:Nat}(h:i<t.length):(rows aT t).getD i []=aT (nod t i):=aK (f:=aT) kr h
theorem nh(t:List Nod)(i:Int):PC Tryz.prog 130 [.agg [nA t],.int .i64 i] (.bool (isN t i)):=by
 refine aQ 5 ?_;unfold isN;exact aw
theorem FW(i:Int):PC Tryz.prog 129 [.int .i64 i] (.bool (decide (0<=i)&&decide (i<=2))):=by
 refine aQ 3 ?_;exact aw
theorem cj(t:List Nod)(r:Rt)(hb:t.length<=2097152):PC Tryz.prog 32 [.agg [nA t],.agg (rtc r)] (.int .i64 (ab t r)):=by
 refine aQ 6 ?_;unfold ab;refine nx fun _=>?_
 refine tG (fun i=>decide ((nod t i).blk.root=r)) t.length (fun i=>[(5,.int .i64 i)]) (fun _=>[.var [nA t],.var (rtc r)]) (fun i h1 hp hf hw h2=>?_) (fun i h1 hp hw h2=>?_) (fun hf h=>?_)
 ·have hgd:=dv h1;have hp:=ac3 hp;rw[hf];exact aw
 ·have hgd:=dv h1;have hp:=adi hp;exact aw
 ·rw[hf];exact aw
def xY(t:List Nod)(i:Int)(k:Nat)(l:List Int):List Int:=if (nod t k).up=i then l++[(k:Int)]else l
theorem HQ(t:List Nod)(i:Int):∀n,(aH (xY t i) [] n).length<=0+n:=jI (fun k l=>by unfold xY;grind)
theorem FY(t:List Nod)(i0:Int)(hb:t.length<=2097152):PC Tryz.prog 226 [.agg [nA t],.int .i64 i0] (.sl 1 false (ah .i64 (gp t i0))):=by
 refine aQ 7 ?_;have c1:=nh t i0;unfold gp;refine gon ?_;refine dT 5 1 ?_;simp only[go_sem];by_cases hn0:isN t i0=true
 ·rw[afA hn0]
  rw[hn0]at c1;show Tri _ _ _ _ (mo _ (fK (Tri _ _ _ _ (PQ _ (.sl 1 false (ah .i64 (aH (xY t i0) [] t.length))))) (PQ _ (.sl 1 false (ah .i64 (aH (xY t i0) [] t.length)))))) _ _
  refine dI t.length (fun i=>[(6,.int .i64 i),(5,.hs 1 1 0 (aH (xY t i0) [] i).length)]) (fun i=>[.var [nA t],.vec 1 (ah .i64 (aH (xY t i0) [] i))]) (fun i h1 hw h2=>?_) (fun h=>?_)
  ·have hgd:=dv h1;have hs:=bg (xY t i0) [] i;have hl:=HQ t i0 i;generalize aH (xY t i0) [] i=acc at *;have hc:xY t i0 i acc=if (nod t i).up=i0 then acc++[(i:Int)]else acc:=rfl
   rw[hc]at hs;have hr:ah .i64 acc++[[AV.int .i64 (i:Int)]]=ah .i64 (acc++[(i:Int)]):=kX .i64 acc [(i:Int)];clear hc hn0;exact aw
  ·exact aw
 ·have hf:isN t i0=false:=by simpa using hn0
  rw[afx hn0];rw[hf]at c1;clear hn0 hf;refine aE (fun _:Unit=>[]) (fun _=>[.var [nA t],.vec 1 []]) (fun _=>0) (fun _=>True) () trivial ?_ ?_
  ·exact aw
  intro _ _;exact aw
theorem MO(t:List Nod)(hb:0<t.length):PC Tryz.prog 65 [.agg [nA t],.int .i64 0] (.sl 1 true (ah .i64 [0])):=by
 refine aQ 5 ?_;have c1:=nh t 0;rw[show isN t 0=true by simp[isN,hb]]at c1;exact aw
theorem XM(t:List Nod)(i:Int)(hi:isN t i=false):PC Tryz.prog 65 [.agg [nA t],.int .i64 i] (.sl 0 true []):=by
 refine aQ 5 ?_;have c1:=nh t i;rw[hi]at c1;exact aw
theorem Km(t:List Nod)(ht:eL t)(hb:t.length<=2097152):∀ (n i:Nat),i<n->0<i->i<t.length->aJ Tryz.prog 65 [.agg [nA t],.int .i64 i] [] (.hs 1 0 0 (aZ t i).length) [.vec 1 (ah .i64 (aZ t i))]
 |0,_,h,_,_=>by omega
 | n + 1, i, hn, h0, hi => by
   refine cZ 5 ?_;have c1:=nh t i;rw[show isN t i=true by simp[isN,hi]]at c1;have e0:((i:Int)==0)=false:=af3
   obtain⟨u0,u1⟩:=ht i h0 hi;obtain⟨u,hu⟩:∃u:Nat,(nod t i).up=u:=⟨_,(afW u0).symm⟩
   have hs:=ia ht h0 hi;have hl:=nD ht (i+1) i af0;rw[hu]at hs;have hgd:=dv hi;refine gon ?_;refine ap c1 ?_;try omega
   refine aI ?_;refine da e0 ?_;by_cases hu0:u=0
   ·subst hu0;have c2:=MO t af0;rw[show ((0:Nat):Int)=0 from rfl,gu af0]at hs;rw[hs]at hl ⊢;repeat(first|refine aM ?_|simp_all)
    refine aP (c2) ?_;refine gon ?_;refine bp [] [2] _ af1 (by first|rfl|omega) af1 rfl af1 af1 evd evd
   ·have c2:=Km t ht hb n u af0 af0 af0;have hl2:=nD ht (u+1) u af0;rw[hs]at hl ⊢;refine bm hgd hu ?_;refine dsg [] c2 ?_;exact abF [] [2]
theorem XN(t:List Nod)(ht:eL t)(hb:t.length<=2097152)(i:Nat)(h0:0<i)(hi:i<t.length):PC Tryz.prog 65 [.agg [nA t],.int .i64 i] (.sl 1 false (ah .i64 (aZ t i))):=by
 refine aQ 5 ?_;have c1:=nh t i;rw[show isN t i=true by simp[isN,hi]]at c1;have e0:((i:Int)==0)=false:=af3
 obtain⟨u0,u1⟩:=ht i h0 hi;obtain⟨u,hu⟩:∃u:Nat,(nod t i).up=u:=⟨_,(afW u0).symm⟩
 have hs:=ia ht h0 hi;have hl:=nD ht (i+1) i af0;rw[hu]at hs;have hgd:=dv hi;refine gon ?_;refine ap c1 ?_;try omega
 refine aI ?_;refine da e0 ?_;by_cases hu0:u=0
 ·subst hu0;have c2:=MO t af0;rw[show ((0:Nat):Int)=0 from rfl,gu af0]at hs;rw[hs]at hl ⊢;repeat(first|refine aM ?_|simp_all)
  refine aP (c2) ?_;refine gon ?_;exact aj
 ·have c2:=Km t ht hb (u+1) u af0 af0 af0;have hl2:=nD ht (u+1) u af0;rw[hs]at hl ⊢;refine bm hgd hu ?_;refine dsg [] c2 ?_;exact aj
theorem pS(t:List Nod)(k:eL t)(j:t.length<=2097152)(i:Int):PC Tryz.prog 65 [.agg [nA t],.int .i64 i] (.sl 1 false (ah .i64 (aZ t i))):=by
 by_cases h:isN t i=true
 ·have d:=h
  simp[isN]at d;obtain⟨u,rfl⟩:∃u:Nat,i=u:=⟨_,(afW d.1).symm⟩
  by_cases f:u=0
  ·subst f;have:=MO t af0;rw[show ((0:Nat):Int)=0 from rfl,gu af0];exact PC.weak this (Wk.open_ _ _ _) (aY _ _)
  ·exact XN t k j u af0 af0
 ·rw[jg af3];exact PC.weak (XM t i af3) (Wk.empty _ _ _) (aY _ _)
theorem vx(t:List Nod)(g:eL t)(i:t.length<=2097152)(a b:Int):PC Tryz.prog 33 [.agg [nA t],.int .i64 a,.int .i64 b] (.bool (bw t a b)):=by
 refine aQ 7 ?_;have k:=pS t g i b;have h:=BS (aZ t b) false a (by have:=iZ g b;omega);refine gon ?_;refine abl k ?_;refine abl h ?_;exact aj
def atS(t:List Nod)(p:List Int)(slot:Int)(k:Nat)(a:Int):Int:=if (nod t (p.getD k 0).toNat).blk.slot<=slot then p.getD k 0 else a
theorem G7(t:List Nod)(ht:eL t)(hb:t.length<=2097152)(i0 slot:Int):PC Tryz.prog 157 [.agg [nA t],.int .i64 i0,.int .u64 slot] (.int .i64 (atT t i0 slot)):=by
 refine aQ 10 ?_;have c1:=pS t ht hb i0;have hl:=iZ ht i0;have hm:∀x∈aZ t i0,0<=x/\x<t.length:=fun x hx=>by have:=dL ht hx;omega
 show Tri _ _ _ _ (PQ _ (.int .i64 (aH (atS t (aZ t i0) slot) (-1) (aZ t i0).length))) _ _
 generalize aZ t i0=p at *;refine nx fun _=>?_
 refine dI p.length (fun i=>[(9,.int .i64 i),(7,.int .i64 (aH (atS t p slot) (-1) i))]) (fun i=>[.var [nA t]]) (fun i h1 hw h2=>?_) (fun h=>?_)
 ·have hgp:=gdn (k:=.i64) h1;obtain⟨x0,x1⟩:=hm _ (show p.getD i 0∈p by rw[afy,afz h1];exact afY h1);have hs:=bg (atS t p slot) (-1) i;change _=ite _ _ _ at hs
  simp only[<-ac8]at hs;generalize aH (atS t p slot) (-1) i=acc at *;obtain⟨x,hx⟩:=afF x0;rw[hx]at hs hgp x1;rw[afH]at hs;have hgd:=dv (t:=t) (i:=x) af0;clear hm x0 hx;exact aw
 ·clear hm;exact aw
theorem SW{t:List Nod}(ht:eL t)(i slot:Int):atT t i slot<t.length:=by
 have key:∀n,n<=(aZ t i).length->aH (atS t (aZ t i) slot) (-1) n<(t.length:Int):=by
  intro n;induction n with
  |zero=>intro _;show (-1:Int)<_;omega
  | succ n ih =>
    intro hn;rw[bg];unfold atS;split
    ·have hx:(aZ t i).getD n 0∈aZ t i:=by rw[afy,afz af0];exact afY af0
     exact(dL ht hx).2.2
    ·exact ih af0
 exact key _ (afE _)
def nR(t:List Nod)(i:Int)(k:Nat)(l:List Int):List Int:=if bw t i k=true then l++[(k:Int)]else l
theorem vP(t:List Nod)(i:Int):∀n,(aH (nR t i) [] n).length<=0+n:=jI (fun k l=>by unfold nR;split<;>simp)
theorem xM(t:List Nod)(ht:eL t)(hb:t.length<=2097152)(i0:Int):PC Tryz.prog 37 [.agg [nA t],.int .i64 i0] (.sl 1 false (ah .i64 (ej t i0))):=by
 refine aQ 7 ?_;show Tri _ _ _ _ (PQ _ (.sl 1 false (ah .i64 (aH (nR t i0) [] t.length)))) _ _
 refine gon ?_;refine dT 5 1 ?_;simp only[go_sem];refine dI t.length (fun i=>[(6,.int .i64 i),(5,.hs 1 1 0 (aH (nR t i0) [] i).length)]) (fun i=>[.var [nA t],.vec 1 (ah .i64 (aH (nR t i0) [] i))]) (fun i h1 hw h2=>?_) (fun h=>?_)
 ·have c1:=vx t ht hb i0 (i:Int);have hs:=bg (nR t i0) [] i;change _=ite _ _ _ at hs
  have hl:=vP t i0 i;generalize aH (nR t i0) [] i=acc at *;have hr:ah .i64 acc++[[AV.int .i64 (i:Int)]]=ah .i64 (acc++[(i:Int)]):=kX .i64 acc [(i:Int)];generalize bw t i0 i=B at *;cases B<;>exact aw
 ·exact aw
theorem vQ(t:List Nod)(i:Int):∀n,∀x∈aH (nR t i) [] n,0<=x/\x<n
 |0,x,hx=>by simp[Dy]at hx
 | n + 1, x, hx => by
   rw[bg]at hx;unfold nR at hx;split at hx
   ·rw[afR,afN]at hx;rcases hx with hx|hx
    ·have:=vQ t i n x hx;omega
    ·omega
   ·have:=vQ t i n x hx;omega
theorem QI(b:Blk)(st:Int):PC Tryz.prog 89 [.agg (au b),.int .i64 st] (.agg [nA [⟨b,-1,st⟩]]):=by
 refine aQ 5 ?_;refine gon ?_;refine⟨_,by first|rfl|exact evd,.inr ⟨.agg [.sl 240 true (rows aT [⟨b,-1,st⟩])],evd,by simp[Pu,PuL,gW],Wk.agg ⟨Wk.open_ _ _ _,fun h=>h,trivial⟩⟩⟩
def cC(b:Blk):Int:=if b.payload=rt0 then 1 else 0
theorem NH(b:Blk):PC Tryz.prog 294 [.agg (au b)] (.int .i64 (cC b)):=by
 refine aQ 3 ?_;unfold cC;exact aw
theorem Qs(p b:Blk):PC Tryz.prog 343 [.agg (au p),.agg (au b)] (.bool (decide (b.payload≠rt0)&&decide (p.payload=rt0))):=by
 refine aQ 5 ?_;by_cases h:b.payload=rt0<;>exact aw
def uw(ttd:Wd)(p b:Blk):Bool:=if b.payload=rt0 then decide (p.payload=rt0)else if p.payload=rt0 then decide (Ea b.pdiff ttd<0)&&decide (Ea b.diff ttd ≥ 0)else true
theorem Mj(ttd:Wd)(p b:Blk):PC Tryz.prog 292 [.agg (wdc ttd),.agg (au p),.agg (au b)] (.bool (uw ttd p b)):=by
 refine aQ 17 ?_;have c1:=Qs p b;have c2:=Fv b.pdiff ttd;have c3:=Fv b.diff ttd;unfold uw;generalize Ea b.pdiff ttd=x at *;generalize Ea b.diff ttd=y at *;by_cases h:b.payload=rt0
 ·exact aw
 ·rw[afx h]
  rw[ax (show b.payload≠rt0 from h)]at c1;by_cases h2:p.payload=rt0
  ·rw[afA h2];rw[ax h2]at c1;by_cases h3:x<0<;>exact aw
  ·rw[afx h2];rw[aD h2]at c1;exact aw
theorem dl(t:List Nod)(r:Rt):-1<=ab t r/\ab t r<t.length:=by
 unfold ab;cases h:cm (fun i=>decide ((nod t i).blk.root=r)) t.length with
 |none=>rw[j7];omega
 |some i=>rw[iu];have:=(cJ h).1;omega
theorem Qq(t:List Nod)(b:Blk)(st:Int)(hb:t.length<=2097152):PC Tryz.prog 293 [.agg [nA t],.agg (au b),.int .i64 st] (.tup [.agg [nA (eZ t b st).1],.int .i64 (eZ t b st).2]):=by
 refine aQ 9 ?_;have c1:=FW st;have c2:=cj t b.root hb;have c3:=cj t b.parent hb;have b3:=dl t b.parent;have hr:=fun y=>dn aT t ⟨b,y,st⟩
 unfold eZ;generalize ab t b.root=x at *;generalize ab t b.parent=y at *;by_cases q1:0<=st/\st<=2
 case neg=>
  rw[show (decide (0<=st)&&decide (st<=2))=false by rw[aen,afQ,afQ];omega]at c1;rw[afA q1];exact aw
 rw[show (decide (0<=st)&&decide (st<=2))=true by simp[q1]]at c1;rw[afx (fun h=>h q1)];by_cases q2:0<=x
 ·exact aw
 by_cases q3:y<0
 ·exact aw
 obtain⟨k,rfl⟩:=afF (ac8.1 q3);have hgd:=dv (t:=t) (i:=k) af0;rw[afH];by_cases q4:4096<=t.length<;>exact aw
theorem Jb(c:cI)(total:Int):PC Tryz.prog 77 [.agg (cV c.a),.int .u64 total] (.tup [.int .u64 (jb c.spe c.boost total).1,.int .i64 (jb c.spe c.boost total).2]):=by
 refine aQ 7 ?_;obtain⟨lim,spe,boost,ttd,gen,bals⟩:=c;unfold jb cI.a;dsimp only;by_cases q1:spe<1
 ·exact aw
 have h0:spe≠0:=af0
 by_cases q2:64<spe
 ·exact aw
 by_cases q3:100<boost
 ·exact aw
 by_cases q4:4611686018427387904<total<;>exact aw
def HC(t:List Nod)(latest:List Vot)(eqv bals:List Int)(i:Nat)(l:List Int):List Int:=l++[if (nod t i).status≠2 then oZ latest eqv bals [(nod t i).blk.root]else 0]
theorem Aa(t:List Nod)(a:List Vot)(e c:List Int):∀n,(aH (HC t a e c) [] n).length=n
 |0=>rfl
 |n+1=>by show (aH (HC t a e c) [] n++[_]).length=_;rw[afB,Aa t a e c n];rfl
theorem Jx(t:List Nod)(latest:List Vot)(eqv bals:List Int)(hb:t.length<=2097152)(h1:latest.length<=2097152)(h2:eqv.length<=2097152)(h3:bals.length<=2097152):
 PC Tryz.prog 78 [.agg [nA t],.agg [.sl 34 false (rows bJ latest),.sl 1 false (ah .i64 eqv)],.sl 1 false (ah .u64 bals)] (.sl 1 false (ah .u64 (gX t latest eqv bals))):=by
 refine aQ 10 ?_;show Tri _ _ _ _ (PQ _ (.sl 1 false (ah .u64 (aH (HC t latest eqv bals) [] t.length)))) _ _
 refine gon ?_;refine dT 7 1 ?_;simp only[go_sem];refine dI t.length (fun i=>[(8,.int .i64 i),(7,.hs 1 2 0 i)]) (fun i=>[.var [nA t],.var [.sl 34 false (rows bJ latest),.sl 1 false (ah .i64 eqv)],.vec 1 (ah .u64 (aH (HC t latest eqv bals) [] i))]) (fun i g1 hw g2=>?_) (fun h=>?_)
 ·have hgd:=dv g1;have c1:=Lu latest eqv bals [(nod t i).blk.root] (by assumption) h2 h3 af1;have hs:=bg (HC t latest eqv bals) [] i;change _=_++[ite _ _ _]at hs
  have hl:=Aa t latest eqv bals i;have hro:[rtc (nod t i).blk.root]=rows rtc [(nod t i).blk.root]:=rfl;generalize aH (HC t latest eqv bals) [] i=acc at *;have hr:∀w:Int,ah .u64 acc++[[AV.int .u64 w]]=ah .u64 (acc++[w]):=fun w=>kX .u64 acc [w]
  by_cases q:(nod t i).status=2<;>exact aw
 ·have hl:=Aa t latest eqv bals t.length;have htk:List.take t.length (ah .u64 (aH (HC t latest eqv bals) [] t.length))=ah .u64 (aH (HC t latest eqv bals) [] t.length):=afD (by simp[hl]);generalize aH (HC t latest eqv bals) [] t.length=acc at *;exact aw
def TS(direct d:List Int)(k:Nat)(n:Int):Int:=IntKind.u64.wrap (n+direct.getD (d.getD k 0).toNat 0)
def IJ(t:List Nod)(direct:List Int)(i:Nat)(l:List Int):List Int:=l++[aH (TS direct (ej t i)) 0 (ej t i).length]
theorem AB(t:List Nod)(a:List Int):∀n,(aH (IJ t a) [] n).length=n
 |0=>rfl
 |n+1=>by show (aH (IJ t a) [] n++[_]).length=_;rw[afB,AB t a n];rfl
theorem IM(t:List Nod)(ht:eL t)(direct:List Int)(hb:t.length<=2097152)(hd:direct.length=t.length):
 PC Tryz.prog 79 [.agg [nA t],.sl 1 false (ah .u64 direct)] (.sl 1 false (ah .u64 (R6 t direct))):=by
 refine aQ 10 ?_;show Tri _ _ _ _ (PQ _ (.sl 1 false (ah .u64 (aH (IJ t direct) [] t.length)))) _ _
 refine gon ?_;refine dT 5 1 ?_;simp only[go_sem];refine dI t.length (fun i=>[(6,.int .i64 i),(5,.hs 1 1 0 i)]) (fun i=>[.var [nA t],.vec 1 (ah .u64 (aH (IJ t direct) [] i))]) (fun i h1 hw h2=>?_) (fun h=>?_)
 ·have c1:=xM t ht hb (i:Int)
  have hs:=bg (IJ t direct) [] i;have hl:=AB t direct i;have hm:=vQ t (i:Int) t.length;have hdl:=vP t (i:Int) t.length;change _=_++[aH (TS direct (ej t i)) 0 (ej t i).length]at hs
  generalize aH (IJ t direct) [] i=acc at *;change ∀x∈ej t (i:Int),_ at hm
  change (ej t (i:Int)).length<=_ at hdl
  generalize ej t (i:Int)=d at *;have hr:∀w:Int,ah .u64 acc++[[AV.int .u64 w]]=ah .u64 (acc++[w]):=fun w=>kX .u64 acc [w]
  refine nx fun _=>?_
  refine dI d.length (fun k=>[(9,.int .i64 k),(7,.int .u64 (aH (TS direct d) 0 k))]) (fun k=>[.var [nA t],.vec 1 (ah .u64 acc)]) (fun k q1 hw2 q2=>?_) (fun h=>?_)
  ·have hgk:=gdn (k:=.i64) q1;obtain⟨x0,x1⟩:=hm _ (show d.getD k 0∈d by rw[afy,afz q1];exact afY q1);have hs2:=bg (TS direct d) 0 k;change _=IntKind.u64.wrap (_+direct.getD (d.getD k 0).toNat 0)at hs2
   generalize aH (TS direct d) 0 k=n at *;obtain⟨x,hx⟩:=afF x0;rw[hx]at hs2 hgk x1;rw[afH]at hs2;have x2:x<direct.length:=af0
   have hgx:=gdn (k:=.u64) (ns:=direct) (i:=x) af0;clear hs hm hx x0 hr;exact aw
  ·clear hm;exact aw
 ·have hl:=AB t direct t.length;have htk:List.take t.length (ah .u64 (aH (IJ t direct) [] t.length))=ah .u64 (aH (IJ t direct) [] t.length):=afD (by simp[hl]);generalize aH (IJ t direct) [] t.length=acc at *;exact aw
theorem Hg(t:List Nod)(direct:List Int)(root:Rt)(amount:Int)(hb:t.length<=2097152)(hd:direct.length=t.length):
 PC Tryz.prog 80 [.agg [nA t],.sl 1 false (ah .u64 direct),.agg (rtc root),.int .u64 amount] (.sl 1 false (ah .u64 (fu t direct root amount))):=by
 refine aQ 11 ?_;have c1:=cj t root hb;have b1:=dl t root;unfold fu;generalize ab t root=x at *;by_cases q1:0<=x
 ·obtain⟨k,rfl⟩:=afF q1;rw[afH];have hgd:=dv (t:=t) (i:=k) af0;have hgx:=gdn (k:=.u64) (ns:=direct) (i:=k) af0;have hset:∀w:Int,(ah .u64 direct).set k [AV.int .u64 w]=ah .u64 (direct.set k w):=fun w=>by simp[ah,afk]
  by_cases q2:(nod t k).status=2
  ·exact aw
  by_cases q3:root=rt0<;>exact aw
 ·exact aw
theorem KY(t:List Nod)(l:List Int)(st fb:Int)(hb:t.length<=2097152)(hl:l.length<=2097152)(hj:∀j∈l,0<=j/\j<t.length):
 PC Tryz.prog 345 [.agg [nA t],.sl 1 false (ah .i64 l),.int .i64 st,.int .i64 fb] (.tup [.agg [nA ((qK t l st fb).getD [])],.bool (qK t l st fb).isSome]):=by
 refine aQ 12 ?_;refine nx fun _=>?_
 refine oU l.length (fun i=>(aH (lR l st fb) (some t) i).isSome=true) (fun i=>[(11,.int .i64 i)]) (fun i=>[.var [nA t],.var [.sl 0 true []],.vec 240 (rows aT ((aH (lR l st fb) (some t) i).getD [])),.var [.hs 240 2 0 t.length]]) rfl (fun i h1 ho hw h2=>?_) (fun ho h=>?_)
 ·have hgl:=gdn (k:=.i64) h1
  obtain⟨x0,x1⟩:=hj _ (show l.getD i 0∈l by rw[afy,afz h1];exact afY h1);have hs:=bg (lR l st fb) (some t) i;obtain⟨u,hu⟩:=adH.1 ho;have hlu:=jD hu;rw[hu]at hs ⊢;simp only[lR,adT]at hs;obtain⟨x,hx⟩:=afF x0;rw[hx]at hs hgl x1;rw[afH]at hs;have hgd:=dv (t:=u) (i:=x) af0;have x2:x<u.length:=af0
  have hset:=pY aT u x;clear ho hj hu hx x0;by_cases q:(nod u x).status=fb
  ·rw[afA q]at hs;rw[show qK t l st fb=none from tz hs _ h1];clear hs;exact aw
  ·rw[afx q]at hs;have ho:(aH (lR l st fb) (some t) (i+1)).isSome=true:=by rw[hs];rfl
   rw[hs]at ho ⊢;exact aw
 ·obtain⟨u,hu⟩:=adH.1 ho;have hlu:=jD hu;rw[show qK t l st fb=some u from hu,hu];have htk:List.take t.length (rows aT u)=rows aT u:=afD (by simp[hlu]);clear ho hu;exact aw
theorem CP(t:List Nod)(ht:eL t)(i:Int)(hb:t.length<=2097152):PC Tryz.prog 299 [.agg [nA t],.int .i64 i] (.tup [.agg [nA (bL t i).1],.int .i64 (bL t i).2]):=by
 refine aQ 8 ?_;have c1:=nh t i;have c2:=pS t ht hb i;have hl:=iZ ht i;have c3:=KY t (aZ t i) 1 2 hb af0 (fun j hj=>by have:=dL ht hj;omega);unfold bL;generalize qK t (aZ t i) 1 2=o at *;generalize isN t i=b at *;cases b<;>cases o<;>exact aw
theorem Fw(t:List Nod)(ht:eL t)(i:Int)(hb:t.length<=2097152):PC Tryz.prog 301 [.agg [nA t],.int .i64 i] (.tup [.agg [nA (fg t i).1],.int .i64 (fg t i).2]):=by
 refine aQ 8 ?_;have c1:=nh t i;have c2:=xM t ht hb i;have hl:(ej t i).length<=0+t.length:=vP t i t.length;have c3:=KY t (ej t i) 2 1 hb af0 (fun j hj=>vQ t i t.length j hj);unfold fg;generalize qK t (ej t i) 2 1=o at *;generalize isN t i=b at *;cases b<;>cases o<;>exact aw
theorem Nb(t:List Nod)(i:Int)(k:Nat)(p:List Nod×List Int):(dM t i k p).2.length=p.2.length+1/\(dM t i k p).1.length<=p.1.length+1:=by
 unfold dM;split<;>simp
theorem yk(t:List Nod)(i:Int):∀k,(aH (dM t i) ([],[]) k).2.length=k/\(aH (dM t i) ([],[]) k).1.length<=k
 |0=>⟨rfl,afE _⟩
 | k + 1 => by
   rw[bg];have h1:=yk t i k;have h2:=Nb t i k (aH (dM t i) ([],[]) k);omega
theorem Nd (t : List Nod) (ht : eL t) (i0 : Int) (hb : t.length <= 2097152) (h0 : isN t i0 = true) :
 PC Tryz.prog 288 [.agg [nA t],.int .i64 i0] (.tup [.agg [nA (fo t i0).1],.sl 1 false (ah .i64 (fo t i0).2),.int .i64 0]):=by
 refine aQ 11 ?_;unfold fo;have c0:=nh t i0;rw[h0]at c0;refine nx fun _=>?_
 refine ou 2 0 240 ?_;simp only[go_sem];refine dT 8 1 ?_;simp only[go_sem];refine dI t.length (fun i=>[(9,.int .i64 i),(8,.hs 1 4 0 (aH (dM t i0) ([],[]) i).2.length)]) (fun i=>[.var [nA t],.var [.sl 0 true []],.var [.hs 240 3 0 (aH (dM t i0) ([],[]) i).1.length],.vec 240 (rows aT (aH (dM t i0) ([],[]) i).1),.vec 1 (ah .i64 (aH (dM t i0) ([],[]) i).2)]) (fun i h1 hw h2=>?_) (fun h=>?_)
 ·have c1 := vx t ht hb i0 (i : Int)
  have hgd:=dv h1;have hs:=bg (dM t i0) ([],[]) i;obtain⟨hl2,hl1⟩:=yk t i0 i;generalize aH (dM t i0) ([],[]) i=p at *;obtain⟨kp,ix⟩:=p;dsimp only at hl1 hl2;change _=ite _ (kp++[⟨_,ite _ _ (ix.getD _ _),_⟩],ix++[(kp.length:Int)]) (kp,ix++[-1])at hs
  have hr:∀w:Int,ah .i64 ix++[[AV.int .i64 w]]=ah .i64 (ix++[w]):=fun w=>kX .i64 ix [w]
  have hrn:=dn aT kp;cases ha:bw t i0 i with
  | false =>
    rw[ha]at c1;rw[afx (by simp[ha])]at hs;clear ha c0 h0;refine nx fun _=>?_
    exact gcJ [0,1,2,3,5]
  | true =>
    rw[ha]at c1;rw[afA ha]at hs;by_cases hk:(i:Int)=i0
    ·rw[afA hk]at hs;clear ha c0 h0;subst hk;refine nx fun _=>?_
     exact gcJ [0,1,2,7,6]
    ·rw [afx hk] at hs
     have hi0:0<i:=by
      rcases acF i with h|h
      ·subst h;unfold bw at ha;rw[show ((0:Nat):Int)=0 from rfl,gu h1]at ha;simp at ha;exact absurd ha.symm hk
      ·exact h
     obtain⟨u0,u1⟩:=ht i hi0 h1;obtain⟨u,hu⟩:=afF u0;rw[hu]at hs u1;rw[afH]at hs;have hgi:=gdn (k:=.i64) (ns:=ix) (i:=u) af0;clear ha c0 h0 u0;refine nx fun _=>?_
     exact gcJ [0,1,2,7,6]
 ·obtain⟨hl2,hl1⟩:=yk t i0 t.length;clear c0 h0;exact aw
theorem Ns(t:List Nod)(ht:eL t)(i0:Int)(latest:Rt)(hb:t.length<=2097152):PC Tryz.prog 300 [.agg [nA t],.int .i64 i0,.agg (rtc latest)] (.tup [.int .i64 (dh t i0 latest).1,.int .i64 (dh t i0 latest).2]):=by
 refine aQ 11 ?_;have c1:=pS t ht hb i0;have hl:=iZ ht i0;have hm:∀x∈aZ t i0,0<=x/\x<t.length:=fun x hx=>by have:=dL ht hx;omega
 unfold dh;generalize aZ t i0=p at *
 have hg:∀k,k<p.length->∃x:Nat,p.getD k 0=x/\x<t.length:=fun k hk=>by
  have:=hm _ (show p.getD k 0∈p by rw[afy,afz hk];exact afY hk);exact⟨_,(afW this.1).symm,af0⟩
 clear hm;by_cases q0:p.length=0
 ·obtain rfl:=afV q0;exact aw
 have q2:¬ (p.length:Int)=0:=af0
 rw[afx q0];by_cases q1:latest=rt0
 ·rw[afA q1]
  refine nx fun _=>?_
  refine tG (fun k=>decide ((nod t (p.getD k 0).toNat).blk.payload≠rt0)) p.length (fun i=>[(9,.int .i64 i)]) (fun i=>[.var [nA t],.var (rtc latest)]) (fun i h1 hp hf hw h2=>?_) (fun i h1 hp hw h2=>?_) (fun hf h=>?_)
  ·obtain⟨x,hx,hxl⟩:=hg i h1;have hgp:=gdn (k:=.i64) h1;have hgd:=dv hxl;rw[hf];dsimp only;rw[hx]at hp hgp ⊢;rw[afH]at hp ⊢;have hp:¬ (nod t x).blk.payload=rt0:=ac3 hp;clear hg hf hx;exact aw
  ·obtain⟨x,hx,hxl⟩:=hg i h1;have hgp:=gdn (k:=.i64) h1;have hgd:=dv hxl;rw[hx]at hp hgp;rw[afH]at hp;have hp:(nod t x).blk.payload=rt0:=by simpa using hp
   clear hg hx;exact aw
  ·rw[hf];clear hg;exact aw
 ·rw [afx q1]
  have hw0:IntKind.i64.wrap ((p.length:Int)-2)=((p.length-1:Nat):Int)-1:=by rw[ar af0 af0];omega
  generalize hr:(fun k=>decide ((nod t (p.getD k 0).toNat).blk.payload=latest))=r;have hr2:∀k,r k=decide ((nod t (p.getD k 0).toNat).blk.payload=latest):=fun k=>by rw[<-hr]
  clear hr;refine nx fun _=>?_
  refine IQ (p.length-1) (fun m=>wo r (p.length-1)=wo r m) (fun _ j=>[(10,.int .i64 j)]) (fun i=>[.var [nA t],.var (rtc latest)]) rfl (fun i h1 hn h2 hw=>?_) (fun hn=>?_)
  ·obtain⟨x,hx,hxl⟩:=hg i af0
   have hgp:=gdn (k:=.i64) (ns:=p) (i:=i) af0;have hgp2:=gdn (k:=.i64) (ns:=p) (i:=i+1) af0;have hw3:IntKind.i64.wrap ((i:Int)+1)=((i+1:Nat):Int):=ae (n:=p.length) af0 af0;have hi:=hr2 i;have hgd:=dv hxl;have h3:i<p.length:=af0
   have h4:i+1<p.length:=af0
   rw[hx]at hi hgp;rw[afH]at hi;clear hg hr2;by_cases q:(nod t x).blk.payload=latest
   ·rw[hn,UD (by rw[hi];exact ax q)];dsimp only;rw[hx];clear hn hi hx;exact aw
   ·rw[UC (by rw[hi];exact aD q)]at hn;clear hi hx;exact aw
  ·rw[hn,UE];clear hg hr2 hn;exact aw
theorem J4(t:List Nod)(ht:eL t)(i0:Int)(v:Vdt)(keep:List Int)(hb:t.length<=2097152)(hk:keep.length<=2097152)(R:List Nod×Int)(hR:R=dR t i0 v keep):PC Tryz.prog 217 [.agg [nA t],.int .i64 i0,.agg (dZ v),.sl 1 true (ah .i64 keep)] (.tup [.agg [nA R.1],.int .i64 R.2]):=by
 refine aQ 35 ?_;have c0:=nh t i0;have c1:=CP t ht i0 hb;have c2:=Ns t ht i0 v.latest hb;subst hR;unfold dR;generalize hq:dh t i0 v.latest=q at *;obtain⟨q1,q2⟩:=q;have c4:=Fw t ht q2 hb;have c3:=CP t ht q1 hb
 have c5:(bL t q1).2=0->PC Tryz.prog 301 [.agg [nA (bL t q1).1],.int .i64 q2] (.tup [.agg [nA (fg (bL t q1).1 q2).1],.int .i64 (fg (bL t q1).1 q2).2]):=fun h=>by
  obtain⟨h1,h2,_⟩:=Gm ht h;exact Fw _ h1 q2 af0
 have ca:=fun k=>vx t ht hb q2 (keep.getD k 0)
 dsimp only at c2 ⊢;generalize bL t i0=r1 at *;generalize bL t q1=r2 at *;generalize fg t q2=r3 at *;generalize fg r2.1 q2=r4 at *;obtain⟨r2a,r2b⟩:=r2;dsimp only at c3 c5 ⊢;clear hq;generalize isN t i0=b at *;cases b with
 |false=>exact aw
 |true=>
 by_cases k1:v.kind=1
 ·exact aw
 by_cases k3:v.kind=3
 ·exact aw
 by_cases k4:v.kind=4
 ·exact aw
 rw[afx (show ¬ (v.kind=3\/v.kind=4)by simp[k3,k4])];by_cases k2:v.kind=2
 case neg=>exact aw
 generalize hp:(fun k=>bw t q2 (keep.getD k 0))=r;have hr2:∀k,r k=bw t q2 (keep.getD k 0):=fun k=>by rw[<-hp]
 clear hp;refine nx fun _=>?_
 refine tG r keep.length (fun i=>[(12,.int .i64 i)]) (fun i=>[.var [nA t],.var (dZ v),.var [.sl 0 true []]]) (fun i h1 hp hf hw h2=>?_) (fun i h1 hp hw h2=>?_) (fun hf h=>?_)
 ·have hgk:=gdn (k:=.i64) h1;have c6:=ca i;rw[<-hr2,hp]at c6;rw[hf];clear ca hr2 c5 hf;exact aw
 ·have hgk:=gdn (k:=.i64) h1;have c6:=ca i;rw[<-hr2,hp]at c6;clear ca hr2 c5;exact aw
 ·rw [hf]
  clear ca hr2;by_cases k5:0<=q1
  ·by_cases k6:r2b=0
   ·have c5:=c5 k6;exact aw
   ·clear c5;exact aw
  ·clear c5;exact aw
theorem Mp(t:List Nod)(ht:eL t)(i0:Int)(v:Vdt)(keep:List Int)(hb:t.length<=2097152)(hk:keep.length<=2097152):PC Tryz.prog 217 [.agg [nA t],.int .i64 i0,.agg (dZ v),.sl 1 true (ah .i64 keep)] (.tup [.agg [nA (dR t i0 v keep).1],.int .i64 (dR t i0 v keep).2]):=J4 t ht i0 v keep hb hk _ rfl
end Go.Proofs.YtmpddimhleianaaGreat
