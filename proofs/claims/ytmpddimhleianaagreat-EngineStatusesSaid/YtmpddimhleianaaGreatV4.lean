/- Joined. -/
import Derived.Test.YtmpddimhleianaaGreatW3
import Derived.Test.YtmpddimhleianaaGreatV3
set_option linter.unusedVariables false
set_option linter.unusedSimpArgs false
set_option maxRecDepth 8000
set_option maxHeartbeats 4000000
namespace Go.Proofs.YtmpddimhleianaaGreat
open Go Go.FH Go.RowKit
abbrev nA(t:List Nod):AV:=.sl 240 false (rows bB t)
theorem dy{t:List Nod}{i:Nat}(h:i<t.length):(rows bB t).getD i []=bB (nod t i):=aS (f:=bB) gr h
theorem oB(t:List Nod)(i:Int):PC Tryz.prog 130 [.agg [nA t],.int .i64 i] (.bool (isN t i)):=by
 refine ae 5 ?_;unfold isN;exact aw
theorem MK(i:Int):PC Tryz.prog 129 [.int .i64 i] (.bool (decide (0<=i)&&decide (i<=2))):=by
 refine ae 3 ?_;exact aw
theorem cC(t:List Nod)(r:Rt)(hb:t.length<=2097152):PC Tryz.prog 32 [.agg [nA t],.agg (rtc r)] (.int .i64 (aj t r)):=by
 refine ae 6 ?_;unfold aj;refine nx fun _=>?_
 refine Mg (fun i=>decide ((nod t i).blk.root=r)) t.length (fun i=>[(5,.int .i64 i)]) (fun _=>[.var [nA t],.var (rtc r)]) (fun i h1 hp hf hw h2=>?_) (fun i h1 hp hw h2=>?_) (fun hf h=>?_)
 ·have hgd:=dy h1;have hp:=aks hp;rw[hf];exact aw
 ·have hgd:=dy h1;have hp:=aky hp;exact aw
 ·rw[hf];exact aw
def OZ(t:List Nod)(i:Int)(k:Nat)(l:List Int):List Int:=if (nod t k).up=i then l++[(k:Int)]else l
theorem adR(t:List Nod)(i:Int):∀n,(bg (OZ t i) [] n).length<=0+n:=ng (fun k l=>by unfold OZ;grind)
theorem MM(t:List Nod)(i0:Int)(hb:t.length<=2097152):PC Tryz.prog 226 [.agg [nA t],.int .i64 i0] (.sl 1 false (aH .i64 (ly t i0))):=by
 refine ae 7 ?_;have c1:=oB t i0;unfold ly;refine gon ?_;refine jx 5 1 ?_;simp only[go_sem];by_cases hn0:isN t i0=true
 ·rw[al7 hn0]
  rw[hn0]at c1;show Tri _ _ _ _ (mR _ (gf (Tri _ _ _ _ (PQ _ (.sl 1 false (aH .i64 (bg (OZ t i0) [] t.length))))) (PQ _ (.sl 1 false (aH .i64 (bg (OZ t i0) [] t.length)))))) _ _
  refine BA t.length (fun i=>[(6,.int .i64 i),(5,.hs 1 1 0 (bg (OZ t i0) [] i).length)]) (fun i=>[.var [nA t],.vec 1 (aH .i64 (bg (OZ t i0) [] i))]) (fun i h1 hw h2=>?_) (fun h=>?_)
  ·have hgd:=dy h1;have hs:=cX (OZ t i0) [] i;have hl:=adR t i0 i;generalize bg (OZ t i0) [] i=acc at *;have hc:OZ t i0 i acc=if (nod t i).up=i0 then acc++[(i:Int)]else acc:=rfl
   rw[hc]at hs;have hr:aH .i64 acc++[[AV.int .i64 (i:Int)]]=aH .i64 (acc++[(i:Int)]):=kP .i64 acc [(i:Int)];clear hc hn0;exact aw
  ·exact aw
 ·have hf:isN t i0=false:=by simpa using hn0
  rw[al5 hn0];rw[hf]at c1;clear hn0 hf;refine az (fun _:Unit=>[]) (fun _=>[.var [nA t],.vec 1 []]) (fun _=>0) (fun _=>True) () trivial ?_ ?_
  ·exact aw
  intro _ _;exact aw
theorem UL(t:List Nod)(hb:0<t.length):PC Tryz.prog 65 [.agg [nA t],.int .i64 0] (.sl 1 true (aH .i64 [0])):=by
 refine ae 5 ?_;have c1:=oB t 0;rw[show isN t 0=true by simp[isN,hb]]at c1;exact aw
theorem aef(t:List Nod)(i:Int)(hi:isN t i=false):PC Tryz.prog 65 [.agg [nA t],.int .i64 i] (.sl 0 true []):=by
 refine ae 5 ?_;have c1:=oB t i;rw[hi]at c1;exact aw
theorem RW(t:List Nod)(ht:eQ t)(hb:t.length<=2097152):∀ (n i:Nat),i<n->0<i->i<t.length->ay Tryz.prog 65 [.agg [nA t],.int .i64 i] [] (.hs 1 0 0 (AI t i).length) [.vec 1 (aH .i64 (AI t i))]
 |0,_,h,_,_=>by omega
 | n + 1, i, hn, h0, hi => by
   refine dS 5 ?_;have c1:=oB t i;rw[show isN t i=true by simp[isN,hi]]at c1;have e0:((i:Int)==0)=false:=WO
   obtain⟨u0,u1⟩:=ht i h0 hi;obtain⟨u,hu⟩:∃u:Nat,(nod t i).up=u:=⟨_,(amC u0).symm⟩
   have hs:=jw ht h0 hi;have hl:=oN ht (i+1) i WL;rw[hu]at hs;have hgd:=dy hi;refine gon ?_;refine am c1 ?_;try omega
   refine aB ?_;refine bJ e0 ?_;by_cases hu0:u=0
   ·subst hu0;have c2:=UL t WL;rw[show ((0:Nat):Int)=0 from rfl,jv WL]at hs;rw[hs]at hl ⊢;repeat(first|refine bY ?_|simp_all)
    refine aK (c2) ?_;refine gon ?_;refine bA [] [2] _ WM (by first|rfl|omega) WM rfl WM WM evd evd
   ·have c2:=RW t ht hb n u WL WL WL;have hl2:=oN ht (u+1) u WL;rw[hs]at hl ⊢;refine aZ hgd hu ?_;refine dsg [] c2 ?_;exact ahY [] [2]
theorem aeg(t:List Nod)(ht:eQ t)(hb:t.length<=2097152)(i:Nat)(h0:0<i)(hi:i<t.length):PC Tryz.prog 65 [.agg [nA t],.int .i64 i] (.sl 1 false (aH .i64 (AI t i))):=by
 refine ae 5 ?_;have c1:=oB t i;rw[show isN t i=true by simp[isN,hi]]at c1;have e0:((i:Int)==0)=false:=WO
 obtain⟨u0,u1⟩:=ht i h0 hi;obtain⟨u,hu⟩:∃u:Nat,(nod t i).up=u:=⟨_,(amC u0).symm⟩
 have hs:=jw ht h0 hi;have hl:=oN ht (i+1) i WL;rw[hu]at hs;have hgd:=dy hi;refine gon ?_;refine am c1 ?_;try omega
 refine aB ?_;refine bJ e0 ?_;by_cases hu0:u=0
 ·subst hu0;have c2:=UL t WL;rw[show ((0:Nat):Int)=0 from rfl,jv WL]at hs;rw[hs]at hl ⊢;repeat(first|refine bY ?_|simp_all)
  refine aK (c2) ?_;refine gon ?_;exact ai
 ·have c2:=RW t ht hb (u+1) u WL WL WL;have hl2:=oN ht (u+1) u WL;rw[hs]at hl ⊢;refine aZ hgd hu ?_;refine dsg [] c2 ?_;exact ai
theorem sd(t:List Nod)(k:eQ t)(j:t.length<=2097152)(i:Int):PC Tryz.prog 65 [.agg [nA t],.int .i64 i] (.sl 1 false (aH .i64 (AI t i))):=by
 by_cases h:isN t i=true
 ·have d:=h
  simp[isN]at d;obtain⟨u,rfl⟩:∃u:Nat,i=u:=⟨_,(amC d.1).symm⟩
  by_cases f:u=0
  ·subst f;have:=UL t WL;rw[show ((0:Nat):Int)=0 from rfl,jv WL];exact PC.weak this (Wk.open_ _ _ _) (bE _ _)
  ·exact aeg t k j u WL WL
 ·rw[te WO];exact PC.weak (aef t i WO) (Wk.empty _ _ _) (bE _ _)
theorem AD(t:List Nod)(g:eQ t)(i:t.length<=2097152)(a b:Int):PC Tryz.prog 33 [.agg [nA t],.int .i64 a,.int .i64 b] (.bool (eh t a b)):=by
 refine ae 7 ?_;have k:=sd t g i b;have h:=HX (AI t b) false a (by have:=pF g b;omega);refine gon ?_;refine ahG k ?_;refine ahG h ?_;exact ai
def atS(t:List Nod)(p:List Int)(slot:Int)(k:Nat)(a:Int):Int:=if (nod t (p.getD k 0).toNat).blk.slot<=slot then p.getD k 0 else a
theorem KF(t:List Nod)(ht:eQ t)(hb:t.length<=2097152)(i0 slot:Int):PC Tryz.prog 157 [.agg [nA t],.int .i64 i0,.int .u64 slot] (.int .i64 (atT t i0 slot)):=by
 refine ae 10 ?_;have c1:=sd t ht hb i0;have hl:=pF ht i0;have hm:∀x∈AI t i0,0<=x/\x<t.length:=fun x hx=>by have:=gu ht hx;omega
 show Tri _ _ _ _ (PQ _ (.int .i64 (bg (atS t (AI t i0) slot) (-1) (AI t i0).length))) _ _
 generalize AI t i0=p at *;refine nx fun _=>?_
 refine BA p.length (fun i=>[(9,.int .i64 i),(7,.int .i64 (bg (atS t p slot) (-1) i))]) (fun i=>[.var [nA t]]) (fun i h1 hw h2=>?_) (fun h=>?_)
 ·have hgp:=gdn (k:=.i64) h1;obtain⟨x0,x1⟩:=hm _ (show p.getD i 0∈p by rw[alt,al6 h1];exact amS h1);have hs:=cX (atS t p slot) (-1) i;change _=ite _ _ _ at hs
  simp only[<-alY]at hs;generalize bg (atS t p slot) (-1) i=acc at *;obtain⟨x,hx⟩:=ajO x0;rw[hx]at hs hgp x1;rw[amw]at hs;have hgd:=dy (t:=t) (i:=x) WL;clear hm x0 hx;exact aw
 ·clear hm;exact aw
theorem Ib{t:List Nod}(ht:eQ t)(i slot:Int):atT t i slot<t.length:=by
 have key:∀n,n<=(AI t i).length->bg (atS t (AI t i) slot) (-1) n<(t.length:Int):=by
  intro n;induction n with
  |zero=>intro _;show (-1:Int)<_;omega
  | succ n ih =>
    intro hn;rw[cX];unfold atS;split
    ·have hx:(AI t i).getD n 0∈AI t i:=by rw[alt,al6 WL];exact amS WL
     exact(gu ht hx).2.2
    ·exact ih WL
 exact key _ (amb _)
def zd(t:List Nod)(i:Int)(k:Nat)(l:List Int):List Int:=if eh t i k=true then l++[(k:Int)]else l
theorem Hl(t:List Nod)(i:Int):∀n,(bg (zd t i) [] n).length<=0+n:=ng (fun k l=>by unfold zd;split<;>simp)
theorem Mx(t:List Nod)(ht:eQ t)(hb:t.length<=2097152)(i0:Int):PC Tryz.prog 37 [.agg [nA t],.int .i64 i0] (.sl 1 false (aH .i64 (im t i0))):=by
 refine ae 7 ?_;show Tri _ _ _ _ (PQ _ (.sl 1 false (aH .i64 (bg (zd t i0) [] t.length)))) _ _
 refine gon ?_;refine jx 5 1 ?_;simp only[go_sem];refine BA t.length (fun i=>[(6,.int .i64 i),(5,.hs 1 1 0 (bg (zd t i0) [] i).length)]) (fun i=>[.var [nA t],.vec 1 (aH .i64 (bg (zd t i0) [] i))]) (fun i h1 hw h2=>?_) (fun h=>?_)
 ·have c1:=AD t ht hb i0 (i:Int);have hs:=cX (zd t i0) [] i;change _=ite _ _ _ at hs
  have hl:=Hl t i0 i;generalize bg (zd t i0) [] i=acc at *;have hr:aH .i64 acc++[[AV.int .i64 (i:Int)]]=aH .i64 (acc++[(i:Int)]):=kP .i64 acc [(i:Int)];generalize eh t i0 i=B at *;cases B<;>exact aw
 ·exact aw
theorem BD(t:List Nod)(i:Int):∀n,∀x∈bg (zd t i) [] n,0<=x/\x<n
 |0,x,hx=>by simp[ac3]at hx
 | n + 1, x, hx => by
   rw[cX]at hx;unfold zd at hx;split at hx
   ·rw[amm,amn]at hx;rcases hx with hx|hx
    ·have:=BD t i n x hx;omega
    ·omega
   ·have:=BD t i n x hx;omega
theorem YH(b:Blk)(st:Int):PC Tryz.prog 89 [.agg (aO b),.int .i64 st] (.agg [nA [⟨b,-1,st⟩]]):=by
 refine ae 5 ?_;refine gon ?_;refine⟨_,by first|rfl|exact evd,.inr ⟨.agg [.sl 240 true (rows bB [⟨b,-1,st⟩])],evd,by simp[Pu,PuL,j9],Wk.agg ⟨Wk.open_ _ _ _,fun h=>h,trivial⟩⟩⟩
def dc(b:Blk):Int:=if b.payload=rt0 then 1 else 0
theorem ET(b:Blk):PC Tryz.prog 294 [.agg (aO b)] (.int .i64 (dc b)):=by
 refine ae 3 ?_;unfold dc;exact aw
theorem G9(p b:Blk):PC Tryz.prog 343 [.agg (aO p),.agg (aO b)] (.bool (decide (b.payload≠rt0)&&decide (p.payload=rt0))):=by
 refine ae 5 ?_;by_cases h:b.payload=rt0<;>exact aw
def HP(ttd:Wd)(p b:Blk):Bool:=if b.payload=rt0 then decide (p.payload=rt0)else if p.payload=rt0 then decide (X5 b.pdiff ttd<0)&&decide (X5 b.diff ttd ≥ 0)else true
theorem DP(ttd:Wd)(p b:Blk):PC Tryz.prog 292 [.agg (wdc ttd),.agg (aO p),.agg (aO b)] (.bool (HP ttd p b)):=by
 refine ae 17 ?_;have c1:=G9 p b;have c2:=yO b.pdiff ttd;have c3:=yO b.diff ttd;unfold HP;generalize X5 b.pdiff ttd=x at *;generalize X5 b.diff ttd=y at *;by_cases h:b.payload=rt0
 ·exact aw
 ·rw[al5 h]
  rw[au (show b.payload≠rt0 from h)]at c1;by_cases h2:p.payload=rt0
  ·rw[al7 h2];rw[au h2]at c1;by_cases h3:x<0<;>exact aw
  ·rw[al5 h2];rw[aA h2]at c1;exact aw
theorem fM(t:List Nod)(r:Rt):-1<=aj t r/\aj t r<t.length:=by
 unfold aj;cases h:dW (fun i=>decide ((nod t i).blk.root=r)) t.length with
 |none=>rw[jP];omega
 |some i=>rw[Ck];have:=(fZ h).1;omega
theorem G8(t:List Nod)(b:Blk)(st:Int)(hb:t.length<=2097152):PC Tryz.prog 293 [.agg [nA t],.agg (aO b),.int .i64 st] (.tup [.agg [nA (BV t b st).1],.int .i64 (BV t b st).2]):=by
 refine ae 9 ?_;have c1:=MK st;have c2:=cC t b.root hb;have c3:=cC t b.parent hb;have b3:=fM t b.parent;have hr:=fun y=>cR bB t ⟨b,y,st⟩
 unfold BV;generalize aj t b.root=x at *;generalize aj t b.parent=y at *;by_cases q1:0<=st/\st<=2
 case neg=>
  rw[show (decide (0<=st)&&decide (st<=2))=false by rw[akJ,ami,ami];omega]at c1;rw[al7 q1];exact aw
 rw[show (decide (0<=st)&&decide (st<=2))=true by simp[q1]]at c1;rw[al5 (fun h=>h q1)];by_cases q2:0<=x
 ·exact aw
 by_cases q3:y<0
 ·exact aw
 obtain⟨k,rfl⟩:=ajO (alY.1 q3);have hgd:=dy (t:=t) (i:=k) WL;rw[amw];by_cases q4:4096<=t.length<;>exact aw
theorem QA(c:cU)(total:Int):PC Tryz.prog 77 [.agg (bW c.a),.int .u64 total] (.tup [.int .u64 (AC c.spe c.boost total).1,.int .i64 (AC c.spe c.boost total).2]):=by
 refine ae 7 ?_;obtain⟨lim,spe,boost,ttd,gen,bals⟩:=c;unfold AC cU.a;dsimp only;by_cases q1:spe<1
 ·exact aw
 have h0:spe≠0:=WL
 by_cases q2:64<spe
 ·exact aw
 by_cases q3:100<boost
 ·exact aw
 by_cases q4:4611686018427387904<total<;>exact aw
def QS(t:List Nod)(latest:List Vot)(eqv bals:List Int)(i:Nat)(l:List Int):List Int:=l++[if (nod t i).status≠2 then GI latest eqv bals [(nod t i).blk.root]else 0]
theorem Gv(t:List Nod)(a:List Vot)(e c:List Int):∀n,(bg (QS t a e c) [] n).length=n
 |0=>rfl
 |n+1=>by show (bg (QS t a e c) [] n++[_]).length=_;rw[akC,Gv t a e c n];rfl
theorem QT(t:List Nod)(latest:List Vot)(eqv bals:List Int)(hb:t.length<=2097152)(h1:latest.length<=2097152)(h2:eqv.length<=2097152)(h3:bals.length<=2097152):
 PC Tryz.prog 78 [.agg [nA t],.agg [.sl 34 false (rows al latest),.sl 1 false (aH .i64 eqv)],.sl 1 false (aH .u64 bals)] (.sl 1 false (aH .u64 (Gw t latest eqv bals))):=by
 refine ae 10 ?_;show Tri _ _ _ _ (PQ _ (.sl 1 false (aH .u64 (bg (QS t latest eqv bals) [] t.length)))) _ _
 refine gon ?_;refine jx 7 1 ?_;simp only[go_sem];refine BA t.length (fun i=>[(8,.int .i64 i),(7,.hs 1 2 0 i)]) (fun i=>[.var [nA t],.var [.sl 34 false (rows al latest),.sl 1 false (aH .i64 eqv)],.vec 1 (aH .u64 (bg (QS t latest eqv bals) [] i))]) (fun i g1 hw g2=>?_) (fun h=>?_)
 ·have hgd:=dy g1;have c1:=Tz latest eqv bals [(nod t i).blk.root] (by assumption) h2 h3 WM;have hs:=cX (QS t latest eqv bals) [] i;change _=_++[ite _ _ _]at hs
  have hl:=Gv t latest eqv bals i;have hro:[rtc (nod t i).blk.root]=rows rtc [(nod t i).blk.root]:=rfl;generalize bg (QS t latest eqv bals) [] i=acc at *;have hr:∀w:Int,aH .u64 acc++[[AV.int .u64 w]]=aH .u64 (acc++[w]):=fun w=>kP .u64 acc [w]
  by_cases q:(nod t i).status=2<;>exact aw
 ·have hl:=Gv t latest eqv bals t.length;have htk:List.take t.length (aH .u64 (bg (QS t latest eqv bals) [] t.length))=aH .u64 (bg (QS t latest eqv bals) [] t.length):=amf (by simp[hl]);generalize bg (QS t latest eqv bals) [] t.length=acc at *;exact aw
def Rs(direct d:List Int)(k:Nat)(n:Int):Int:=IntKind.u64.wrap (n+direct.getD (d.getD k 0).toNat 0)
def PX(t:List Nod)(direct:List Int)(i:Nat)(l:List Int):List Int:=l++[bg (Rs direct (im t i)) 0 (im t i).length]
theorem GF(t:List Nod)(a:List Int):∀n,(bg (PX t a) [] n).length=n
 |0=>rfl
 |n+1=>by show (bg (PX t a) [] n++[_]).length=_;rw[akC,GF t a n];rfl
theorem PZ(t:List Nod)(ht:eQ t)(direct:List Int)(hb:t.length<=2097152)(hd:direct.length=t.length):
 PC Tryz.prog 79 [.agg [nA t],.sl 1 false (aH .u64 direct)] (.sl 1 false (aH .u64 (ahl t direct))):=by
 refine ae 10 ?_;show Tri _ _ _ _ (PQ _ (.sl 1 false (aH .u64 (bg (PX t direct) [] t.length)))) _ _
 refine gon ?_;refine jx 5 1 ?_;simp only[go_sem];refine BA t.length (fun i=>[(6,.int .i64 i),(5,.hs 1 1 0 i)]) (fun i=>[.var [nA t],.vec 1 (aH .u64 (bg (PX t direct) [] i))]) (fun i h1 hw h2=>?_) (fun h=>?_)
 ·have c1:=Mx t ht hb (i:Int)
  have hs:=cX (PX t direct) [] i;have hl:=GF t direct i;have hm:=BD t (i:Int) t.length;have hdl:=Hl t (i:Int) t.length;change _=_++[bg (Rs direct (im t i)) 0 (im t i).length]at hs
  generalize bg (PX t direct) [] i=acc at *;change ∀x∈im t (i:Int),_ at hm
  change (im t (i:Int)).length<=_ at hdl
  generalize im t (i:Int)=d at *;have hr:∀w:Int,aH .u64 acc++[[AV.int .u64 w]]=aH .u64 (acc++[w]):=fun w=>kP .u64 acc [w]
  refine nx fun _=>?_
  refine BA d.length (fun k=>[(9,.int .i64 k),(7,.int .u64 (bg (Rs direct d) 0 k))]) (fun k=>[.var [nA t],.vec 1 (aH .u64 acc)]) (fun k q1 hw2 q2=>?_) (fun h=>?_)
  ·have hgk:=gdn (k:=.i64) q1;obtain⟨x0,x1⟩:=hm _ (show d.getD k 0∈d by rw[alt,al6 q1];exact amS q1);have hs2:=cX (Rs direct d) 0 k;change _=IntKind.u64.wrap (_+direct.getD (d.getD k 0).toNat 0)at hs2
   generalize bg (Rs direct d) 0 k=n at *;obtain⟨x,hx⟩:=ajO x0;rw[hx]at hs2 hgk x1;rw[amw]at hs2;have x2:x<direct.length:=WL
   have hgx:=gdn (k:=.u64) (ns:=direct) (i:=x) WL;clear hs hm hx x0 hr;exact aw
  ·clear hm;exact aw
 ·have hl:=GF t direct t.length;have htk:List.take t.length (aH .u64 (bg (PX t direct) [] t.length))=aH .u64 (bg (PX t direct) [] t.length):=amf (by simp[hl]);generalize bg (PX t direct) [] t.length=acc at *;exact aw
theorem N8(t:List Nod)(direct:List Int)(root:Rt)(amount:Int)(hb:t.length<=2097152)(hd:direct.length=t.length):
 PC Tryz.prog 80 [.agg [nA t],.sl 1 false (aH .u64 direct),.agg (rtc root),.int .u64 amount] (.sl 1 false (aH .u64 (rk t direct root amount))):=by
 refine ae 11 ?_;have c1:=cC t root hb;have b1:=fM t root;unfold rk;generalize aj t root=x at *;by_cases q1:0<=x
 ·obtain⟨k,rfl⟩:=ajO q1;rw[amw];have hgd:=dy (t:=t) (i:=k) WL;have hgx:=gdn (k:=.u64) (ns:=direct) (i:=k) WL;have hset:∀w:Int,(aH .u64 direct).set k [AV.int .u64 w]=aH .u64 (direct.set k w):=fun w=>by simp[aH,al1]
  by_cases q2:(nod t k).status=2
  ·exact aw
  by_cases q3:root=rt0<;>exact aw
 ·exact aw
theorem C8(t:List Nod)(l:List Int)(st fb:Int)(hb:t.length<=2097152)(hl:l.length<=2097152)(hj:∀j∈l,0<=j/\j<t.length):
 PC Tryz.prog 345 [.agg [nA t],.sl 1 false (aH .i64 l),.int .i64 st,.int .i64 fb] (.tup [.agg [nA ((tD t l st fb).getD [])],.bool (tD t l st fb).isSome]):=by
 refine ae 12 ?_;refine nx fun _=>?_
 refine FO l.length (fun i=>(bg (qf l st fb) (some t) i).isSome=true) (fun i=>[(11,.int .i64 i)]) (fun i=>[.var [nA t],.var [.sl 0 true []],.vec 240 (rows bB ((bg (qf l st fb) (some t) i).getD [])),.var [.hs 240 2 0 t.length]]) rfl (fun i h1 ho hw h2=>?_) (fun ho h=>?_)
 ·have hgl:=gdn (k:=.i64) h1
  obtain⟨x0,x1⟩:=hj _ (show l.getD i 0∈l by rw[alt,al6 h1];exact amS h1);have hs:=cX (qf l st fb) (some t) i;obtain⟨u,hu⟩:=ajH.1 ho;have hlu:=ml hu;rw[hu]at hs ⊢;simp only[qf,ale]at hs;obtain⟨x,hx⟩:=ajO x0;rw[hx]at hs hgl x1;rw[amw]at hs;have hgd:=dy (t:=u) (i:=x) WL;have x2:x<u.length:=WL
  have hset:=F2 bB u x;clear ho hj hu hx x0;by_cases q:(nod u x).status=fb
  ·rw[al7 q]at hs;rw[show tD t l st fb=none from y9 hs _ h1];clear hs;exact aw
  ·rw[al5 q]at hs;have ho:(bg (qf l st fb) (some t) (i+1)).isSome=true:=by rw[hs];rfl
   rw[hs]at ho ⊢;exact aw
 ·obtain⟨u,hu⟩:=ajH.1 ho;have hlu:=ml hu;rw[show tD t l st fb=some u from hu,hu];have htk:List.take t.length (rows bB u)=rows bB u:=amf (by simp[hlu]);clear ho hu;exact aw
theorem vN(t:List Nod)(ht:eQ t)(i:Int)(hb:t.length<=2097152):PC Tryz.prog 299 [.agg [nA t],.int .i64 i] (.tup [.agg [nA (fD t i).1],.int .i64 (fD t i).2]):=by
 refine ae 8 ?_;have c1:=oB t i;have c2:=sd t ht hb i;have hl:=pF ht i;have c3:=C8 t (AI t i) 1 2 hb WL (fun j hj=>by have:=gu ht hj;omega);unfold fD;generalize tD t (AI t i) 1 2=o at *;generalize isN t i=b at *;cases b<;>cases o<;>exact aw
theorem yP(t:List Nod)(ht:eQ t)(i:Int)(hb:t.length<=2097152):PC Tryz.prog 301 [.agg [nA t],.int .i64 i] (.tup [.agg [nA (kF t i).1],.int .i64 (kF t i).2]):=by
 refine ae 8 ?_;have c1:=oB t i;have c2:=Mx t ht hb i;have hl:(im t i).length<=0+t.length:=Hl t i t.length;have c3:=C8 t (im t i) 2 1 hb WL (fun j hj=>BD t i t.length j hj);unfold kF;generalize tD t (im t i) 2 1=o at *;generalize isN t i=b at *;cases b<;>cases o<;>exact aw
theorem Ef(t:List Nod)(i:Int)(k:Nat)(p:List Nod×List Int):(ei t i k p).2.length=p.2.length+1/\(ei t i k p).1.length<=p.1.length+1:=by
 unfold ei;split<;>simp
theorem uu(t:List Nod)(i:Int):∀k,(bg (ei t i) ([],[]) k).2.length=k/\(bg (ei t i) ([],[]) k).1.length<=k
 |0=>⟨rfl,amb _⟩
 | k + 1 => by
   rw[cX];have h1:=uu t i k;have h2:=Ef t i k (bg (ei t i) ([],[]) k);omega
theorem Ei (t : List Nod) (ht : eQ t) (i0 : Int) (hb : t.length <= 2097152) (h0 : isN t i0 = true) :
 PC Tryz.prog 288 [.agg [nA t],.int .i64 i0] (.tup [.agg [nA (eF t i0).1],.sl 1 false (aH .i64 (eF t i0).2),.int .i64 0]):=by
 refine ae 11 ?_;unfold eF;have c0:=oB t i0;rw[h0]at c0;refine nx fun _=>?_
 refine pS 2 0 240 ?_;simp only[go_sem];refine jx 8 1 ?_;simp only[go_sem];refine BA t.length (fun i=>[(9,.int .i64 i),(8,.hs 1 4 0 (bg (ei t i0) ([],[]) i).2.length)]) (fun i=>[.var [nA t],.var [.sl 0 true []],.var [.hs 240 3 0 (bg (ei t i0) ([],[]) i).1.length],.vec 240 (rows bB (bg (ei t i0) ([],[]) i).1),.vec 1 (aH .i64 (bg (ei t i0) ([],[]) i).2)]) (fun i h1 hw h2=>?_) (fun h=>?_)
 ·have c1 := AD t ht hb i0 (i : Int)
  have hgd:=dy h1;have hs:=cX (ei t i0) ([],[]) i;obtain⟨hl2,hl1⟩:=uu t i0 i;generalize bg (ei t i0) ([],[]) i=p at *;obtain⟨kp,ix⟩:=p;dsimp only at hl1 hl2;change _=ite _ (kp++[⟨_,ite _ _ (ix.getD _ _),_⟩],ix++[(kp.length:Int)]) (kp,ix++[-1])at hs
  have hr:∀w:Int,aH .i64 ix++[[AV.int .i64 w]]=aH .i64 (ix++[w]):=fun w=>kP .i64 ix [w]
  have hrn:=cR bB kp;cases ha:eh t i0 i with
  | false =>
    rw[ha]at c1;rw[al5 (by simp[ha])]at hs;clear ha c0 h0;refine nx fun _=>?_
    exact gcJ [0,1,2,3,5]
  | true =>
    rw[ha]at c1;rw[al7 ha]at hs;by_cases hk:(i:Int)=i0
    ·rw[al7 hk]at hs;clear ha c0 h0;subst hk;refine nx fun _=>?_
     exact gcJ [0,1,2,7,6]
    ·rw [al5 hk] at hs
     have hi0:0<i:=by
      rcases ajQ i with h|h
      ·subst h;unfold eh at ha;rw[show ((0:Nat):Int)=0 from rfl,jv h1]at ha;simp at ha;exact absurd ha.symm hk
      ·exact h
     obtain⟨u0,u1⟩:=ht i hi0 h1;obtain⟨u,hu⟩:=ajO u0;rw[hu]at hs u1;rw[amw]at hs;have hgi:=gdn (k:=.i64) (ns:=ix) (i:=u) WL;clear ha c0 h0 u0;refine nx fun _=>?_
     exact gcJ [0,1,2,7,6]
 ·obtain⟨hl2,hl1⟩:=uu t i0 t.length;clear c0 h0;exact aw
theorem Ej(t:List Nod)(ht:eQ t)(i0:Int)(latest:Rt)(hb:t.length<=2097152):PC Tryz.prog 300 [.agg [nA t],.int .i64 i0,.agg (rtc latest)] (.tup [.int .i64 (iY t i0 latest).1,.int .i64 (iY t i0 latest).2]):=by
 refine ae 11 ?_;have c1:=sd t ht hb i0;have hl:=pF ht i0;have hm:∀x∈AI t i0,0<=x/\x<t.length:=fun x hx=>by have:=gu ht hx;omega
 unfold iY;generalize AI t i0=p at *
 have hg:∀k,k<p.length->∃x:Nat,p.getD k 0=x/\x<t.length:=fun k hk=>by
  have:=hm _ (show p.getD k 0∈p by rw[alt,al6 hk];exact amS hk);exact⟨_,(amC this.1).symm,WL⟩
 clear hm;by_cases q0:p.length=0
 ·obtain rfl:=amK q0;exact aw
 have q2:¬ (p.length:Int)=0:=WL
 rw[al5 q0];by_cases q1:latest=rt0
 ·rw[al7 q1]
  refine nx fun _=>?_
  refine Mg (fun k=>decide ((nod t (p.getD k 0).toNat).blk.payload≠rt0)) p.length (fun i=>[(9,.int .i64 i)]) (fun i=>[.var [nA t],.var (rtc latest)]) (fun i h1 hp hf hw h2=>?_) (fun i h1 hp hw h2=>?_) (fun hf h=>?_)
  ·obtain⟨x,hx,hxl⟩:=hg i h1;have hgp:=gdn (k:=.i64) h1;have hgd:=dy hxl;rw[hf];dsimp only;rw[hx]at hp hgp ⊢;rw[amw]at hp ⊢;have hp:¬ (nod t x).blk.payload=rt0:=aks hp;clear hg hf hx;exact aw
  ·obtain⟨x,hx,hxl⟩:=hg i h1;have hgp:=gdn (k:=.i64) h1;have hgd:=dy hxl;rw[hx]at hp hgp;rw[amw]at hp;have hp:(nod t x).blk.payload=rt0:=by simpa using hp
   clear hg hx;exact aw
  ·rw[hf];clear hg;exact aw
 ·rw [al5 q1]
  have hw0:IntKind.i64.wrap ((p.length:Int)-2)=((p.length-1:Nat):Int)-1:=by rw[aL WL WL];omega
  generalize hr:(fun k=>decide ((nod t (p.getD k 0).toNat).blk.payload=latest))=r;have hr2:∀k,r k=decide ((nod t (p.getD k 0).toNat).blk.payload=latest):=fun k=>by rw[<-hr]
  clear hr;refine nx fun _=>?_
  refine Ld (p.length-1) (fun m=>yB r (p.length-1)=yB r m) (fun _ j=>[(10,.int .i64 j)]) (fun i=>[.var [nA t],.var (rtc latest)]) rfl (fun i h1 hn h2 hw=>?_) (fun hn=>?_)
  ·obtain⟨x,hx,hxl⟩:=hg i WL
   have hgp:=gdn (k:=.i64) (ns:=p) (i:=i) WL;have hgp2:=gdn (k:=.i64) (ns:=p) (i:=i+1) WL;have hw3:IntKind.i64.wrap ((i:Int)+1)=((i+1:Nat):Int):=af (n:=p.length) WL WL;have hi:=hr2 i;have hgd:=dy hxl;have h3:i<p.length:=WL
   have h4:i+1<p.length:=WL
   rw[hx]at hi hgp;rw[amw]at hi;clear hg hr2;by_cases q:(nod t x).blk.payload=latest
   ·rw[hn,MZ (by rw[hi];exact au q)];dsimp only;rw[hx];clear hn hi hx;exact aw
   ·rw[MU (by rw[hi];exact aA q)]at hn;clear hi hx;exact aw
  ·rw[hn,M0];clear hg hr2 hn;exact aw
theorem Cl(t:List Nod)(ht:eQ t)(i0:Int)(v:Vdt)(keep:List Int)(hb:t.length<=2097152)(hk:keep.length<=2097152)(R:List Nod×Int)(hR:R=iT t i0 v keep):PC Tryz.prog 217 [.agg [nA t],.int .i64 i0,.agg (cA v),.sl 1 true (aH .i64 keep)] (.tup [.agg [nA R.1],.int .i64 R.2]):=by
 refine ae 35 ?_;have c0:=oB t i0;have c1:=vN t ht i0 hb;have c2:=Ej t ht i0 v.latest hb;subst hR;unfold iT;generalize hq:iY t i0 v.latest=q at *;obtain⟨q1,q2⟩:=q;have c4:=yP t ht q2 hb;have c3:=vN t ht q1 hb
 have c5:(fD t q1).2=0->PC Tryz.prog 301 [.agg [nA (fD t q1).1],.int .i64 q2] (.tup [.agg [nA (kF (fD t q1).1 q2).1],.int .i64 (kF (fD t q1).1 q2).2]):=fun h=>by
  obtain⟨h1,h2,_⟩:=Hq ht h;exact yP _ h1 q2 WL
 have ca:=fun k=>AD t ht hb q2 (keep.getD k 0)
 dsimp only at c2 ⊢;generalize fD t i0=r1 at *;generalize fD t q1=r2 at *;generalize kF t q2=r3 at *;generalize kF r2.1 q2=r4 at *;obtain⟨r2a,r2b⟩:=r2;dsimp only at c3 c5 ⊢;clear hq;generalize isN t i0=b at *;cases b with
 |false=>exact aw
 |true=>
 by_cases k1:v.kind=1
 ·exact aw
 by_cases k3:v.kind=3
 ·exact aw
 by_cases k4:v.kind=4
 ·exact aw
 rw[al5 (show ¬ (v.kind=3\/v.kind=4)by simp[k3,k4])];by_cases k2:v.kind=2
 case neg=>exact aw
 generalize hp:(fun k=>eh t q2 (keep.getD k 0))=r;have hr2:∀k,r k=eh t q2 (keep.getD k 0):=fun k=>by rw[<-hp]
 clear hp;refine nx fun _=>?_
 refine Mg r keep.length (fun i=>[(12,.int .i64 i)]) (fun i=>[.var [nA t],.var (cA v),.var [.sl 0 true []]]) (fun i h1 hp hf hw h2=>?_) (fun i h1 hp hw h2=>?_) (fun hf h=>?_)
 ·have hgk:=gdn (k:=.i64) h1;have c6:=ca i;rw[<-hr2,hp]at c6;rw[hf];clear ca hr2 c5 hf;exact aw
 ·have hgk:=gdn (k:=.i64) h1;have c6:=ca i;rw[<-hr2,hp]at c6;clear ca hr2 c5;exact aw
 ·rw [hf]
  clear ca hr2;by_cases k5:0<=q1
  ·by_cases k6:r2b=0
   ·have c5:=c5 k6;exact aw
   ·clear c5;exact aw
  ·clear c5;exact aw
theorem DX(t:List Nod)(ht:eQ t)(i0:Int)(v:Vdt)(keep:List Int)(hb:t.length<=2097152)(hk:keep.length<=2097152):PC Tryz.prog 217 [.agg [nA t],.int .i64 i0,.agg (cA v),.sl 1 true (aH .i64 keep)] (.tup [.agg [nA (iT t i0 v keep).1],.int .i64 (iT t i0 v keep).2]):=Cl t ht i0 v keep hb hk _ rfl
end Go.Proofs.YtmpddimhleianaaGreat
