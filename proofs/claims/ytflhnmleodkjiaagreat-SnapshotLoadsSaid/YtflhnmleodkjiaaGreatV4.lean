/- Joined. -/
import Derived.Test.YtflhnmleodkjiaaGreatV3
set_option linter.unusedVariables false
set_option linter.unusedSimpArgs false
set_option maxRecDepth 8000
set_option maxHeartbeats 4000000
namespace Go.Proofs.YtflhnmleodkjiaaGreat
open Go Go.FH Go.RowKit
abbrev nA(t:List Nod):AV:=.sl 240 false (rows bB t)
theorem dy{t:List Nod}{i:Nat}(h:i<t.length):(rows bB t).getD i []=bB (nod t i):=aS (f:=bB) gr h
theorem oB(t:List Nod)(i:Int):PC Tryz.prog 245 [.agg [nA t],.int .i64 i] (.bool (isN t i)):=by
 refine pfn 5 Uc ?_;unfold G6;refine bd ?_;unfold isN;by_cases c:0<=i
 ·repeat(first|refine bY ?_|simp_all)
  exact ai
 ·have e0:decide (i ≥ 0)=false:=aA c;have g:=aA c;repeat(first|refine bY ?_|simp only[e0])
  exact ai
theorem MK(i:Int):PC Tryz.prog 396 [.int .i64 i] (.bool (decide (0<=i)&&decide (i<=2))):=by
 refine pfn 3 DD ?_;unfold YI;refine bd ?_;by_cases c:0<=i
 ·repeat(first|refine bY ?_|simp_all)
  exact ai
 ·have e0:decide (i ≥ 0)=false:=aA c;have f:=aA c;repeat(first|refine bY ?_|simp only[e0])
  exact ai
theorem cC(t:List Nod)(r:Rt)(hb:t.length<=2097152):PC Tryz.prog 92 [.agg [nA t],.agg (rtc r)] (.int .i64 (aj t r)):=by
 refine pfn 6 OE ?_;unfold AL;refine bd ?_;refine gon ?_;refine az (fun i:Nat=>[(5,.int .i64 i)]) (fun _=>[.var [nA t],.var (rtc r)]) (fun i=>t.length-i) (fun i=>i<=t.length/\aj t r=Cj (iK (fun i=>decide ((nod t i).blk.root=r)) (t.length-i) i)) 0 ⟨amc _,rfl⟩ ?_ ?_
 ·exact ais [] [0,1]
 rintro i ⟨hi,hn⟩;rw[hn];refine dp ?_;by_cases h1:i<t.length
 ·have e1:=inT h1
  have hw:=af h1 (by omega);have hgd:=dy h1;refine bw e1 ?_;repeat(first|refine bY ?_|simp_all)
  refine cd (fun h=>?_) (fun h=>?_)
  ·rw[nB h1 h];refine gon ?_;exact ai
  ·rw[nz h1 h];repeat(first|refine bY ?_|simp_all)
   refine⟨i+1,⟨h1,rfl⟩,by omega,?_⟩;exact ais [] [0,1]
 ·obtain rfl:i=t.length:=by omega
  have e1:=inF (t.length);rw[nu];refine aF e1 ?_;exact ai
def OZ(t:List Nod)(i:Int)(k:Nat)(l:List Int):List Int:=if (nod t k).up=i then l++[(k:Int)]else l
theorem adR(t:List Nod)(i:Int):∀n,(bg (OZ t i) [] n).length<=0+n:=ng (fun k l=>by unfold OZ;grind)
theorem MM(t:List Nod)(i0:Int)(hb:t.length<=2097152):PC Tryz.prog 405 [.agg [nA t],.int .i64 i0] (.sl 1 false (aH .i64 (ly t i0))):=by
 refine pfn 7 DA ?_;unfold ru;refine bd ?_;have c1:=oB t i0;unfold ly;refine gon ?_;refine jx 5 1 ?_;simp only[go_sem];by_cases hn0:isN t i0=true
 ·rw [al7 hn0]
  rw[hn0]at c1;show Tri _ _ _ _ (mR _ (gf (Tri _ _ _ _ (PQ _ (.sl 1 false (aH .i64 (bg (OZ t i0) [] t.length))))) (PQ _ (.sl 1 false (aH .i64 (bg (OZ t i0) [] t.length)))))) _ _
  refine az (fun i:Nat=>[(6,.int .i64 i),(5,.hs 1 1 0 (bg (OZ t i0) [] i).length)]) (fun i=>[.var [nA t],.vec 1 (aH .i64 (bg (OZ t i0) [] i))]) (fun i=>t.length-i) (fun i=>i<=t.length) 0 (amc _) ?_ ?_
  ·exact ais [] [0,1]
  intro i hi;refine dp ?_;by_cases h1:i<t.length
  ·have e1:=inT h1
   have hw:=af h1 (by omega);have hgd:=dy h1;have hs:=cX (OZ t i0) [] i;have hl:=adR t i0 i;generalize bg (OZ t i0) [] i=acc at *;have hc:OZ t i0 i acc=if (nod t i).up=i0 then acc++[(i:Int)]else acc:=rfl
   have hr:aH .i64 acc++[[AV.int .i64 (i:Int)]]=aH .i64 (acc++[(i:Int)]):=kP .i64 acc [(i:Int)];refine ah e1 ?_;refine am c1 ?_;try omega
   refine ax ?_;refine ah hgd ?_;refine cd (fun h=>?_) (fun h=>?_)
   ·rw[al7 (by simpa using h)]at hc;refine aZ hr hw ?_;refine⟨i+1,h1,by omega,?_⟩;rw[hs,hc];exact ais [] [0,2]
   ·rw[al5 (by simpa using h)]at hc;refine aZ hr hw ?_;refine⟨i+1,h1,by omega,?_⟩;rw[hs,hc];exact ais [] [0,1]
  ·obtain rfl:i=t.length:=by omega
   have e1:=inF (t.length);refine aF e1 ?_;exact ai
 ·have hf:isN t i0=false:=by simpa using hn0
  rw[al5 hn0];rw[hf]at c1;refine az (fun _:Unit=>[]) (fun _=>[.var [nA t],.vec 1 []]) (fun _=>0) (fun _=>True) () trivial ?_ ?_
  ·exact ais [] [0,1]
  intro _ _;(try simp only[dE,dr,amx,amy])
  by_cases h1:0<t.length
  ·have e1:decide ((0:Int)<(t.length:Int))=true:=au (by omega);refine ah e1 ?_;refine am c1 ?_;refine bk ?_;exact ai
  ·have e1:decide ((0:Int)<(t.length:Int))=false:=aA (by omega);refine aF e1 ?_;exact ai
theorem UL(t:List Nod)(g:0<t.length):PC Tryz.prog 158 [.agg [nA t],.int .i64 0] (.sl 1 true (aH .i64 [0])):=by
 refine pfn 5 ou ?_;unfold ky;refine bd ?_;have c:=oB t 0;rw[show isN t 0=true by simp[isN,g]]at c;refine gon ?_;refine am c ?_;refine aB ?_;refine aX ?_;exact ai
theorem aef(t:List Nod)(i:Int)(d:isN t i=false):PC Tryz.prog 158 [.agg [nA t],.int .i64 i] (.sl 0 true []):=by
 refine pfn 5 ou ?_;unfold ky;refine bd ?_;have b:=oB t i;rw[d]at b;refine gon ?_;refine am b ?_;refine agF ?_;exact ai
theorem RW(t:List Nod)(ht:eQ t)(hb:t.length<=2097152):∀ (n i:Nat),i<n->0<i->i<t.length->ay Tryz.prog 158 [.agg [nA t],.int .i64 i] [] (.hs 1 0 0 (AI t i).length) [.vec 1 (aH .i64 (AI t i))]
 |0,_,h,_,_=>by omega
 | n + 1, i, hn, h0, hi => by
   refine afn 5 ou ?_;unfold ky;refine bd ?_;have c1:=oB t i;rw[show isN t i=true by simp[isN,hi]]at c1;have e0:((i:Int)==0)=false:=by grind
   obtain⟨u0,u1⟩:=ht i h0 hi;obtain⟨u,hu⟩:∃u:Nat,(nod t i).up=u:=⟨_,(amC u0).symm⟩
   have hs:=jw ht h0 hi;have hl:=oN ht (i+1) i (by omega);rw[hu]at hs;have hgd:=dy hi;refine gon ?_;refine am c1 ?_;try omega
   refine aB ?_;refine bJ e0 ?_;by_cases hu0:u=0
   ·subst hu0;have c2:=UL t (by omega);rw[show ((0:Nat):Int)=0 from rfl,jv (by omega)]at hs;rw[hs]at hl ⊢;repeat(first|refine bY ?_|simp_all)
    refine aK (c2) ?_;refine gon ?_;refine bA [] [2] _ (by simp) (by first|rfl|omega) (by simp) rfl (by simp) (by simp) evd evd
   ·have c2:=RW t ht hb n u (by omega) (by omega) (by omega);have hl2:=oN ht (u+1) u (by omega);rw[hs]at hl ⊢;refine aZ hgd hu ?_;refine dsg [] c2 ?_;exact ahY [] [2]
theorem aeg(t:List Nod)(ht:eQ t)(hb:t.length<=2097152)(i:Nat)(h0:0<i)(hi:i<t.length):PC Tryz.prog 158 [.agg [nA t],.int .i64 i] (.sl 1 false (aH .i64 (AI t i))):=by
 refine pfn 5 ou ?_;unfold ky;refine bd ?_;have c1:=oB t i;rw[show isN t i=true by simp[isN,hi]]at c1;have e0:((i:Int)==0)=false:=by grind
 obtain⟨u0,u1⟩:=ht i h0 hi;obtain⟨u,hu⟩:∃u:Nat,(nod t i).up=u:=⟨_,(amC u0).symm⟩
 have hs:=jw ht h0 hi;have hl:=oN ht (i+1) i (by omega);rw[hu]at hs;have hgd:=dy hi;refine gon ?_;refine am c1 ?_;try omega
 refine aB ?_;refine bJ e0 ?_;by_cases hu0:u=0
 ·subst hu0;have c2:=UL t (by omega);rw[show ((0:Nat):Int)=0 from rfl,jv (by omega)]at hs;rw[hs]at hl ⊢;repeat(first|refine bY ?_|simp_all)
  refine aK (c2) ?_;refine gon ?_;exact ai
 ·have c2:=RW t ht hb (u+1) u (by omega) (by omega) (by omega);have hl2:=oN ht (u+1) u (by omega);rw[hs]at hl ⊢;refine aZ hgd hu ?_;refine dsg [] c2 ?_;exact ai
theorem sd(t:List Nod)(k:eQ t)(j:t.length<=2097152)(i:Int):PC Tryz.prog 158 [.agg [nA t],.int .i64 i] (.sl 1 false (aH .i64 (AI t i))):=by
 by_cases h:isN t i=true
 ·have d:=h
  simp[isN]at d;obtain⟨u,rfl⟩:∃u:Nat,i=u:=⟨_,(amC d.1).symm⟩
  by_cases f:u=0
  ·subst f;have:=UL t (by omega);rw[show ((0:Nat):Int)=0 from rfl,jv (by omega)];exact PC.weak this (Wk.open_ _ _ _) (bE _ _)
  ·exact aeg t k j u (by omega) (by omega)
 ·rw[te (by grind)];exact PC.weak (aef t i (by grind)) (Wk.empty _ _ _) (bE _ _)
theorem AD(t:List Nod)(g:eQ t)(i:t.length<=2097152)(a b:Int):PC Tryz.prog 387 [.agg [nA t],.int .i64 a,.int .i64 b] (.bool (eh t a b)):=by
 refine pfn 7 zJ ?_;unfold o6;refine bd ?_;have k:=sd t g i b;have h:=HX (AI t b) false a (by have:=pF g b;omega);refine gon ?_;refine ahG k ?_;refine ahG h ?_;exact ai
def atS(t:List Nod)(p:List Int)(slot:Int)(k:Nat)(a:Int):Int:=if (nod t (p.getD k 0).toNat).blk.slot<=slot then p.getD k 0 else a
theorem KF(t:List Nod)(ht:eQ t)(hb:t.length<=2097152)(i0 slot:Int):PC Tryz.prog 244 [.agg [nA t],.int .i64 i0,.int .u64 slot] (.int .i64 (atT t i0 slot)):=by
 refine pfn 10 QJ ?_;unfold E4;refine bd ?_;have c1:=sd t ht hb i0;have hl:=pF ht i0;have hm:∀x∈AI t i0,0<=x/\x<t.length:=fun x hx=>by have:=gu ht hx;omega
 show Tri _ _ _ _ (PQ _ (.int .i64 (bg (atS t (AI t i0) slot) (-1) (AI t i0).length))) _ _
 refine gon ?_;refine am c1 ?_;generalize AI t i0=p at *;refine gon ?_;refine az (fun i:Nat=>[(9,.int .i64 i),(7,.int .i64 (bg (atS t p slot) (-1) i))]) (fun i=>[.var [nA t]]) (fun i=>p.length-i) (fun i=>i<=p.length) 0 (amc _) ?_ ?_
 ·exact ais [] [0]
 intro i hi;refine dp ?_;by_cases h1:i<p.length
 ·have e1:=inT h1
  have hw:=af h1 (by omega);have hgp:=gdn (k:=.i64) h1;have hx:p.getD i 0∈p:=by rw[alt,al6 h1];exact amS h1
  obtain⟨x0,x1⟩:=hm _ hx;have hs:=cX (atS t p slot) (-1) i;generalize bg (atS t p slot) (-1) i=acc at *;have hc:atS t p slot i acc=if (nod t (p.getD i 0).toNat).blk.slot<=slot then p.getD i 0 else acc:=rfl
  generalize p.getD i 0=x at *;have hgd:=dy (t:=t) (i:=x.toNat) (by omega);refine bw e1 ?_;refine dC hgd hgp amv ?_;refine cd (fun h=>?_) (fun h=>?_)
  ·rw[al7 (by simpa using h)]at hc;refine dC hw hgp amv ?_;refine⟨i+1,h1,by omega,?_⟩;rw[hs,hc];exact ais [] [0]
  ·rw[al5 (by simpa using h)]at hc;refine ah hw ?_;refine⟨i+1,h1,by omega,?_⟩;rw[hs,hc];exact ais [] [0]
 ·obtain rfl:i=p.length:=by omega
  have e1:=inF (p.length);refine aF e1 ?_;exact ai
def zd(t:List Nod)(i:Int)(k:Nat)(l:List Int):List Int:=if eh t i k=true then l++[(k:Int)]else l
theorem Hl(t:List Nod)(i:Int):∀n,(bg (zd t i) [] n).length<=0+n:=ng (fun k l=>by unfold zd;split<;>simp)
theorem Mx(t:List Nod)(ht:eQ t)(hb:t.length<=2097152)(i0:Int):PC Tryz.prog 444 [.agg [nA t],.int .i64 i0] (.sl 1 false (aH .i64 (im t i0))):=by
 refine pfn 7 yb ?_;unfold nJ;refine bd ?_;show Tri _ _ _ _ (PQ _ (.sl 1 false (aH .i64 (bg (zd t i0) [] t.length)))) _ _
 refine gon ?_;refine jx 5 1 ?_;simp only[go_sem];refine az (fun i:Nat=>[(6,.int .i64 i),(5,.hs 1 1 0 (bg (zd t i0) [] i).length)]) (fun i=>[.var [nA t],.vec 1 (aH .i64 (bg (zd t i0) [] i))]) (fun i=>t.length-i) (fun i=>i<=t.length) 0 (amc _) ?_ ?_
 ·exact ais [] [0,1]
 intro i hi;refine dp ?_;by_cases h1:i<t.length
 ·have e1:=inT h1
  have hw:=af h1 (by omega);have c1:=AD t ht hb i0 (i:Int);have hs:=cX (zd t i0) [] i;have hl:=Hl t i0 i;generalize bg (zd t i0) [] i=acc at *;have hc:zd t i0 i acc=if eh t i0 i=true then acc++[(i:Int)]else acc:=rfl
  have hr:aH .i64 acc++[[AV.int .i64 (i:Int)]]=aH .i64 (acc++[(i:Int)]):=kP .i64 acc [(i:Int)];refine aM e1 ?_;refine ahG c1 ?_;refine cd (fun h=>?_) (fun h=>?_)
  ·rw[al7 h]at hc;refine aZ hr hw ?_;refine⟨i+1,h1,by omega,?_⟩;rw[hs,hc];exact ais [] [0,2]
  ·rw[al5 (by simp[h])]at hc;refine aZ hr hw ?_;refine⟨i+1,h1,by omega,?_⟩;rw[hs,hc];exact ais [] [0,1]
 ·obtain rfl:i=t.length:=by omega
  have e1:=inF (t.length);refine aF e1 ?_;exact ai
theorem BD(t:List Nod)(i:Int):∀n,∀x∈bg (zd t i) [] n,0<=x/\x<n
 |0,x,hx=>by simp[ac3]at hx
 | n + 1, x, hx => by
   rw[cX]at hx;unfold zd at hx;split at hx
   ·rw[amm,amn]at hx;rcases hx with hx|hx
    ·have:=BD t i n x hx;omega
    ·omega
   ·have:=BD t i n x hx;omega
theorem YH(b:Blk)(st:Int):PC Tryz.prog 151 [.agg (aO b),.int .i64 st] (.agg [nA [⟨b,-1,st⟩]]):=by
 refine pfn 5 Q3 ?_;unfold ET;refine bd ?_;refine gon ?_;refine⟨_,by first|rfl|exact evd,.inr ⟨.agg [.sl 240 true (rows bB [⟨b,-1,st⟩])],evd,by simp[Pu,PuL,j9],Wk.agg ⟨Wk.open_ _ _ _,fun h=>h,trivial⟩⟩⟩
def dc(b:Blk):Int:=if b.payload=rt0 then 1 else 0
def HP(ttd:Wd)(p b:Blk):Bool:=if b.payload=rt0 then decide (p.payload=rt0)else if p.payload=rt0 then decide (X5 b.pdiff ttd<0)&&decide (X5 b.diff ttd ≥ 0)else true
theorem fM(t:List Nod)(r:Rt):-1<=aj t r/\aj t r<t.length:=by
 unfold aj;cases h:dW (fun i=>decide ((nod t i).blk.root=r)) t.length with
 |none=>rw[jP];omega
 |some i=>rw[Ck];have:=(fZ h).1;omega
theorem QA(c:cU)(total:Int):PC Tryz.prog 400 [.agg (bW c.a),.int .u64 total] (.tup [.int .u64 (AC c.spe c.boost total).1,.int .i64 (AC c.spe c.boost total).2]):=by
 refine pfn 7 Hv ?_;unfold uS;refine bd ?_;obtain⟨lim,spe,boost,ttd,gen,bals⟩:=c;unfold AC cU.a;dsimp only;by_cases q1:spe<1
 ·have e1:=au q1;rw[al7 (.inl q1)];repeat(first|refine bY ?_|simp_all)
  refine agF ?_;exact ai
 have e1:=aA q1;by_cases q2:64<spe
 ·have e2:=au q2;rw[al7 (.inr (.inl q2))];refine cH e1 e2 ?_;exact ai
 have e2:=aA q2;by_cases q3:100<boost
 ·have e3:=au q3;rw[al7 (.inr (.inr (.inl q3)))];refine fI e1 e2 e3 ?_;exact ai
 have e3:=aA q3;by_cases q4:4611686018427387904<total
 ·have e4:=au q4;rw[al7 (.inr (.inr (.inr q4)))];refine nC e1 e2 e3 e4 ?_;exact ai
 have e4:=aA q4;rw[al5 (by simp[q1,q2,q3,q4])];have h0:spe≠0:=by omega
 refine HW e1 e2 e3 e4 ?_;exact ai
def QS(t:List Nod)(latest:List Vot)(eqv bals:List Int)(i:Nat)(l:List Int):List Int:=l++[if (nod t i).status≠2 then GI latest eqv bals [(nod t i).blk.root]else 0]
theorem Gv(t:List Nod)(a:List Vot)(e c:List Int):∀n,(bg (QS t a e c) [] n).length=n
 |0=>rfl
 |n+1=>by show (bg (QS t a e c) [] n++[_]).length=_;rw[akC,Gv t a e c n];rfl
theorem QT(t:List Nod)(latest:List Vot)(eqv bals:List Int)(hb:t.length<=2097152)(h1:latest.length<=2097152)(h2:eqv.length<=2097152)(h3:bals.length<=2097152):
 PC Tryz.prog 401 [.agg [nA t],.agg [.sl 34 false (rows al latest),.sl 1 false (aH .i64 eqv)],.sl 1 false (aH .u64 bals)] (.sl 1 false (aH .u64 (Gw t latest eqv bals))):=by
 refine pfn 10 Hx ?_;unfold uU;refine bd ?_;show Tri _ _ _ _ (PQ _ (.sl 1 false (aH .u64 (bg (QS t latest eqv bals) [] t.length)))) _ _
 refine gon ?_;refine jx 7 1 ?_;simp only[go_sem];refine az (fun i:Nat=>[(8,.int .i64 i),(7,.hs 1 2 0 i)]) (fun i=>[.var [nA t],.var [.sl 34 false (rows al latest),.sl 1 false (aH .i64 eqv)],.vec 1 (aH .u64 (bg (QS t latest eqv bals) [] i))]) (fun i=>t.length-i) (fun i=>i<=t.length) 0 (amc _) ?_ ?_
 ·exact ais [] [0,1,2]
 intro i hi;refine dp ?_;by_cases h1:i<t.length
 ·have e1:=inT h1
  have hw:=af h1 (by omega);have hgd:=dy h1;have c1:=Tz latest eqv bals [(nod t i).blk.root] (by omega) h2 h3 (by simp);have hs:=cX (QS t latest eqv bals) [] i;have hl:=Gv t latest eqv bals i;have hro:[rtc (nod t i).blk.root]=rows rtc [(nod t i).blk.root]:=rfl;generalize bg (QS t latest eqv bals) [] i=acc at *;have hc:QS t latest eqv bals i acc=acc++[if (nod t i).status≠2 then GI latest eqv bals [(nod t i).blk.root]else 0]:=rfl;have hr:∀w:Int,aH .u64 acc++[[AV.int .u64 w]]=aH .u64 (acc++[w]):=fun w=>kP .u64 acc [w]
  refine bw e1 ?_;refine ah hgd ?_;refine cd (fun h=>?_) (fun h=>?_)
  ·rw[al7 (by grind)]at hc;refine aZ hgd hro ?_;refine aK (c1) ?_;refine dC hr hw hl ?_;refine⟨i+1,h1,by omega,?_⟩;rw[hs,hc];exact ais [] [0,1,4]
  ·rw[al5 (by simpa using h)]at hc;refine dC hr hw hl ?_;refine⟨i+1,h1,by omega,?_⟩;rw[hs,hc];exact ais [] [0,1,3]
 ·obtain rfl:i=t.length:=by omega
  have e1:=inF (t.length);have hl:=Gv t latest eqv bals t.length;refine bJ e1 ?_;refine ah hl ?_;refine⟨_,(by first|rfl|exact evd),.inl ?_⟩;refine evg ?_;rw[hl,al7 (amb _),amf (by simp[hl])]
def Rs(direct d:List Int)(k:Nat)(n:Int):Int:=IntKind.u64.wrap (n+direct.getD (d.getD k 0).toNat 0)
def PX(t:List Nod)(direct:List Int)(i:Nat)(l:List Int):List Int:=l++[bg (Rs direct (im t i)) 0 (im t i).length]
theorem GF(t:List Nod)(a:List Int):∀n,(bg (PX t a) [] n).length=n
 |0=>rfl
 |n+1=>by show (bg (PX t a) [] n++[_]).length=_;rw[akC,GF t a n];rfl
theorem PZ(t:List Nod)(ht:eQ t)(direct:List Int)(hb:t.length<=2097152)(hd:direct.length=t.length):
 PC Tryz.prog 402 [.agg [nA t],.sl 1 false (aH .u64 direct)] (.sl 1 false (aH .u64 (ahl t direct))):=by
 refine pfn 10 FP ?_;unfold tG;refine bd ?_;show Tri _ _ _ _ (PQ _ (.sl 1 false (aH .u64 (bg (PX t direct) [] t.length)))) _ _
 refine gon ?_;refine jx 5 1 ?_;simp only[go_sem];refine az (fun i:Nat=>[(6,.int .i64 i),(5,.hs 1 1 0 i)]) (fun i=>[.var [nA t],.vec 1 (aH .u64 (bg (PX t direct) [] i))]) (fun i=>t.length-i) (fun i=>i<=t.length) 0 (amc _) ?_ ?_
 ·exact ais [] [0,1]
 intro i hi;refine dp ?_;by_cases h1:i<t.length
 ·have e1:=inT h1
  have hw:=af h1 (by omega);have c1:=Mx t ht hb (i:Int);have hs:=cX (PX t direct) [] i;have hl:=GF t direct i;have hm:=BD t (i:Int) t.length;have hdl:=Hl t (i:Int) t.length;have hc:PX t direct i (bg (PX t direct) [] i)=(bg (PX t direct) [] i)++[bg (Rs direct (im t i)) 0 (im t i).length]:=rfl;generalize bg (PX t direct) [] i=acc at *;change ∀x∈im t (i:Int),_ at hm
  change (im t (i:Int)).length<=_ at hdl
  generalize im t (i:Int)=d at *;have hr:∀w:Int,aH .u64 acc++[[AV.int .u64 w]]=aH .u64 (acc++[w]):=fun w=>kP .u64 acc [w]
  refine aM e1 ?_;refine ahG c1 ?_;refine az (fun k:Nat=>[(9,.int .i64 k),(7,.int .u64 (bg (Rs direct d) 0 k))]) (fun k=>[.var [nA t],.vec 1 (aH .u64 acc)]) (fun k=>d.length-k) (fun k=>k<=d.length) 0 (amc _) ?_ ?_
  ·exact ais [] [0,1]
  intro k hk;(try omega)
  by_cases q1:k<d.length
  ·have e2:decide ((k:Int)<((d.length:Nat):Int))=true:=au (by omega);have hw2:=af q1 (by omega);have hgk:=gdn (k:=.i64) q1;have hx:d.getD k 0∈d:=by grind
   obtain⟨x0,x1⟩:=hm _ hx;have hs2:=cX (Rs direct d) 0 k;have hc2:Rs direct d k (bg (Rs direct d) 0 k)=IntKind.u64.wrap (bg (Rs direct d) 0 k+direct.getD (d.getD k 0).toNat 0):=rfl;generalize bg (Rs direct d) 0 k=n at *;generalize d.getD k 0=x at *;have x2:x<direct.length:=by omega
   have hgx:=gdn (k:=.u64) (ns:=direct) (i:=x.toNat) (by omega);refine bw e2 ?_;refine pz hgk hgx amv hw2 ?_;refine⟨k+1,q1,by omega,?_⟩;rw[hs2,hc2];exact ais [] [0,1]
  ·obtain rfl:k=d.length:=by omega
   have e2:decide (((d.length:Nat):Int)<((d.length:Nat):Int))=false:=aA (by omega);refine bJ e2 ?_;refine dC hr hw hl ?_;refine⟨i+1,h1,by omega,?_⟩;rw[hs,hc];exact ais [] [0,2]
 ·obtain rfl:i=t.length:=by omega
  have e1:=inF (t.length);have hl:=GF t direct t.length;refine bJ e1 ?_;refine ah hl ?_;refine⟨_,(by first|rfl|exact evd),.inl ?_⟩;refine evg ?_;rw[hl,al7 (amb _),amf (by simp[hl])]
theorem N8(t:List Nod)(direct:List Int)(root:Rt)(amount:Int)(hb:t.length<=2097152)(hd:direct.length=t.length):
 PC Tryz.prog 403 [.agg [nA t],.sl 1 false (aH .u64 direct),.agg (rtc root),.int .u64 amount] (.sl 1 false (aH .u64 (rk t direct root amount))):=by
 refine pfn 11 FN ?_;unfold tE;refine bd ?_;have c1:=cC t root hb;have b1:=fM t root;unfold rk;generalize aj t root=x at *;refine gon ?_;refine am c1 ?_;by_cases q1:0<=x
 ·have e1:decide (x ≥ 0)=true:=au q1
  have e1':decide (0<=x)=true:=au q1;have hgd:=dy (t:=t) (i:=x.toNat) (by omega);have x2:x<direct.length:=by omega
  have hgx:=gdn (k:=.u64) (ns:=direct) (i:=x.toNat) (by omega);by_cases q2:(nod t x.toNat).status=2
  ·have e2:((nod t x.toNat).status != 2)=false:=by grind
   rw[al5 (fun h=>h.2.1 q2)];refine HW e1 e1' hgd e2 ?_;exact ai
  ·have e2:((nod t x.toNat).status != 2)=true:=by grind
   by_cases q3:root=rt0
   ·have e3:=au q3;rw[al5 (fun h=>h.2.2 q3)];refine eU e1 e1' hgd e2 e3 ?_;refine agE ?_;exact ai
   ·have e3:=aA q3;rw[al7 ⟨q1,q2,q3⟩];have hset:∀w:Int,(aH .u64 direct).set x.toNat [AV.int .u64 w]=aH .u64 (direct.set x.toNat w):=fun w=>by simp[aH,List.map_set]
    refine eU e1 e1' hgd e2 e3 ?_;refine ax ?_;refine dC hgx amv hset ?_;exact ai
 ·have e1:decide (x ≥ 0)=false:=aA q1;have e1':decide (0<=x)=false:=aA q1;rw[al5 (fun h=>q1 h.1)];refine fU e1 e1' ?_;exact ai
end Go.Proofs.YtflhnmleodkjiaaGreat
