/- Joined. -/
import Derived.Test.YtmpddimhleianaaGreatV3
set_option linter.unusedVariables false
set_option linter.unusedSimpArgs false
set_option maxRecDepth 8000
set_option maxHeartbeats 4000000
namespace Go.Proofs.YtmpddimhleianaaGreat
open Go Go.FH Go.RowKit
abbrev nA(t:List Nod):AV:=.sl 240 false (rows bB t)
theorem dy{t:List Nod}{i:Nat}(h:i<t.length):(rows bB t).getD i []=bB (nod t i):=aS (f:=bB) gr h
theorem oB(t:List Nod)(i:Int):PC Tryz.prog 130 [.agg [nA t],.int .i64 i] (.bool (isN t i)):=by
 refine ae 5 ?_;unfold isN;by_cases c:0<=i
 ·repeat(first|refine bY ?_|simp_all)
  exact ai
 ·have e0:decide (i ≥ 0)=false:=aA c;have g:=aA c;repeat(first|refine bY ?_|simp only[e0])
  exact ai
theorem MK(i:Int):PC Tryz.prog 129 [.int .i64 i] (.bool (decide (0<=i)&&decide (i<=2))):=by
 refine ae 3 ?_;by_cases c:0<=i
 ·repeat(first|refine bY ?_|simp_all)
  exact ai
 ·have e0:decide (i ≥ 0)=false:=aA c;have f:=aA c;repeat(first|refine bY ?_|simp only[e0])
  exact ai
theorem cC(t:List Nod)(r:Rt)(hb:t.length<=2097152):PC Tryz.prog 32 [.agg [nA t],.agg (rtc r)] (.int .i64 (aj t r)):=by
 refine ae 6 ?_;refine gon ?_;refine az (fun i:Nat=>[(5,.int .i64 i)]) (fun _=>[.var [nA t],.var (rtc r)]) (fun i=>t.length-i) (fun i=>i<=t.length/\aj t r=Cj (iK (fun i=>decide ((nod t i).blk.root=r)) (t.length-i) i)) 0 ⟨amc _,rfl⟩ ?_ ?_
 ·exact ais [] [0,1]
 rintro i ⟨hi,hn⟩;rw[hn];refine dp ?_;by_cases h1:i<t.length
 ·have e1:=inT h1
  have hw:=af h1 Ua;have hgd:=dy h1;refine bw e1 ?_;repeat(first|refine bY ?_|simp_all)
  refine bx (fun h=>?_) (fun h=>?_)
  ·rw[nB h1 h];refine gon ?_;exact ai
  ·rw[nz h1 h];repeat(first|refine bY ?_|simp_all)
   refine⟨i+1,⟨h1,rfl⟩,Ua,?_⟩;exact ais [] [0,1]
 ·obtain rfl:i=t.length:=Ua
  have e1:=inF (t.length);rw[nu];refine aF e1 ?_;exact ai
def OZ(t:List Nod)(i:Int)(k:Nat)(l:List Int):List Int:=if (nod t k).up=i then l++[(k:Int)]else l
theorem adR(t:List Nod)(i:Int):∀n,(bg (OZ t i) [] n).length<=0+n:=ng (fun k l=>by unfold OZ;grind)
theorem MM(t:List Nod)(i0:Int)(hb:t.length<=2097152):PC Tryz.prog 226 [.agg [nA t],.int .i64 i0] (.sl 1 false (aH .i64 (ly t i0))):=by
 refine ae 7 ?_;have c1:=oB t i0;unfold ly;refine gon ?_;refine jx 5 1 ?_;simp only[go_sem];by_cases hn0:isN t i0=true
 ·rw [al7 hn0]
  rw[hn0]at c1;show Tri _ _ _ _ (mR _ (gf (Tri _ _ _ _ (PQ _ (.sl 1 false (aH .i64 (bg (OZ t i0) [] t.length))))) (PQ _ (.sl 1 false (aH .i64 (bg (OZ t i0) [] t.length)))))) _ _
  refine az (fun i:Nat=>[(6,.int .i64 i),(5,.hs 1 1 0 (bg (OZ t i0) [] i).length)]) (fun i=>[.var [nA t],.vec 1 (aH .i64 (bg (OZ t i0) [] i))]) (fun i=>t.length-i) (fun i=>i<=t.length) 0 (amc _) ?_ ?_
  ·exact ais [] [0,1]
  intro i hi;refine dp ?_;by_cases h1:i<t.length
  ·have e1:=inT h1
   have hw:=af h1 Ua;have hgd:=dy h1;have hs:=cX (OZ t i0) [] i;have hl:=adR t i0 i;generalize bg (OZ t i0) [] i=acc at *;have hc:OZ t i0 i acc=if (nod t i).up=i0 then acc++[(i:Int)]else acc:=rfl
   have hr:aH .i64 acc++[[AV.int .i64 (i:Int)]]=aH .i64 (acc++[(i:Int)]):=kP .i64 acc [(i:Int)];refine ah e1 ?_;refine am c1 ?_;try omega
   refine ax ?_;refine ah hgd ?_;refine bx (fun h=>?_) (fun h=>?_)
   ·rw[al7 (by simpa using h)]at hc;refine aZ hr hw ?_;refine⟨i+1,h1,Ua,?_⟩;rw[hs,hc];exact ais [] [0,2]
   ·rw[al5 (by simpa using h)]at hc;refine aZ hr hw ?_;refine⟨i+1,h1,Ua,?_⟩;rw[hs,hc];exact ais [] [0,1]
  ·obtain rfl:i=t.length:=Ua
   have e1:=inF (t.length);refine aF e1 ?_;exact ai
 ·have hf:isN t i0=false:=by simpa using hn0
  rw[al5 hn0];rw[hf]at c1;refine az (fun _:Unit=>[]) (fun _=>[.var [nA t],.vec 1 []]) (fun _=>0) (fun _=>True) () trivial ?_ ?_
  ·exact ais [] [0,1]
  intro _ _;(try simp only[dE,dr,amx,amy])
  by_cases h1:0<t.length
  ·have e1:decide ((0:Int)<(t.length:Int))=true:=au Ua;refine ah e1 ?_;refine am c1 ?_;refine bk ?_;exact ai
  ·have e1:decide ((0:Int)<(t.length:Int))=false:=aA Ua;refine aF e1 ?_;exact ai
theorem UL(t:List Nod)(g:0<t.length):PC Tryz.prog 65 [.agg [nA t],.int .i64 0] (.sl 1 true (aH .i64 [0])):=by
 refine ae 5 ?_;have c:=oB t 0;rw[show isN t 0=true by simp[isN,g]]at c;refine gon ?_;refine am c ?_;refine aB ?_;refine aX ?_;exact ai
theorem aef(t:List Nod)(i:Int)(d:isN t i=false):PC Tryz.prog 65 [.agg [nA t],.int .i64 i] (.sl 0 true []):=by
 refine ae 5 ?_;have b:=oB t i;rw[d]at b;refine gon ?_;refine am b ?_;refine agF ?_;exact ai
theorem RW(t:List Nod)(ht:eQ t)(hb:t.length<=2097152):∀ (n i:Nat),i<n->0<i->i<t.length->ay Tryz.prog 65 [.agg [nA t],.int .i64 i] [] (.hs 1 0 0 (AI t i).length) [.vec 1 (aH .i64 (AI t i))]
 |0,_,h,_,_=>by omega
 | n + 1, i, hn, h0, hi => by
   refine dS 5 ?_;have c1:=oB t i;rw[show isN t i=true by simp[isN,hi]]at c1;have e0:((i:Int)==0)=false:=Ud
   obtain⟨u0,u1⟩:=ht i h0 hi;obtain⟨u,hu⟩:∃u:Nat,(nod t i).up=u:=⟨_,(amC u0).symm⟩
   have hs:=jw ht h0 hi;have hl:=oN ht (i+1) i Ua;rw[hu]at hs;have hgd:=dy hi;refine gon ?_;refine am c1 ?_;try omega
   refine aB ?_;refine bJ e0 ?_;by_cases hu0:u=0
   ·subst hu0;have c2:=UL t Ua;rw[show ((0:Nat):Int)=0 from rfl,jv Ua]at hs;rw[hs]at hl ⊢;repeat(first|refine bY ?_|simp_all)
    refine aK (c2) ?_;refine gon ?_;refine bA [] [2] _ Ub (by first|rfl|omega) Ub rfl Ub Ub evd evd
   ·have c2:=RW t ht hb n u Ua Ua Ua;have hl2:=oN ht (u+1) u Ua;rw[hs]at hl ⊢;refine aZ hgd hu ?_;refine dsg [] c2 ?_;exact ahY [] [2]
theorem aeg(t:List Nod)(ht:eQ t)(hb:t.length<=2097152)(i:Nat)(h0:0<i)(hi:i<t.length):PC Tryz.prog 65 [.agg [nA t],.int .i64 i] (.sl 1 false (aH .i64 (AI t i))):=by
 refine ae 5 ?_;have c1:=oB t i;rw[show isN t i=true by simp[isN,hi]]at c1;have e0:((i:Int)==0)=false:=Ud
 obtain⟨u0,u1⟩:=ht i h0 hi;obtain⟨u,hu⟩:∃u:Nat,(nod t i).up=u:=⟨_,(amC u0).symm⟩
 have hs:=jw ht h0 hi;have hl:=oN ht (i+1) i Ua;rw[hu]at hs;have hgd:=dy hi;refine gon ?_;refine am c1 ?_;try omega
 refine aB ?_;refine bJ e0 ?_;by_cases hu0:u=0
 ·subst hu0;have c2:=UL t Ua;rw[show ((0:Nat):Int)=0 from rfl,jv Ua]at hs;rw[hs]at hl ⊢;repeat(first|refine bY ?_|simp_all)
  refine aK (c2) ?_;refine gon ?_;exact ai
 ·have c2:=RW t ht hb (u+1) u Ua Ua Ua;have hl2:=oN ht (u+1) u Ua;rw[hs]at hl ⊢;refine aZ hgd hu ?_;refine dsg [] c2 ?_;exact ai
theorem sd(t:List Nod)(k:eQ t)(j:t.length<=2097152)(i:Int):PC Tryz.prog 65 [.agg [nA t],.int .i64 i] (.sl 1 false (aH .i64 (AI t i))):=by
 by_cases h:isN t i=true
 ·have d:=h
  simp[isN]at d;obtain⟨u,rfl⟩:∃u:Nat,i=u:=⟨_,(amC d.1).symm⟩
  by_cases f:u=0
  ·subst f;have:=UL t Ua;rw[show ((0:Nat):Int)=0 from rfl,jv Ua];exact PC.weak this (Wk.open_ _ _ _) (bE _ _)
  ·exact aeg t k j u Ua Ua
 ·rw[te Ud];exact PC.weak (aef t i Ud) (Wk.empty _ _ _) (bE _ _)
theorem AD(t:List Nod)(g:eQ t)(i:t.length<=2097152)(a b:Int):PC Tryz.prog 33 [.agg [nA t],.int .i64 a,.int .i64 b] (.bool (eh t a b)):=by
 refine ae 7 ?_;have k:=sd t g i b;have h:=HX (AI t b) false a (by have:=pF g b;omega);refine gon ?_;refine ahG k ?_;refine ahG h ?_;exact ai
def atS(t:List Nod)(p:List Int)(slot:Int)(k:Nat)(a:Int):Int:=if (nod t (p.getD k 0).toNat).blk.slot<=slot then p.getD k 0 else a
theorem KF(t:List Nod)(ht:eQ t)(hb:t.length<=2097152)(i0 slot:Int):PC Tryz.prog 157 [.agg [nA t],.int .i64 i0,.int .u64 slot] (.int .i64 (atT t i0 slot)):=by
 refine ae 10 ?_;have c1:=sd t ht hb i0;have hl:=pF ht i0;have hm:∀x∈AI t i0,0<=x/\x<t.length:=fun x hx=>by have:=gu ht hx;omega
 show Tri _ _ _ _ (PQ _ (.int .i64 (bg (atS t (AI t i0) slot) (-1) (AI t i0).length))) _ _
 refine gon ?_;refine am c1 ?_;generalize AI t i0=p at *;refine gon ?_;refine az (fun i:Nat=>[(9,.int .i64 i),(7,.int .i64 (bg (atS t p slot) (-1) i))]) (fun i=>[.var [nA t]]) (fun i=>p.length-i) (fun i=>i<=p.length) 0 (amc _) ?_ ?_
 ·exact ais [] [0]
 intro i hi;refine dp ?_;by_cases h1:i<p.length
 ·have e1:=inT h1
  have hw:=af h1 Ua;have hgp:=gdn (k:=.i64) h1;have hx:p.getD i 0∈p:=by rw[alt,al6 h1];exact amS h1
  obtain⟨x0,x1⟩:=hm _ hx;have hs:=cX (atS t p slot) (-1) i;generalize bg (atS t p slot) (-1) i=acc at *;have hc:atS t p slot i acc=if (nod t (p.getD i 0).toNat).blk.slot<=slot then p.getD i 0 else acc:=rfl
  generalize p.getD i 0=x at *;have hgd:=dy (t:=t) (i:=x.toNat) Ua;refine bw e1 ?_;refine dC hgd hgp amv ?_;refine bx (fun h=>?_) (fun h=>?_)
  ·rw[al7 (by simpa using h)]at hc;refine dC hw hgp amv ?_;refine⟨i+1,h1,Ua,?_⟩;rw[hs,hc];exact ais [] [0]
  ·rw[al5 (by simpa using h)]at hc;refine ah hw ?_;refine⟨i+1,h1,Ua,?_⟩;rw[hs,hc];exact ais [] [0]
 ·obtain rfl:i=p.length:=Ua
  have e1:=inF (p.length);refine aF e1 ?_;exact ai
theorem Ib{t:List Nod}(ht:eQ t)(i slot:Int):atT t i slot<t.length:=by
 have key:∀n,n<=(AI t i).length->bg (atS t (AI t i) slot) (-1) n<(t.length:Int):=by
  intro n;induction n with
  |zero=>intro _;show (-1:Int)<_;omega
  | succ n ih =>
    intro hn;rw[cX];unfold atS;split
    ·have hx:(AI t i).getD n 0∈AI t i:=by rw[alt,al6 Ua];exact amS Ua
     exact(gu ht hx).2.2
    ·exact ih Ua
 exact key _ (amb _)
def zd(t:List Nod)(i:Int)(k:Nat)(l:List Int):List Int:=if eh t i k=true then l++[(k:Int)]else l
theorem Hl(t:List Nod)(i:Int):∀n,(bg (zd t i) [] n).length<=0+n:=ng (fun k l=>by unfold zd;split<;>simp)
theorem Mx(t:List Nod)(ht:eQ t)(hb:t.length<=2097152)(i0:Int):PC Tryz.prog 37 [.agg [nA t],.int .i64 i0] (.sl 1 false (aH .i64 (im t i0))):=by
 refine ae 7 ?_;show Tri _ _ _ _ (PQ _ (.sl 1 false (aH .i64 (bg (zd t i0) [] t.length)))) _ _
 refine gon ?_;refine jx 5 1 ?_;simp only[go_sem];refine az (fun i:Nat=>[(6,.int .i64 i),(5,.hs 1 1 0 (bg (zd t i0) [] i).length)]) (fun i=>[.var [nA t],.vec 1 (aH .i64 (bg (zd t i0) [] i))]) (fun i=>t.length-i) (fun i=>i<=t.length) 0 (amc _) ?_ ?_
 ·exact ais [] [0,1]
 intro i hi;refine dp ?_;by_cases h1:i<t.length
 ·have e1:=inT h1
  have hw:=af h1 Ua;have c1:=AD t ht hb i0 (i:Int);have hs:=cX (zd t i0) [] i;have hl:=Hl t i0 i;generalize bg (zd t i0) [] i=acc at *;have hc:zd t i0 i acc=if eh t i0 i=true then acc++[(i:Int)]else acc:=rfl
  have hr:aH .i64 acc++[[AV.int .i64 (i:Int)]]=aH .i64 (acc++[(i:Int)]):=kP .i64 acc [(i:Int)];refine aM e1 ?_;refine ahG c1 ?_;refine bx (fun h=>?_) (fun h=>?_)
  ·rw[al7 h]at hc;refine aZ hr hw ?_;refine⟨i+1,h1,Ua,?_⟩;rw[hs,hc];exact ais [] [0,2]
  ·rw[al5 (by simp[h])]at hc;refine aZ hr hw ?_;refine⟨i+1,h1,Ua,?_⟩;rw[hs,hc];exact ais [] [0,1]
 ·obtain rfl:i=t.length:=Ua
  have e1:=inF (t.length);refine aF e1 ?_;exact ai
theorem BD(t:List Nod)(i:Int):∀n,∀x∈bg (zd t i) [] n,0<=x/\x<n
 |0,x,hx=>by simp[ac3]at hx
 | n + 1, x, hx => by
   rw[cX]at hx;unfold zd at hx;split at hx
   ·rw[amm,amn]at hx;rcases hx with hx|hx
    ·have:=BD t i n x hx;omega
    ·omega
   ·have:=BD t i n x hx;omega
theorem YH(b:Blk)(st:Int):PC Tryz.prog 89 [.agg (aO b),.int .i64 st] (.agg [nA [⟨b,-1,st⟩]]):=by
 refine ae 5 ?_;refine gon ?_;refine⟨_,by first|rfl|exact evd,.inr ⟨.agg [.sl 240 true (rows bB [⟨b,-1,st⟩])],evd,by simp[Pu,PuL,j9],Wk.agg ⟨Wk.open_ _ _ _,fun h=>h,trivial⟩⟩⟩
def dc(b:Blk):Int:=if b.payload=rt0 then 1 else 0
theorem ET(b:Blk):PC Tryz.prog 294 [.agg (aO b)] (.int .i64 (dc b)):=by
 refine ae 3 ?_;unfold dc;refine gon ?_;refine bx (fun h=>?_) (fun h=>?_)
 ·rw[al7 (by simpa using h)];refine gon ?_;exact ai
 ·rw[al5 (by simpa using h)];refine gon ?_;exact ai
theorem G9(p b:Blk):PC Tryz.prog 343 [.agg (aO p),.agg (aO b)] (.bool (decide (b.payload≠rt0)&&decide (p.payload=rt0))):=by
 refine ae 5 ?_;by_cases h:b.payload=rt0
 ·have e1:=au h;have e2:decide (b.payload≠rt0)=false:=by simp[h]
  refine aZ e1 e2 ?_;exact ai
 ·have e1:=aA h;have e2:decide (b.payload≠rt0)=true:=by simp[h]
  refine aZ e1 e2 ?_;exact ai
def HP(ttd:Wd)(p b:Blk):Bool:=if b.payload=rt0 then decide (p.payload=rt0)else if p.payload=rt0 then decide (X5 b.pdiff ttd<0)&&decide (X5 b.diff ttd ≥ 0)else true
theorem DP(ttd:Wd)(p b:Blk):PC Tryz.prog 292 [.agg (wdc ttd),.agg (aO p),.agg (aO b)] (.bool (HP ttd p b)):=by
 refine ae 17 ?_;have c1:=G9 p b;have c2:=yO b.pdiff ttd;have c3:=yO b.diff ttd;unfold HP;generalize X5 b.pdiff ttd=x at *;generalize X5 b.diff ttd=y at *;by_cases h:b.payload=rt0
 ·have e1:=au h;rw[al7 h];refine aM e1 ?_;exact ai
 ·have e1:=aA h
  have e2:decide (b.payload≠rt0)=true:=by simp[h]
  rw[al5 h];rw[e2]at c1;by_cases h2:p.payload=rt0
  ·rw[al7 h2]
   rw[au h2]at c1;refine aF e1 ?_;refine am c1 ?_;refine aX ?_;refine am c2 ?_;cases h3:decide (x<0)with
   | true =>
     refine ah h3 ?_;refine ahG c3 ?_;exact ai
   | false =>
     refine ah h3 ?_;exact ai
  ·rw[al5 h2];rw[aA h2]at c1;refine aF e1 ?_;refine am c1 ?_;refine bk ?_;exact ai
theorem fM(t:List Nod)(r:Rt):-1<=aj t r/\aj t r<t.length:=by
 unfold aj;cases h:dW (fun i=>decide ((nod t i).blk.root=r)) t.length with
 |none=>rw[jP];omega
 |some i=>rw[Ck];have:=(fZ h).1;omega
theorem G8(t:List Nod)(b:Blk)(st:Int)(hb:t.length<=2097152):PC Tryz.prog 293 [.agg [nA t],.agg (aO b),.int .i64 st] (.tup [.agg [nA (BV t b st).1],.int .i64 (BV t b st).2]):=by
 refine ae 9 ?_;have c1:=MK st;have c2:=cC t b.root hb;have c3:=cC t b.parent hb;have b3:=fM t b.parent;unfold BV;generalize aj t b.root=x at *;generalize aj t b.parent=y at *;refine gon ?_;refine am c1 ?_;by_cases q1:0<=st/\st<=2
 case neg=>
  have e1:(decide (0<=st)&&decide (st<=2))=false:=by rw[akJ,ami,ami];omega
  rw[al7 q1];refine aM e1 ?_;exact rW
 have e1:(decide (0<=st)&&decide (st<=2))=true:=by simp[q1]
 rw[al5 (fun h=>h q1)];refine aF e1 ?_;refine ahG c2 ?_;refine bx (fun h=>?_) (fun h=>?_)
 ·rw[al7 (by simpa using h)];refine gon ?_;exact rW
 rw[al5 (by simpa using h)];refine gon ?_;refine ahG c3 ?_;clear h;refine bx (fun h=>?_) (fun h=>?_)
 ·rw[al7 (by simpa using h)];refine gon ?_;exact rW
 have hy0:0<=y:=by simpa using h
 have hgd:=dy (t:=t) (i:=y.toNat) Ua;rw[al5 (by simpa using h)];refine ah hgd ?_;clear h;refine bx (fun h=>?_) (fun h=>?_)
 ·rw[al7 (by simpa using h)];refine gon ?_;exact rW
 rw[al5 (by simpa using h)];refine gon ?_;clear h;refine bx (fun h=>?_) (fun h=>?_)
 ·rw[al7 (by simp at h;omega)];refine gon ?_;exact rW
 rw[al5 (by simp at h;omega)];have hr:=cR bB t ⟨b,y,st⟩;refine ah hr ?_;exact ai
theorem QA(c:cU)(total:Int):PC Tryz.prog 77 [.agg (bW c.a),.int .u64 total] (.tup [.int .u64 (AC c.spe c.boost total).1,.int .i64 (AC c.spe c.boost total).2]):=by
 refine ae 7 ?_;obtain⟨lim,spe,boost,ttd,gen,bals⟩:=c;unfold AC cU.a;dsimp only;by_cases q1:spe<1
 ·have e1:=au q1;rw[al7 (.inl q1)];repeat(first|refine bY ?_|simp_all)
  refine agF ?_;exact ai
 have e1:=aA q1;by_cases q2:64<spe
 ·have e2:=au q2;rw[al7 (.inr (.inl q2))];refine cH e1 e2 ?_;exact ai
 have e2:=aA q2;by_cases q3:100<boost
 ·have e3:=au q3;rw[al7 (.inr (.inr (.inl q3)))];refine fI e1 e2 e3 ?_;exact ai
 have e3:=aA q3;by_cases q4:4611686018427387904<total
 ·have e4:=au q4;rw[al7 (.inr (.inr (.inr q4)))];repeat(first|refine bY ?_|simp only[go_sem,e1,e2,e3,e4])
  refine agF ?_;exact ai
 have e4:=aA q4;rw[al5 (by simp[q1,q2,q3,q4])];have h0:spe≠0:=Ua
 repeat(first|refine bY ?_|simp only[go_sem,e1,e2,e3,e4])
 refine agE ?_;exact ai
def QS(t:List Nod)(latest:List Vot)(eqv bals:List Int)(i:Nat)(l:List Int):List Int:=l++[if (nod t i).status≠2 then GI latest eqv bals [(nod t i).blk.root]else 0]
theorem Gv(t:List Nod)(a:List Vot)(e c:List Int):∀n,(bg (QS t a e c) [] n).length=n
 |0=>rfl
 |n+1=>by show (bg (QS t a e c) [] n++[_]).length=_;rw[akC,Gv t a e c n];rfl
theorem QT(t:List Nod)(latest:List Vot)(eqv bals:List Int)(hb:t.length<=2097152)(h1:latest.length<=2097152)(h2:eqv.length<=2097152)(h3:bals.length<=2097152):
 PC Tryz.prog 78 [.agg [nA t],.agg [.sl 34 false (rows al latest),.sl 1 false (aH .i64 eqv)],.sl 1 false (aH .u64 bals)] (.sl 1 false (aH .u64 (Gw t latest eqv bals))):=by
 refine ae 10 ?_;show Tri _ _ _ _ (PQ _ (.sl 1 false (aH .u64 (bg (QS t latest eqv bals) [] t.length)))) _ _
 refine gon ?_;refine jx 7 1 ?_;simp only[go_sem];refine az (fun i:Nat=>[(8,.int .i64 i),(7,.hs 1 2 0 i)]) (fun i=>[.var [nA t],.var [.sl 34 false (rows al latest),.sl 1 false (aH .i64 eqv)],.vec 1 (aH .u64 (bg (QS t latest eqv bals) [] i))]) (fun i=>t.length-i) (fun i=>i<=t.length) 0 (amc _) ?_ ?_
 ·exact ais [] [0,1,2]
 intro i hi;refine dp ?_;by_cases h1:i<t.length
 ·have e1:=inT h1
  have hw:=af h1 Ua;have hgd:=dy h1;have c1:=Tz latest eqv bals [(nod t i).blk.root] Ua h2 h3 Ub;have hs:=cX (QS t latest eqv bals) [] i;have hl:=Gv t latest eqv bals i;have hro:[rtc (nod t i).blk.root]=rows rtc [(nod t i).blk.root]:=rfl;generalize bg (QS t latest eqv bals) [] i=acc at *;have hc:QS t latest eqv bals i acc=acc++[if (nod t i).status≠2 then GI latest eqv bals [(nod t i).blk.root]else 0]:=rfl;have hr:∀w:Int,aH .u64 acc++[[AV.int .u64 w]]=aH .u64 (acc++[w]):=fun w=>kP .u64 acc [w]
  refine bw e1 ?_;refine ah hgd ?_;refine bx (fun h=>?_) (fun h=>?_)
  ·rw[al7 Ud]at hc;refine aZ hgd hro ?_;refine aK (c1) ?_;refine dC hr hw hl ?_;refine⟨i+1,h1,Ua,?_⟩;rw[hs,hc];exact ais [] [0,1,4]
  ·rw[al5 (by simpa using h)]at hc;refine dC hr hw hl ?_;refine⟨i+1,h1,Ua,?_⟩;rw[hs,hc];exact ais [] [0,1,3]
 ·obtain rfl:i=t.length:=Ua
  have e1:=inF (t.length);have hl:=Gv t latest eqv bals t.length;refine bJ e1 ?_;refine ah hl ?_;refine⟨_,(by first|rfl|exact evd),.inl ?_⟩;refine evg ?_;rw[hl,al7 (amb _),amf (by simp[hl])]
def Rs(direct d:List Int)(k:Nat)(n:Int):Int:=IntKind.u64.wrap (n+direct.getD (d.getD k 0).toNat 0)
def PX(t:List Nod)(direct:List Int)(i:Nat)(l:List Int):List Int:=l++[bg (Rs direct (im t i)) 0 (im t i).length]
theorem GF(t:List Nod)(a:List Int):∀n,(bg (PX t a) [] n).length=n
 |0=>rfl
 |n+1=>by show (bg (PX t a) [] n++[_]).length=_;rw[akC,GF t a n];rfl
theorem PZ(t:List Nod)(ht:eQ t)(direct:List Int)(hb:t.length<=2097152)(hd:direct.length=t.length):
 PC Tryz.prog 79 [.agg [nA t],.sl 1 false (aH .u64 direct)] (.sl 1 false (aH .u64 (ahl t direct))):=by
 refine ae 10 ?_;show Tri _ _ _ _ (PQ _ (.sl 1 false (aH .u64 (bg (PX t direct) [] t.length)))) _ _
 refine gon ?_;refine jx 5 1 ?_;simp only[go_sem];refine az (fun i:Nat=>[(6,.int .i64 i),(5,.hs 1 1 0 i)]) (fun i=>[.var [nA t],.vec 1 (aH .u64 (bg (PX t direct) [] i))]) (fun i=>t.length-i) (fun i=>i<=t.length) 0 (amc _) ?_ ?_
 ·exact ais [] [0,1]
 intro i hi;refine dp ?_;by_cases h1:i<t.length
 ·have e1:=inT h1
  have hw:=af h1 Ua;have c1:=Mx t ht hb (i:Int);have hs:=cX (PX t direct) [] i;have hl:=GF t direct i;have hm:=BD t (i:Int) t.length;have hdl:=Hl t (i:Int) t.length;have hc:PX t direct i (bg (PX t direct) [] i)=(bg (PX t direct) [] i)++[bg (Rs direct (im t i)) 0 (im t i).length]:=rfl;generalize bg (PX t direct) [] i=acc at *;change ∀x∈im t (i:Int),_ at hm
  change (im t (i:Int)).length<=_ at hdl
  generalize im t (i:Int)=d at *;have hr:∀w:Int,aH .u64 acc++[[AV.int .u64 w]]=aH .u64 (acc++[w]):=fun w=>kP .u64 acc [w]
  refine aM e1 ?_;refine ahG c1 ?_;refine az (fun k:Nat=>[(9,.int .i64 k),(7,.int .u64 (bg (Rs direct d) 0 k))]) (fun k=>[.var [nA t],.vec 1 (aH .u64 acc)]) (fun k=>d.length-k) (fun k=>k<=d.length) 0 (amc _) ?_ ?_
  ·exact ais [] [0,1]
  intro k hk;(try omega)
  by_cases q1:k<d.length
  ·have e2:decide ((k:Int)<((d.length:Nat):Int))=true:=au Ua;have hw2:=af q1 Ua;have hgk:=gdn (k:=.i64) q1;have hx:d.getD k 0∈d:=Ud
   obtain⟨x0,x1⟩:=hm _ hx;have hs2:=cX (Rs direct d) 0 k;have hc2:Rs direct d k (bg (Rs direct d) 0 k)=IntKind.u64.wrap (bg (Rs direct d) 0 k+direct.getD (d.getD k 0).toNat 0):=rfl;generalize bg (Rs direct d) 0 k=n at *;generalize d.getD k 0=x at *;have x2:x<direct.length:=Ua
   have hgx:=gdn (k:=.u64) (ns:=direct) (i:=x.toNat) Ua;refine bw e2 ?_;refine pz hgk hgx amv hw2 ?_;refine⟨k+1,q1,Ua,?_⟩;rw[hs2,hc2];exact ais [] [0,1]
  ·obtain rfl:k=d.length:=Ua
   have e2:decide (((d.length:Nat):Int)<((d.length:Nat):Int))=false:=aA Ua;refine bJ e2 ?_;refine dC hr hw hl ?_;refine⟨i+1,h1,Ua,?_⟩;rw[hs,hc];exact ais [] [0,2]
 ·obtain rfl:i=t.length:=Ua
  have e1:=inF (t.length);have hl:=GF t direct t.length;refine bJ e1 ?_;refine ah hl ?_;refine⟨_,(by first|rfl|exact evd),.inl ?_⟩;refine evg ?_;rw[hl,al7 (amb _),amf (by simp[hl])]
theorem N8(t:List Nod)(direct:List Int)(root:Rt)(amount:Int)(hb:t.length<=2097152)(hd:direct.length=t.length):
 PC Tryz.prog 80 [.agg [nA t],.sl 1 false (aH .u64 direct),.agg (rtc root),.int .u64 amount] (.sl 1 false (aH .u64 (rk t direct root amount))):=by
 refine ae 11 ?_;have c1:=cC t root hb;have b1:=fM t root;unfold rk;generalize aj t root=x at *;refine gon ?_;refine am c1 ?_;by_cases q1:0<=x
 ·have e1:decide (x ≥ 0)=true:=au q1
  have e1':decide (0<=x)=true:=au q1;have hgd:=dy (t:=t) (i:=x.toNat) Ua;have x2:x<direct.length:=Ua
  have hgx:=gdn (k:=.u64) (ns:=direct) (i:=x.toNat) Ua;by_cases q2:(nod t x.toNat).status=2
  ·have e2:((nod t x.toNat).status != 2)=false:=Ud
   rw[al5 (fun h=>h.2.1 q2)];refine HW e1 e1' hgd e2 ?_;exact ai
  ·have e2:((nod t x.toNat).status != 2)=true:=Ud
   by_cases q3:root=rt0
   ·have e3:=au q3;rw[al5 (fun h=>h.2.2 q3)];refine eU e1 e1' hgd e2 e3 ?_;refine agE ?_;exact ai
   ·have e3:=aA q3;rw[al7 ⟨q1,q2,q3⟩];have hset:∀w:Int,(aH .u64 direct).set x.toNat [AV.int .u64 w]=aH .u64 (direct.set x.toNat w):=fun w=>by simp[aH,al1]
    refine eU e1 e1' hgd e2 e3 ?_;refine ax ?_;refine dC hgx amv hset ?_;exact ai
 ·have e1:decide (x ≥ 0)=false:=aA q1;have e1':decide (0<=x)=false:=aA q1;rw[al5 (fun h=>q1 h.1)];refine fU e1 e1' ?_;exact ai
theorem C8(t:List Nod)(l:List Int)(st fb:Int)(hb:t.length<=2097152)(hl:l.length<=2097152)(hj:∀j∈l,0<=j/\j<t.length):
 PC Tryz.prog 345 [.agg [nA t],.sl 1 false (aH .i64 l),.int .i64 st,.int .i64 fb] (.tup [.agg [nA ((tD t l st fb).getD [])],.bool (tD t l st fb).isSome]):=by
 refine ae 12 ?_;refine gon ?_;refine az (fun i:Nat=>[(11,.int .i64 i)]) (fun i=>[.var [nA t],.var [.sl 0 true []],.vec 240 (rows bB ((bg (qf l st fb) (some t) i).getD [])),.var [.hs 240 2 0 t.length]]) (fun i=>l.length-i) (fun i=>i<=l.length/\(bg (qf l st fb) (some t) i).isSome=true) 0 ⟨amc _,rfl⟩ ?_ ?_
 ·exact ais [] [0,1,2,3]
 rintro i ⟨hi,ho⟩;refine dp ?_;by_cases h1:i<l.length
 ·have e1:=inT h1
  have hw:=af h1 Ua;have hgl:=gdn (k:=.i64) h1;have hx:l.getD i 0∈l:=by rw[alt,al6 h1];exact amS h1
  obtain⟨x0,x1⟩:=hj _ hx;have hs:=cX (qf l st fb) (some t) i;obtain⟨u,hu⟩:=ajH.1 ho;have hlu:=ml hu;rw[hu]at hs ⊢;simp only[qf,ale]at hs;generalize l.getD i 0=x at *;have hgd:=dy (t:=u) (i:=x.toNat) Ua;have x2:x.toNat<u.length:=Ua
  have hset:=F2 bB u x.toNat
  simp only[amT];refine bw e1 ?_;refine dC hgl amv hgd ?_;refine bx (fun h=>?_) (fun h=>?_)
  ·have hs':bg (qf l st fb) (some t) (i+1)=none:=by rw[hs,al7 (by simpa using h)]
   have hn:tD t l st fb=none:=y9 hs' _ h1;rw[hn];refine gon ?_;exact rW
  ·rw[al5 (by simpa using h)]at hs;refine eU hgl amv hgd hset hw ?_;refine⟨i+1,⟨h1,by rw[hs];rfl⟩,Ua,?_⟩;rw[hs];simp only[amT];exact ais [] [0,1,2,3]
 ·obtain rfl:i=l.length:=Ua
  have e1:=inF (l.length);obtain⟨u,hu⟩:=ajH.1 ho;have hlu:=ml hu;rw[show tD t l st fb=some u from hu,hu];simp only[amT];refine aF e1 ?_;refine⟨_,(by first|rfl|exact evd),.inl ?_⟩;refine evg ?_;rw[al7 Ua,amf (by simp[hlu])];rfl
theorem vN(t:List Nod)(ht:eQ t)(i:Int)(hb:t.length<=2097152):PC Tryz.prog 299 [.agg [nA t],.int .i64 i] (.tup [.agg [nA (fD t i).1],.int .i64 (fD t i).2]):=by
 refine ae 8 ?_;have c1:=oB t i;have c2:=sd t ht hb i;have hl:=pF ht i;have c3:=C8 t (AI t i) 1 2 hb Ua (fun j hj=>by have:=gu ht hj;omega);unfold fD;generalize tD t (AI t i) 1 2=o at *;refine gon ?_;refine am c1 ?_;cases h:isN t i with
 | false =>
   rw[al5 Ub];refine aX ?_;exact rW
 | true =>
   rw[al7 rfl];refine bk ?_;refine aK (c2) ?_;refine gon ?_;refine aK (c3) ?_;refine gon ?_;cases o with
   | none =>
     simp only[alu,Option.getD_none];refine aX ?_;exact rW
   | some u =>
     simp only[TX,amT];refine bk ?_;exact ai
theorem yP(t:List Nod)(ht:eQ t)(i:Int)(hb:t.length<=2097152):PC Tryz.prog 301 [.agg [nA t],.int .i64 i] (.tup [.agg [nA (kF t i).1],.int .i64 (kF t i).2]):=by
 refine ae 8 ?_;have c1:=oB t i;have c2:=Mx t ht hb i;have hl:(im t i).length<=0+t.length:=Hl t i t.length;have c3:=C8 t (im t i) 2 1 hb Ua (fun j hj=>BD t i t.length j hj);unfold kF;generalize tD t (im t i) 2 1=o at *;refine gon ?_;refine am c1 ?_;cases h:isN t i with
 | false =>
   rw[al5 Ub];refine aX ?_;exact rW
 | true =>
   rw[al7 rfl];refine bk ?_;refine aK (c2) ?_;refine gon ?_;refine aK (c3) ?_;refine gon ?_;cases o with
   | none =>
     simp only[alu,Option.getD_none];refine aX ?_;exact rW
   | some u =>
     simp only[TX,amT];refine bk ?_;exact ai
theorem Ef(t:List Nod)(i:Int)(k:Nat)(p:List Nod×List Int):(ei t i k p).2.length=p.2.length+1/\(ei t i k p).1.length<=p.1.length+1:=by
 unfold ei;split<;>simp
theorem uu(t:List Nod)(i:Int):∀k,(bg (ei t i) ([],[]) k).2.length=k/\(bg (ei t i) ([],[]) k).1.length<=k
 |0=>⟨rfl,amb _⟩
 | k + 1 => by
   rw[cX];have h1:=uu t i k;have h2:=Ef t i k (bg (ei t i) ([],[]) k);omega
theorem Ei (t : List Nod) (ht : eQ t) (i0 : Int) (hb : t.length <= 2097152) (h0 : isN t i0 = true) :
 PC Tryz.prog 288 [.agg [nA t],.int .i64 i0] (.tup [.agg [nA (eF t i0).1],.sl 1 false (aH .i64 (eF t i0).2),.int .i64 0]):=by
 refine ae 11 ?_;unfold eF;have c0:=oB t i0;rw[h0]at c0;refine gon ?_;refine am c0 ?_;refine bk ?_;refine pS 2 0 240 ?_;simp only[go_sem];refine jx 8 1 ?_;simp only[go_sem];refine az (fun i:Nat=>[(9,.int .i64 i),(8,.hs 1 4 0 (bg (ei t i0) ([],[]) i).2.length)]) (fun i=>[.var [nA t],.var [.sl 0 true []],.var [.hs 240 3 0 (bg (ei t i0) ([],[]) i).1.length],.vec 240 (rows bB (bg (ei t i0) ([],[]) i).1),.vec 1 (aH .i64 (bg (ei t i0) ([],[]) i).2)]) (fun i=>t.length-i) (fun i=>i<=t.length) 0 (amc _) ?_ ?_
 ·exact ais [] [0,1,2,3,4]
 intro i hi;refine dp ?_;by_cases h1:i<t.length
 ·have e1 := inT h1
  have hw:=af h1 Ua;have c1:=AD t ht hb i0 (i:Int);have hgd:=dy h1;have hs:=cX (ei t i0) ([],[]) i;obtain⟨hl2,hl1⟩:=uu t i0 i;generalize bg (ei t i0) ([],[]) i=p at *;obtain⟨kp,ix⟩:=p;dsimp only at hl1 hl2;have hc:ei t i0 i (kp,ix)=if eh t i0 i=true then (kp++[⟨(nod t i).blk,if (i:Int)=i0 then -1 else ix.getD (nod t i).up.toNat 0,(nod t i).status⟩],ix++[(kp.length:Int)])else (kp,ix++[-1]):=rfl
  have hr:∀w:Int,aH .i64 ix++[[AV.int .i64 w]]=aH .i64 (ix++[w]):=fun w=>kP .i64 ix [w]
  have hrn:=cR bB kp;dsimp only;refine aM e1 ?_;refine am c1 ?_;cases ha:eh t i0 i with
  | false =>
    rw[al5 (by simp[ha])]at hc;refine Ff ?_;refine aZ hr hw ?_;refine⟨i+1,h1,Ua,?_⟩;rw[hs,hc];exact ais [] [0,1,2,3,5]
  | true =>
    rw[al7 ha]at hc;refine dQ ?_;refine ah hgd ?_;by_cases hk:(i:Int)=i0
    ·have e2:((i:Int)==i0)=true:=by simpa using hk
     rw[al7 hk]at hc;refine bw e2 ?_;refine dC hr hw hrn ?_;refine⟨i+1,h1,Ua,?_⟩;rw[hs,hc];exact ais [] [0,1,2,7,6]
    ·have e2:((i:Int)==i0)=false:=by simpa using hk
     rw[al5 hk]at hc
     have hi0:0<i:=by
      rcases ajQ i with h|h
      ·subst h;unfold eh at ha;rw[show ((0:Nat):Int)=0 from rfl,jv h1]at ha;simp at ha;exact absurd ha.symm hk
      ·exact h
     obtain⟨u0,u1⟩:=ht i hi0 h1;have hgi:=gdn (k:=.i64) (ns:=ix) (i:=(nod t i).up.toNat) Ua;refine bJ e2 ?_;refine eU hr hw hrn hgi amv ?_;refine⟨i+1,h1,Ua,?_⟩;rw[hs,hc];exact ais [] [0,1,2,7,6]
 ·obtain rfl:i=t.length:=Ua
  have e1:=inF (t.length);obtain⟨hl2,hl1⟩:=uu t i0 t.length;refine aF e1 ?_;exact ai
theorem Ej(t:List Nod)(ht:eQ t)(i0:Int)(latest:Rt)(hb:t.length<=2097152):PC Tryz.prog 300 [.agg [nA t],.int .i64 i0,.agg (rtc latest)] (.tup [.int .i64 (iY t i0 latest).1,.int .i64 (iY t i0 latest).2]):=by
 refine ae 11 ?_;have c1:=sd t ht hb i0;have hl:=pF ht i0;have hm:∀x∈AI t i0,0<=x/\x<t.length:=fun x hx=>by have:=gu ht hx;omega
 unfold iY;generalize AI t i0=p at *;refine gon ?_;refine am c1 ?_;by_cases q0:p.length=0
 ·have e0:((p.length:Int)==0)=true:=Ud
  rw[al7 q0];repeat(first|refine bY ?_|simp_all)
  refine agF ?_;exact ai
 have e0:((p.length:Int)==0)=false:=Ud
 rw[al5 q0];have hmk:∀k,k<p.length->0<=p.getD k 0/\p.getD k 0<t.length:=fun k hk=>hm _ (by rw[alt,al6 hk];exact amS hk)
 by_cases q1:latest=rt0
 ·have e1:=au q1
  rw[al7 q1];refine bJ e0 ?_;refine aM e1 ?_;generalize hR:dW (fun k=>decide ((nod t (p.getD k 0).toNat).blk.payload≠rt0)) p.length=R;refine az (fun i:Nat=>[(9,.int .i64 i)]) (fun i=>[.var [nA t],.var (rtc latest)]) (fun i=>p.length-i) (fun i=>i<=p.length/\R=iK (fun k=>decide ((nod t (p.getD k 0).toNat).blk.payload≠rt0)) (p.length-i) i) 0 ⟨amc _,hR.symm⟩ ?_ ?_
  ·exact ais [] [0,1]
  clear hR;rintro i ⟨hi,hn⟩;rw[hn];refine dp ?_;by_cases h1:i<p.length
  ·have e1:=inT h1
   have hw:=af h1 Ua;have hgp:=gdn (k:=.i64) h1;obtain⟨x0,x1⟩:=hmk i h1;have hs1:=nB (p:=fun k=>decide ((nod t (p.getD k 0).toNat).blk.payload≠rt0)) h1;have hs2:=nz (p:=fun k=>decide ((nod t (p.getD k 0).toNat).blk.payload≠rt0)) h1;have hgd:=dy (t:=t) (i:=(p.getD i 0).toNat) Ua;refine bw e1 ?_;by_cases q2:(nod t (p.getD i 0).toNat).blk.payload=rt0
   ·have e2:=au q2;rw[hs2 (aA (fun h=>h q2))];refine OA hgp amv hgd e2 ?_;refine ah hw ?_;refine⟨i+1,⟨h1,rfl⟩,Ua,?_⟩;exact ais [] [0,1]
   ·have e2:=aA q2;rw[hs1 (au q2)];refine U6 hgp amv hgd e2 ?_;refine dC hgp amv hgd ?_;exact ai
  ·obtain rfl:i=p.length:=Ua
   have e1:=inF (p.length);rw[nu];refine aF e1 ?_;exact ai
 ·have e1:=aA q1
  rw[al5 q1];have hw0:IntKind.i64.wrap ((p.length:Int)-2)=((p.length-1:Nat):Int)-1:=by rw[aL Ua Ua];omega
  refine bJ e0 ?_;refine bJ e1 ?_;refine ah hw0 ?_;generalize hR:yB (fun k=>decide ((nod t (p.getD k 0).toNat).blk.payload=latest)) (p.length-1)=R;refine az (fun i:Nat=>[(10,.int .i64 ((i:Int)-1))]) (fun i=>[.var [nA t],.var (rtc latest)]) (fun i=>i) (fun i=>i<=p.length-1/\R=yB (fun k=>decide ((nod t (p.getD k 0).toNat).blk.payload=latest)) i) (p.length-1) ⟨amb _,hR.symm⟩ ?_ ?_
  ·exact ais [] [0,1]
  clear hR;rintro i ⟨hi,hn⟩;rw[hn];cases i with
  | zero =>
    rw[M0];refine bk ?_;exact ai
  | succ i =>
    have h1:i<p.length:=Ua
    have h2:i+1<p.length:=Ua
    have e3:((i+1:Nat):Int)-1=(i:Int):=Ua
    have e4:decide ((i:Int) ≥ 0)=true:=au Ua;have e5:decide ((0:Int)<=i)=true:=au Ua;have hw:IntKind.i64.wrap ((i:Int)-1)=(i:Int)-1:=aL Ua Ua;have hw2:=af h2 Ua;have hw3:IntKind.i64.wrap ((i:Int)+1)=((i+1:Nat):Int):=af h1 Ua;have hgp:=gdn (k:=.i64) h1;have hgp2:=gdn (k:=.i64) h2;obtain⟨x0,x1⟩:=hmk i h1;have hgd:=dy (t:=t) (i:=(p.getD i 0).toNat) Ua;rw[e3];repeat(first|refine bY ?_|simp only[go_sem,e3,e4,e5])
    refine ax ?_;refine dC hgp amv hgd ?_;refine bx (fun h=>?_) (fun h=>?_)
    ·rw[MZ h];refine eU hgp hgp2 hw3 amv hgd ?_;exact ai
    ·rw[MU h];refine ah hw ?_;refine⟨i,⟨Ua,rfl⟩,Ua,?_⟩;exact ais [] [0,1]
theorem Cl(t:List Nod)(ht:eQ t)(i0:Int)(v:Vdt)(keep:List Int)(hb:t.length<=2097152)(hk:keep.length<=2097152)(R:List Nod×Int)(hR:R=iT t i0 v keep):PC Tryz.prog 217 [.agg [nA t],.int .i64 i0,.agg (cA v),.sl 1 true (aH .i64 keep)] (.tup [.agg [nA R.1],.int .i64 R.2]):=by
 refine ae 35 ?_;have c0:=oB t i0;have c1:=vN t ht i0 hb;have c2:=Ej t ht i0 v.latest hb;unfold iT at hR;generalize hq:iY t i0 v.latest=q at *;obtain⟨q1,q2⟩:=q;have c4:=yP t ht q2 hb;have c3:=vN t ht q1 hb
 have c5:(fD t q1).2=0->PC Tryz.prog 301 [.agg [nA (fD t q1).1],.int .i64 q2] (.tup [.agg [nA (kF (fD t q1).1 q2).1],.int .i64 (kF (fD t q1).1 q2).2]):=fun h=>by
  obtain⟨h1,h2,_⟩:=Hq ht h;exact yP _ h1 q2 Ua
 have ca:=fun k=>AD t ht hb q2 (keep.getD k 0)
 dsimp only at hR c2;generalize fD t i0=r1 at *;generalize fD t q1=r2 at *;generalize kF t q2=r3 at *;generalize kF r2.1 q2=r4 at *;obtain⟨r1a,r1b⟩:=r1;obtain⟨r2a,r2b⟩:=r2;obtain⟨r3a,r3b⟩:=r3;obtain⟨r4a,r4b⟩:=r4;dsimp only at hR c1 c3 c4 c5;refine gon ?_;refine am c0 ?_;cases h0:isN t i0 with
 | false =>
   rw[al7 h0]at hR;subst hR;try omega
   refine agF ?_
   refine⟨_,by first|rfl|omega,.inr ⟨_,by(try simp only[go_sem,Nat.reduceAdd,Nat.reduceSub,Nat.reduceMul,Nat.reduceLT,Nat.reduceLeDiff,Nat.reduceEqDiff,reduceIte,Int.reduceToNat,Int.reduceLT,Int.reduceLE,Int.reduceEq,Int.reduceNeg,reduceCtorEq,Int.reduceBEq,Int.reduceBNe]);try rfl,puA,(by repeat'(first|exact Wk.refl _|exact Wk.empty _ _ _|exact Wk.open_ _ _ _|refine Wk.tup ?_|refine Wk.agg ?_|exact trivial|(intro h;first|exact h|rfl)|constructor))⟩⟩
 | true =>
   rw[al5 (by simp[h0])]at hR;refine bk ?_;by_cases k1:v.kind=1
   ·have e1:(v.kind==1)=true:=by simp[k1]
    rw[al7 k1]at hR;subst hR;refine aM e1 ?_;refine ahG c1 ?_;exact ai
   have e1:(v.kind==1)=false:=by simp[k1]
   rw[al5 k1]at hR;by_cases k3:v.kind=3
   ·have e3:(v.kind==3)=true:=by simp[k3]
    rw[al7 (.inl k3)]at hR;subst hR;refine fp e1 e3 ?_;refine aM e3 ?_;refine agF ?_;exact ai
   have e3:(v.kind==3)=false:=by simp[k3]
   by_cases k4:v.kind=4
   ·have e4:(v.kind==4)=true:=by simp[k4]
    rw[al7 (.inr k4)]at hR;subst hR;refine fp e1 e3 ?_;refine bJ e3 ?_;repeat(first|refine bY ?_|simp only[go_sem,e4])
    refine agF ?_;exact ai
   have e4:(v.kind==4)=false:=by simp[k4]
   rw[al5 (by simp[k3,k4])]at hR;by_cases k2:v.kind=2
   case neg=>
    have e2:(v.kind==2)=false:=by simp[k2]
    rw[al7 k2]at hR;subst hR;refine bJ e1 ?_;refine bJ e3 ?_;repeat(first|refine bY ?_|simp only[go_sem,e4])
    refine aB ?_;refine aF e2 ?_;exact rW
   have e2:(v.kind==2)=true:=by simp[k2]
   rw[al5 (fun h=>h k2)]at hR;refine bJ e1 ?_;refine bJ e3 ?_;repeat(first|refine bY ?_|simp only[go_sem,e4])
   refine aB ?_;refine aM e2 ?_;refine ahG c2 ?_;generalize hA:dW (fun k=>eh t q2 (keep.getD k 0)) keep.length=A at hR;refine az (fun i:Nat=>[(12,.int .i64 i)]) (fun i=>[.var [nA t],.var (cA v),.var [.sl 0 true []]]) (fun i=>keep.length-i) (fun i=>i<=keep.length/\A=iK (fun k=>eh t q2 (keep.getD k 0)) (keep.length-i) i) 0 ⟨amc _,hA.symm⟩ ?_ ?_
   ·exact ais [] [0,1,2]
   clear hA;rintro i ⟨hi,hn⟩;refine dp ?_;by_cases h1:i<keep.length
   ·have e1:=inT h1
    have hw:=af h1 Ua;have hgk:=gdn (k:=.i64) h1;have c6:=ca i;have hs1:=nB (p:=fun k=>eh t q2 (keep.getD k 0)) h1;have hs2:=nz (p:=fun k=>eh t q2 (keep.getD k 0)) h1;refine bw e1 ?_;refine aZ hgk amv ?_;refine aK (c6) ?_;refine gon ?_;cases h2:eh t q2 (keep.getD i 0)with
    | true =>
      rw[hs1 h2]at hn;rw[al7 (by rw[hn];rfl)]at hR;subst hR;refine aX ?_;exact rW
    | false =>
      rw[hs2 h2]at hn;refine dQ ?_;refine ah hw ?_;refine⟨i+1,⟨h1,hn⟩,Ua,?_⟩;exact ais [] [0,1,2]
   ·obtain rfl:i=keep.length:=Ua
    have e1:=inF (keep.length);rw[nu]at hn;rw[al5 (by rw[hn];simp)]at hR;refine aF e1 ?_;by_cases k5:0<=q1
    ·have e5:decide (q1 ≥ 0)=true:=au k5
     have e6:=au k5;rw[al7 k5]at hR;repeat(first|refine bY ?_|simp only[go_sem,e5,e6])
     refine agF ?_;refine ahG c3 ?_;by_cases k6:r2b=0
     ·have e7:(r2b != 0)=false:=by simp[k6]
      rw[al5 (by simp[k6])]at hR;subst hR;repeat(first|refine bY ?_|simp only[go_sem,e7])
      refine agE ?_;refine ahG (c5 k6) ?_;exact ai
     ·have e7:(r2b != 0)=true:=by simp[k6]
      rw[al7 k6]at hR;subst hR;repeat(first|refine bY ?_|simp only[go_sem,e7])
      refine agF ?_;exact rW
    ·have e5:decide (q1 ≥ 0)=false:=aA k5;have e6:=aA k5;rw[al5 k5]at hR;subst hR;repeat(first|refine bY ?_|simp only[go_sem,e5,e6])
     refine agE ?_;refine ahG c4 ?_;exact ai
theorem DX(t:List Nod)(ht:eQ t)(i0:Int)(v:Vdt)(keep:List Int)(hb:t.length<=2097152)(hk:keep.length<=2097152):PC Tryz.prog 217 [.agg [nA t],.int .i64 i0,.agg (cA v),.sl 1 true (aH .i64 keep)] (.tup [.agg [nA (iT t i0 v keep).1],.int .i64 (iT t i0 v keep).2]):=Cl t ht i0 v keep hb hk _ rfl
end Go.Proofs.YtmpddimhleianaaGreat
