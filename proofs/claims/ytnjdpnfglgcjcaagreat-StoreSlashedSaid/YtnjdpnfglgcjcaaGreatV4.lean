/-
 My texts Ld, Le, Lf, Lg, Lh, Li, Lj, joined.
-/
import Derived.Test.YtnjdpnfglgcjcaaGreatV3
set_option linter.unusedVariables false
set_option linter.unusedSimpArgs false
set_option maxRecDepth 8000
set_option maxHeartbeats 4000000
namespace Go.Proofs.YtnjdpnfglgcjcaaGreat
open Go Go.FH Go.RowKit
abbrev nA(t:List Nod):AV:=.sl 240 false (rows aP t)
theorem dy{t:List Nod}{i:Nat}(h:i<t.length):(rows aP t).getD i []=aP (nod t i):=aM (f:=aP) jm h
theorem mT(t:List Nod)(i:Int):PC Tryz.prog 312 [.agg [nA t],.int .i64 i] (.bool (isN t i)):=by
 refine PC.fact 5 QL (by simp) puA puA ?_;unfold DR;refine bd ?_;unfold isN;by_cases h0:0<=i
 ·have e0:decide (i ≥ 0)=true:=ak h0;have e1:=ak h0;refine aO e0 e1 ?_;exact af
 ·have e0:decide (i ≥ 0)=false:=au h0;have e1:=au h0;refine aO e0 e1 ?_;exact af
theorem I9(i:Int):PC Tryz.prog 329 [.int .i64 i] (.bool (decide (0<=i)&&decide (i<=2))):=by
 refine PC.fact 3 zU (by simp) puA puA ?_;unfold pM;refine bd ?_;by_cases h0:0<=i
 ·have e0:decide (i ≥ 0)=true:=ak h0;have e1:=ak h0;refine aO e0 e1 ?_;exact af
 ·have e0:decide (i ≥ 0)=false:=au h0;have e1:=au h0;refine aO e0 e1 ?_;exact af
theorem cm(t:List Nod)(r:Rt)(hb:t.length<=1000000):PC Tryz.prog 110 [.agg [nA t],.agg (rtc r)] (.int .i64 (aj t r)):=by
 refine PC.fact 6 LA (by simp) puA puA ?_;unfold ye;refine bd ?_;refine gon ?_;refine ay (fun i:Nat=>[(5,.int .i64 i)]) (fun _=>[.var [nA t],.var (rtc r)]) (fun i=>t.length-i) (fun i=>i<=t.length/\aj t r=rP (fw (fun i=>decide ((nod t i).blk.root=r)) (t.length-i) i)) 0 ⟨Nat.zero_le _,rfl⟩ ?_ ?_
 ·exact adk [] [0,1]
 rintro i ⟨hi,hn⟩;rw[hn];refine dM ?_;by_cases h1:i<t.length
 ·have e1:=inT h1
  have hw:=ah h1 (by omega);have hgd:=dy h1;refine bg e1 ?_;refine ap hgd ?_;refine bw (fun h=>?_) (fun h=>?_)
  ·rw[f9 h1 h];refine gon ?_;exact af
  ·rw[fW h1 h];refine ap hw ?_;refine⟨i+1,⟨h1,rfl⟩,by omega,?_⟩;exact adk [] [0,1]
 ·obtain rfl:i=t.length:=by omega
  have e1:=inF (t.length);rw[gQ];refine aD e1 ?_;exact af
def LX(t:List Nod)(i:Int)(k:Nat)(l:List Int):List Int:=if (nod t k).up=i then l++[(k:Int)]else l
theorem ZN(t:List Nod)(i:Int):∀n,(aL (LX t i) [] n).length<=0+n:=mb (fun k l=>by unfold LX;split<;>simp)
theorem Jl(t:List Nod)(i0:Int)(hb:t.length<=1000000):PC Tryz.prog 402 [.agg [nA t],.int .i64 i0] (.sl 1 false (ax .i64 (kP t i0))):=by
 refine PC.fact 7 zR (by simp) puA puA ?_;unfold pJ;refine bd ?_;have c1:=mT t i0;unfold kP;refine gon ?_;refine eY 5 1 ?_;simp only[go_sem];by_cases hn0:isN t i0=true
 ·rw [if_pos hn0]
  rw[hn0]at c1;show Tri _ _ _ _ (lT _ (jt (Tri _ _ _ _ (PQ _ (.sl 1 false (ax .i64 (aL (LX t i0) [] t.length))))) (PQ _ (.sl 1 false (ax .i64 (aL (LX t i0) [] t.length)))))) _ _
  refine ay (fun i:Nat=>[(6,.int .i64 i),(5,.hs 1 1 0 (aL (LX t i0) [] i).length)]) (fun i=>[.var [nA t],.vec 1 (ax .i64 (aL (LX t i0) [] i))]) (fun i=>t.length-i) (fun i=>i<=t.length) 0 (Nat.zero_le _) ?_ ?_
  ·exact adk [] [0,1]
  intro i hi;refine dM ?_;by_cases h1:i<t.length
  ·have e1:=inT h1
   have hw:=ah h1 (by omega);have hgd:=dy h1;have hs:=bH (LX t i0) [] i;have hl:=ZN t i0 i;generalize aL (LX t i0) [] i=acc at *;have hc:LX t i0 i acc=if (nod t i).up=i0 then acc++[(i:Int)]else acc:=rfl
   have hr:ax .i64 acc++[[AV.int .i64 (i:Int)]]=ax .i64 (acc++[(i:Int)]):=jn .i64 acc [(i:Int)];refine ap e1 ?_;refine ai c1 ?_;refine kO ?_;refine ap hgd ?_;refine bw (fun h=>?_) (fun h=>?_)
   ·rw[if_pos (by simpa using h)]at hc;refine aO hr hw ?_;refine⟨i+1,h1,by omega,?_⟩;rw[hs,hc];exact adk [] [0,2]
   ·rw[if_neg (by simpa using h)]at hc;refine aO hr hw ?_;refine⟨i+1,h1,by omega,?_⟩;rw[hs,hc];exact adk [] [0,1]
  ·obtain rfl:i=t.length:=by omega
   have e1:=inF (t.length);refine aD e1 ?_;exact af
 ·have hf:isN t i0=false:=by simpa using hn0
  rw[if_neg hn0];rw[hf]at c1;refine ay (fun _:Unit=>[]) (fun _=>[.var [nA t],.vec 1 []]) (fun _=>0) (fun _=>True) () trivial ?_ ?_
  ·exact adk [] [0,1]
  intro _ _;(try simp only[db,cV,List.set_cons_zero,List.set_cons_succ])
  by_cases h1:0<t.length
  ·have e1:decide ((0:Int)<(t.length:Int))=true:=ak (by omega);refine ap e1 ?_;refine ai c1 ?_;refine bh ?_;exact af
  ·have e1:decide ((0:Int)<(t.length:Int))=false:=au (by omega);refine aD e1 ?_;exact af
theorem Rv(t:List Nod)(hb:0<t.length):PC Tryz.prog 211 [.agg [nA t],.int .i64 0] (.sl 1 true (ax .i64 [0])):=by
 refine PC.fact 5 mP (by simp) puA puA ?_;unfold j8;refine bd ?_;have c1:=mT t 0;rw[show isN t 0=true by simp[isN,hb]]at c1;refine gon ?_;refine ai c1 ?_;refine bh ?_;refine abX ?_;exact af
theorem Z5(t:List Nod)(i:Int)(hi:isN t i=false):PC Tryz.prog 211 [.agg [nA t],.int .i64 i] (.sl 0 true []):=by
 refine PC.fact 5 mP (by simp) puA puA ?_;unfold j8;refine bd ?_;have c1:=mT t i;rw[hi]at c1;refine gon ?_;refine ai c1 ?_;refine aV ?_;exact af
theorem OS(t:List Nod)(ht:eL t)(hb:t.length<=1000000):∀ (n i:Nat),i<n->0<i->i<t.length->aI Tryz.prog 211 [.agg [nA t],.int .i64 i] [] (.hs 1 0 0 (bW t i).length) [.vec 1 (ax .i64 (bW t i))]
 |0,_,h,_,_=>by omega
 | n + 1, i, hn, h0, hi => by
   refine aI.fact 5 mP (by simp) ?_ (by simp);unfold j8;refine bd ?_;have c1:=mT t i;rw[show isN t i=true by simp[isN,hi]]at c1;have e0:((i:Int)==0)=false:=by rw[<-Bool.not_eq_true,beq_iff_eq];omega
   obtain⟨u0,u1⟩:=ht i h0 hi;obtain⟨u,hu⟩:∃u:Nat,(nod t i).up=u:=⟨_,(Int.toNat_of_nonneg u0).symm⟩
   have hs:=iJ ht h0 hi;have hl:=m7 ht (i+1) i (by omega);rw[hu]at hs;have hgd:=dy hi;refine gon ?_;refine ai c1 ?_;refine dk ?_;refine aQ e0 ?_;by_cases hu0:u=0
   ·subst hu0;have c2:=Rv t (by omega);rw[show ((0:Nat):Int)=0 from rfl,iI (by omega)]at hs;rw[hs]at hl ⊢;refine aO hgd hu ?_;refine aC (c2) ?_;refine gon ?_;exact adb [] [2]
   ·have c2:=OS t ht hb n u (by omega) (by omega) (by omega);have hl2:=m7 ht (u+1) u (by omega);rw[hs]at hl ⊢;refine aO hgd hu ?_;refine cO [] (c2) (by simp) evd (dt.mk' (by simp) (by simp) evd) ?_;refine evg ?_;refine gon ?_;exact adb [] [2]
theorem Z6(t:List Nod)(ht:eL t)(hb:t.length<=1000000)(i:Nat)(h0:0<i)(hi:i<t.length):PC Tryz.prog 211 [.agg [nA t],.int .i64 i] (.sl 1 false (ax .i64 (bW t i))):=by
 refine PC.fact 5 mP (by simp) puA puA ?_;unfold j8;refine bd ?_;have c1:=mT t i;rw[show isN t i=true by simp[isN,hi]]at c1;have e0:((i:Int)==0)=false:=by rw[<-Bool.not_eq_true,beq_iff_eq];omega
 obtain⟨u0,u1⟩:=ht i h0 hi;obtain⟨u,hu⟩:∃u:Nat,(nod t i).up=u:=⟨_,(Int.toNat_of_nonneg u0).symm⟩
 have hs:=iJ ht h0 hi;have hl:=m7 ht (i+1) i (by omega);rw[hu]at hs;have hgd:=dy hi;refine gon ?_;refine ai c1 ?_;refine dk ?_;refine aQ e0 ?_;by_cases hu0:u=0
 ·subst hu0;have c2:=Rv t (by omega);rw[show ((0:Nat):Int)=0 from rfl,iI (by omega)]at hs;rw[hs]at hl ⊢;refine aO hgd hu ?_;refine aC (c2) ?_;refine gon ?_;exact af
 ·have c2:=OS t ht hb (u+1) u (by omega) (by omega) (by omega);have hl2:=m7 ht (u+1) u (by omega);rw[hs]at hl ⊢;refine aO hgd hu ?_;refine cO [] (c2) (by simp) evd (dt.mk' (by simp) (by simp) evd) ?_;refine evg ?_;refine gon ?_;exact af
theorem qk(t:List Nod)(ht:eL t)(hb:t.length<=1000000)(i:Int):PC Tryz.prog 211 [.agg [nA t],.int .i64 i] (.sl 1 false (ax .i64 (bW t i))):=by
 by_cases h:isN t i=true
 ·have h1:=h
  simp[isN]at h1;obtain⟨u,rfl⟩:∃u:Nat,i=u:=⟨_,(Int.toNat_of_nonneg h1.1).symm⟩
  by_cases h0:u=0
  ·subst h0;have:=Rv t (by omega);rw[show ((0:Nat):Int)=0 from rfl,iI (by omega)];exact PC.weak this (Wk.open_ _ _ _) (bj _ _)
  ·exact Z6 t ht hb u (by omega) (by omega)
 ·rw[lq (by simpa using h)];exact PC.weak (Z5 t i (by simpa using h)) (Wk.empty _ _ _) (bj _ _)
theorem xT(t:List Nod)(ht:eL t)(hb:t.length<=1000000)(a b:Int):PC Tryz.prog 371 [.agg [nA t],.int .i64 a,.int .i64 b] (.bool (dv t a b)):=by
 refine PC.fact 7 xg (by simp) puA puA ?_;unfold nB;refine bd ?_;have c1:=qk t ht hb b;have c2:=tm (bW t b) false a (by have:=nX ht b;omega);unfold dv;refine gon ?_;refine acT c1 ?_;refine acT c2 ?_;exact af
def atS(t:List Nod)(p:List Int)(slot:Int)(k:Nat)(a:Int):Int:=if (nod t (p.getD k 0).toNat).blk.slot<=slot then p.getD k 0 else a
theorem KD(t:List Nod)(ht:eL t)(hb:t.length<=1000000)(i0 slot:Int):PC Tryz.prog 256 [.agg [nA t],.int .i64 i0,.int .u64 slot] (.int .i64 (atT t i0 slot)):=by
 refine PC.fact 10 QK (by simp) puA puA ?_;unfold DQ;refine bd ?_;have c1:=qk t ht hb i0;have hl:=nX ht i0;have hm:∀x∈bW t i0,0<=x/\x<t.length:=fun x hx=>by have:=fD ht hx;omega
 show Tri _ _ _ _ (PQ _ (.int .i64 (aL (atS t (bW t i0) slot) (-1) (bW t i0).length))) _ _
 refine gon ?_;refine ai c1 ?_;generalize bW t i0=p at *;refine gon ?_;refine ay (fun i:Nat=>[(9,.int .i64 i),(7,.int .i64 (aL (atS t p slot) (-1) i))]) (fun i=>[.var [nA t]]) (fun i=>p.length-i) (fun i=>i<=p.length) 0 (Nat.zero_le _) ?_ ?_
 ·exact adk [] [0]
 intro i hi;refine dM ?_;by_cases h1:i<p.length
 ·have e1:=inT h1
  have hw:=ah h1 (by omega);have hgp:=gdn (k:=.i64) h1;have hx:p.getD i 0∈p:=by rw[List.getD_eq_getElem?_getD,List.getElem?_eq_getElem h1];exact List.getElem_mem h1
  obtain⟨x0,x1⟩:=hm _ hx;have hs:=bH (atS t p slot) (-1) i;generalize aL (atS t p slot) (-1) i=acc at *;have hc:atS t p slot i acc=if (nod t (p.getD i 0).toNat).blk.slot<=slot then p.getD i 0 else acc:=rfl
  generalize p.getD i 0=x at *;have hgd:=dy (t:=t) (i:=x.toNat) (by omega);refine bg e1 ?_;refine cZ hgd hgp Nat.mul_one ?_;refine bw (fun h=>?_) (fun h=>?_)
  ·rw[if_pos (by simpa using h)]at hc;refine cZ hw hgp Nat.mul_one ?_;refine⟨i+1,h1,by omega,?_⟩;rw[hs,hc];exact adk [] [0]
  ·rw[if_neg (by simpa using h)]at hc;refine ap hw ?_;refine⟨i+1,h1,by omega,?_⟩;rw[hs,hc];exact adk [] [0]
 ·obtain rfl:i=p.length:=by omega
  have e1:=inF (p.length);refine aD e1 ?_;exact af
theorem WQ{t:List Nod}(ht:eL t)(i slot:Int):atT t i slot<t.length:=by
 have key:∀n,n<=(bW t i).length->aL (atS t (bW t i) slot) (-1) n<(t.length:Int):=by
  intro n;induction n with
  |zero=>intro _;show (-1:Int)<_;omega
  | succ n ih =>
    intro hn;rw[bH];unfold atS;split
    ·have hx:(bW t i).getD n 0∈bW t i:=by rw[List.getD_eq_getElem?_getD,List.getElem?_eq_getElem (by omega)];exact List.getElem_mem (by omega)
     exact(fD ht hx).2.2
    ·exact ih (by omega)
 exact key _ (Nat.le_refl _)
def vQ(t:List Nod)(i:Int)(k:Nat)(l:List Int):List Int:=if dv t i k=true then l++[(k:Int)]else l
theorem D8(t:List Nod)(i:Int):∀n,(aL (vQ t i) [] n).length<=0+n:=mb (fun k l=>by unfold vQ;split<;>simp)
theorem IT(t:List Nod)(ht:eL t)(hb:t.length<=1000000)(i0:Int):PC Tryz.prog 397 [.agg [nA t],.int .i64 i0] (.sl 1 false (ax .i64 (ij t i0))):=by
 refine PC.fact 7 uG (by simp) puA puA ?_;unfold mu;refine bd ?_;show Tri _ _ _ _ (PQ _ (.sl 1 false (ax .i64 (aL (vQ t i0) [] t.length)))) _ _
 refine gon ?_;refine eY 5 1 ?_;simp only[go_sem];refine ay (fun i:Nat=>[(6,.int .i64 i),(5,.hs 1 1 0 (aL (vQ t i0) [] i).length)]) (fun i=>[.var [nA t],.vec 1 (ax .i64 (aL (vQ t i0) [] i))]) (fun i=>t.length-i) (fun i=>i<=t.length) 0 (Nat.zero_le _) ?_ ?_
 ·exact adk [] [0,1]
 intro i hi;refine dM ?_;by_cases h1:i<t.length
 ·have e1:=inT h1
  have hw:=ah h1 (by omega);have c1:=xT t ht hb i0 (i:Int);have hs:=bH (vQ t i0) [] i;have hl:=D8 t i0 i;generalize aL (vQ t i0) [] i=acc at *;have hc:vQ t i0 i acc=if dv t i0 i=true then acc++[(i:Int)]else acc:=rfl
  have hr:ax .i64 acc++[[AV.int .i64 (i:Int)]]=ax .i64 (acc++[(i:Int)]):=jn .i64 acc [(i:Int)];refine aE e1 ?_;refine acT c1 ?_;refine bw (fun h=>?_) (fun h=>?_)
  ·rw[if_pos h]at hc;refine aO hr hw ?_;refine⟨i+1,h1,by omega,?_⟩;rw[hs,hc];exact adk [] [0,2]
  ·rw[if_neg (by simp[h])]at hc;refine aO hr hw ?_;refine⟨i+1,h1,by omega,?_⟩;rw[hs,hc];exact adk [] [0,1]
 ·obtain rfl:i=t.length:=by omega
  have e1:=inF (t.length);refine aD e1 ?_;exact af
theorem yC(t:List Nod)(i:Int):∀n,∀x∈aL (vQ t i) [] n,0<=x/\x<n
 |0,x,hx=>by simp[Ss]at hx
 | n + 1, x, hx => by
   rw[bH]at hx;unfold vQ at hx;split at hx
   ·rw[List.mem_append,List.mem_singleton]at hx;rcases hx with hx|hx
    ·have:=yC t i n x hx;omega
    ·omega
   ·have:=yC t i n x hx;omega
theorem Ve(b:Blk)(st:Int):PC Tryz.prog 237 [.agg (aA b),.int .i64 st] (.agg [nA [⟨b,-1,st⟩]]):=by
 refine PC.fact 5 NW (by simp) puA puA ?_;unfold BA;refine bd ?_;refine gon ?_;refine⟨_,by first|rfl|exact evd,.inr ⟨.agg [.sl 240 true (rows aP [⟨b,-1,st⟩])],evd,by simp[Pu,PuL,iD],Wk.agg ⟨Wk.open_ _ _ _,fun h=>h,trivial⟩⟩⟩
def ck(b:Blk):Int:=if b.payload=rt0 then 1 else 0
theorem Se(b:Blk):PC Tryz.prog 367 [.agg (aA b)] (.int .i64 (ck b)):=by
 refine PC.fact 3 zS (by simp) puA puA ?_;unfold pK;refine bd ?_;unfold ck;refine gon ?_;refine bw (fun h=>?_) (fun h=>?_)
 ·rw[if_pos (by simpa using h)];refine gon ?_;exact af
 ·rw[if_neg (by simpa using h)];refine gon ?_;exact af
theorem UY(p b:Blk):PC Tryz.prog 394 [.agg (aA p),.agg (aA b)] (.bool (decide (b.payload≠rt0)&&decide (p.payload=rt0))):=by
 refine PC.fact 5 sZ (by simp) puA puA ?_;unfold lI;refine bd ?_;by_cases h:b.payload=rt0
 ·have e1:=ak h;have e2:decide (b.payload≠rt0)=false:=by simp[h]
  refine aO e1 e2 ?_;exact af
 ·have e1:=au h;have e2:decide (b.payload≠rt0)=true:=by simp[h]
  refine aO e1 e2 ?_;exact af
def vR(ttd:Wd)(p b:Blk):Bool:=if b.payload=rt0 then decide (p.payload=rt0)else if p.payload=rt0 then decide (G6 b.pdiff ttd<0)&&decide (G6 b.diff ttd ≥ 0)else true
theorem QU(ttd:Wd)(p b:Blk):PC Tryz.prog 365 [.agg (wdc ttd),.agg (aA p),.agg (aA b)] (.bool (vR ttd p b)):=by
 refine PC.fact 17 LB (by simp) puA puA ?_;unfold yf;refine bd ?_;have c1:=UY p b;have c2:=IM b.pdiff ttd;have c3:=IM b.diff ttd;unfold vR;generalize G6 b.pdiff ttd=x at *;generalize G6 b.diff ttd=y at *;by_cases h:b.payload=rt0
 ·have e1:=ak h;rw[if_pos h];refine aE e1 ?_;exact af
 ·have e1:=au h
  have e2:decide (b.payload≠rt0)=true:=by simp[h]
  rw[if_neg h];rw[e2]at c1;by_cases h2:p.payload=rt0
  ·rw[if_pos h2]
   rw[ak h2]at c1;refine aD e1 ?_;refine ai c1 ?_;refine aV ?_;refine ai c2 ?_;cases h3:decide (x<0)with
   | true =>
     refine ap h3 ?_;refine acT c3 ?_;exact af
   | false =>
     refine ap h3 ?_;exact af
  ·rw[if_neg h2];rw[au h2]at c1;refine aD e1 ?_;refine ai c1 ?_;refine bh ?_;exact af
theorem dX(t:List Nod)(r:Rt):-1<=aj t r/\aj t r<t.length:=by
 unfold aj;cases h:cE (fun i=>decide ((nod t i).blk.root=r)) t.length with
 |none=>rw[jO];omega
 |some i=>rw[gc];have:=(dY h).1;omega
theorem UW(t:List Nod)(b:Blk)(st:Int)(hb:t.length<=1000000):PC Tryz.prog 366 [.agg [nA t],.agg (aA b),.int .i64 st] (.tup [.agg [nA (eP t b st).1],.int .i64 (eP t b st).2]):=by
 refine PC.fact 9 EB (by simp) puA puA ?_;unfold sr;refine bd ?_;have c1:=I9 st;have c2:=cm t b.root hb;have c3:=cm t b.parent hb;have b3:=dX t b.parent;unfold eP;generalize aj t b.root=x at *;generalize aj t b.parent=y at *;refine gon ?_;refine ai c1 ?_;by_cases q1:0<=st/\st<=2
 case neg=>
  have e1:(decide (0<=st)&&decide (st<=2))=false:=by rw[Bool.and_eq_false_iff,decide_eq_false_iff_not,decide_eq_false_iff_not];omega
  rw[if_pos q1];refine aE e1 ?_;exact qg
 have e1:(decide (0<=st)&&decide (st<=2))=true:=by simp[q1]
 rw[if_neg (fun h=>h q1)];refine aD e1 ?_;refine acT c2 ?_;refine bw (fun h=>?_) (fun h=>?_)
 ·rw[if_pos (by simpa using h)];refine gon ?_;exact qg
 rw[if_neg (by simpa using h)];refine gon ?_;refine acT c3 ?_;clear h;refine bw (fun h=>?_) (fun h=>?_)
 ·rw[if_pos (by simpa using h)];refine gon ?_;exact qg
 have hy0:0<=y:=by simpa using h
 have hgd:=dy (t:=t) (i:=y.toNat) (by omega);rw[if_neg (by simpa using h)];refine ap hgd ?_;clear h;refine bw (fun h=>?_) (fun h=>?_)
 ·rw[if_pos (by simpa using h)];refine gon ?_;exact qg
 rw[if_neg (by simpa using h)];refine gon ?_;clear h;refine bw (fun h=>?_) (fun h=>?_)
 ·rw[if_pos (by simp at h;omega)];refine gon ?_;exact qg
 rw[if_neg (by simp at h;omega)];have hr:=da aP t ⟨b,y,st⟩;refine ap hr ?_;exact af
theorem Nt(c:cU)(total:Int):PC Tryz.prog 398 [.agg (cD c.a),.int .u64 total] (.tup [.int .u64 (xS c.spe c.boost total).1,.int .i64 (xS c.spe c.boost total).2]):=by
 refine PC.fact 7 Ey (by simp) puA puA ?_;unfold sn;refine bd ?_;obtain⟨lim,spe,boost,ttd,gen,bals⟩:=c;unfold xS cU.a;dsimp only;by_cases q1:spe<1
 ·have e1:=ak q1;rw[if_pos (.inl q1)];refine aE e1 ?_;exact af
 have e1:=au q1;by_cases q2:64<spe
 ·have e2:=ak q2;rw[if_pos (.inr (.inl q2))];refine cn e1 e2 ?_;exact af
 have e2:=au q2;by_cases q3:100<boost
 ·have e3:=ak q3;rw[if_pos (.inr (.inr (.inl q3)))];refine fK e1 e2 e3 ?_;exact af
 have e3:=au q3;by_cases q4:4611686018427387904<total
 ·have e4:=ak q4;rw[if_pos (.inr (.inr (.inr q4)))];refine qM e1 e2 e3 e4 ?_;exact af
 have e4:=au q4;rw[if_neg (by simp[q1,q2,q3,q4])];have h0:spe≠0:=by omega
 refine LV e1 e2 e3 e4 ?_;exact af
def zP(t:List Nod)(latest:List Vot)(eqv bals:List Int)(i:Nat)(l:List Int):List Int:=l++[if (nod t i).status≠2 then o8 latest eqv bals [(nod t i).blk.root]else 0]
theorem oO(t:List Nod)(latest:List Vot)(eqv bals:List Int):∀n,(aL (zP t latest eqv bals) [] n).length=n
 |0=>rfl
 |n+1=>by rw[bH];show (aL (zP t latest eqv bals) [] n++[_]).length=_;rw[List.length_append,oO t latest eqv bals n];rfl
theorem BN(t:List Nod)(latest:List Vot)(eqv bals:List Int)(hb:t.length<=1000000)(h1:latest.length<=1000000)(h2:eqv.length<=1000000)(h3:bals.length<=1000000):
 PC Tryz.prog 41 [.agg [nA t],.agg [.sl 34 false (rows bM latest),.sl 1 false (ax .i64 eqv)],.sl 1 false (ax .u64 bals)] (.sl 1 false (ax .u64 (eV t latest eqv bals))):=by
 refine PC.fact 10 EA (by simp) puA puA ?_;unfold sq;refine bd ?_;show Tri _ _ _ _ (PQ _ (.sl 1 false (ax .u64 (aL (zP t latest eqv bals) [] t.length)))) _ _
 refine gon ?_;refine eY 7 1 ?_;simp only[go_sem];refine ay (fun i:Nat=>[(8,.int .i64 i),(7,.hs 1 2 0 i)]) (fun i=>[.var [nA t],.var [.sl 34 false (rows bM latest),.sl 1 false (ax .i64 eqv)],.vec 1 (ax .u64 (aL (zP t latest eqv bals) [] i))]) (fun i=>t.length-i) (fun i=>i<=t.length) 0 (Nat.zero_le _) ?_ ?_
 ·exact adk [] [0,1,2]
 intro i hi;refine dM ?_;by_cases h1:i<t.length
 ·have e1:=inT h1
  have hw:=ah h1 (by omega);have hgd:=dy h1;have c1:=PS latest eqv bals [(nod t i).blk.root] (by assumption) h2 h3 (by simp);have hs:=bH (zP t latest eqv bals) [] i;have hl:=oO t latest eqv bals i;have hro:[rtc (nod t i).blk.root]=rows rtc [(nod t i).blk.root]:=rfl;generalize aL (zP t latest eqv bals) [] i=acc at *;have hc:zP t latest eqv bals i acc=acc++[if (nod t i).status≠2 then o8 latest eqv bals [(nod t i).blk.root]else 0]:=rfl;have hr:∀w:Int,ax .u64 acc++[[AV.int .u64 w]]=ax .u64 (acc++[w]):=fun w=>jn .u64 acc [w]
  refine bg e1 ?_;refine ap hgd ?_;refine bw (fun h=>?_) (fun h=>?_)
  ·rw[if_pos (by simpa using h)]at hc;refine aO hgd hro ?_;refine aC (c1) ?_;refine cZ hr hw hl ?_;refine⟨i+1,h1,by omega,?_⟩;rw[hs,hc];exact adk [] [0,1,4]
  ·rw[if_neg (by simpa using h)]at hc;refine cZ hr hw hl ?_;refine⟨i+1,h1,by omega,?_⟩;rw[hs,hc];exact adk [] [0,1,3]
 ·obtain rfl:i=t.length:=by omega
  have e1:=inF (t.length);have hl:=oO t latest eqv bals t.length;refine aQ e1 ?_;refine ap hl ?_;refine⟨_,(by first|rfl|exact evd),.inl ?_⟩;refine evg ?_;rw[hl,if_pos (Nat.le_refl _),List.take_of_length_le (by simp[hl])]
def Ol(direct d:List Int)(k:Nat)(n:Int):Int:=IntKind.u64.wrap (n+direct.getD (d.getD k 0).toNat 0)
def MT(t:List Nod)(direct:List Int)(i:Nat)(l:List Int):List Int:=l++[aL (Ol direct (ij t i)) 0 (ij t i).length]
theorem Dx(t:List Nod)(direct:List Int):∀n,(aL (MT t direct) [] n).length=n
 |0=>rfl
 |n+1=>by rw[bH];show (aL (MT t direct) [] n++[_]).length=_;rw[List.length_append,Dx t direct n];rfl
theorem MW(t:List Nod)(ht:eL t)(direct:List Int)(hb:t.length<=1000000)(hd:direct.length=t.length):
 PC Tryz.prog 399 [.agg [nA t],.sl 1 false (ax .u64 direct)] (.sl 1 false (ax .u64 (acA t direct))):=by
 refine PC.fact 10 CB (by simp) puA puA ?_;unfold rg;refine bd ?_;show Tri _ _ _ _ (PQ _ (.sl 1 false (ax .u64 (aL (MT t direct) [] t.length)))) _ _
 refine gon ?_;refine eY 5 1 ?_;simp only[go_sem];refine ay (fun i:Nat=>[(6,.int .i64 i),(5,.hs 1 1 0 i)]) (fun i=>[.var [nA t],.vec 1 (ax .u64 (aL (MT t direct) [] i))]) (fun i=>t.length-i) (fun i=>i<=t.length) 0 (Nat.zero_le _) ?_ ?_
 ·exact adk [] [0,1]
 intro i hi;refine dM ?_;by_cases h1:i<t.length
 ·have e1:=inT h1
  have hw:=ah h1 (by omega);have c1:=IT t ht hb (i:Int);have hs:=bH (MT t direct) [] i;have hl:=Dx t direct i;have hm:=yC t (i:Int) t.length;have hdl:=D8 t (i:Int) t.length;have hc:MT t direct i (aL (MT t direct) [] i)=(aL (MT t direct) [] i)++[aL (Ol direct (ij t i)) 0 (ij t i).length]:=rfl;generalize aL (MT t direct) [] i=acc at *;change ∀x∈ij t (i:Int),_ at hm
  change (ij t (i:Int)).length<=_ at hdl
  generalize ij t (i:Int)=d at *;have hr:∀w:Int,ax .u64 acc++[[AV.int .u64 w]]=ax .u64 (acc++[w]):=fun w=>jn .u64 acc [w]
  refine aE e1 ?_;refine acT c1 ?_;refine ay (fun k:Nat=>[(9,.int .i64 k),(7,.int .u64 (aL (Ol direct d) 0 k))]) (fun k=>[.var [nA t],.vec 1 (ax .u64 acc)]) (fun k=>d.length-k) (fun k=>k<=d.length) 0 (Nat.zero_le _) ?_ ?_
  ·exact adk [] [0,1]
  intro k hk;(try simp only[db,cV,List.set_cons_zero,List.set_cons_succ])
  by_cases q1:k<d.length
  ·have e2:decide ((k:Int)<((d.length:Nat):Int))=true:=ak (by omega);have hw2:=ah q1 (by omega);have hgk:=gdn (k:=.i64) q1;have hx:d.getD k 0∈d:=by rw[List.getD_eq_getElem?_getD,List.getElem?_eq_getElem q1];exact List.getElem_mem q1
   obtain⟨x0,x1⟩:=hm _ hx;have hs2:=bH (Ol direct d) 0 k;have hc2:Ol direct d k (aL (Ol direct d) 0 k)=IntKind.u64.wrap (aL (Ol direct d) 0 k+direct.getD (d.getD k 0).toNat 0):=rfl;generalize aL (Ol direct d) 0 k=n at *;generalize d.getD k 0=x at *;have x2:x<direct.length:=by omega
   have hgx:=gdn (k:=.u64) (ns:=direct) (i:=x.toNat) (by omega);refine bg e2 ?_;refine eW hgk hgx Nat.mul_one hw2 ?_;refine⟨k+1,q1,by omega,?_⟩;rw[hs2,hc2];exact adk [] [0,1]
  ·obtain rfl:k=d.length:=by omega
   have e2:decide (((d.length:Nat):Int)<((d.length:Nat):Int))=false:=au (by omega);refine aQ e2 ?_;refine cZ hr hw hl ?_;refine⟨i+1,h1,by omega,?_⟩;rw[hs,hc];exact adk [] [0,2]
 ·obtain rfl:i=t.length:=by omega
  have e1:=inF (t.length);have hl:=Dx t direct t.length;refine aQ e1 ?_;refine ap hl ?_;refine⟨_,(by first|rfl|exact evd),.inl ?_⟩;refine evg ?_;rw[hl,if_pos (Nat.le_refl _),List.take_of_length_le (by simp[hl])]
theorem KK(t:List Nod)(direct:List Int)(root:Rt)(amount:Int)(hb:t.length<=1000000)(hd:direct.length=t.length):
 PC Tryz.prog 400 [.agg [nA t],.sl 1 false (ax .u64 direct),.agg (rtc root),.int .u64 amount] (.sl 1 false (ax .u64 (pH t direct root amount))):=by
 refine PC.fact 11 Cz (by simp) puA puA ?_;unfold re;refine bd ?_;have c1:=cm t root hb;have b1:=dX t root;unfold pH;generalize aj t root=x at *;refine gon ?_;refine ai c1 ?_;by_cases q1:0<=x
 ·have e1:decide (x ≥ 0)=true:=ak q1
  have e1':decide (0<=x)=true:=ak q1;have hgd:=dy (t:=t) (i:=x.toNat) (by omega);have x2:x<direct.length:=by omega
  have hgx:=gdn (k:=.u64) (ns:=direct) (i:=x.toNat) (by omega);by_cases q2:(nod t x.toNat).status=2
  ·have e2:((nod t x.toNat).status != 2)=false:=by simp[q2]
   rw[if_neg (fun h=>h.2.1 q2)];refine LV e1 e1' hgd e2 ?_;exact af
  ·have e2:((nod t x.toNat).status != 2)=true:=by simp[q2]
   by_cases q3:root=rt0
   ·have e3:=ak q3;rw[if_neg (fun h=>h.2.2 q3)];refine eO e1 e1' hgd e2 e3 ?_;refine abW ?_;exact af
   ·have e3:=au q3;rw[if_pos ⟨q1,q2,q3⟩];have hset:∀w:Int,(ax .u64 direct).set x.toNat [AV.int .u64 w]=ax .u64 (direct.set x.toNat w):=fun w=>by simp[ax,List.map_set]
    refine eO e1 e1' hgd e2 e3 ?_;refine aF ?_;refine cZ hgx Nat.mul_one hset ?_;exact af
 ·have e1:decide (x ≥ 0)=false:=au q1;have e1':decide (0<=x)=false:=au q1;rw[if_neg (fun h=>q1 h.1)];refine eC e1 e1' ?_;exact af
theorem Pl(t:List Nod)(l:List Int)(st fb:Int)(hb:t.length<=1000000)(hl:l.length<=1000000)(hj:∀j∈l,0<=j/\j<t.length):
 PC Tryz.prog 396 [.agg [nA t],.sl 1 false (ax .i64 l),.int .i64 st,.int .i64 fb] (.tup [.agg [nA ((zn t l st fb).getD [])],.bool (zn t l st fb).isSome]):=by
 refine PC.fact 12 NX (by simp) puA puA ?_;unfold BB;refine bd ?_;refine gon ?_;refine ay (fun i:Nat=>[(11,.int .i64 i)]) (fun i=>[.var [nA t],.var [.sl 0 true []],.vec 240 (rows aP ((aL (tS l st fb) (some t) i).getD [])),.var [.hs 240 2 0 t.length]]) (fun i=>l.length-i) (fun i=>i<=l.length/\(aL (tS l st fb) (some t) i).isSome=true) 0 ⟨Nat.zero_le _,rfl⟩ ?_ ?_
 ·exact adk [] [0,1,2,3]
 rintro i ⟨hi,ho⟩;refine dM ?_;by_cases h1:i<l.length
 ·have e1:=inT h1
  have hw:=ah h1 (by omega);have hgl:=gdn (k:=.i64) h1;have hx:l.getD i 0∈l:=by rw[List.getD_eq_getElem?_getD,List.getElem?_eq_getElem h1];exact List.getElem_mem h1
  obtain⟨x0,x1⟩:=hj _ hx;have hs:=bH (tS l st fb) (some t) i;obtain⟨u,hu⟩:=Option.isSome_iff_exists.1 ho;have hlu:=l8 hu;rw[hu]at hs ⊢;simp only[tS,Option.bind_some]at hs;generalize l.getD i 0=x at *;have hgd:=dy (t:=u) (i:=x.toNat) (by omega);have x2:x.toNat<u.length:=by omega
  have hset:=zj aP u x.toNat
  simp only[Option.getD_some];refine bg e1 ?_;refine cZ hgl Nat.mul_one hgd ?_;refine bw (fun h=>?_) (fun h=>?_)
  ·have hs':aL (tS l st fb) (some t) (i+1)=none:=by rw[hs,if_pos (by simpa using h)]
   have hn:zn t l st fb=none:=JS hs' _ h1;rw[hn];refine gon ?_;exact qg
  ·rw[if_neg (by simpa using h)]at hs;refine eO hgl Nat.mul_one hgd hset hw ?_;refine⟨i+1,⟨h1,by rw[hs];rfl⟩,by omega,?_⟩;rw[hs];simp only[Option.getD_some];exact adk [] [0,1,2,3]
 ·obtain rfl:i=l.length:=by omega
  have e1:=inF (l.length);obtain⟨u,hu⟩:=Option.isSome_iff_exists.1 ho;have hlu:=l8 hu;rw[show zn t l st fb=some u from hu,hu];simp only[Option.getD_some];refine aD e1 ?_;refine⟨_,(by first|rfl|exact evd),.inl ?_⟩;refine evg ?_;rw[if_pos (by omega),List.take_of_length_le (by simp[hlu])];rfl
theorem FM(t:List Nod)(ht:eL t)(i:Int)(hb:t.length<=1000000):PC Tryz.prog 369 [.agg [nA t],.int .i64 i] (.tup [.agg [nA (dV t i).1],.int .i64 (dV t i).2]):=by
 refine PC.fact 8 Hh (by simp) puA puA ?_;unfold vt;refine bd ?_;have c1:=mT t i;have c2:=qk t ht hb i;have hl:=nX ht i;have c3:=Pl t (bW t i) 1 2 hb (by omega) (fun j hj=>by have:=fD ht hj;omega);unfold dV;generalize zn t (bW t i) 1 2=o at *;refine gon ?_;refine ai c1 ?_;cases h:isN t i with
 | false =>
   rw[if_neg (by simp)];refine aV ?_;exact qg
 | true =>
   rw[if_pos rfl];refine bh ?_;refine aC (c2) ?_;refine gon ?_;refine aC (c3) ?_;refine gon ?_;cases o with
   | none =>
     simp only[Option.isSome_none,Option.getD_none];refine aV ?_;exact qg
   | some u =>
     simp only[Option.isSome_some,Option.getD_some];refine bh ?_;exact af
theorem IN(t:List Nod)(ht:eL t)(i:Int)(hb:t.length<=1000000):PC Tryz.prog 372 [.agg [nA t],.int .i64 i] (.tup [.agg [nA (kh t i).1],.int .i64 (kh t i).2]):=by
 refine PC.fact 8 CA (by simp) puA puA ?_;unfold rf;refine bd ?_;have c1:=mT t i;have c2:=IT t ht hb i;have hl:(ij t i).length<=0+t.length:=D8 t i t.length;have c3:=Pl t (ij t i) 2 1 hb (by omega) (fun j hj=>yC t i t.length j hj);unfold kh;generalize zn t (ij t i) 2 1=o at *;refine gon ?_;refine ai c1 ?_;cases h:isN t i with
 | false =>
   rw[if_neg (by simp)];refine aV ?_;exact qg
 | true =>
   rw[if_pos rfl];refine bh ?_;refine aC (c2) ?_;refine gon ?_;refine aC (c3) ?_;refine gon ?_;cases o with
   | none =>
     simp only[Option.isSome_none,Option.getD_none];refine aV ?_;exact qg
   | some u =>
     simp only[Option.isSome_some,Option.getD_some];refine bh ?_;exact af
theorem RK(t:List Nod)(i:Int)(k:Nat)(p:List Nod×List Int):(cX t i k p).2.length=p.2.length+1/\(cX t i k p).1.length<=p.1.length+1:=by
 unfold cX;split<;>simp
theorem m8(t:List Nod)(i:Int):∀k,(aL (cX t i) ([],[]) k).2.length=k/\(aL (cX t i) ([],[]) k).1.length<=k
 |0=>⟨rfl,Nat.le_refl _⟩
 | k + 1 => by
   rw[bH];have h1:=m8 t i k;have h2:=RK t i k (aL (cX t i) ([],[]) k);omega
theorem RM (t : List Nod) (ht : eL t) (i0 : Int) (hb : t.length <= 1000000) (h0 : isN t i0 = true) :
 PC Tryz.prog 362 [.agg [nA t],.int .i64 i0] (.tup [.agg [nA (dL t i0).1],.sl 1 false (ax .i64 (dL t i0).2),.int .i64 0]):=by
 refine PC.fact 11 Hg (by simp) puA puA ?_;unfold vq;refine bd ?_;unfold dL;have c0:=mT t i0;rw[h0]at c0;refine gon ?_;refine ai c0 ?_;refine bh ?_;refine oe 2 0 240 ?_;simp only[go_sem];refine eY 8 1 ?_;simp only[go_sem];refine ay (fun i:Nat=>[(9,.int .i64 i),(8,.hs 1 4 0 (aL (cX t i0) ([],[]) i).2.length)]) (fun i=>[.var [nA t],.var [.sl 0 true []],.var [.hs 240 3 0 (aL (cX t i0) ([],[]) i).1.length],.vec 240 (rows aP (aL (cX t i0) ([],[]) i).1),.vec 1 (ax .i64 (aL (cX t i0) ([],[]) i).2)]) (fun i=>t.length-i) (fun i=>i<=t.length) 0 (Nat.zero_le _) ?_ ?_
 ·exact adk [] [0,1,2,3,4]
 intro i hi;refine dM ?_;by_cases h1:i<t.length
 ·have e1 := inT h1
  have hw:=ah h1 (by omega);have c1:=xT t ht hb i0 (i:Int);have hgd:=dy h1;have hs:=bH (cX t i0) ([],[]) i;obtain⟨hl2,hl1⟩:=m8 t i0 i;generalize aL (cX t i0) ([],[]) i=p at *;obtain⟨kp,ix⟩:=p;dsimp only at hl1 hl2;have hc:cX t i0 i (kp,ix)=if dv t i0 i=true then (kp++[⟨(nod t i).blk,if (i:Int)=i0 then -1 else ix.getD (nod t i).up.toNat 0,(nod t i).status⟩],ix++[(kp.length:Int)])else (kp,ix++[-1]):=rfl
  have hr:∀w:Int,ax .i64 ix++[[AV.int .i64 w]]=ax .i64 (ix++[w]):=fun w=>jn .i64 ix [w]
  have hrn:=da aP kp;dsimp only;refine aE e1 ?_;refine ai c1 ?_;cases ha:dv t i0 i with
  | false =>
    rw[if_neg (by simp[ha])]at hc;refine kO ?_;refine aO hr hw ?_;refine⟨i+1,h1,by omega,?_⟩;rw[hs,hc];exact adk [] [0,1,2,3,5]
  | true =>
    rw[if_pos ha]at hc;refine dk ?_;refine ap hgd ?_;by_cases hk:(i:Int)=i0
    ·have e2:((i:Int)==i0)=true:=by simpa using hk
     rw[if_pos hk]at hc;refine bg e2 ?_;refine cZ hr hw hrn ?_;refine⟨i+1,h1,by omega,?_⟩;rw[hs,hc];exact adk [] [0,1,2,7,6]
    ·have e2:((i:Int)==i0)=false:=by simpa using hk
     rw[if_neg hk]at hc
     have hi0:0<i:=by
      rcases Nat.eq_zero_or_pos i with h|h
      ·subst h;unfold dv at ha;rw[show ((0:Nat):Int)=0 from rfl,iI h1]at ha;simp at ha;exact absurd ha.symm hk
      ·exact h
     obtain⟨u0,u1⟩:=ht i hi0 h1;have hgi:=gdn (k:=.i64) (ns:=ix) (i:=(nod t i).up.toNat) (by omega);refine aQ e2 ?_;refine eO hr hw hrn hgi Nat.mul_one ?_;refine⟨i+1,h1,by omega,?_⟩;rw[hs,hc];exact adk [] [0,1,2,7,6]
 ·obtain rfl:i=t.length:=by omega
  have e1:=inF (t.length);obtain⟨hl2,hl1⟩:=m8 t i0 t.length;refine aD e1 ?_;exact af
theorem RX(t:List Nod)(ht:eL t)(i0:Int)(latest:Rt)(hb:t.length<=1000000):PC Tryz.prog 370 [.agg [nA t],.int .i64 i0,.agg (rtc latest)] (.tup [.int .i64 (gT t i0 latest).1,.int .i64 (gT t i0 latest).2]):=by
 refine PC.fact 11 Hi (by simp) puA puA ?_;unfold vu;refine bd ?_;have c1:=qk t ht hb i0;have hl:=nX ht i0;have hm:∀x∈bW t i0,0<=x/\x<t.length:=fun x hx=>by have:=fD ht hx;omega
 unfold gT;generalize bW t i0=p at *;refine gon ?_;refine ai c1 ?_;by_cases q0:p.length=0
 ·have e0:((p.length:Int)==0)=true:=by simp[q0]
  rw[if_pos q0];refine aE e0 ?_;exact af
 have e0:((p.length:Int)==0)=false:=by rw[<-Bool.not_eq_true,beq_iff_eq];omega
 rw[if_neg q0];have hmk:∀k,k<p.length->0<=p.getD k 0/\p.getD k 0<t.length:=fun k hk=>hm _ (by rw[List.getD_eq_getElem?_getD,List.getElem?_eq_getElem hk];exact List.getElem_mem hk)
 by_cases q1:latest=rt0
 ·have e1:=ak q1
  rw[if_pos q1];refine aQ e0 ?_;refine aE e1 ?_;generalize hR:cE (fun k=>decide ((nod t (p.getD k 0).toNat).blk.payload≠rt0)) p.length=R;refine ay (fun i:Nat=>[(9,.int .i64 i)]) (fun i=>[.var [nA t],.var (rtc latest)]) (fun i=>p.length-i) (fun i=>i<=p.length/\R=fw (fun k=>decide ((nod t (p.getD k 0).toNat).blk.payload≠rt0)) (p.length-i) i) 0 ⟨Nat.zero_le _,hR.symm⟩ ?_ ?_
  ·exact adk [] [0,1]
  clear hR;rintro i ⟨hi,hn⟩;rw[hn];refine dM ?_;by_cases h1:i<p.length
  ·have e1:=inT h1
   have hw:=ah h1 (by omega);have hgp:=gdn (k:=.i64) h1;obtain⟨x0,x1⟩:=hmk i h1;have hs1:=f9 (p:=fun k=>decide ((nod t (p.getD k 0).toNat).blk.payload≠rt0)) h1;have hs2:=fW (p:=fun k=>decide ((nod t (p.getD k 0).toNat).blk.payload≠rt0)) h1;have hgd:=dy (t:=t) (i:=(p.getD i 0).toNat) (by omega);refine bg e1 ?_;by_cases q2:(nod t (p.getD i 0).toNat).blk.payload=rt0
   ·have e2:=ak q2;rw[hs2 (au (fun h=>h q2))];refine BS hgp Nat.mul_one hgd e2 ?_;refine ap hw ?_;refine⟨i+1,⟨h1,rfl⟩,by omega,?_⟩;exact adk [] [0,1]
   ·have e2:=au q2;rw[hs1 (ak q2)];refine I4 hgp Nat.mul_one hgd e2 ?_;refine cZ hgp Nat.mul_one hgd ?_;exact af
  ·obtain rfl:i=p.length:=by omega
   have e1:=inF (p.length);rw[gQ];refine aD e1 ?_;exact af
 ·have e1:=au q1
  rw[if_neg q1];have hw0:IntKind.i64.wrap ((p.length:Int)-2)=((p.length-1:Nat):Int)-1:=by rw[aK (by omega) (by omega)];omega
  refine aQ e0 ?_;refine aQ e1 ?_;refine ap hw0 ?_;generalize hR:HN (fun k=>decide ((nod t (p.getD k 0).toNat).blk.payload=latest)) (p.length-1)=R;refine ay (fun i:Nat=>[(10,.int .i64 ((i:Int)-1))]) (fun i=>[.var [nA t],.var (rtc latest)]) (fun i=>i) (fun i=>i<=p.length-1/\R=HN (fun k=>decide ((nod t (p.getD k 0).toNat).blk.payload=latest)) i) (p.length-1) ⟨Nat.le_refl _,hR.symm⟩ ?_ ?_
  ·exact adk [] [0,1]
  clear hR;rintro i ⟨hi,hn⟩;rw[hn];cases i with
  | zero =>
    rw[abE];refine bh ?_;exact af
  | succ i =>
    have h1:i<p.length:=by omega
    have h2:i+1<p.length:=by omega
    have e3:((i+1:Nat):Int)-1=(i:Int):=by omega
    have e4:decide ((i:Int) ≥ 0)=true:=ak (by omega);have e5:decide ((0:Int)<=i)=true:=ak (by omega);have hw:IntKind.i64.wrap ((i:Int)-1)=(i:Int)-1:=aK (by omega) (by omega);have hw2:=ah h2 (by omega);have hw3:IntKind.i64.wrap ((i:Int)+1)=((i+1:Nat):Int):=ah h1 (by omega);have hgp:=gdn (k:=.i64) h1;have hgp2:=gdn (k:=.i64) h2;obtain⟨x0,x1⟩:=hmk i h1;have hgd:=dy (t:=t) (i:=(p.getD i 0).toNat) (by omega);rw[e3];refine vX e3 e4 e5 ?_;refine cZ hgp Nat.mul_one hgd ?_;refine bw (fun h=>?_) (fun h=>?_)
    ·rw[abD h];refine eO hgp hgp2 hw3 Nat.mul_one hgd ?_;exact af
    ·rw[abC h];refine ap hw ?_;refine⟨i,⟨by omega,rfl⟩,by omega,?_⟩;exact adk [] [0,1]
theorem Oz(t:List Nod)(ht:eL t)(i0:Int)(v:Vdt)(keep:List Int)(hb:t.length<=1000000)(hk:keep.length<=1000000)(R:List Nod×Int)(hR:R=iU t i0 v keep):PC Tryz.prog 309 [.agg [nA t],.int .i64 i0,.agg (en v),.sl 1 true (ax .i64 keep)] (.tup [.agg [nA R.1],.int .i64 R.2]):=by
 refine PC.fact 35 Hf (by simp) puA puA ?_;unfold vo;refine bd ?_;have c0:=mT t i0;have c1:=FM t ht i0 hb;have c2:=RX t ht i0 v.latest hb;unfold iU at hR;generalize hq:gT t i0 v.latest=q at *;obtain⟨q1,q2⟩:=q;have c4:=IN t ht q2 hb;have c3:=FM t ht q1 hb
 have c5:(dV t q1).2=0->PC Tryz.prog 372 [.agg [nA (dV t q1).1],.int .i64 q2] (.tup [.agg [nA (kh (dV t q1).1 q2).1],.int .i64 (kh (dV t q1).1 q2).2]):=fun h=>by
  obtain⟨h1,h2,_⟩:=Vz ht h;exact IN _ h1 q2 (by omega)
 have ca:=fun k=>xT t ht hb q2 (keep.getD k 0)
 dsimp only at hR c2;generalize dV t i0=r1 at *;generalize dV t q1=r2 at *;generalize kh t q2=r3 at *;generalize kh r2.1 q2=r4 at *;obtain⟨r1a,r1b⟩:=r1;obtain⟨r2a,r2b⟩:=r2;obtain⟨r3a,r3b⟩:=r3;obtain⟨r4a,r4b⟩:=r4;dsimp only at hR c1 c3 c4 c5;refine gon ?_;refine ai c0 ?_;cases h0:isN t i0 with
 | false =>
   rw[if_pos h0]at hR;subst hR;refine aV ?_;exact qg
 | true =>
   rw[if_neg (by simp[h0])]at hR;refine bh ?_;by_cases k1:v.kind=1
   ·have e1:(v.kind==1)=true:=by simp[k1]
    rw[if_pos k1]at hR;subst hR;refine aE e1 ?_;refine acT c1 ?_;exact af
   have e1:(v.kind==1)=false:=by simp[k1]
   rw[if_neg k1]at hR;by_cases k3:v.kind=3
   ·have e3:(v.kind==3)=true:=by simp[k3]
    rw[if_pos (.inl k3)]at hR;subst hR;refine dD e1 e3 ?_;refine aE e3 ?_;refine abX ?_;exact af
   have e3:(v.kind==3)=false:=by simp[k3]
   by_cases k4:v.kind=4
   ·have e4:(v.kind==4)=true:=by simp[k4]
    rw[if_pos (.inr k4)]at hR;subst hR;refine dD e1 e3 ?_;refine aQ e3 ?_;refine aE e4 ?_;exact af
   have e4:(v.kind==4)=false:=by simp[k4]
   rw[if_neg (by simp[k3,k4])]at hR;by_cases k2:v.kind=2
   case neg=>
    have e2:(v.kind==2)=false:=by simp[k2]
    rw[if_pos k2]at hR;subst hR;refine aQ e1 ?_;refine aQ e3 ?_;refine aQ e4 ?_;refine aD e2 ?_;exact qg
   have e2:(v.kind==2)=true:=by simp[k2]
   rw[if_neg (fun h=>h k2)]at hR;refine aQ e1 ?_;refine aQ e3 ?_;refine aQ e4 ?_;refine aE e2 ?_;refine acT c2 ?_;generalize hA:cE (fun k=>dv t q2 (keep.getD k 0)) keep.length=A at hR;refine ay (fun i:Nat=>[(12,.int .i64 i)]) (fun i=>[.var [nA t],.var (en v),.var [.sl 0 true []]]) (fun i=>keep.length-i) (fun i=>i<=keep.length/\A=fw (fun k=>dv t q2 (keep.getD k 0)) (keep.length-i) i) 0 ⟨Nat.zero_le _,hA.symm⟩ ?_ ?_
   ·exact adk [] [0,1,2]
   clear hA;rintro i ⟨hi,hn⟩;refine dM ?_;by_cases h1:i<keep.length
   ·have e1:=inT h1
    have hw:=ah h1 (by omega);have hgk:=gdn (k:=.i64) h1;have c6:=ca i;have hs1:=f9 (p:=fun k=>dv t q2 (keep.getD k 0)) h1;have hs2:=fW (p:=fun k=>dv t q2 (keep.getD k 0)) h1;refine bg e1 ?_;refine aO hgk Nat.mul_one ?_;refine aC (c6) ?_;refine gon ?_;cases h2:dv t q2 (keep.getD i 0)with
    | true =>
      rw[hs1 h2]at hn;rw[if_pos (by rw[hn];rfl)]at hR;subst hR;refine aV ?_;exact qg
    | false =>
      rw[hs2 h2]at hn;refine dk ?_;refine ap hw ?_;refine⟨i+1,⟨h1,hn⟩,by omega,?_⟩;exact adk [] [0,1,2]
   ·obtain rfl:i=keep.length:=by omega
    have e1:=inF (keep.length);rw[gQ]at hn;rw[if_neg (by rw[hn];simp)]at hR;refine aD e1 ?_;by_cases k5:0<=q1
    ·have e5:decide (q1 ≥ 0)=true:=ak k5
     have e6:=ak k5;rw[if_pos k5]at hR;refine cn e5 e6 ?_;refine acT c3 ?_;by_cases k6:r2b=0
     ·have e7:(r2b != 0)=false:=by simp[k6]
      rw[if_neg (by simp[k6])]at hR;subst hR;refine aD e7 ?_;refine acT (c5 k6) ?_;exact af
     ·have e7:(r2b != 0)=true:=by simp[k6]
      rw[if_pos k6]at hR;subst hR;refine aE e7 ?_;exact qg
    ·have e5:decide (q1 ≥ 0)=false:=au k5;have e6:=au k5;rw[if_neg k5]at hR;subst hR;refine eC e5 e6 ?_;refine acT c4 ?_;exact af
theorem QZ(t:List Nod)(ht:eL t)(i0:Int)(v:Vdt)(keep:List Int)(hb:t.length<=1000000)(hk:keep.length<=1000000):PC Tryz.prog 309 [.agg [nA t],.int .i64 i0,.agg (en v),.sl 1 true (ax .i64 keep)] (.tup [.agg [nA (iU t i0 v keep).1],.int .i64 (iU t i0 v keep).2]):=Oz t ht i0 v keep hb hk _ rfl
end Go.Proofs.YtnjdpnfglgcjcaaGreat
