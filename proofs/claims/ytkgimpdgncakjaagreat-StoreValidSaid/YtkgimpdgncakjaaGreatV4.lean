/-
 My texts Ld, Le, Lf, Lg, Lh, Li, Lj, joined.
-/
import Derived.Test.YtkgimpdgncakjaaGreatV3
namespace Go.Proofs.YtkgimpdgncakjaaGreat
open Go Go.FH Go.RowKit
set_option linter.unusedVariables false
set_option linter.unusedSimpArgs false
abbrev nA(t:List Nod):AV:=.sl 240 false (rows ax_ t)
theorem bR_{t:List Nod}{i:Nat}(h:i<t.length):(rows ax_ t).getD i []=ax_ (nod t i):=aA_ (f:=ax_) gs_ h
theorem ik_(t:List Nod)(i:Int):PC Tryz.prog 187 [.agg [nA t],.int .i64 i] (.bool (isN t i)):=by
 refine PC.fact 5 FZ_ (by simp) puA puA ?_;unfold uv_;refine bd ?_;unfold isN;by_cases h0:0≤i
 ·have e0:decide (i ≥ 0)=true:=decide_eq_true h0;have e1:decide (0≤i)=true:=decide_eq_true h0;repeat(first|refine aa_ ?_|simp only[go_sem,e0,e1])
  exact ae_
 ·have e0:decide (i ≥ 0)=false:=decide_eq_false h0;have e1:decide (0≤i)=false:=decide_eq_false h0;repeat(first|refine aa_ ?_|simp only[go_sem,e0,e1])
  exact ae_
theorem zs_(i:Int):PC Tryz.prog 192 [.int .i64 i] (.bool (decide (0≤i)&&decide (i≤2))):=by
 refine PC.fact 3 rB_ (by simp) puA puA ?_;unfold kf_;refine bd ?_;by_cases h0:0≤i
 ·have e0:decide (i ≥ 0)=true:=decide_eq_true h0;have e1:decide (0≤i)=true:=decide_eq_true h0;repeat(first|refine aa_ ?_|simp only[go_sem,e0,e1])
  exact ae_
 ·have e0:decide (i ≥ 0)=false:=decide_eq_false h0;have e1:decide (0≤i)=false:=decide_eq_false h0;repeat(first|refine aa_ ?_|simp only[go_sem,e0,e1])
  exact ae_
theorem bg_(t:List Nod)(r:Rt)(hb:t.length≤1000000):PC Tryz.prog 23 [.agg [nA t],.agg (rtc r)] (.int .i64 (af_ t r)):=by
 refine PC.fact 6 Be_ (by simp) puA puA ?_;unfold qa_;refine bd ?_;try refine aa_ ?_
 refine an_ (fun i:Nat=>[(5,.int .i64 i)]) (fun _=>[.var [nA t],.var (rtc r)]) (fun i=>t.length-i) (fun i=>i≤t.length∧af_ t r=mO_ (dV_ (fun i=>decide ((nod t i).blk.root=r)) (t.length-i) i)) 0 ⟨Nat.zero_le _,rfl⟩ ?_ ?_
 ·exact SN_ [] [0,1]
 rintro i ⟨hi,hn⟩;rw[hn];refine cJ_ ?_;by_cases h1:i<t.length
 ·have e1:=inT h1
  have hw:=ag_ h1 (by omega);have hgd:=bR_ h1;repeat(first|refine aa_ ?_|simp only[go_sem,e1])
  refine ac_ ?_;repeat(first|refine aa_ ?_|simp only[go_sem,hgd])
  refine aW_ (fun h=>?_) (fun h=>?_)
  ·rw[fD_ h1 h];try refine aa_ ?_
   exact ae_
  ·rw[fC_ h1 h];repeat(first|refine aa_ ?_|simp only[go_sem,hw])
   refine⟨i+1,⟨h1,rfl⟩,by omega,?_⟩;exact SN_ [] [0,1]
 ·obtain rfl:i=t.length:=by omega
  have e1:=inF (t.length);rw[fB_];repeat(first|refine aa_ ?_|simp only[go_sem,e1])
  refine Rh_ ?_
  exact ae_
def Bx_(t:List Nod)(i:Int)(k:Nat)(l:List Int):List Int:=if (nod t k).up=i then l++[(k:Int)]else l
theorem ON_(t:List Nod)(i:Int):∀n,(av_ (Bx_ t i) [] n).length≤0+n:=hC_ (fun k l=>by unfold Bx_;split<;>simp)
theorem zu_(t:List Nod)(i0:Int)(hb:t.length≤1000000):PC Tryz.prog 276 [.agg [nA t],.int .i64 i0] (.sl 1 false (aq_ .i64 (gD_ t i0))):=by
 refine PC.fact 7 ry_ (by simp) puA puA ?_;unfold kc_;refine bd ?_;have c1:=ik_ t i0;unfold gD_;try refine aa_ ?_
 refine de_ 5 1 ?_;simp only[go_sem];by_cases hn0:isN t i0=true
 ·rw [if_pos hn0]
  rw[hn0]at c1;show Tri _ _ _ _ (ht_ _ (fT_ (Tri _ _ _ _ (PQ _ (.sl 1 false (aq_ .i64 (av_ (Bx_ t i0) [] t.length))))) (PQ _ (.sl 1 false (aq_ .i64 (av_ (Bx_ t i0) [] t.length)))))) _ _
  refine an_ (fun i:Nat=>[(6,.int .i64 i),(5,.hs 1 1 0 (av_ (Bx_ t i0) [] i).length)]) (fun i=>[.var [nA t],.vec 1 (aq_ .i64 (av_ (Bx_ t i0) [] i))]) (fun i=>t.length-i) (fun i=>i≤t.length) 0 (Nat.zero_le _) ?_ ?_
  ·exact SN_ [] [0,1]
  intro i hi;refine cJ_ ?_;by_cases h1:i<t.length
  ·have e1:=inT h1
   have hw:=ag_ h1 (by omega);have hgd:=bR_ h1;have hs:=bi_ (Bx_ t i0) [] i;have hl:=ON_ t i0 i;generalize av_ (Bx_ t i0) [] i=acc at *;have hc:Bx_ t i0 i acc=if (nod t i).up=i0 then acc++[(i:Int)]else acc:=rfl
   have hr:aq_ .i64 acc++[[AV.int .i64 (i:Int)]]=aq_ .i64 (acc++[(i:Int)]):=fr_ .i64 acc [(i:Int)];repeat(first|refine aa_ ?_|simp only[go_sem,e1])
   refine So_ c1 ?_
   refine ac_ ?_;repeat(first|refine aa_ ?_|simp only[go_sem,hgd])
   refine aW_ (fun h=>?_) (fun h=>?_)
   ·rw[if_pos (by simpa using h)]at hc;repeat(first|refine aa_ ?_|simp only[go_sem,hr,hw])
    refine⟨i+1,h1,by omega,?_⟩;rw[hs,hc];exact SN_ [] [0,2]
   ·rw[if_neg (by simpa using h)]at hc;repeat(first|refine aa_ ?_|simp only[go_sem,hr,hw])
    refine⟨i+1,h1,by omega,?_⟩;rw[hs,hc];exact SN_ [] [0,1]
  ·obtain rfl:i=t.length:=by omega
   have e1:=inF (t.length);repeat(first|refine aa_ ?_|simp only[go_sem,e1])
   refine Rh_ ?_
   exact ae_
 ·have hf:isN t i0=false:=by simpa using hn0
  rw[if_neg hn0];rw[hf]at c1;refine an_ (fun _:Unit=>[]) (fun _=>[.var [nA t],.vec 1 []]) (fun _=>0) (fun _=>True) () trivial ?_ ?_
  ·exact SN_ [] [0,1]
  intro _ _;(try simp only[cl_,bZ_,List.set_cons_zero,List.set_cons_succ])
  by_cases h1:0<t.length
  ·have e1:decide ((0:Int)<(t.length:Int))=true:=decide_eq_true (by omega);repeat(first|refine aa_ ?_|simp only[go_sem,e1])
   refine So_ c1 ?_
   refine Rh_ ?_
   exact ae_
  ·have e1:decide ((0:Int)<(t.length:Int))=false:=decide_eq_false (by omega);repeat(first|refine aa_ ?_|simp only[go_sem,e1])
   refine Rh_ ?_
   exact ae_
theorem GE_(t:List Nod)(hb:0<t.length):PC Tryz.prog 189 [.agg [nA t],.int .i64 0] (.sl 1 true (aq_ .i64 [0])):=by
 refine PC.fact 5 ig_ (by simp) puA puA ?_;unfold ge_;refine bd ?_;have c1:=ik_ t 0;rw[show isN t 0=true by simp[isN,hb]]at c1;try refine aa_ ?_
 refine So_ c1 ?_
 refine Rh_ ?_
 refine Ri_ ?_
 exact ae_
theorem Pe_(t:List Nod)(i:Int)(hi:isN t i=false):PC Tryz.prog 189 [.agg [nA t],.int .i64 i] (.sl 0 true []):=by
 refine PC.fact 5 ig_ (by simp) puA puA ?_;unfold ge_;refine bd ?_;have c1:=ik_ t i;rw[hi]at c1;try refine aa_ ?_
 refine So_ c1 ?_
 refine Ri_ ?_
 exact ae_
theorem El_(t:List Nod)(ht:cV_ t)(hb:t.length≤1000000):∀ (n i:Nat),i<n→0<i→i<t.length→ar_ Tryz.prog 189 [.agg [nA t],.int .i64 i] [] (.hs 1 0 0 (bc_ t i).length) [.vec 1 (aq_ .i64 (bc_ t i))]
 |0,_,h,_,_=>by omega
 | n + 1, i, hn, h0, hi => by
   refine ar_.fact 5 ig_ (by simp) ?_ (by simp);unfold ge_;refine bd ?_;have c1:=ik_ t i;rw[show isN t i=true by simp[isN,hi]]at c1;have e0:((i:Int)==0)=false:=by rw[←Bool.not_eq_true,beq_iff_eq];omega
   obtain⟨u0,u1⟩:=ht i h0 hi;obtain⟨u,hu⟩:∃u:Nat,(nod t i).up=u:=⟨_,(Int.toNat_of_nonneg u0).symm⟩
   have hs:=eT_ ht h0 hi;have hl:=ir_ ht (i+1) i (by omega);rw[hu]at hs;have hgd:=bR_ hi;try refine aa_ ?_
   refine So_ c1 ?_
   refine ab_ ?_;repeat(first|refine aa_ ?_|simp only[go_sem,e0])
   refine ab_ ?_;by_cases hu0:u=0
   ·subst hu0;have c2:=GE_ t (by omega);rw[show ((0:Nat):Int)=0 from rfl,eS_ (by omega)]at hs;rw[hs]at hl ⊢;repeat(first|refine aa_ ?_|simp only[go_sem,hgd,hu])
    refine ao_ (c2) ?_;try refine aa_ ?_
    exact SG_ [] [2]
   ·have c2:=El_ t ht hb n u (by omega) (by omega) (by omega);have hl2:=ir_ ht (u+1) u (by omega);rw[hs]at hl ⊢;repeat(first|refine aa_ ?_|simp only[go_sem,hgd,hu])
    refine bs_ [] (c2) (by simp) evd (bT_.mk' (by simp) (by simp) evd) ?_;refine evg ?_;try refine aa_ ?_
    exact SG_ [] [2]
theorem Pf_(t:List Nod)(ht:cV_ t)(hb:t.length≤1000000)(i:Nat)(h0:0<i)(hi:i<t.length):PC Tryz.prog 189 [.agg [nA t],.int .i64 i] (.sl 1 false (aq_ .i64 (bc_ t i))):=by
 refine PC.fact 5 ig_ (by simp) puA puA ?_;unfold ge_;refine bd ?_;have c1:=ik_ t i;rw[show isN t i=true by simp[isN,hi]]at c1;have e0:((i:Int)==0)=false:=by rw[←Bool.not_eq_true,beq_iff_eq];omega
 obtain⟨u0,u1⟩:=ht i h0 hi;obtain⟨u,hu⟩:∃u:Nat,(nod t i).up=u:=⟨_,(Int.toNat_of_nonneg u0).symm⟩
 have hs:=eT_ ht h0 hi;have hl:=ir_ ht (i+1) i (by omega);rw[hu]at hs;have hgd:=bR_ hi;try refine aa_ ?_
 refine So_ c1 ?_
 refine ab_ ?_;repeat(first|refine aa_ ?_|simp only[go_sem,e0])
 refine ab_ ?_;by_cases hu0:u=0
 ·subst hu0;have c2:=GE_ t (by omega);rw[show ((0:Nat):Int)=0 from rfl,eS_ (by omega)]at hs;rw[hs]at hl ⊢;repeat(first|refine aa_ ?_|simp only[go_sem,hgd,hu])
  refine ao_ (c2) ?_;try refine aa_ ?_
  exact ae_
 ·have c2:=El_ t ht hb (u+1) u (by omega) (by omega) (by omega);have hl2:=ir_ ht (u+1) u (by omega);rw[hs]at hl ⊢;repeat(first|refine aa_ ?_|simp only[go_sem,hgd,hu])
  refine bs_ [] (c2) (by simp) evd (bT_.mk' (by simp) (by simp) evd) ?_;refine evg ?_;try refine aa_ ?_
  exact ae_
theorem kv_(t:List Nod)(ht:cV_ t)(hb:t.length≤1000000)(i:Int):PC Tryz.prog 189 [.agg [nA t],.int .i64 i] (.sl 1 false (aq_ .i64 (bc_ t i))):=by
 by_cases h:isN t i=true
 ·have h1:=h
  simp[isN]at h1;obtain⟨u,rfl⟩:∃u:Nat,i=u:=⟨_,(Int.toNat_of_nonneg h1.1).symm⟩
  by_cases h0:u=0
  ·subst h0;have:=GE_ t (by omega);rw[show ((0:Nat):Int)=0 from rfl,eS_ (by omega)];exact PC.weak this (Wk.open_ _ _ _) (aM_ _ _)
  ·exact Pf_ t ht hb u (by omega) (by omega)
 ·rw[gV_ (by simpa using h)];exact PC.weak (Pe_ t i (by simpa using h)) (Wk.empty _ _ _) (aM_ _ _)
theorem pS_(t:List Nod)(ht:cV_ t)(hb:t.length≤1000000)(a b:Int):PC Tryz.prog 186 [.agg [nA t],.int .i64 a,.int .i64 b] (.bool (bN_ t a b)):=by
 refine PC.fact 7 po_ (by simp) puA puA ?_;unfold iD_;refine bd ?_;have c1:=kv_ t ht hb b;have c2:=vs_ (bc_ t b) false a (by have:=iV_ ht b;omega);unfold bN_;try refine aa_ ?_
 refine So_ c1 ?_
 refine So_ c2 ?_
 exact ae_
def atS(t:List Nod)(p:List Int)(slot:Int)(k:Nat)(a:Int):Int:=if (nod t (p.getD k 0).toNat).blk.slot≤slot then p.getD k 0 else a
theorem AA_(t:List Nod)(ht:cV_ t)(hb:t.length≤1000000)(i0 slot:Int):PC Tryz.prog 128 [.agg [nA t],.int .i64 i0,.int .u64 slot] (.int .i64 (atT t i0 slot)):=by
 refine PC.fact 10 FY_ (by simp) puA puA ?_;unfold uu_;refine bd ?_;have c1:=kv_ t ht hb i0;have hl:=iV_ ht i0;have hm:∀x∈bc_ t i0,0≤x∧x<t.length:=fun x hx=>by have:=dv_ ht hx;omega
 show Tri _ _ _ _ (PQ _ (.int .i64 (av_ (atS t (bc_ t i0) slot) (-1) (bc_ t i0).length))) _ _
 try refine aa_ ?_
 refine aj_ c1 ?_;generalize bc_ t i0=p at *;try refine aa_ ?_
 refine an_ (fun i:Nat=>[(9,.int .i64 i),(7,.int .i64 (av_ (atS t p slot) (-1) i))]) (fun i=>[.var [nA t]]) (fun i=>p.length-i) (fun i=>i≤p.length) 0 (Nat.zero_le _) ?_ ?_
 ·exact SN_ [] [0]
 intro i hi;refine cJ_ ?_;by_cases h1:i<p.length
 ·have e1:=inT h1
  have hw:=ag_ h1 (by omega);have hgp:=gdn (k:=.i64) h1;have hx:p.getD i 0∈p:=by rw[List.getD_eq_getElem?_getD,List.getElem?_eq_getElem h1];exact List.getElem_mem h1
  obtain⟨x0,x1⟩:=hm _ hx;have hs:=bi_ (atS t p slot) (-1) i;generalize av_ (atS t p slot) (-1) i=acc at *;have hc:atS t p slot i acc=if (nod t (p.getD i 0).toNat).blk.slot≤slot then p.getD i 0 else acc:=rfl
  generalize p.getD i 0=x at *;have hgd:=bR_ (t:=t) (i:=x.toNat) (by omega);repeat(first|refine aa_ ?_|simp only[go_sem,e1])
  refine ac_ ?_;repeat(first|refine aa_ ?_|simp only[go_sem,hgd,hgp,Nat.mul_one])
  refine aW_ (fun h=>?_) (fun h=>?_)
  ·rw[if_pos (by simpa using h)]at hc;repeat(first|refine aa_ ?_|simp only[go_sem,hw,hgp,Nat.mul_one])
   refine⟨i+1,h1,by omega,?_⟩;rw[hs,hc];exact SN_ [] [0]
  ·rw[if_neg (by simpa using h)]at hc;repeat(first|refine aa_ ?_|simp only[go_sem,hw])
   refine⟨i+1,h1,by omega,?_⟩;rw[hs,hc];exact SN_ [] [0]
 ·obtain rfl:i=p.length:=by omega
  have e1:=inF (p.length);repeat(first|refine aa_ ?_|simp only[go_sem,e1])
  refine Rh_ ?_
  exact ae_
theorem LI_{t:List Nod}(ht:cV_ t)(i slot:Int):atT t i slot<t.length:=by
 have key:∀n,n≤(bc_ t i).length→av_ (atS t (bc_ t i) slot) (-1) n<(t.length:Int):=by
  intro n;induction n with
  |zero=>intro _;show (-1:Int)<_;omega
  | succ n ih =>
    intro hn;rw[bi_];unfold atS;split
    ·have hx:(bc_ t i).getD n 0∈bc_ t i:=by rw[List.getD_eq_getElem?_getD,List.getElem?_eq_getElem (by omega)];exact List.getElem_mem (by omega)
     exact(dv_ ht hx).2.2
    ·exact ih (by omega)
 exact key _ (Nat.le_refl _)
def oO_(t:List Nod)(i:Int)(k:Nat)(l:List Int):List Int:=if bN_ t i k=true then l++[(k:Int)]else l
theorem uI_(t:List Nod)(i:Int):∀n,(av_ (oO_ t i) [] n).length≤0+n:=hC_ (fun k l=>by unfold oO_;split<;>simp)
theorem zf_(t:List Nod)(ht:cV_ t)(hb:t.length≤1000000)(i0:Int):PC Tryz.prog 279 [.agg [nA t],.int .i64 i0] (.sl 1 false (aq_ .i64 (eB_ t i0))):=by
 refine PC.fact 7 nM_ (by simp) puA puA ?_;unfold hN_;refine bd ?_;show Tri _ _ _ _ (PQ _ (.sl 1 false (aq_ .i64 (av_ (oO_ t i0) [] t.length)))) _ _
 try refine aa_ ?_
 refine de_ 5 1 ?_;simp only[go_sem];refine an_ (fun i:Nat=>[(6,.int .i64 i),(5,.hs 1 1 0 (av_ (oO_ t i0) [] i).length)]) (fun i=>[.var [nA t],.vec 1 (aq_ .i64 (av_ (oO_ t i0) [] i))]) (fun i=>t.length-i) (fun i=>i≤t.length) 0 (Nat.zero_le _) ?_ ?_
 ·exact SN_ [] [0,1]
 intro i hi;refine cJ_ ?_;by_cases h1:i<t.length
 ·have e1:=inT h1
  have hw:=ag_ h1 (by omega);have c1:=pS_ t ht hb i0 (i:Int);have hs:=bi_ (oO_ t i0) [] i;have hl:=uI_ t i0 i;generalize av_ (oO_ t i0) [] i=acc at *;have hc:oO_ t i0 i acc=if bN_ t i0 i=true then acc++[(i:Int)]else acc:=rfl
  have hr:aq_ .i64 acc++[[AV.int .i64 (i:Int)]]=aq_ .i64 (acc++[(i:Int)]):=fr_ .i64 acc [(i:Int)];repeat(first|refine aa_ ?_|simp only[go_sem,e1])
  refine Ri_ ?_
  refine So_ c1 ?_
  refine aW_ (fun h=>?_) (fun h=>?_)
  ·rw[if_pos h]at hc;repeat(first|refine aa_ ?_|simp only[go_sem,hr,hw])
   refine⟨i+1,h1,by omega,?_⟩;rw[hs,hc];exact SN_ [] [0,2]
  ·rw[if_neg (by simp[h])]at hc;repeat(first|refine aa_ ?_|simp only[go_sem,hr,hw])
   refine⟨i+1,h1,by omega,?_⟩;rw[hs,hc];exact SN_ [] [0,1]
 ·obtain rfl:i=t.length:=by omega
  have e1:=inF (t.length);repeat(first|refine aa_ ?_|simp only[go_sem,e1])
  refine Rh_ ?_
  exact ae_
theorem qs_(t:List Nod)(i:Int):∀n,∀x∈av_ (oO_ t i) [] n,0≤x∧x<n
 |0,x,hx=>by simp[Hu_]at hx
 | n + 1, x, hx => by
   rw[bi_]at hx;unfold oO_ at hx;split at hx
   ·rw[List.mem_append,List.mem_singleton]at hx;rcases hx with hx|hx
    ·have:=qs_ t i n x hx;omega
    ·omega
   ·have:=qs_ t i n x hx;omega
theorem Kd_(b:Blk)(st:Int):PC Tryz.prog 140 [.agg (ap_ b),.int .i64 st] (.agg [nA [⟨b,-1,st⟩]]):=by
 refine PC.fact 5 Ds_ (by simp) puA puA ?_;unfold sm_;refine bd ?_;try refine aa_ ?_
 refine⟨_,by first|rfl|exact evd,.inr ⟨.agg [.sl 240 true (rows ax_ [⟨b,-1,st⟩])],evd,by simp[Pu,PuL,eM_],Wk.agg ⟨Wk.open_ _ _ _,fun h=>h,trivial⟩⟩⟩
def bA_(b:Blk):Int:=if b.payload=rt0 then 1 else 0
theorem Hl_(b:Blk):PC Tryz.prog 157 [.agg (ap_ b)] (.int .i64 (bA_ b)):=by
 refine PC.fact 3 rz_ (by simp) puA puA ?_;unfold kd_;refine bd ?_;unfold bA_;try refine aa_ ?_
 refine aW_ (fun h=>?_) (fun h=>?_)
 ·rw[if_pos (by simpa using h)];try refine aa_ ?_
  exact ae_
 ·rw[if_neg (by simpa using h)];try refine aa_ ?_
  exact ae_
theorem JS_(p b:Blk):PC Tryz.prog 201 [.agg (ap_ p),.agg (ap_ b)] (.bool (decide (b.payload≠rt0)&&decide (p.payload=rt0))):=by
 refine PC.fact 5 mF_ (by simp) puA puA ?_;unfold hj_;refine bd ?_;by_cases h:b.payload=rt0
 ·have e1:decide (b.payload=rt0)=true:=decide_eq_true h;have e2:decide (b.payload≠rt0)=false:=by simp[h]
  repeat(first|refine aa_ ?_|simp only[go_sem,e1,e2])
  exact ae_
 ·have e1:decide (b.payload=rt0)=false:=decide_eq_false h;have e2:decide (b.payload≠rt0)=true:=by simp[h]
  repeat(first|refine aa_ ?_|simp only[go_sem,e1,e2])
  exact ae_
def vj_(ttd:Wd)(p b:Blk):Bool:=if b.payload=rt0 then decide (p.payload=rt0)else if p.payload=rt0 then decide (Ju_ b.pdiff ttd<0)&&decide (Ju_ b.diff ttd ≥ 0)else true
theorem Gh_(ttd:Wd)(p b:Blk):PC Tryz.prog 155 [.agg (wdc ttd),.agg (ap_ p),.agg (ap_ b)] (.bool (vj_ ttd p b)):=by
 refine PC.fact 17 Bf_ (by simp) puA puA ?_;unfold qb_;refine bd ?_;have c1:=JS_ p b;have c2:=zc_ b.pdiff ttd;have c3:=zc_ b.diff ttd;unfold vj_;generalize Ju_ b.pdiff ttd=x at *;generalize Ju_ b.diff ttd=y at *;by_cases h:b.payload=rt0
 ·have e1:decide (b.payload=rt0)=true:=decide_eq_true h;rw[if_pos h];repeat(first|refine aa_ ?_|simp only[go_sem,e1])
  refine Ri_ ?_
  exact ae_
 ·have e1:decide (b.payload=rt0)=false:=decide_eq_false h
  have e2:decide (b.payload≠rt0)=true:=by simp[h]
  rw[if_neg h];rw[e2]at c1;by_cases h2:p.payload=rt0
  ·rw[if_pos h2]
   rw[decide_eq_true h2]at c1;repeat(first|refine aa_ ?_|simp only[go_sem,e1])
   refine Rh_ ?_
   refine So_ c1 ?_
   refine Ri_ ?_
   refine aj_ c2 ?_;cases h3:decide (x<0)with
   | true =>
     repeat(first|refine aa_ ?_|simp only[go_sem,h3])
     refine So_ c3 ?_
     exact ae_
   | false =>
     repeat(first|refine aa_ ?_|simp only[go_sem,h3])
     exact ae_
  ·rw[if_neg h2];rw[decide_eq_false h2]at c1;repeat(first|refine aa_ ?_|simp only[go_sem,e1])
   refine Rh_ ?_
   refine So_ c1 ?_
   refine Rh_ ?_
   exact ae_
theorem cH_(t:List Nod)(r:Rt):-1≤af_ t r∧af_ t r<t.length:=by
 unfold af_;cases h:bD_ (fun i=>decide ((nod t i).blk.root=r)) t.length with
 |none=>rw[fQ_];omega
 |some i=>rw[dP_];have:=(cD_ h).1;omega
theorem JQ_(t:List Nod)(b:Blk)(st:Int)(hb:t.length≤1000000):PC Tryz.prog 156 [.agg [nA t],.agg (ap_ b),.int .i64 st] (.tup [.agg [nA (dQ_ t b st).1],.int .i64 (dQ_ t b st).2]):=by
 refine PC.fact 9 uV_ (by simp) puA puA ?_;unfold mh_;refine bd ?_;have c1:=zs_ st;have c2:=bg_ t b.root hb;have c3:=bg_ t b.parent hb;have b3:=cH_ t b.parent;unfold dQ_;generalize af_ t b.root=x at *;generalize af_ t b.parent=y at *;try refine aa_ ?_
 refine aj_ c1 ?_;by_cases q1:0≤st∧st≤2
 case neg=>
  have e1:(decide (0≤st)&&decide (st≤2))=false:=by rw[Bool.and_eq_false_iff,decide_eq_false_iff_not,decide_eq_false_iff_not];omega
  rw[if_pos q1];repeat(first|refine aa_ ?_|simp only[go_sem,e1])
  refine Ri_ ?_
  refine⟨_,by first|rfl|exact evd,.inr ⟨_,by(try simp only[go_sem,Nat.reduceAdd,Nat.reduceSub,Nat.reduceMul,Nat.reduceLT,Nat.reduceLeDiff,Nat.reduceEqDiff,reduceIte,Int.reduceToNat,Int.reduceLT,Int.reduceLE,Int.reduceEq,Int.reduceNeg,reduceCtorEq,Int.reduceBEq,Int.reduceBNe]);try rfl,puA,(by repeat'(first|exact Wk.refl _|exact Wk.empty _ _ _|exact Wk.open_ _ _ _|refine Wk.tup ?_|refine Wk.agg ?_|exact trivial|(intro h;first|exact h|rfl)|constructor))⟩⟩
 have e1:(decide (0≤st)&&decide (st≤2))=true:=by simp[q1]
 rw[if_neg (fun h=>h q1)];repeat(first|refine aa_ ?_|simp only[go_sem,e1])
 refine Rh_ ?_
 refine So_ c2 ?_
 refine aW_ (fun h=>?_) (fun h=>?_)
 ·rw[if_pos (by simpa using h)];try refine aa_ ?_
  refine⟨_,by first|rfl|exact evd,.inr ⟨_,by(try simp only[go_sem,Nat.reduceAdd,Nat.reduceSub,Nat.reduceMul,Nat.reduceLT,Nat.reduceLeDiff,Nat.reduceEqDiff,reduceIte,Int.reduceToNat,Int.reduceLT,Int.reduceLE,Int.reduceEq,Int.reduceNeg,reduceCtorEq,Int.reduceBEq,Int.reduceBNe]);try rfl,puA,(by repeat'(first|exact Wk.refl _|exact Wk.empty _ _ _|exact Wk.open_ _ _ _|refine Wk.tup ?_|refine Wk.agg ?_|exact trivial|(intro h;first|exact h|rfl)|constructor))⟩⟩
 rw[if_neg (by simpa using h)];try refine aa_ ?_
 refine So_ c3 ?_
 clear h;refine aW_ (fun h=>?_) (fun h=>?_)
 ·rw[if_pos (by simpa using h)];try refine aa_ ?_
  refine⟨_,by first|rfl|exact evd,.inr ⟨_,by(try simp only[go_sem,Nat.reduceAdd,Nat.reduceSub,Nat.reduceMul,Nat.reduceLT,Nat.reduceLeDiff,Nat.reduceEqDiff,reduceIte,Int.reduceToNat,Int.reduceLT,Int.reduceLE,Int.reduceEq,Int.reduceNeg,reduceCtorEq,Int.reduceBEq,Int.reduceBNe]);try rfl,puA,(by repeat'(first|exact Wk.refl _|exact Wk.empty _ _ _|exact Wk.open_ _ _ _|refine Wk.tup ?_|refine Wk.agg ?_|exact trivial|(intro h;first|exact h|rfl)|constructor))⟩⟩
 have hy0:0≤y:=by simpa using h
 have hgd:=bR_ (t:=t) (i:=y.toNat) (by omega);rw[if_neg (by simpa using h)];repeat(first|refine aa_ ?_|simp only[go_sem,hgd])
 clear h;refine aW_ (fun h=>?_) (fun h=>?_)
 ·rw[if_pos (by simpa using h)];try refine aa_ ?_
  refine⟨_,by first|rfl|exact evd,.inr ⟨_,by(try simp only[go_sem,Nat.reduceAdd,Nat.reduceSub,Nat.reduceMul,Nat.reduceLT,Nat.reduceLeDiff,Nat.reduceEqDiff,reduceIte,Int.reduceToNat,Int.reduceLT,Int.reduceLE,Int.reduceEq,Int.reduceNeg,reduceCtorEq,Int.reduceBEq,Int.reduceBNe]);try rfl,puA,(by repeat'(first|exact Wk.refl _|exact Wk.empty _ _ _|exact Wk.open_ _ _ _|refine Wk.tup ?_|refine Wk.agg ?_|exact trivial|(intro h;first|exact h|rfl)|constructor))⟩⟩
 rw[if_neg (by simpa using h)];try refine aa_ ?_
 clear h;refine aW_ (fun h=>?_) (fun h=>?_)
 ·rw[if_pos (by simp at h;omega)];try refine aa_ ?_
  refine⟨_,by first|rfl|exact evd,.inr ⟨_,by(try simp only[go_sem,Nat.reduceAdd,Nat.reduceSub,Nat.reduceMul,Nat.reduceLT,Nat.reduceLeDiff,Nat.reduceEqDiff,reduceIte,Int.reduceToNat,Int.reduceLT,Int.reduceLE,Int.reduceEq,Int.reduceNeg,reduceCtorEq,Int.reduceBEq,Int.reduceBNe]);try rfl,puA,(by repeat'(first|exact Wk.refl _|exact Wk.empty _ _ _|exact Wk.open_ _ _ _|refine Wk.tup ?_|refine Wk.agg ?_|exact trivial|(intro h;first|exact h|rfl)|constructor))⟩⟩
 rw[if_neg (by simp at h;omega)];have hr:=bB_ ax_ t ⟨b,y,st⟩;repeat(first|refine aa_ ?_|simp only[go_sem,hr])
 exact ae_
theorem CR_(c:bu_)(total:Int):PC Tryz.prog 272 [.agg (bn_ c.a),.int .u64 total] (.tup [.int .u64 (pR_ c.spe c.boost total).1,.int .i64 (pR_ c.spe c.boost total).2]):=by
 refine PC.fact 7 uS_ (by simp) puA puA ?_;unfold me_;refine bd ?_;obtain⟨lim,spe,boost,ttd,gen,bals⟩:=c;unfold pR_ bu_.a;dsimp only;by_cases q1:spe<1
 ·have e1:decide (spe<1)=true:=decide_eq_true q1;rw[if_pos (.inl q1)];repeat(first|refine aa_ ?_|simp only[go_sem,e1])
  refine Ri_ ?_
  exact ae_
 have e1:decide (spe<1)=false:=decide_eq_false q1;by_cases q2:64<spe
 ·have e2:decide (64<spe)=true:=decide_eq_true q2;rw[if_pos (.inr (.inl q2))];repeat(first|refine aa_ ?_|simp only[go_sem,e1,e2])
  refine Ri_ ?_
  exact ae_
 have e2:decide (64<spe)=false:=decide_eq_false q2;by_cases q3:100<boost
 ·have e3:decide (100<boost)=true:=decide_eq_true q3;rw[if_pos (.inr (.inr (.inl q3)))];repeat(first|refine aa_ ?_|simp only[go_sem,e1,e2,e3])
  refine Ri_ ?_
  exact ae_
 have e3:decide (100<boost)=false:=decide_eq_false q3;by_cases q4:4611686018427387904<total
 ·have e4:decide (4611686018427387904<total)=true:=decide_eq_true q4;rw[if_pos (.inr (.inr (.inr q4)))];repeat(first|refine aa_ ?_|simp only[go_sem,e1,e2,e3,e4])
  refine Ri_ ?_
  exact ae_
 have e4:decide (4611686018427387904<total)=false:=decide_eq_false q4;rw[if_neg (by simp[q1,q2,q3,q4])];have h0:spe≠0:=by omega
 repeat(first|refine aa_ ?_|simp only[go_sem,e1,e2,e3,e4])
 refine Rh_ ?_
 exact ae_
def Dk_(t:List Nod)(latest:List Vot)(eqv bals:List Int)(i:Nat)(l:List Int):List Int:=l++[if (nod t i).status≠2 then ue_ latest eqv bals [(nod t i).blk.root]else 0]
theorem tU_(t:List Nod)(latest:List Vot)(eqv bals:List Int):∀n,(av_ (Dk_ t latest eqv bals) [] n).length=n
 |0=>rfl
 |n+1=>by rw[bi_];show (av_ (Dk_ t latest eqv bals) [] n++[_]).length=_;rw[List.length_append,tU_ t latest eqv bals n];rfl
theorem Dl_(t:List Nod)(latest:List Vot)(eqv bals:List Int)(hb:t.length≤1000000)(h1:latest.length≤1000000)(h2:eqv.length≤1000000)(h3:bals.length≤1000000):
 PC Tryz.prog 28 [.agg [nA t],.agg [.sl 34 false (rows aV_ latest),.sl 1 false (aq_ .i64 eqv)],.sl 1 false (aq_ .u64 bals)] (.sl 1 false (aq_ .u64 (tV_ t latest eqv bals))):=by
 refine PC.fact 10 uU_ (by simp) puA puA ?_;unfold mg_;refine bd ?_;show Tri _ _ _ _ (PQ _ (.sl 1 false (aq_ .u64 (av_ (Dk_ t latest eqv bals) [] t.length)))) _ _
 try refine aa_ ?_
 refine de_ 7 1 ?_;simp only[go_sem];refine an_ (fun i:Nat=>[(8,.int .i64 i),(7,.hs 1 2 0 i)]) (fun i=>[.var [nA t],.var [.sl 34 false (rows aV_ latest),.sl 1 false (aq_ .i64 eqv)],.vec 1 (aq_ .u64 (av_ (Dk_ t latest eqv bals) [] i))]) (fun i=>t.length-i) (fun i=>i≤t.length) 0 (Nat.zero_le _) ?_ ?_
 ·exact SN_ [] [0,1,2]
 intro i hi;refine cJ_ ?_;by_cases h1:i<t.length
 ·have e1:=inT h1
  have hw:=ag_ h1 (by omega);have hgd:=bR_ h1;have c1:=Fm_ latest eqv bals [(nod t i).blk.root] (by assumption) h2 h3 (by simp);have hs:=bi_ (Dk_ t latest eqv bals) [] i;have hl:=tU_ t latest eqv bals i;have hro:[rtc (nod t i).blk.root]=rows rtc [(nod t i).blk.root]:=rfl;generalize av_ (Dk_ t latest eqv bals) [] i=acc at *;have hc:Dk_ t latest eqv bals i acc=acc++[if (nod t i).status≠2 then ue_ latest eqv bals [(nod t i).blk.root]else 0]:=rfl;have hr:∀w:Int,aq_ .u64 acc++[[AV.int .u64 w]]=aq_ .u64 (acc++[w]):=fun w=>fr_ .u64 acc [w]
  repeat(first|refine aa_ ?_|simp only[go_sem,e1])
  refine ac_ ?_;repeat(first|refine aa_ ?_|simp only[go_sem,hgd])
  refine aW_ (fun h=>?_) (fun h=>?_)
  ·rw[if_pos (by simpa using h)]at hc;repeat(first|refine aa_ ?_|simp only[go_sem,hgd,hro])
   refine ao_ (c1) ?_;repeat(first|refine aa_ ?_|simp only[go_sem,hr,hw,hl])
   refine⟨i+1,h1,by omega,?_⟩;rw[hs,hc];exact SN_ [] [0,1,4]
  ·rw[if_neg (by simpa using h)]at hc;repeat(first|refine aa_ ?_|simp only[go_sem,hr,hw,hl])
   refine⟨i+1,h1,by omega,?_⟩;rw[hs,hc];exact SN_ [] [0,1,3]
 ·obtain rfl:i=t.length:=by omega
  have e1:=inF (t.length);have hl:=tU_ t latest eqv bals t.length;repeat(first|refine aa_ ?_|simp only[go_sem,e1])
  refine ab_ ?_;repeat(first|refine aa_ ?_|simp only[go_sem,hl])
  refine⟨_,(by first|rfl|exact evd),.inl ?_⟩;refine evg ?_;rw[hl,if_pos (Nat.le_refl _),List.take_of_length_le (by simp[hl])]
def DO_(direct d:List Int)(k:Nat)(n:Int):Int:=IntKind.u64.wrap (n+direct.getD (d.getD k 0).toNat 0)
def Ct_(t:List Nod)(direct:List Int)(i:Nat)(l:List Int):List Int:=l++[av_ (DO_ direct (eB_ t i)) 0 (eB_ t i).length]
theorem ub_(t:List Nod)(direct:List Int):∀n,(av_ (Ct_ t direct) [] n).length=n
 |0=>rfl
 |n+1=>by rw[bi_];show (av_ (Ct_ t direct) [] n++[_]).length=_;rw[List.length_append,ub_ t direct n];rfl
theorem Cv_(t:List Nod)(ht:cV_ t)(direct:List Int)(hb:t.length≤1000000)(hd:direct.length=t.length):
 PC Tryz.prog 273 [.agg [nA t],.sl 1 false (aq_ .u64 direct)] (.sl 1 false (aq_ .u64 (RU_ t direct))):=by
 refine PC.fact 10 td_ (by simp) puA puA ?_;unfold ll_;refine bd ?_;show Tri _ _ _ _ (PQ _ (.sl 1 false (aq_ .u64 (av_ (Ct_ t direct) [] t.length)))) _ _
 try refine aa_ ?_
 refine de_ 5 1 ?_;simp only[go_sem];refine an_ (fun i:Nat=>[(6,.int .i64 i),(5,.hs 1 1 0 i)]) (fun i=>[.var [nA t],.vec 1 (aq_ .u64 (av_ (Ct_ t direct) [] i))]) (fun i=>t.length-i) (fun i=>i≤t.length) 0 (Nat.zero_le _) ?_ ?_
 ·exact SN_ [] [0,1]
 intro i hi;refine cJ_ ?_;by_cases h1:i<t.length
 ·have e1:=inT h1
  have hw:=ag_ h1 (by omega);have c1:=zf_ t ht hb (i:Int);have hs:=bi_ (Ct_ t direct) [] i;have hl:=ub_ t direct i;have hm:=qs_ t (i:Int) t.length;have hdl:=uI_ t (i:Int) t.length;have hc:Ct_ t direct i (av_ (Ct_ t direct) [] i)=(av_ (Ct_ t direct) [] i)++[av_ (DO_ direct (eB_ t i)) 0 (eB_ t i).length]:=rfl;generalize av_ (Ct_ t direct) [] i=acc at *;change ∀x∈eB_ t (i:Int),_ at hm
  change (eB_ t (i:Int)).length≤_ at hdl
  generalize eB_ t (i:Int)=d at *;have hr:∀w:Int,aq_ .u64 acc++[[AV.int .u64 w]]=aq_ .u64 (acc++[w]):=fun w=>fr_ .u64 acc [w]
  repeat(first|refine aa_ ?_|simp only[go_sem,e1])
  refine Ri_ ?_
  refine So_ c1 ?_
  refine an_ (fun k:Nat=>[(9,.int .i64 k),(7,.int .u64 (av_ (DO_ direct d) 0 k))]) (fun k=>[.var [nA t],.vec 1 (aq_ .u64 acc)]) (fun k=>d.length-k) (fun k=>k≤d.length) 0 (Nat.zero_le _) ?_ ?_
  ·exact SN_ [] [0,1]
  intro k hk;(try simp only[cl_,bZ_,List.set_cons_zero,List.set_cons_succ])
  by_cases q1:k<d.length
  ·have e2:decide ((k:Int)<((d.length:Nat):Int))=true:=decide_eq_true (by omega);have hw2:=ag_ q1 (by omega);have hgk:=gdn (k:=.i64) q1;have hx:d.getD k 0∈d:=by rw[List.getD_eq_getElem?_getD,List.getElem?_eq_getElem q1];exact List.getElem_mem q1
   obtain⟨x0,x1⟩:=hm _ hx;have hs2:=bi_ (DO_ direct d) 0 k;have hc2:DO_ direct d k (av_ (DO_ direct d) 0 k)=IntKind.u64.wrap (av_ (DO_ direct d) 0 k+direct.getD (d.getD k 0).toNat 0):=rfl;generalize av_ (DO_ direct d) 0 k=n at *;generalize d.getD k 0=x at *;have x2:x<direct.length:=by omega
   have hgx:=gdn (k:=.u64) (ns:=direct) (i:=x.toNat) (by omega);repeat(first|refine aa_ ?_|simp only[go_sem,e2])
   refine ac_ ?_;repeat(first|refine aa_ ?_|simp only[go_sem,hgk,hgx,Nat.mul_one,hw2])
   refine⟨k+1,q1,by omega,?_⟩;rw[hs2,hc2];exact SN_ [] [0,1]
  ·obtain rfl:k=d.length:=by omega
   have e2:decide (((d.length:Nat):Int)<((d.length:Nat):Int))=false:=decide_eq_false (by omega);repeat(first|refine aa_ ?_|simp only[go_sem,e2])
   refine ab_ ?_;repeat(first|refine aa_ ?_|simp only[go_sem,hr,hw,hl])
   refine⟨i+1,h1,by omega,?_⟩;rw[hs,hc];exact SN_ [] [0,2]
 ·obtain rfl:i=t.length:=by omega
  have e1:=inF (t.length);have hl:=ub_ t direct t.length;repeat(first|refine aa_ ?_|simp only[go_sem,e1])
  refine ab_ ?_;repeat(first|refine aa_ ?_|simp only[go_sem,hl])
  refine⟨_,(by first|rfl|exact evd),.inl ?_⟩;refine evg ?_;rw[hl,if_pos (Nat.le_refl _),List.take_of_length_le (by simp[hl])]
theorem AH_(t:List Nod)(direct:List Int)(root:Rt)(amount:Int)(hb:t.length≤1000000)(hd:direct.length=t.length):
 PC Tryz.prog 274 [.agg [nA t],.sl 1 false (aq_ .u64 direct),.agg (rtc root),.int .u64 amount] (.sl 1 false (aq_ .u64 (ka_ t direct root amount))):=by
 refine PC.fact 11 tb_ (by simp) puA puA ?_;unfold lj_;refine bd ?_;have c1:=bg_ t root hb;have b1:=cH_ t root;unfold ka_;generalize af_ t root=x at *;try refine aa_ ?_
 refine aj_ c1 ?_;by_cases q1:0≤x
 ·have e1:decide (x ≥ 0)=true:=decide_eq_true q1
  have e1':decide (0≤x)=true:=decide_eq_true q1;have hgd:=bR_ (t:=t) (i:=x.toNat) (by omega);have x2:x<direct.length:=by omega
  have hgx:=gdn (k:=.u64) (ns:=direct) (i:=x.toNat) (by omega);by_cases q2:(nod t x.toNat).status=2
  ·have e2:((nod t x.toNat).status != 2)=false:=by simp[q2]
   rw[if_neg (fun h=>h.2.1 q2)];repeat(first|refine aa_ ?_|simp only[go_sem,e1,e1',hgd,e2])
   refine Rh_ ?_
   exact ae_
  ·have e2:((nod t x.toNat).status != 2)=true:=by simp[q2]
   by_cases q3:root=rt0
   ·have e3:decide (root=rt0)=true:=decide_eq_true q3;rw[if_neg (fun h=>h.2.2 q3)];repeat(first|refine aa_ ?_|simp only[go_sem,e1,e1',hgd,e2,e3])
    refine Rh_ ?_
    exact ae_
   ·have e3:decide (root=rt0)=false:=decide_eq_false q3;rw[if_pos ⟨q1,q2,q3⟩];have hset:∀w:Int,(aq_ .u64 direct).set x.toNat [AV.int .u64 w]=aq_ .u64 (direct.set x.toNat w):=fun w=>by simp[aq_,List.map_set]
    repeat(first|refine aa_ ?_|simp only[go_sem,e1,e1',hgd,e2,e3])
    refine ac_ ?_;repeat(first|refine aa_ ?_|simp only[go_sem,hgx,Nat.mul_one,hset])
    exact ae_
 ·have e1:decide (x ≥ 0)=false:=decide_eq_false q1;have e1':decide (0≤x)=false:=decide_eq_false q1;rw[if_neg (fun h=>q1 h.1)];repeat(first|refine aa_ ?_|simp only[go_sem,e1,e1'])
  refine Rh_ ?_
  exact ae_
theorem EH_(t:List Nod)(l:List Int)(st fb:Int)(hb:t.length≤1000000)(hl:l.length≤1000000)(hj:∀j∈l,0≤j∧j<t.length):
 PC Tryz.prog 278 [.agg [nA t],.sl 1 false (aq_ .i64 l),.int .i64 st,.int .i64 fb] (.tup [.agg [nA ((rb_ t l st fb).getD [])],.bool (rb_ t l st fb).isSome]):=by
 refine PC.fact 12 Dt_ (by simp) puA puA ?_;unfold sn_;refine bd ?_;try refine aa_ ?_
 refine an_ (fun i:Nat=>[(11,.int .i64 i)]) (fun i=>[.var [nA t],.var [.sl 0 true []],.vec 240 (rows ax_ ((av_ (nk_ l st fb) (some t) i).getD [])),.var [.hs 240 2 0 t.length]]) (fun i=>l.length-i) (fun i=>i≤l.length∧(av_ (nk_ l st fb) (some t) i).isSome=true) 0 ⟨Nat.zero_le _,rfl⟩ ?_ ?_
 ·exact SN_ [] [0,1,2,3]
 rintro i ⟨hi,ho⟩;refine cJ_ ?_;by_cases h1:i<l.length
 ·have e1:=inT h1
  have hw:=ag_ h1 (by omega);have hgl:=gdn (k:=.i64) h1;have hx:l.getD i 0∈l:=by rw[List.getD_eq_getElem?_getD,List.getElem?_eq_getElem h1];exact List.getElem_mem h1
  obtain⟨x0,x1⟩:=hj _ hx;have hs:=bi_ (nk_ l st fb) (some t) i;obtain⟨u,hu⟩:=Option.isSome_iff_exists.1 ho;have hlu:=hy_ hu;rw[hu]at hs ⊢;simp only[nk_,Option.bind_some]at hs;generalize l.getD i 0=x at *;have hgd:=bR_ (t:=u) (i:=x.toNat) (by omega);have x2:x.toNat<u.length:=by omega
  have hset:=qX_ ax_ u x.toNat
  simp only[Option.getD_some];repeat(first|refine aa_ ?_|simp only[go_sem,e1])
  refine ac_ ?_;repeat(first|refine aa_ ?_|simp only[go_sem,hgl,Nat.mul_one,hgd])
  refine aW_ (fun h=>?_) (fun h=>?_)
  ·have hs':av_ (nk_ l st fb) (some t) (i+1)=none:=by rw[hs,if_pos (by simpa using h)]
   have hn:rb_ t l st fb=none:=Ab_ hs' _ h1;rw[hn];try refine aa_ ?_
   refine⟨_,by first|rfl|exact evd,.inr ⟨_,by(try simp only[go_sem,Nat.reduceAdd,Nat.reduceSub,Nat.reduceMul,Nat.reduceLT,Nat.reduceLeDiff,Nat.reduceEqDiff,reduceIte,Int.reduceToNat,Int.reduceLT,Int.reduceLE,Int.reduceEq,Int.reduceNeg,reduceCtorEq,Int.reduceBEq,Int.reduceBNe]);try rfl,puA,(by repeat'(first|exact Wk.refl _|exact Wk.empty _ _ _|exact Wk.open_ _ _ _|refine Wk.tup ?_|refine Wk.agg ?_|exact trivial|(intro h;first|exact h|rfl)|constructor))⟩⟩
  ·rw[if_neg (by simpa using h)]at hs;repeat(first|refine aa_ ?_|simp only[go_sem,hgl,Nat.mul_one,hgd,hset,hw])
   refine⟨i+1,⟨h1,by rw[hs];rfl⟩,by omega,?_⟩;rw[hs];simp only[Option.getD_some];exact SN_ [] [0,1,2,3]
 ·obtain rfl:i=l.length:=by omega
  have e1:=inF (l.length);obtain⟨u,hu⟩:=Option.isSome_iff_exists.1 ho;have hlu:=hy_ hu;rw[show rb_ t l st fb=some u from hu,hu];simp only[Option.getD_some];repeat(first|refine aa_ ?_|simp only[go_sem,e1])
  refine Rh_ ?_
  refine⟨_,(by first|rfl|exact evd),.inl ?_⟩;refine evg ?_;rw[if_pos (by omega),List.take_of_length_le (by simp[hlu])];rfl
theorem vY_(t:List Nod)(ht:cV_ t)(i:Int)(hb:t.length≤1000000):PC Tryz.prog 268 [.agg [nA t],.int .i64 i] (.tup [.agg [nA (cp_ t i).1],.int .i64 (cp_ t i).2]):=by
 refine PC.fact 8 xw_ (by simp) puA puA ?_;unfold ot_;refine bd ?_;have c1:=ik_ t i;have c2:=kv_ t ht hb i;have hl:=iV_ ht i;have c3:=EH_ t (bc_ t i) 1 2 hb (by omega) (fun j hj=>by have:=dv_ ht hj;omega);unfold cp_;generalize rb_ t (bc_ t i) 1 2=o at *;try refine aa_ ?_
 refine aj_ c1 ?_;cases h:isN t i with
 | false =>
   rw[if_neg (by simp)];try refine aa_ ?_
   refine Ri_ ?_
   refine⟨_,by first|rfl|exact evd,.inr ⟨_,by(try simp only[go_sem,Nat.reduceAdd,Nat.reduceSub,Nat.reduceMul,Nat.reduceLT,Nat.reduceLeDiff,Nat.reduceEqDiff,reduceIte,Int.reduceToNat,Int.reduceLT,Int.reduceLE,Int.reduceEq,Int.reduceNeg,reduceCtorEq,Int.reduceBEq,Int.reduceBNe]);try rfl,puA,(by repeat'(first|exact Wk.refl _|exact Wk.empty _ _ _|exact Wk.open_ _ _ _|refine Wk.tup ?_|refine Wk.agg ?_|exact trivial|(intro h;first|exact h|rfl)|constructor))⟩⟩
 | true =>
   rw[if_pos rfl];try refine aa_ ?_
   refine Rh_ ?_
   refine ao_ (c2) ?_;try refine aa_ ?_
   refine ao_ (c3) ?_;try refine aa_ ?_
   cases o with
   | none =>
     simp only[Option.isSome_none,Option.getD_none];try refine aa_ ?_
     refine Ri_ ?_
     refine⟨_,by first|rfl|exact evd,.inr ⟨_,by(try simp only[go_sem,Nat.reduceAdd,Nat.reduceSub,Nat.reduceMul,Nat.reduceLT,Nat.reduceLeDiff,Nat.reduceEqDiff,reduceIte,Int.reduceToNat,Int.reduceLT,Int.reduceLE,Int.reduceEq,Int.reduceNeg,reduceCtorEq,Int.reduceBEq,Int.reduceBNe]);try rfl,puA,(by repeat'(first|exact Wk.refl _|exact Wk.empty _ _ _|exact Wk.open_ _ _ _|refine Wk.tup ?_|refine Wk.agg ?_|exact trivial|(intro h;first|exact h|rfl)|constructor))⟩⟩
   | some u =>
     simp only[Option.isSome_some,Option.getD_some];try refine aa_ ?_
     refine Rh_ ?_
     exact ae_
theorem zd_(t:List Nod)(ht:cV_ t)(i:Int)(hb:t.length≤1000000):PC Tryz.prog 270 [.agg [nA t],.int .i64 i] (.tup [.agg [nA (gj_ t i).1],.int .i64 (gj_ t i).2]):=by
 refine PC.fact 8 tc_ (by simp) puA puA ?_;unfold lk_;refine bd ?_;have c1:=ik_ t i;have c2:=zf_ t ht hb i;have hl:(eB_ t i).length≤0+t.length:=uI_ t i t.length;have c3:=EH_ t (eB_ t i) 2 1 hb (by omega) (fun j hj=>qs_ t i t.length j hj);unfold gj_;generalize rb_ t (eB_ t i) 2 1=o at *;try refine aa_ ?_
 refine aj_ c1 ?_;cases h:isN t i with
 | false =>
   rw[if_neg (by simp)];try refine aa_ ?_
   refine Ri_ ?_
   refine⟨_,by first|rfl|exact evd,.inr ⟨_,by(try simp only[go_sem,Nat.reduceAdd,Nat.reduceSub,Nat.reduceMul,Nat.reduceLT,Nat.reduceLeDiff,Nat.reduceEqDiff,reduceIte,Int.reduceToNat,Int.reduceLT,Int.reduceLE,Int.reduceEq,Int.reduceNeg,reduceCtorEq,Int.reduceBEq,Int.reduceBNe]);try rfl,puA,(by repeat'(first|exact Wk.refl _|exact Wk.empty _ _ _|exact Wk.open_ _ _ _|refine Wk.tup ?_|refine Wk.agg ?_|exact trivial|(intro h;first|exact h|rfl)|constructor))⟩⟩
 | true =>
   rw[if_pos rfl];try refine aa_ ?_
   refine Rh_ ?_
   refine ao_ (c2) ?_;try refine aa_ ?_
   refine ao_ (c3) ?_;try refine aa_ ?_
   cases o with
   | none =>
     simp only[Option.isSome_none,Option.getD_none];try refine aa_ ?_
     refine Ri_ ?_
     refine⟨_,by first|rfl|exact evd,.inr ⟨_,by(try simp only[go_sem,Nat.reduceAdd,Nat.reduceSub,Nat.reduceMul,Nat.reduceLT,Nat.reduceLeDiff,Nat.reduceEqDiff,reduceIte,Int.reduceToNat,Int.reduceLT,Int.reduceLE,Int.reduceEq,Int.reduceNeg,reduceCtorEq,Int.reduceBEq,Int.reduceBNe]);try rfl,puA,(by repeat'(first|exact Wk.refl _|exact Wk.empty _ _ _|exact Wk.open_ _ _ _|refine Wk.tup ?_|refine Wk.agg ?_|exact trivial|(intro h;first|exact h|rfl)|constructor))⟩⟩
   | some u =>
     simp only[Option.isSome_some,Option.getD_some];try refine aa_ ?_
     refine Rh_ ?_
     exact ae_
theorem GM_(t:List Nod)(i:Int)(k:Nat)(p:List Nod×List Int):(bv_ t i k p).2.length=p.2.length+1∧(bv_ t i k p).1.length≤p.1.length+1:=by
 unfold bv_;split<;>simp
theorem is_(t:List Nod)(i:Int):∀k,(av_ (bv_ t i) ([],[]) k).2.length=k∧(av_ (bv_ t i) ([],[]) k).1.length≤k
 |0=>⟨rfl,Nat.le_refl _⟩
 | k + 1 => by
   rw[bi_];have h1:=is_ t i k;have h2:=GM_ t i k (av_ (bv_ t i) ([],[]) k);omega
theorem GO_(t:List Nod)(ht:cV_ t)(i0:Int)(hb:t.length≤1000000)(h0:isN t i0=true):
 PC Tryz.prog 125 [.agg [nA t],.int .i64 i0] (.tup [.agg [nA (ce_ t i0).1],.sl 1 false (aq_ .i64 (ce_ t i0).2),.int .i64 0]):=by
 refine PC.fact 11 xv_ (by simp) puA puA ?_;unfold os_;refine bd ?_;unfold ce_;have c0:=ik_ t i0;rw[h0]at c0;try refine aa_ ?_
 refine So_ c0 ?_
 refine Rh_ ?_
 refine jd_ 2 0 240 ?_;simp only[go_sem];refine de_ 8 1 ?_;simp only[go_sem];refine an_ (fun i:Nat=>[(9,.int .i64 i),(8,.hs 1 4 0 (av_ (bv_ t i0) ([],[]) i).2.length)]) (fun i=>[.var [nA t],.var [.sl 0 true []],.var [.hs 240 3 0 (av_ (bv_ t i0) ([],[]) i).1.length],.vec 240 (rows ax_ (av_ (bv_ t i0) ([],[]) i).1),.vec 1 (aq_ .i64 (av_ (bv_ t i0) ([],[]) i).2)]) (fun i=>t.length-i) (fun i=>i≤t.length) 0 (Nat.zero_le _) ?_ ?_
 ·exact SN_ [] [0,1,2,3,4]
 intro i hi;refine cJ_ ?_;by_cases h1:i<t.length
 ·have e1 := inT h1
  have hw:=ag_ h1 (by omega);have c1:=pS_ t ht hb i0 (i:Int);have hgd:=bR_ h1;have hs:=bi_ (bv_ t i0) ([],[]) i;obtain⟨hl2,hl1⟩:=is_ t i0 i;generalize av_ (bv_ t i0) ([],[]) i=p at *;obtain⟨kp,ix⟩:=p;dsimp only at hl1 hl2;have hc:bv_ t i0 i (kp,ix)=if bN_ t i0 i=true then (kp++[⟨(nod t i).blk,if (i:Int)=i0 then -1 else ix.getD (nod t i).up.toNat 0,(nod t i).status⟩],ix++[(kp.length:Int)])else (kp,ix++[-1]):=rfl
  have hr:∀w:Int,aq_ .i64 ix++[[AV.int .i64 w]]=aq_ .i64 (ix++[w]):=fun w=>fr_ .i64 ix [w]
  have hrn:=bB_ ax_ kp;dsimp only;repeat(first|refine aa_ ?_|simp only[go_sem,e1])
  refine Ri_ ?_
  refine aj_ c1 ?_;cases ha:bN_ t i0 i with
  | false =>
    rw[if_neg (by simp[ha])]at hc;try refine aa_ ?_
    refine ac_ ?_;repeat(first|refine aa_ ?_|simp only[go_sem,hr,hw])
    refine⟨i+1,h1,by omega,?_⟩;rw[hs,hc];exact SN_ [] [0,1,2,3,5]
  | true =>
    rw[if_pos ha]at hc;try refine aa_ ?_
    refine ab_ ?_;repeat(first|refine aa_ ?_|simp only[go_sem,hgd])
    by_cases hk:(i:Int)=i0
    ·have e2:((i:Int)==i0)=true:=by simpa using hk
     rw[if_pos hk]at hc;repeat(first|refine aa_ ?_|simp only[go_sem,e2])
     refine ac_ ?_;repeat(first|refine aa_ ?_|simp only[go_sem,hr,hw,hrn])
     refine⟨i+1,h1,by omega,?_⟩;rw[hs,hc];exact SN_ [] [0,1,2,7,6]
    ·have e2:((i:Int)==i0)=false:=by simpa using hk
     rw[if_neg hk]at hc
     have hi0:0<i:=by
      rcases Nat.eq_zero_or_pos i with h|h
      ·subst h;unfold bN_ at ha;rw[show ((0:Nat):Int)=0 from rfl,eS_ h1]at ha;simp at ha;exact absurd ha.symm hk
      ·exact h
     obtain⟨u0,u1⟩:=ht i hi0 h1;have hgi:=gdn (k:=.i64) (ns:=ix) (i:=(nod t i).up.toNat) (by omega);repeat(first|refine aa_ ?_|simp only[go_sem,e2])
     refine ab_ ?_;repeat(first|refine aa_ ?_|simp only[go_sem,hr,hw,hrn,hgi,Nat.mul_one])
     refine⟨i+1,h1,by omega,?_⟩;rw[hs,hc];exact SN_ [] [0,1,2,7,6]
 ·obtain rfl:i=t.length:=by omega
  have e1:=inF (t.length);obtain⟨hl2,hl1⟩:=is_ t i0 t.length;repeat(first|refine aa_ ?_|simp only[go_sem,e1])
  refine Rh_ ?_
  exact ae_
theorem GY_(t:List Nod)(ht:cV_ t)(i0:Int)(latest:Rt)(hb:t.length≤1000000):PC Tryz.prog 269 [.agg [nA t],.int .i64 i0,.agg (rtc latest)] (.tup [.int .i64 (eo_ t i0 latest).1,.int .i64 (eo_ t i0 latest).2]):=by
 refine PC.fact 11 xx_ (by simp) puA puA ?_;unfold ou_;refine bd ?_;have c1:=kv_ t ht hb i0;have hl:=iV_ ht i0;have hm:∀x∈bc_ t i0,0≤x∧x<t.length:=fun x hx=>by have:=dv_ ht hx;omega
 unfold eo_;generalize bc_ t i0=p at *;try refine aa_ ?_
 refine aj_ c1 ?_;by_cases q0:p.length=0
 ·have e0:((p.length:Int)==0)=true:=by simp[q0]
  rw[if_pos q0];repeat(first|refine aa_ ?_|simp only[go_sem,e0])
  refine Ri_ ?_
  exact ae_
 have e0:((p.length:Int)==0)=false:=by rw[←Bool.not_eq_true,beq_iff_eq];omega
 rw[if_neg q0];have hmk:∀k,k<p.length→0≤p.getD k 0∧p.getD k 0<t.length:=fun k hk=>hm _ (by rw[List.getD_eq_getElem?_getD,List.getElem?_eq_getElem hk];exact List.getElem_mem hk)
 by_cases q1:latest=rt0
 ·have e1:decide (latest=rt0)=true:=decide_eq_true q1
  rw[if_pos q1];repeat(first|refine aa_ ?_|simp only[go_sem,e0])
  refine ab_ ?_;repeat(first|refine aa_ ?_|simp only[go_sem,e1])
  refine Ri_ ?_
  generalize hR:bD_ (fun k=>decide ((nod t (p.getD k 0).toNat).blk.payload≠rt0)) p.length=R;refine an_ (fun i:Nat=>[(9,.int .i64 i)]) (fun i=>[.var [nA t],.var (rtc latest)]) (fun i=>p.length-i) (fun i=>i≤p.length∧R=dV_ (fun k=>decide ((nod t (p.getD k 0).toNat).blk.payload≠rt0)) (p.length-i) i) 0 ⟨Nat.zero_le _,hR.symm⟩ ?_ ?_
  ·exact SN_ [] [0,1]
  clear hR;rintro i ⟨hi,hn⟩;rw[hn];refine cJ_ ?_;by_cases h1:i<p.length
  ·have e1:=inT h1
   have hw:=ag_ h1 (by omega);have hgp:=gdn (k:=.i64) h1;obtain⟨x0,x1⟩:=hmk i h1;have hs1:=fD_ (p:=fun k=>decide ((nod t (p.getD k 0).toNat).blk.payload≠rt0)) h1;have hs2:=fC_ (p:=fun k=>decide ((nod t (p.getD k 0).toNat).blk.payload≠rt0)) h1;have hgd:=bR_ (t:=t) (i:=(p.getD i 0).toNat) (by omega);repeat(first|refine aa_ ?_|simp only[go_sem,e1])
   refine ac_ ?_;by_cases q2:(nod t (p.getD i 0).toNat).blk.payload=rt0
   ·have e2:decide ((nod t (p.getD i 0).toNat).blk.payload=rt0)=true:=decide_eq_true q2;rw[hs2 (decide_eq_false (fun h=>h q2))];repeat(first|refine aa_ ?_|simp only[go_sem,hgp,Nat.mul_one,hgd,e2])
    refine ab_ ?_;repeat(first|refine aa_ ?_|simp only[go_sem,hw])
    refine⟨i+1,⟨h1,rfl⟩,by omega,?_⟩;exact SN_ [] [0,1]
   ·have e2:decide ((nod t (p.getD i 0).toNat).blk.payload=rt0)=false:=decide_eq_false q2;rw[hs1 (decide_eq_true q2)];repeat(first|refine aa_ ?_|simp only[go_sem,hgp,Nat.mul_one,hgd,e2])
    refine ac_ ?_;repeat(first|refine aa_ ?_|simp only[go_sem,hgp,Nat.mul_one,hgd])
    exact ae_
  ·obtain rfl:i=p.length:=by omega
   have e1:=inF (p.length);rw[fB_];repeat(first|refine aa_ ?_|simp only[go_sem,e1])
   refine Rh_ ?_
   exact ae_
 ·have e1:decide (latest=rt0)=false:=decide_eq_false q1
  rw[if_neg q1];have hw0:IntKind.i64.wrap ((p.length:Int)-2)=((p.length-1:Nat):Int)-1:=by rw[aC_ (by omega) (by omega)];omega
  repeat(first|refine aa_ ?_|simp only[go_sem,e0])
  refine ab_ ?_;repeat(first|refine aa_ ?_|simp only[go_sem,e1])
  refine ab_ ?_;repeat(first|refine aa_ ?_|simp only[go_sem,hw0])
  generalize hR:xZ_ (fun k=>decide ((nod t (p.getD k 0).toNat).blk.payload=latest)) (p.length-1)=R;refine an_ (fun i:Nat=>[(10,.int .i64 ((i:Int)-1))]) (fun i=>[.var [nA t],.var (rtc latest)]) (fun i=>i) (fun i=>i≤p.length-1∧R=xZ_ (fun k=>decide ((nod t (p.getD k 0).toNat).blk.payload=latest)) i) (p.length-1) ⟨Nat.le_refl _,hR.symm⟩ ?_ ?_
  ·exact SN_ [] [0,1]
  clear hR;rintro i ⟨hi,hn⟩;rw[hn];cases i with
  | zero =>
    rw[QQ_];try refine aa_ ?_
    refine Rh_ ?_
    exact ae_
  | succ i =>
    have h1:i<p.length:=by omega
    have h2:i+1<p.length:=by omega
    have e3:((i+1:Nat):Int)-1=(i:Int):=by omega
    have e4:decide ((i:Int) ≥ 0)=true:=decide_eq_true (by omega);have e5:decide ((0:Int)≤i)=true:=decide_eq_true (by omega);have hw:IntKind.i64.wrap ((i:Int)-1)=(i:Int)-1:=aC_ (by omega) (by omega);have hw2:=ag_ h2 (by omega);have hw3:IntKind.i64.wrap ((i:Int)+1)=((i+1:Nat):Int):=ag_ h1 (by omega);have hgp:=gdn (k:=.i64) h1;have hgp2:=gdn (k:=.i64) h2;obtain⟨x0,x1⟩:=hmk i h1;have hgd:=bR_ (t:=t) (i:=(p.getD i 0).toNat) (by omega);rw[e3];repeat(first|refine aa_ ?_|simp only[go_sem,e3,e4,e5])
    refine ac_ ?_;repeat(first|refine aa_ ?_|simp only[go_sem,hgp,Nat.mul_one,hgd])
    refine aW_ (fun h=>?_) (fun h=>?_)
    ·rw[QP_ h];repeat(first|refine aa_ ?_|simp only[go_sem,hgp,hgp2,hw3,Nat.mul_one,hgd])
     exact ae_
    ·rw[QO_ h];repeat(first|refine aa_ ?_|simp only[go_sem,hw])
     refine⟨i,⟨by omega,rfl⟩,by omega,?_⟩;exact SN_ [] [0,1]
theorem DX_(t:List Nod)(ht:cV_ t)(i0:Int)(v:Vdt)(keep:List Int)(hb:t.length≤1000000)(hk:keep.length≤1000000)(R:List Nod×Int)(hR:R=fd_ t i0 v keep):PC Tryz.prog 250 [.agg [nA t],.int .i64 i0,.agg (cG_ v),.sl 1 true (aq_ .i64 keep)] (.tup [.agg [nA R.1],.int .i64 R.2]):=by
 refine PC.fact 35 xu_ (by simp) puA puA ?_;unfold or_;refine bd ?_;have c0:=ik_ t i0;have c1:=vY_ t ht i0 hb;have c2:=GY_ t ht i0 v.latest hb;unfold fd_ at hR;generalize hq:eo_ t i0 v.latest=q at *;obtain⟨q1,q2⟩:=q;have c4:=zd_ t ht q2 hb;have c3:=vY_ t ht q1 hb
 have c5:(cp_ t q1).2=0→PC Tryz.prog 270 [.agg [nA (cp_ t q1).1],.int .i64 q2] (.tup [.agg [nA (gj_ (cp_ t q1).1 q2).1],.int .i64 (gj_ (cp_ t q1).1 q2).2]):=fun h=>by
  obtain⟨h1,h2,_⟩:=Kx_ ht h;exact zd_ _ h1 q2 (by omega)
 have ca:=fun k=>pS_ t ht hb q2 (keep.getD k 0)
 dsimp only at hR c2;generalize cp_ t i0=r1 at *;generalize cp_ t q1=r2 at *;generalize gj_ t q2=r3 at *;generalize gj_ r2.1 q2=r4 at *;obtain⟨r1a,r1b⟩:=r1;obtain⟨r2a,r2b⟩:=r2;obtain⟨r3a,r3b⟩:=r3;obtain⟨r4a,r4b⟩:=r4;dsimp only at hR c1 c3 c4 c5;try refine aa_ ?_
 refine aj_ c0 ?_;cases h0:isN t i0 with
 | false =>
   rw[if_pos h0]at hR;subst hR;try refine aa_ ?_
   refine Ri_ ?_
   refine⟨_,by first|rfl|exact evd,.inr ⟨_,by(try simp only[go_sem,Nat.reduceAdd,Nat.reduceSub,Nat.reduceMul,Nat.reduceLT,Nat.reduceLeDiff,Nat.reduceEqDiff,reduceIte,Int.reduceToNat,Int.reduceLT,Int.reduceLE,Int.reduceEq,Int.reduceNeg,reduceCtorEq,Int.reduceBEq,Int.reduceBNe]);try rfl,puA,(by repeat'(first|exact Wk.refl _|exact Wk.empty _ _ _|exact Wk.open_ _ _ _|refine Wk.tup ?_|refine Wk.agg ?_|exact trivial|(intro h;first|exact h|rfl)|constructor))⟩⟩
 | true =>
   rw[if_neg (by simp[h0])]at hR;try refine aa_ ?_
   refine Rh_ ?_
   by_cases k1:v.kind=1
   ·have e1:(v.kind==1)=true:=by simp[k1]
    rw[if_pos k1]at hR;subst hR;repeat(first|refine aa_ ?_|simp only[go_sem,e1])
    refine Ri_ ?_
    refine So_ c1 ?_
    exact ae_
   have e1:(v.kind==1)=false:=by simp[k1]
   rw[if_neg k1]at hR;by_cases k3:v.kind=3
   ·have e3:(v.kind==3)=true:=by simp[k3]
    rw[if_pos (.inl k3)]at hR;subst hR;repeat(first|refine aa_ ?_|simp only[go_sem,e1,e3])
    refine ab_ ?_;repeat(first|refine aa_ ?_|simp only[go_sem,e3])
    refine Ri_ ?_
    refine Ri_ ?_
    exact ae_
   have e3:(v.kind==3)=false:=by simp[k3]
   by_cases k4:v.kind=4
   ·have e4:(v.kind==4)=true:=by simp[k4]
    rw[if_pos (.inr k4)]at hR;subst hR;repeat(first|refine aa_ ?_|simp only[go_sem,e1,e3])
    refine ab_ ?_;repeat(first|refine aa_ ?_|simp only[go_sem,e3])
    refine ab_ ?_;repeat(first|refine aa_ ?_|simp only[go_sem,e4])
    refine Ri_ ?_
    exact ae_
   have e4:(v.kind==4)=false:=by simp[k4]
   rw[if_neg (by simp[k3,k4])]at hR;by_cases k2:v.kind=2
   case neg=>
    have e2:(v.kind==2)=false:=by simp[k2]
    rw[if_pos k2]at hR;subst hR;repeat(first|refine aa_ ?_|simp only[go_sem,e1])
    refine ab_ ?_;repeat(first|refine aa_ ?_|simp only[go_sem,e3])
    refine ab_ ?_;repeat(first|refine aa_ ?_|simp only[go_sem,e4])
    refine ab_ ?_;repeat(first|refine aa_ ?_|simp only[go_sem,e2])
    refine Rh_ ?_
    refine⟨_,by first|rfl|exact evd,.inr ⟨_,by(try simp only[go_sem,Nat.reduceAdd,Nat.reduceSub,Nat.reduceMul,Nat.reduceLT,Nat.reduceLeDiff,Nat.reduceEqDiff,reduceIte,Int.reduceToNat,Int.reduceLT,Int.reduceLE,Int.reduceEq,Int.reduceNeg,reduceCtorEq,Int.reduceBEq,Int.reduceBNe]);try rfl,puA,(by repeat'(first|exact Wk.refl _|exact Wk.empty _ _ _|exact Wk.open_ _ _ _|refine Wk.tup ?_|refine Wk.agg ?_|exact trivial|(intro h;first|exact h|rfl)|constructor))⟩⟩
   have e2:(v.kind==2)=true:=by simp[k2]
   rw[if_neg (fun h=>h k2)]at hR;repeat(first|refine aa_ ?_|simp only[go_sem,e1])
   refine ab_ ?_;repeat(first|refine aa_ ?_|simp only[go_sem,e3])
   refine ab_ ?_;repeat(first|refine aa_ ?_|simp only[go_sem,e4])
   refine ab_ ?_;repeat(first|refine aa_ ?_|simp only[go_sem,e2])
   refine Ri_ ?_
   refine So_ c2 ?_
   generalize hA:bD_ (fun k=>bN_ t q2 (keep.getD k 0)) keep.length=A at hR;refine an_ (fun i:Nat=>[(12,.int .i64 i)]) (fun i=>[.var [nA t],.var (cG_ v),.var [.sl 0 true []]]) (fun i=>keep.length-i) (fun i=>i≤keep.length∧A=dV_ (fun k=>bN_ t q2 (keep.getD k 0)) (keep.length-i) i) 0 ⟨Nat.zero_le _,hA.symm⟩ ?_ ?_
   ·exact SN_ [] [0,1,2]
   clear hA;rintro i ⟨hi,hn⟩;refine cJ_ ?_;by_cases h1:i<keep.length
   ·have e1:=inT h1
    have hw:=ag_ h1 (by omega);have hgk:=gdn (k:=.i64) h1;have c6:=ca i;have hs1:=fD_ (p:=fun k=>bN_ t q2 (keep.getD k 0)) h1;have hs2:=fC_ (p:=fun k=>bN_ t q2 (keep.getD k 0)) h1;repeat(first|refine aa_ ?_|simp only[go_sem,e1])
    refine ac_ ?_;repeat(first|refine aa_ ?_|simp only[go_sem,hgk,Nat.mul_one])
    refine ao_ (c6) ?_;try refine aa_ ?_
    cases h2:bN_ t q2 (keep.getD i 0)with
    | true =>
      rw[hs1 h2]at hn;rw[if_pos (by rw[hn];rfl)]at hR;subst hR;try refine aa_ ?_
      refine Ri_ ?_
      refine⟨_,by first|rfl|exact evd,.inr ⟨_,by(try simp only[go_sem,Nat.reduceAdd,Nat.reduceSub,Nat.reduceMul,Nat.reduceLT,Nat.reduceLeDiff,Nat.reduceEqDiff,reduceIte,Int.reduceToNat,Int.reduceLT,Int.reduceLE,Int.reduceEq,Int.reduceNeg,reduceCtorEq,Int.reduceBEq,Int.reduceBNe]);try rfl,puA,(by repeat'(first|exact Wk.refl _|exact Wk.empty _ _ _|exact Wk.open_ _ _ _|refine Wk.tup ?_|refine Wk.agg ?_|exact trivial|(intro h;first|exact h|rfl)|constructor))⟩⟩
    | false =>
      rw[hs2 h2]at hn;try refine aa_ ?_
      refine ab_ ?_;repeat(first|refine aa_ ?_|simp only[go_sem,hw])
      refine⟨i+1,⟨h1,hn⟩,by omega,?_⟩;exact SN_ [] [0,1,2]
   ·obtain rfl:i=keep.length:=by omega
    have e1:=inF (keep.length);rw[fB_]at hn;rw[if_neg (by rw[hn];simp)]at hR;repeat(first|refine aa_ ?_|simp only[go_sem,e1])
    refine Rh_ ?_
    by_cases k5:0≤q1
    ·have e5:decide (q1 ≥ 0)=true:=decide_eq_true k5
     have e6:decide (0≤q1)=true:=decide_eq_true k5;rw[if_pos k5]at hR;repeat(first|refine aa_ ?_|simp only[go_sem,e5,e6])
     refine Ri_ ?_
     refine So_ c3 ?_
     by_cases k6:r2b=0
     ·have e7:(r2b != 0)=false:=by simp[k6]
      rw[if_neg (by simp[k6])]at hR;subst hR;repeat(first|refine aa_ ?_|simp only[go_sem,e7])
      refine Rh_ ?_
      refine So_ (c5 k6) ?_
      exact ae_
     ·have e7:(r2b != 0)=true:=by simp[k6]
      rw[if_pos k6]at hR;subst hR;repeat(first|refine aa_ ?_|simp only[go_sem,e7])
      refine Ri_ ?_
      refine⟨_,by first|rfl|exact evd,.inr ⟨_,by(try simp only[go_sem,Nat.reduceAdd,Nat.reduceSub,Nat.reduceMul,Nat.reduceLT,Nat.reduceLeDiff,Nat.reduceEqDiff,reduceIte,Int.reduceToNat,Int.reduceLT,Int.reduceLE,Int.reduceEq,Int.reduceNeg,reduceCtorEq,Int.reduceBEq,Int.reduceBNe]);try rfl,puA,(by repeat'(first|exact Wk.refl _|exact Wk.empty _ _ _|exact Wk.open_ _ _ _|refine Wk.tup ?_|refine Wk.agg ?_|exact trivial|(intro h;first|exact h|rfl)|constructor))⟩⟩
    ·have e5:decide (q1 ≥ 0)=false:=decide_eq_false k5;have e6:decide (0≤q1)=false:=decide_eq_false k5;rw[if_neg k5]at hR;subst hR;repeat(first|refine aa_ ?_|simp only[go_sem,e5,e6])
     refine Rh_ ?_
     refine So_ c4 ?_
     exact ae_
theorem Gl_(t:List Nod)(ht:cV_ t)(i0:Int)(v:Vdt)(keep:List Int)(hb:t.length≤1000000)(hk:keep.length≤1000000):PC Tryz.prog 250 [.agg [nA t],.int .i64 i0,.agg (cG_ v),.sl 1 true (aq_ .i64 keep)] (.tup [.agg [nA (fd_ t i0 v keep).1],.int .i64 (fd_ t i0 v keep).2]):=DX_ t ht i0 v keep hb hk _ rfl
end Go.Proofs.YtkgimpdgncakjaaGreat
