/-
 My texts Ld, Le, Lf, Lg, Lh, Li, Lj, joined.
-/
import Derived.Test.YtkgimpdgncakjaaGreatV3
namespace Go.Proofs.YtkgimpdgncakjaaGreat
open Go Go.FH Go.RowKit
set_option linter.unusedVariables false
set_option linter.unusedSimpArgs false
abbrev nA(t:List Nod):AV:=.sl 240 false (rows aG_ t)
theorem bD_{t:List Nod}{i:Nat}(h:i<t.length):(rows aG_ t).getD i []=aG_ (nod t i):=aK_ (f:=aG_) dE_ h
theorem hE_(t:List Nod)(i:Int):PC Tryz.prog 187 [.agg [nA t],.int .i64 i] (.bool (isN t i)):=by
 refine PC.fact 5 Ey_ (by simp) puA puA ?_;unfold tp_;refine bd ?_;unfold isN;by_cases h0:0≤i
 ·have e0:decide (i ≥ 0)=true:=decide_eq_true h0;have e1:decide (0≤i)=true:=decide_eq_true h0;repeat(first|refine aa_ ?_|simp only[go_sem,e0,e1])
  exact af_
 ·have e0:decide (i ≥ 0)=false:=decide_eq_false h0;have e1:decide (0≤i)=false:=decide_eq_false h0;repeat(first|refine aa_ ?_|simp only[go_sem,e0,e1])
  exact af_
theorem In_(i:Int):PC Tryz.prog 192 [.int .i64 i] (.bool (decide (0≤i)&&decide (i≤2))):=by
 refine PC.fact 3 qz_ (by simp) puA puA ?_;unfold jB_;refine bd ?_;by_cases h0:0≤i
 ·have e0:decide (i ≥ 0)=true:=decide_eq_true h0;have e1:decide (0≤i)=true:=decide_eq_true h0;repeat(first|refine aa_ ?_|simp only[go_sem,e0,e1])
  exact af_
 ·have e0:decide (i ≥ 0)=false:=decide_eq_false h0;have e1:decide (0≤i)=false:=decide_eq_false h0;repeat(first|refine aa_ ?_|simp only[go_sem,e0,e1])
  exact af_
theorem bv_(t:List Nod)(r:Rt)(hb:t.length≤1000000):PC Tryz.prog 23 [.agg [nA t],.agg (rtc r)] (.int .i64 (an_ t r)):=by
 refine PC.fact 6 zG_ (by simp) puA puA ?_;unfold pe_;refine bd ?_;try refine aa_ ?_
 refine am_ (fun i:Nat=>[(5,.int .i64 i)]) (fun _=>[.var [nA t],.var (rtc r)]) (fun i=>t.length-i) (fun i=>i≤t.length∧an_ t r=me_ (eF_ (fun i=>decide ((nod t i).blk.root=r)) (t.length-i) i)) 0 ⟨Nat.zero_le _,rfl⟩ ?_ ?_
 ·exact QV_ [] [0,1]
 rintro i ⟨hi,hn⟩;rw[hn];(try simp only[ao_,ar_,List.set_cons_zero,List.set_cons_succ])
 by_cases h1:i<t.length
 ·have e1:decide ((i:Int)<((t.length:Nat):Int))=true:=decide_eq_true (by omega)
  have hw:=ae_ h1 (by omega);have hgd:=bD_ h1;repeat(first|refine aa_ ?_|simp only[go_sem,e1])
  refine ac_ ?_;repeat(first|refine aa_ ?_|simp only[go_sem,hgd])
  refine aW_ (fun h=>?_) (fun h=>?_)
  ·rw[gm_ h1 h];try refine aa_ ?_
   exact af_
  ·rw[gl_ h1 h];repeat(first|refine aa_ ?_|simp only[go_sem,hw])
   refine⟨i+1,⟨h1,rfl⟩,by omega,?_⟩;exact QV_ [] [0,1]
 ·obtain rfl:i=t.length:=by omega
  have e1:decide (((t.length:Nat):Int)<((t.length:Nat):Int))=false:=decide_eq_false (by omega);rw[gk_];repeat(first|refine aa_ ?_|simp only[go_sem,e1])
  refine PG_ ?_
  exact af_
def Ab_(t:List Nod)(i:Int)(k:Nat)(l:List Int):List Int:=if (nod t k).up=i then l++[(k:Int)]else l
theorem No_(t:List Nod)(i:Int):∀n,(ay_ (Ab_ t i) [] n).length≤0+n:=hb_ (fun k l=>by unfold Ab_;split<;>simp)
theorem yg_(t:List Nod)(i0:Int)(hb:t.length≤1000000):PC Tryz.prog 276 [.agg [nA t],.int .i64 i0] (.sl 1 false (aq_ .i64 (gc_ t i0))):=by
 refine PC.fact 7 qx_ (by simp) puA puA ?_;unfold jz_;refine bd ?_;have c1:=hE_ t i0;unfold gc_;try refine aa_ ?_
 refine cP_ 5 1 ?_;simp only[go_sem];by_cases hn0:isN t i0=true
 ·rw [if_pos hn0]
  rw[hn0]at c1;show Tri _ _ _ _ (gR_ _ (fu_ (Tri _ _ _ _ (PQ _ (.sl 1 false (aq_ .i64 (ay_ (Ab_ t i0) [] t.length))))) (PQ _ (.sl 1 false (aq_ .i64 (ay_ (Ab_ t i0) [] t.length)))))) _ _
  refine am_ (fun i:Nat=>[(6,.int .i64 i),(5,.hs 1 1 0 (ay_ (Ab_ t i0) [] i).length)]) (fun i=>[.var [nA t],.vec 1 (aq_ .i64 (ay_ (Ab_ t i0) [] i))]) (fun i=>t.length-i) (fun i=>i≤t.length) 0 (Nat.zero_le _) ?_ ?_
  ·exact QV_ [] [0,1]
  intro i hi;(try simp only[ao_,ar_,List.set_cons_zero,List.set_cons_succ])
  by_cases h1:i<t.length
  ·have e1:decide ((i:Int)<((t.length:Nat):Int))=true:=decide_eq_true (by omega)
   have hw:=ae_ h1 (by omega);have hgd:=bD_ h1;have hs:=br_ (Ab_ t i0) [] i;have hl:=No_ t i0 i;generalize ay_ (Ab_ t i0) [] i=acc at *;have hc:Ab_ t i0 i acc=if (nod t i).up=i0 then acc++[(i:Int)]else acc:=rfl
   have hr:aq_ .i64 acc++[[AV.int .i64 (i:Int)]]=aq_ .i64 (acc++[(i:Int)]):=eZ_ .i64 acc [(i:Int)];repeat(first|refine aa_ ?_|simp only[go_sem,e1])
   refine Qy_ c1 ?_
   refine ac_ ?_;repeat(first|refine aa_ ?_|simp only[go_sem,hgd])
   refine aW_ (fun h=>?_) (fun h=>?_)
   ·rw[if_pos (by simpa using h)]at hc;repeat(first|refine aa_ ?_|simp only[go_sem,hr,hw])
    refine⟨i+1,h1,by omega,?_⟩;rw[hs,hc];exact QV_ [] [0,2]
   ·rw[if_neg (by simpa using h)]at hc;repeat(first|refine aa_ ?_|simp only[go_sem,hr,hw])
    refine⟨i+1,h1,by omega,?_⟩;rw[hs,hc];exact QV_ [] [0,1]
  ·obtain rfl:i=t.length:=by omega
   have e1:decide (((t.length:Nat):Int)<((t.length:Nat):Int))=false:=decide_eq_false (by omega);repeat(first|refine aa_ ?_|simp only[go_sem,e1])
   refine PG_ ?_
   exact af_
 ·have hf:isN t i0=false:=by simpa using hn0
  rw[if_neg hn0];rw[hf]at c1;refine am_ (fun _:Unit=>[]) (fun _=>[.var [nA t],.vec 1 []]) (fun _=>0) (fun _=>True) () trivial ?_ ?_
  ·exact QV_ [] [0,1]
  intro _ _;(try simp only[ao_,ar_,List.set_cons_zero,List.set_cons_succ])
  by_cases h1:0<t.length
  ·have e1:decide ((0:Int)<(t.length:Int))=true:=decide_eq_true (by omega);repeat(first|refine aa_ ?_|simp only[go_sem,e1])
   refine Qy_ c1 ?_
   refine PG_ ?_
   exact af_
  ·have e1:decide ((0:Int)<(t.length:Int))=false:=decide_eq_false (by omega);repeat(first|refine aa_ ?_|simp only[go_sem,e1])
   refine PG_ ?_
   exact af_
theorem Fi_(t:List Nod)(hb:0<t.length):PC Tryz.prog 189 [.agg [nA t],.int .i64 0] (.sl 1 true (aq_ .i64 [0])):=by
 refine PC.fact 5 hB_ (by simp) puA puA ?_;unfold fF_;refine bd ?_;have c1:=hE_ t 0;rw[show isN t 0=true by simp[isN,hb]]at c1;try refine aa_ ?_
 refine Qy_ c1 ?_
 refine PG_ ?_
 refine PH_ ?_
 exact af_
theorem NH_(t:List Nod)(i:Int)(hi:isN t i=false):PC Tryz.prog 189 [.agg [nA t],.int .i64 i] (.sl 0 true []):=by
 refine PC.fact 5 hB_ (by simp) puA puA ?_;unfold fF_;refine bd ?_;have c1:=hE_ t i;rw[hi]at c1;try refine aa_ ?_
 refine Qy_ c1 ?_
 refine PH_ ?_
 exact af_
theorem CJ_(t:List Nod)(ht:cF_ t)(hb:t.length≤1000000):∀ (n i:Nat),i<n→0<i→i<t.length→as_ Tryz.prog 189 [.agg [nA t],.int .i64 i] [] (.hs 1 0 0 (bG_ t i).length) [.vec 1 (aq_ .i64 (bG_ t i))]
 |0,_,h,_,_=>by omega
 | n + 1, i, hn, h0, hi => by
   refine as_.fact 5 hB_ (by simp) ?_ (by simp);unfold fF_;refine bd ?_;have c1:=hE_ t i;rw[show isN t i=true by simp[isN,hi]]at c1;have e0:((i:Int)==0)=false:=by rw[←Bool.not_eq_true,beq_iff_eq];omega
   obtain⟨u0,u1⟩:=ht i h0 hi;obtain⟨u,hu⟩:∃u:Nat,(nod t i).up=u:=⟨_,(Int.toNat_of_nonneg u0).symm⟩
   have hs:=kq_ ht h0 hi;have hl:=hL_ ht (i+1) i (by omega);rw[hu]at hs;have hgd:=bD_ hi;try refine aa_ ?_
   refine Qy_ c1 ?_
   refine ab_ ?_;repeat(first|refine aa_ ?_|simp only[go_sem,e0])
   refine ab_ ?_;by_cases hu0:u=0
   ·subst hu0;have c2:=Fi_ t (by omega);rw[show ((0:Nat):Int)=0 from rfl,hG_ (by omega)]at hs;rw[hs]at hl ⊢;repeat(first|refine aa_ ?_|simp only[go_sem,hgd,hu])
    refine au_ (c2) ?_;try refine aa_ ?_
    exact QO_ [] [2]
   ·have c2:=CJ_ t ht hb n u (by omega) (by omega) (by omega);have hl2:=hL_ ht (u+1) u (by omega);rw[hs]at hl ⊢;repeat(first|refine aa_ ?_|simp only[go_sem,hgd,hu])
    refine bo_ [] (c2) (by simp) evd (bF_.mk' (by simp) (by simp) evd) ?_;refine evg ?_;try refine aa_ ?_
    exact QO_ [] [2]
theorem NI_(t:List Nod)(ht:cF_ t)(hb:t.length≤1000000)(i:Nat)(h0:0<i)(hi:i<t.length):PC Tryz.prog 189 [.agg [nA t],.int .i64 i] (.sl 1 false (aq_ .i64 (bG_ t i))):=by
 refine PC.fact 5 hB_ (by simp) puA puA ?_;unfold fF_;refine bd ?_;have c1:=hE_ t i;rw[show isN t i=true by simp[isN,hi]]at c1;have e0:((i:Int)==0)=false:=by rw[←Bool.not_eq_true,beq_iff_eq];omega
 obtain⟨u0,u1⟩:=ht i h0 hi;obtain⟨u,hu⟩:∃u:Nat,(nod t i).up=u:=⟨_,(Int.toNat_of_nonneg u0).symm⟩
 have hs:=kq_ ht h0 hi;have hl:=hL_ ht (i+1) i (by omega);rw[hu]at hs;have hgd:=bD_ hi;try refine aa_ ?_
 refine Qy_ c1 ?_
 refine ab_ ?_;repeat(first|refine aa_ ?_|simp only[go_sem,e0])
 refine ab_ ?_;by_cases hu0:u=0
 ·subst hu0;have c2:=Fi_ t (by omega);rw[show ((0:Nat):Int)=0 from rfl,hG_ (by omega)]at hs;rw[hs]at hl ⊢;repeat(first|refine aa_ ?_|simp only[go_sem,hgd,hu])
  refine au_ (c2) ?_;try refine aa_ ?_
  exact af_
 ·have c2:=CJ_ t ht hb (u+1) u (by omega) (by omega) (by omega);have hl2:=hL_ ht (u+1) u (by omega);rw[hs]at hl ⊢;repeat(first|refine aa_ ?_|simp only[go_sem,hgd,hu])
  refine bo_ [] (c2) (by simp) evd (bF_.mk' (by simp) (by simp) evd) ?_;refine evg ?_;try refine aa_ ?_
  exact af_
theorem jR_(t:List Nod)(ht:cF_ t)(hb:t.length≤1000000)(i:Int):PC Tryz.prog 189 [.agg [nA t],.int .i64 i] (.sl 1 false (aq_ .i64 (bG_ t i))):=by
 by_cases h:isN t i=true
 ·have h1:=h
  simp[isN]at h1;obtain⟨u,rfl⟩:∃u:Nat,i=u:=⟨_,(Int.toNat_of_nonneg h1.1).symm⟩
  by_cases h0:u=0
  ·subst h0;have:=Fi_ t (by omega);rw[show ((0:Nat):Int)=0 from rfl,hG_ (by omega)];exact PC.weak this (Wk.open_ _ _ _) (aM_ _ _)
  ·exact NI_ t ht hb u (by omega) (by omega)
 ·rw[iV_ (by simpa using h)];exact PC.weak (NH_ t i (by simpa using h)) (Wk.empty _ _ _) (aM_ _ _)
theorem oX_(t:List Nod)(ht:cF_ t)(hb:t.length≤1000000)(a b:Int):PC Tryz.prog 186 [.agg [nA t],.int .i64 a,.int .i64 b] (.bool (db_ t a b)):=by
 refine PC.fact 7 or_ (by simp) puA puA ?_;unfold hY_;refine bd ?_;have c1:=jR_ t ht hb b;have c2:=ul_ (bG_ t b) false a (by have:=iq_ ht b;omega);unfold db_;try refine aa_ ?_
 refine Qy_ c1 ?_
 refine Qy_ c2 ?_
 exact af_
def atS(t:List Nod)(p:List Int)(slot:Int)(k:Nat)(a:Int):Int:=if (nod t (p.getD k 0).toNat).blk.slot≤slot then p.getD k 0 else a
theorem zd_(t:List Nod)(ht:cF_ t)(hb:t.length≤1000000)(i0 slot:Int):PC Tryz.prog 128 [.agg [nA t],.int .i64 i0,.int .u64 slot] (.int .i64 (atT t i0 slot)):=by
 refine PC.fact 10 Ex_ (by simp) puA puA ?_;unfold to_;refine bd ?_;have c1:=jR_ t ht hb i0;have hl:=iq_ ht i0;have hm:∀x∈bG_ t i0,0≤x∧x<t.length:=fun x hx=>by have:=er_ ht hx;omega
 show Tri _ _ _ _ (PQ _ (.int .i64 (ay_ (atS t (bG_ t i0) slot) (-1) (bG_ t i0).length))) _ _
 try refine aa_ ?_
 refine ah_ c1 ?_;generalize bG_ t i0=p at *;try refine aa_ ?_
 refine am_ (fun i:Nat=>[(9,.int .i64 i),(7,.int .i64 (ay_ (atS t p slot) (-1) i))]) (fun i=>[.var [nA t]]) (fun i=>p.length-i) (fun i=>i≤p.length) 0 (Nat.zero_le _) ?_ ?_
 ·exact QV_ [] [0]
 intro i hi;(try simp only[ao_,ar_,List.set_cons_zero,List.set_cons_succ])
 by_cases h1:i<p.length
 ·have e1:decide ((i:Int)<((p.length:Nat):Int))=true:=decide_eq_true (by omega)
  have hw:=ae_ h1 (by omega);have hgp:=gdn (k:=.i64) h1;have hx:p.getD i 0∈p:=by rw[List.getD_eq_getElem?_getD,List.getElem?_eq_getElem h1];exact List.getElem_mem h1
  obtain⟨x0,x1⟩:=hm _ hx;have hs:=br_ (atS t p slot) (-1) i;generalize ay_ (atS t p slot) (-1) i=acc at *;have hc:atS t p slot i acc=if (nod t (p.getD i 0).toNat).blk.slot≤slot then p.getD i 0 else acc:=rfl
  generalize p.getD i 0=x at *;have hgd:=bD_ (t:=t) (i:=x.toNat) (by omega);repeat(first|refine aa_ ?_|simp only[go_sem,e1])
  refine ac_ ?_;repeat(first|refine aa_ ?_|simp only[go_sem,hgd,hgp,Nat.mul_one])
  refine aW_ (fun h=>?_) (fun h=>?_)
  ·rw[if_pos (by simpa using h)]at hc;repeat(first|refine aa_ ?_|simp only[go_sem,hw,hgp,Nat.mul_one])
   refine⟨i+1,h1,by omega,?_⟩;rw[hs,hc];exact QV_ [] [0]
  ·rw[if_neg (by simpa using h)]at hc;repeat(first|refine aa_ ?_|simp only[go_sem,hw])
   refine⟨i+1,h1,by omega,?_⟩;rw[hs,hc];exact QV_ [] [0]
 ·obtain rfl:i=p.length:=by omega
  have e1:decide (((p.length:Nat):Int)<((p.length:Nat):Int))=false:=decide_eq_false (by omega);repeat(first|refine aa_ ?_|simp only[go_sem,e1])
  refine PG_ ?_
  exact af_
theorem Kj_{t:List Nod}(ht:cF_ t)(i slot:Int):atT t i slot<t.length:=by
 have key:∀n,n≤(bG_ t i).length→ay_ (atS t (bG_ t i) slot) (-1) n<(t.length:Int):=by
  intro n;induction n with
  |zero=>intro _;show (-1:Int)<_;omega
  | succ n ih =>
    intro hn;rw[br_];unfold atS;split
    ·have hx:(bG_ t i).getD n 0∈bG_ t i:=by rw[List.getD_eq_getElem?_getD,List.getElem?_eq_getElem (by omega)];exact List.getElem_mem (by omega)
     exact(er_ ht hx).2.2
    ·exact ih (by omega)
 exact key _ (Nat.le_refl _)
def nU_(t:List Nod)(i:Int)(k:Nat)(l:List Int):List Int:=if db_ t i k=true then l++[(k:Int)]else l
theorem tD_(t:List Nod)(i:Int):∀n,(ay_ (nU_ t i) [] n).length≤0+n:=hb_ (fun k l=>by unfold nU_;split<;>simp)
theorem xT_(t:List Nod)(ht:cF_ t)(hb:t.length≤1000000)(i0:Int):PC Tryz.prog 279 [.agg [nA t],.int .i64 i0] (.sl 1 false (aq_ .i64 (ii_ t i0))):=by
 refine PC.fact 7 mU_ (by simp) puA puA ?_;unfold hn_;refine bd ?_;show Tri _ _ _ _ (PQ _ (.sl 1 false (aq_ .i64 (ay_ (nU_ t i0) [] t.length)))) _ _
 try refine aa_ ?_
 refine cP_ 5 1 ?_;simp only[go_sem];refine am_ (fun i:Nat=>[(6,.int .i64 i),(5,.hs 1 1 0 (ay_ (nU_ t i0) [] i).length)]) (fun i=>[.var [nA t],.vec 1 (aq_ .i64 (ay_ (nU_ t i0) [] i))]) (fun i=>t.length-i) (fun i=>i≤t.length) 0 (Nat.zero_le _) ?_ ?_
 ·exact QV_ [] [0,1]
 intro i hi;(try simp only[ao_,ar_,List.set_cons_zero,List.set_cons_succ])
 by_cases h1:i<t.length
 ·have e1:decide ((i:Int)<((t.length:Nat):Int))=true:=decide_eq_true (by omega)
  have hw:=ae_ h1 (by omega);have c1:=oX_ t ht hb i0 (i:Int);have hs:=br_ (nU_ t i0) [] i;have hl:=tD_ t i0 i;generalize ay_ (nU_ t i0) [] i=acc at *;have hc:nU_ t i0 i acc=if db_ t i0 i=true then acc++[(i:Int)]else acc:=rfl
  have hr:aq_ .i64 acc++[[AV.int .i64 (i:Int)]]=aq_ .i64 (acc++[(i:Int)]):=eZ_ .i64 acc [(i:Int)];repeat(first|refine aa_ ?_|simp only[go_sem,e1])
  refine PH_ ?_
  refine Qy_ c1 ?_
  refine aW_ (fun h=>?_) (fun h=>?_)
  ·rw[if_pos h]at hc;repeat(first|refine aa_ ?_|simp only[go_sem,hr,hw])
   refine⟨i+1,h1,by omega,?_⟩;rw[hs,hc];exact QV_ [] [0,2]
  ·rw[if_neg (by simp[h])]at hc;repeat(first|refine aa_ ?_|simp only[go_sem,hr,hw])
   refine⟨i+1,h1,by omega,?_⟩;rw[hs,hc];exact QV_ [] [0,1]
 ·obtain rfl:i=t.length:=by omega
  have e1:decide (((t.length:Nat):Int)<((t.length:Nat):Int))=false:=decide_eq_false (by omega);repeat(first|refine aa_ ?_|simp only[go_sem,e1])
  refine PG_ ?_
  exact af_
theorem pz_(t:List Nod)(i:Int):∀n,∀x∈ay_ (nU_ t i) [] n,0≤x∧x<n
 |0,x,hx=>by simp[FV_]at hx
 | n + 1, x, hx => by
   rw[br_]at hx;unfold nU_ at hx;split at hx
   ·rw[List.mem_append,List.mem_singleton]at hx;rcases hx with hx|hx
    ·have:=pz_ t i n x hx;omega
    ·omega
   ·have:=pz_ t i n x hx;omega
theorem Iz_(b:Blk)(st:Int):PC Tryz.prog 140 [.agg (ap_ b),.int .i64 st] (.agg [nA [⟨b,-1,st⟩]]):=by
 refine PC.fact 5 BL_ (by simp) puA puA ?_;unfold rn_;refine bd ?_;try refine aa_ ?_
 refine⟨_,by first|rfl|exact evd,.inr ⟨.agg [.sl 240 true (rows aG_ [⟨b,-1,st⟩])],evd,by simp[Pu,PuL,eB_],Wk.agg ⟨Wk.open_ _ _ _,fun h=>h,trivial⟩⟩⟩
def dO_(b:Blk):Int:=if b.payload=rt0 then 1 else 0
theorem FM_(b:Blk):PC Tryz.prog 157 [.agg (ap_ b)] (.int .i64 (dO_ b)):=by
 refine PC.fact 3 qy_ (by simp) puA puA ?_;unfold jA_;refine bd ?_;unfold dO_;try refine aa_ ?_
 refine aW_ (fun h=>?_) (fun h=>?_)
 ·rw[if_pos (by simpa using h)];try refine aa_ ?_
  exact af_
 ·rw[if_neg (by simpa using h)];try refine aa_ ?_
  exact af_
theorem Io_(p b:Blk):PC Tryz.prog 201 [.agg (ap_ p),.agg (ap_ b)] (.bool (decide (b.payload≠rt0)&&decide (p.payload=rt0))):=by
 refine PC.fact 5 lW_ (by simp) puA puA ?_;unfold gI_;refine bd ?_;by_cases h:b.payload=rt0
 ·have e1:decide (b.payload=rt0)=true:=decide_eq_true h;have e2:decide (b.payload≠rt0)=false:=by simp[h]
  repeat(first|refine aa_ ?_|simp only[go_sem,e1,e2])
  exact af_
 ·have e1:decide (b.payload=rt0)=false:=decide_eq_false h;have e2:decide (b.payload≠rt0)=true:=by simp[h]
  repeat(first|refine aa_ ?_|simp only[go_sem,e1,e2])
  exact af_
def Gm_(ttd:Wd)(p b:Blk):Bool:=if b.payload=rt0 then decide (p.payload=rt0)else if p.payload=rt0 then decide (HP_ b.pdiff ttd<0)&&decide (HP_ b.diff ttd ≥ 0)else true
theorem EH_(ttd:Wd)(p b:Blk):PC Tryz.prog 155 [.agg (wdc ttd),.agg (ap_ p),.agg (ap_ b)] (.bool (Gm_ ttd p b)):=by
 refine PC.fact 17 zH_ (by simp) puA puA ?_;unfold pf_;refine bd ?_;have c1:=Io_ p b;have c2:=xQ_ b.pdiff ttd;have c3:=xQ_ b.diff ttd;unfold Gm_;generalize HP_ b.pdiff ttd=x at *;generalize HP_ b.diff ttd=y at *;by_cases h:b.payload=rt0
 ·have e1:decide (b.payload=rt0)=true:=decide_eq_true h;rw[if_pos h];repeat(first|refine aa_ ?_|simp only[go_sem,e1])
  refine PH_ ?_
  exact af_
 ·have e1:decide (b.payload=rt0)=false:=decide_eq_false h
  have e2:decide (b.payload≠rt0)=true:=by simp[h]
  rw[if_neg h];rw[e2]at c1;by_cases h2:p.payload=rt0
  ·rw[if_pos h2]
   rw[decide_eq_true h2]at c1;repeat(first|refine aa_ ?_|simp only[go_sem,e1])
   refine PG_ ?_
   refine Qy_ c1 ?_
   refine PH_ ?_
   refine ah_ c2 ?_;cases h3:decide (x<0)with
   | true =>
     repeat(first|refine aa_ ?_|simp only[go_sem,h3])
     refine Qy_ c3 ?_
     exact af_
   | false =>
     repeat(first|refine aa_ ?_|simp only[go_sem,h3])
     exact af_
  ·rw[if_neg h2];rw[decide_eq_false h2]at c1;repeat(first|refine aa_ ?_|simp only[go_sem,e1])
   refine PG_ ?_
   refine Qy_ c1 ?_
   refine PG_ ?_
   exact af_
theorem cq_(t:List Nod)(r:Rt):-1≤an_ t r∧an_ t r<t.length:=by
 unfold an_;cases h:cD_ (fun i=>decide ((nod t i).blk.root=r)) t.length with
 |none=>rw[mF_];omega
 |some i=>rw[hK_];have:=(dR_ h).1;omega
theorem Im_(t:List Nod)(b:Blk)(st:Int)(hb:t.length≤1000000):PC Tryz.prog 156 [.agg [nA t],.agg (ap_ b),.int .i64 st] (.tup [.agg [nA (fX_ t b st).1],.int .i64 (fX_ t b st).2]):=by
 refine PC.fact 9 tQ_ (by simp) puA puA ?_;unfold lx_;refine bd ?_;have c1:=In_ st;have c2:=bv_ t b.root hb;have c3:=bv_ t b.parent hb;have b3:=cq_ t b.parent;unfold fX_;generalize an_ t b.root=x at *;generalize an_ t b.parent=y at *;try refine aa_ ?_
 refine ah_ c1 ?_;by_cases q1:0≤st∧st≤2
 case neg=>
  have e1:(decide (0≤st)&&decide (st≤2))=false:=by rw[Bool.and_eq_false_iff,decide_eq_false_iff_not,decide_eq_false_iff_not];omega
  rw[if_pos q1];repeat(first|refine aa_ ?_|simp only[go_sem,e1])
  refine PH_ ?_
  refine⟨_,by first|rfl|exact evd,.inr ⟨_,by(try simp only[go_sem,Nat.reduceAdd,Nat.reduceSub,Nat.reduceMul,Nat.reduceLT,Nat.reduceLeDiff,Nat.reduceEqDiff,reduceIte,Int.reduceToNat,Int.reduceLT,Int.reduceLE,Int.reduceEq,Int.reduceNeg,reduceCtorEq,Int.reduceBEq,Int.reduceBNe]);try rfl,puA,(by repeat'(first|exact Wk.refl _|exact Wk.empty _ _ _|exact Wk.open_ _ _ _|refine Wk.tup ?_|refine Wk.agg ?_|exact trivial|(intro h;first|exact h|rfl)|constructor))⟩⟩
 have e1:(decide (0≤st)&&decide (st≤2))=true:=by simp[q1]
 rw[if_neg (fun h=>h q1)];repeat(first|refine aa_ ?_|simp only[go_sem,e1])
 refine PG_ ?_
 refine Qy_ c2 ?_
 refine aW_ (fun h=>?_) (fun h=>?_)
 ·rw[if_pos (by simpa using h)];try refine aa_ ?_
  refine⟨_,by first|rfl|exact evd,.inr ⟨_,by(try simp only[go_sem,Nat.reduceAdd,Nat.reduceSub,Nat.reduceMul,Nat.reduceLT,Nat.reduceLeDiff,Nat.reduceEqDiff,reduceIte,Int.reduceToNat,Int.reduceLT,Int.reduceLE,Int.reduceEq,Int.reduceNeg,reduceCtorEq,Int.reduceBEq,Int.reduceBNe]);try rfl,puA,(by repeat'(first|exact Wk.refl _|exact Wk.empty _ _ _|exact Wk.open_ _ _ _|refine Wk.tup ?_|refine Wk.agg ?_|exact trivial|(intro h;first|exact h|rfl)|constructor))⟩⟩
 rw[if_neg (by simpa using h)];try refine aa_ ?_
 refine Qy_ c3 ?_
 clear h;refine aW_ (fun h=>?_) (fun h=>?_)
 ·rw[if_pos (by simpa using h)];try refine aa_ ?_
  refine⟨_,by first|rfl|exact evd,.inr ⟨_,by(try simp only[go_sem,Nat.reduceAdd,Nat.reduceSub,Nat.reduceMul,Nat.reduceLT,Nat.reduceLeDiff,Nat.reduceEqDiff,reduceIte,Int.reduceToNat,Int.reduceLT,Int.reduceLE,Int.reduceEq,Int.reduceNeg,reduceCtorEq,Int.reduceBEq,Int.reduceBNe]);try rfl,puA,(by repeat'(first|exact Wk.refl _|exact Wk.empty _ _ _|exact Wk.open_ _ _ _|refine Wk.tup ?_|refine Wk.agg ?_|exact trivial|(intro h;first|exact h|rfl)|constructor))⟩⟩
 have hy0:0≤y:=by simpa using h
 have hgd:=bD_ (t:=t) (i:=y.toNat) (by omega);rw[if_neg (by simpa using h)];repeat(first|refine aa_ ?_|simp only[go_sem,hgd])
 clear h;refine aW_ (fun h=>?_) (fun h=>?_)
 ·rw[if_pos (by simpa using h)];try refine aa_ ?_
  refine⟨_,by first|rfl|exact evd,.inr ⟨_,by(try simp only[go_sem,Nat.reduceAdd,Nat.reduceSub,Nat.reduceMul,Nat.reduceLT,Nat.reduceLeDiff,Nat.reduceEqDiff,reduceIte,Int.reduceToNat,Int.reduceLT,Int.reduceLE,Int.reduceEq,Int.reduceNeg,reduceCtorEq,Int.reduceBEq,Int.reduceBNe]);try rfl,puA,(by repeat'(first|exact Wk.refl _|exact Wk.empty _ _ _|exact Wk.open_ _ _ _|refine Wk.tup ?_|refine Wk.agg ?_|exact trivial|(intro h;first|exact h|rfl)|constructor))⟩⟩
 rw[if_neg (by simpa using h)];try refine aa_ ?_
 clear h;refine aW_ (fun h=>?_) (fun h=>?_)
 ·rw[if_pos (by simp at h;omega)];try refine aa_ ?_
  refine⟨_,by first|rfl|exact evd,.inr ⟨_,by(try simp only[go_sem,Nat.reduceAdd,Nat.reduceSub,Nat.reduceMul,Nat.reduceLT,Nat.reduceLeDiff,Nat.reduceEqDiff,reduceIte,Int.reduceToNat,Int.reduceLT,Int.reduceLE,Int.reduceEq,Int.reduceNeg,reduceCtorEq,Int.reduceBEq,Int.reduceBNe]);try rfl,puA,(by repeat'(first|exact Wk.refl _|exact Wk.empty _ _ _|exact Wk.open_ _ _ _|refine Wk.tup ?_|refine Wk.agg ?_|exact trivial|(intro h;first|exact h|rfl)|constructor))⟩⟩
 rw[if_neg (by simp at h;omega)];have hr:=bP_ aG_ t ⟨b,y,st⟩;repeat(first|refine aa_ ?_|simp only[go_sem,hr])
 exact af_
theorem Bp_(c:bt_)(total:Int):PC Tryz.prog 272 [.agg (bf_ c.a),.int .u64 total] (.tup [.int .u64 (oW_ c.spe c.boost total).1,.int .i64 (oW_ c.spe c.boost total).2]):=by
 refine PC.fact 7 tO_ (by simp) puA puA ?_;unfold lv_;refine bd ?_;obtain⟨lim,spe,boost,ttd,gen,bals⟩:=c;unfold oW_ bt_.a;dsimp only;by_cases q1:spe<1
 ·have e1:decide (spe<1)=true:=decide_eq_true q1;rw[if_pos (.inl q1)];repeat(first|refine aa_ ?_|simp only[go_sem,e1])
  refine PH_ ?_
  exact af_
 have e1:decide (spe<1)=false:=decide_eq_false q1;by_cases q2:64<spe
 ·have e2:decide (64<spe)=true:=decide_eq_true q2;rw[if_pos (.inr (.inl q2))];repeat(first|refine aa_ ?_|simp only[go_sem,e1,e2])
  refine PH_ ?_
  exact af_
 have e2:decide (64<spe)=false:=decide_eq_false q2;by_cases q3:100<boost
 ·have e3:decide (100<boost)=true:=decide_eq_true q3;rw[if_pos (.inr (.inr (.inl q3)))];repeat(first|refine aa_ ?_|simp only[go_sem,e1,e2,e3])
  refine PH_ ?_
  exact af_
 have e3:decide (100<boost)=false:=decide_eq_false q3;by_cases q4:4611686018427387904<total
 ·have e4:decide (4611686018427387904<total)=true:=decide_eq_true q4;rw[if_pos (.inr (.inr (.inr q4)))];repeat(first|refine aa_ ?_|simp only[go_sem,e1,e2,e3,e4])
  refine PH_ ?_
  exact af_
 have e4:decide (4611686018427387904<total)=false:=decide_eq_false q4;rw[if_neg (by simp[q1,q2,q3,q4])];have h0:spe≠0:=by omega
 repeat(first|refine aa_ ?_|simp only[go_sem,e1,e2,e3,e4])
 refine PG_ ?_
 exact af_
def BE_(t:List Nod)(latest:List Vot)(eqv bals:List Int)(i:Nat)(l:List Int):List Int:=l++[if (nod t i).status≠2 then sY_ latest eqv bals [(nod t i).blk.root]else 0]
theorem sP_(t:List Nod)(latest:List Vot)(eqv bals:List Int):∀n,(ay_ (BE_ t latest eqv bals) [] n).length=n
 |0=>rfl
 |n+1=>by rw[br_];show (ay_ (BE_ t latest eqv bals) [] n++[_]).length=_;rw[List.length_append,sP_ t latest eqv bals n];rfl
theorem BF_(t:List Nod)(latest:List Vot)(eqv bals:List Int)(hb:t.length≤1000000)(h1:latest.length≤1000000)(h2:eqv.length≤1000000)(h3:bals.length≤1000000):
 PC Tryz.prog 28 [.agg [nA t],.agg [.sl 34 false (rows aZ_ latest),.sl 1 false (aq_ .i64 eqv)],.sl 1 false (aq_ .u64 bals)] (.sl 1 false (aq_ .u64 (sQ_ t latest eqv bals))):=by
 refine PC.fact 10 tP_ (by simp) puA puA ?_;unfold lw_;refine bd ?_;show Tri _ _ _ _ (PQ _ (.sl 1 false (aq_ .u64 (ay_ (BE_ t latest eqv bals) [] t.length)))) _ _
 try refine aa_ ?_
 refine cP_ 7 1 ?_;simp only[go_sem];refine am_ (fun i:Nat=>[(8,.int .i64 i),(7,.hs 1 2 0 i)]) (fun i=>[.var [nA t],.var [.sl 34 false (rows aZ_ latest),.sl 1 false (aq_ .i64 eqv)],.vec 1 (aq_ .u64 (ay_ (BE_ t latest eqv bals) [] i))]) (fun i=>t.length-i) (fun i=>i≤t.length) 0 (Nat.zero_le _) ?_ ?_
 ·exact QV_ [] [0,1,2]
 intro i hi;(try simp only[ao_,ar_,List.set_cons_zero,List.set_cons_succ])
 by_cases h1:i<t.length
 ·have e1:decide ((i:Int)<((t.length:Nat):Int))=true:=decide_eq_true (by omega)
  have hw:=ae_ h1 (by omega);have hgd:=bD_ h1;have c1:=DL_ latest eqv bals [(nod t i).blk.root] (by assumption) h2 h3 (by simp);have hs:=br_ (BE_ t latest eqv bals) [] i;have hl:=sP_ t latest eqv bals i;have hro:[rtc (nod t i).blk.root]=rows rtc [(nod t i).blk.root]:=rfl;generalize ay_ (BE_ t latest eqv bals) [] i=acc at *;have hc:BE_ t latest eqv bals i acc=acc++[if (nod t i).status≠2 then sY_ latest eqv bals [(nod t i).blk.root]else 0]:=rfl;have hr:∀w:Int,aq_ .u64 acc++[[AV.int .u64 w]]=aq_ .u64 (acc++[w]):=fun w=>eZ_ .u64 acc [w]
  repeat(first|refine aa_ ?_|simp only[go_sem,e1])
  refine ac_ ?_;repeat(first|refine aa_ ?_|simp only[go_sem,hgd])
  refine aW_ (fun h=>?_) (fun h=>?_)
  ·rw[if_pos (by simpa using h)]at hc;repeat(first|refine aa_ ?_|simp only[go_sem,hgd,hro])
   refine au_ (c1) ?_;repeat(first|refine aa_ ?_|simp only[go_sem,hr,hw,hl])
   refine⟨i+1,h1,by omega,?_⟩;rw[hs,hc];exact QV_ [] [0,1,4]
  ·rw[if_neg (by simpa using h)]at hc;repeat(first|refine aa_ ?_|simp only[go_sem,hr,hw,hl])
   refine⟨i+1,h1,by omega,?_⟩;rw[hs,hc];exact QV_ [] [0,1,3]
 ·obtain rfl:i=t.length:=by omega
  have e1:decide (((t.length:Nat):Int)<((t.length:Nat):Int))=false:=decide_eq_false (by omega);have hl:=sP_ t latest eqv bals t.length;repeat(first|refine aa_ ?_|simp only[go_sem,e1])
  refine ab_ ?_;repeat(first|refine aa_ ?_|simp only[go_sem,hl])
  refine⟨_,(by first|rfl|exact evd),.inl ?_⟩;refine evg ?_;rw[hl,if_pos (Nat.le_refl _),List.take_of_length_le (by simp[hl])]
def Cm_(direct d:List Int)(k:Nat)(n:Int):Int:=IntKind.u64.wrap (n+direct.getD (d.getD k 0).toNat 0)
def AU_(t:List Nod)(direct:List Int)(i:Nat)(l:List Int):List Int:=l++[ay_ (Cm_ direct (ii_ t i)) 0 (ii_ t i).length]
theorem sW_(t:List Nod)(direct:List Int):∀n,(ay_ (AU_ t direct) [] n).length=n
 |0=>rfl
 |n+1=>by rw[br_];show (ay_ (AU_ t direct) [] n++[_]).length=_;rw[List.length_append,sW_ t direct n];rfl
theorem AV_(t:List Nod)(ht:cF_ t)(direct:List Int)(hb:t.length≤1000000)(hd:direct.length=t.length):
 PC Tryz.prog 273 [.agg [nA t],.sl 1 false (aq_ .u64 direct)] (.sl 1 false (aq_ .u64 (Qp_ t direct))):=by
 refine PC.fact 10 sc_ (by simp) puA puA ?_;unfold kG_;refine bd ?_;show Tri _ _ _ _ (PQ _ (.sl 1 false (aq_ .u64 (ay_ (AU_ t direct) [] t.length)))) _ _
 try refine aa_ ?_
 refine cP_ 5 1 ?_;simp only[go_sem];refine am_ (fun i:Nat=>[(6,.int .i64 i),(5,.hs 1 1 0 i)]) (fun i=>[.var [nA t],.vec 1 (aq_ .u64 (ay_ (AU_ t direct) [] i))]) (fun i=>t.length-i) (fun i=>i≤t.length) 0 (Nat.zero_le _) ?_ ?_
 ·exact QV_ [] [0,1]
 intro i hi;(try simp only[ao_,ar_,List.set_cons_zero,List.set_cons_succ])
 by_cases h1:i<t.length
 ·have e1:decide ((i:Int)<((t.length:Nat):Int))=true:=decide_eq_true (by omega)
  have hw:=ae_ h1 (by omega);have c1:=xT_ t ht hb (i:Int);have hs:=br_ (AU_ t direct) [] i;have hl:=sW_ t direct i;have hm:=pz_ t (i:Int) t.length;have hdl:=tD_ t (i:Int) t.length;have hc:AU_ t direct i (ay_ (AU_ t direct) [] i)=(ay_ (AU_ t direct) [] i)++[ay_ (Cm_ direct (ii_ t i)) 0 (ii_ t i).length]:=rfl;generalize ay_ (AU_ t direct) [] i=acc at *;change ∀x∈ii_ t (i:Int),_ at hm
  change (ii_ t (i:Int)).length≤_ at hdl
  generalize ii_ t (i:Int)=d at *;have hr:∀w:Int,aq_ .u64 acc++[[AV.int .u64 w]]=aq_ .u64 (acc++[w]):=fun w=>eZ_ .u64 acc [w]
  repeat(first|refine aa_ ?_|simp only[go_sem,e1])
  refine PH_ ?_
  refine Qy_ c1 ?_
  refine am_ (fun k:Nat=>[(9,.int .i64 k),(7,.int .u64 (ay_ (Cm_ direct d) 0 k))]) (fun k=>[.var [nA t],.vec 1 (aq_ .u64 acc)]) (fun k=>d.length-k) (fun k=>k≤d.length) 0 (Nat.zero_le _) ?_ ?_
  ·exact QV_ [] [0,1]
  intro k hk;(try simp only[ao_,ar_,List.set_cons_zero,List.set_cons_succ])
  by_cases q1:k<d.length
  ·have e2:decide ((k:Int)<((d.length:Nat):Int))=true:=decide_eq_true (by omega);have hw2:=ae_ q1 (by omega);have hgk:=gdn (k:=.i64) q1;have hx:d.getD k 0∈d:=by rw[List.getD_eq_getElem?_getD,List.getElem?_eq_getElem q1];exact List.getElem_mem q1
   obtain⟨x0,x1⟩:=hm _ hx;have hs2:=br_ (Cm_ direct d) 0 k;have hc2:Cm_ direct d k (ay_ (Cm_ direct d) 0 k)=IntKind.u64.wrap (ay_ (Cm_ direct d) 0 k+direct.getD (d.getD k 0).toNat 0):=rfl;generalize ay_ (Cm_ direct d) 0 k=n at *;generalize d.getD k 0=x at *;have x2:x<direct.length:=by omega
   have hgx:=gdn (k:=.u64) (ns:=direct) (i:=x.toNat) (by omega);repeat(first|refine aa_ ?_|simp only[go_sem,e2])
   refine ac_ ?_;repeat(first|refine aa_ ?_|simp only[go_sem,hgk,hgx,Nat.mul_one,hw2])
   refine⟨k+1,q1,by omega,?_⟩;rw[hs2,hc2];exact QV_ [] [0,1]
  ·obtain rfl:k=d.length:=by omega
   have e2:decide (((d.length:Nat):Int)<((d.length:Nat):Int))=false:=decide_eq_false (by omega);repeat(first|refine aa_ ?_|simp only[go_sem,e2])
   refine ab_ ?_;repeat(first|refine aa_ ?_|simp only[go_sem,hr,hw,hl])
   refine⟨i+1,h1,by omega,?_⟩;rw[hs,hc];exact QV_ [] [0,2]
 ·obtain rfl:i=t.length:=by omega
  have e1:decide (((t.length:Nat):Int)<((t.length:Nat):Int))=false:=decide_eq_false (by omega);have hl:=sW_ t direct t.length;repeat(first|refine aa_ ?_|simp only[go_sem,e1])
  refine ab_ ?_;repeat(first|refine aa_ ?_|simp only[go_sem,hl])
  refine⟨_,(by first|rfl|exact evd),.inl ?_⟩;refine evg ?_;rw[hl,if_pos (Nat.le_refl _),List.take_of_length_le (by simp[hl])]
theorem zk_(t:List Nod)(direct:List Int)(root:Rt)(amount:Int)(hb:t.length≤1000000)(hd:direct.length=t.length):
 PC Tryz.prog 274 [.agg [nA t],.sl 1 false (aq_ .u64 direct),.agg (rtc root),.int .u64 amount] (.sl 1 false (aq_ .u64 (jx_ t direct root amount))):=by
 refine PC.fact 11 sa_ (by simp) puA puA ?_;unfold kE_;refine bd ?_;have c1:=bv_ t root hb;have b1:=cq_ t root;unfold jx_;generalize an_ t root=x at *;try refine aa_ ?_
 refine ah_ c1 ?_;by_cases q1:0≤x
 ·have e1:decide (x ≥ 0)=true:=decide_eq_true q1
  have e1':decide (0≤x)=true:=decide_eq_true q1;have hgd:=bD_ (t:=t) (i:=x.toNat) (by omega);have x2:x<direct.length:=by omega
  have hgx:=gdn (k:=.u64) (ns:=direct) (i:=x.toNat) (by omega);by_cases q2:(nod t x.toNat).status=2
  ·have e2:((nod t x.toNat).status != 2)=false:=by simp[q2]
   rw[if_neg (fun h=>h.2.1 q2)];repeat(first|refine aa_ ?_|simp only[go_sem,e1,e1',hgd,e2])
   refine PG_ ?_
   exact af_
  ·have e2:((nod t x.toNat).status != 2)=true:=by simp[q2]
   by_cases q3:root=rt0
   ·have e3:decide (root=rt0)=true:=decide_eq_true q3;rw[if_neg (fun h=>h.2.2 q3)];repeat(first|refine aa_ ?_|simp only[go_sem,e1,e1',hgd,e2,e3])
    refine PG_ ?_
    exact af_
   ·have e3:decide (root=rt0)=false:=decide_eq_false q3;rw[if_pos ⟨q1,q2,q3⟩];have hset:∀w:Int,(aq_ .u64 direct).set x.toNat [AV.int .u64 w]=aq_ .u64 (direct.set x.toNat w):=fun w=>by simp[aq_,List.map_set]
    repeat(first|refine aa_ ?_|simp only[go_sem,e1,e1',hgd,e2,e3])
    refine ac_ ?_;repeat(first|refine aa_ ?_|simp only[go_sem,hgx,Nat.mul_one,hset])
    exact af_
 ·have e1:decide (x ≥ 0)=false:=decide_eq_false q1;have e1':decide (0≤x)=false:=decide_eq_false q1;rw[if_neg (fun h=>q1 h.1)];repeat(first|refine aa_ ?_|simp only[go_sem,e1,e1'])
  refine PG_ ?_
  exact af_
theorem Dg_(t:List Nod)(l:List Int)(st fb:Int)(hb:t.length≤1000000)(hl:l.length≤1000000)(hj:∀j∈l,0≤j∧j<t.length):
 PC Tryz.prog 278 [.agg [nA t],.sl 1 false (aq_ .i64 l),.int .i64 st,.int .i64 fb] (.tup [.agg [nA ((vk_ t l st fb).getD [])],.bool (vk_ t l st fb).isSome]):=by
 refine PC.fact 12 BM_ (by simp) puA puA ?_;unfold ro_;refine bd ?_;try refine aa_ ?_
 refine am_ (fun i:Nat=>[(11,.int .i64 i)]) (fun i=>[.var [nA t],.var [.sl 0 true []],.vec 240 (rows aG_ ((ay_ (qb_ l st fb) (some t) i).getD [])),.var [.hs 240 2 0 t.length]]) (fun i=>l.length-i) (fun i=>i≤l.length∧(ay_ (qb_ l st fb) (some t) i).isSome=true) 0 ⟨Nat.zero_le _,rfl⟩ ?_ ?_
 ·exact QV_ [] [0,1,2,3]
 rintro i ⟨hi,ho⟩;(try simp only[ao_,ar_,List.set_cons_zero,List.set_cons_succ])
 by_cases h1:i<l.length
 ·have e1:decide ((i:Int)<((l.length:Nat):Int))=true:=decide_eq_true (by omega)
  have hw:=ae_ h1 (by omega);have hgl:=gdn (k:=.i64) h1;have hx:l.getD i 0∈l:=by rw[List.getD_eq_getElem?_getD,List.getElem?_eq_getElem h1];exact List.getElem_mem h1
  obtain⟨x0,x1⟩:=hj _ hx;have hs:=br_ (qb_ l st fb) (some t) i;obtain⟨u,hu⟩:=Option.isSome_iff_exists.1 ho;have hlu:=iw_ hu;rw[hu]at hs ⊢;simp only[qb_,Option.bind_some]at hs;generalize l.getD i 0=x at *;have hgd:=bD_ (t:=u) (i:=x.toNat) (by omega);have x2:x.toNat<u.length:=by omega
  have hset:=pY_ aG_ u x.toNat
  simp only[Option.getD_some];repeat(first|refine aa_ ?_|simp only[go_sem,e1])
  refine ac_ ?_;repeat(first|refine aa_ ?_|simp only[go_sem,hgl,Nat.mul_one,hgd])
  refine aW_ (fun h=>?_) (fun h=>?_)
  ·have hs':ay_ (qb_ l st fb) (some t) (i+1)=none:=by rw[hs,if_pos (by simpa using h)]
   have hn:vk_ t l st fb=none:=yI_ hs' _ h1;rw[hn];try refine aa_ ?_
   refine⟨_,by first|rfl|exact evd,.inr ⟨_,by(try simp only[go_sem,Nat.reduceAdd,Nat.reduceSub,Nat.reduceMul,Nat.reduceLT,Nat.reduceLeDiff,Nat.reduceEqDiff,reduceIte,Int.reduceToNat,Int.reduceLT,Int.reduceLE,Int.reduceEq,Int.reduceNeg,reduceCtorEq,Int.reduceBEq,Int.reduceBNe]);try rfl,puA,(by repeat'(first|exact Wk.refl _|exact Wk.empty _ _ _|exact Wk.open_ _ _ _|refine Wk.tup ?_|refine Wk.agg ?_|exact trivial|(intro h;first|exact h|rfl)|constructor))⟩⟩
  ·rw[if_neg (by simpa using h)]at hs;repeat(first|refine aa_ ?_|simp only[go_sem,hgl,Nat.mul_one,hgd,hset,hw])
   refine⟨i+1,⟨h1,by rw[hs];rfl⟩,by omega,?_⟩;rw[hs];simp only[Option.getD_some];exact QV_ [] [0,1,2,3]
 ·obtain rfl:i=l.length:=by omega
  have e1:decide (((l.length:Nat):Int)<((l.length:Nat):Int))=false:=decide_eq_false (by omega);obtain⟨u,hu⟩:=Option.isSome_iff_exists.1 ho;have hlu:=iw_ hu;rw[show vk_ t l st fb=some u from hu,hu];simp only[Option.getD_some];repeat(first|refine aa_ ?_|simp only[go_sem,e1])
  refine PG_ ?_
  refine⟨_,(by first|rfl|exact evd),.inl ?_⟩;refine evg ?_;rw[if_pos (by omega),List.take_of_length_le (by simp[hlu])];rfl
theorem uR_(t:List Nod)(ht:cF_ t)(i:Int)(hb:t.length≤1000000):PC Tryz.prog 268 [.agg [nA t],.int .i64 i] (.tup [.agg [nA (cV_ t i).1],.int .i64 (cV_ t i).2]):=by
 refine PC.fact 8 wt_ (by simp) puA puA ?_;unfold nB_;refine bd ?_;have c1:=hE_ t i;have c2:=jR_ t ht hb i;have hl:=iq_ ht i;have c3:=Dg_ t (bG_ t i) 1 2 hb (by omega) (fun j hj=>by have:=er_ ht hj;omega);unfold cV_;generalize vk_ t (bG_ t i) 1 2=o at *;try refine aa_ ?_
 refine ah_ c1 ?_;cases h:isN t i with
 | false =>
   rw[if_neg (by simp)];try refine aa_ ?_
   refine PH_ ?_
   refine⟨_,by first|rfl|exact evd,.inr ⟨_,by(try simp only[go_sem,Nat.reduceAdd,Nat.reduceSub,Nat.reduceMul,Nat.reduceLT,Nat.reduceLeDiff,Nat.reduceEqDiff,reduceIte,Int.reduceToNat,Int.reduceLT,Int.reduceLE,Int.reduceEq,Int.reduceNeg,reduceCtorEq,Int.reduceBEq,Int.reduceBNe]);try rfl,puA,(by repeat'(first|exact Wk.refl _|exact Wk.empty _ _ _|exact Wk.open_ _ _ _|refine Wk.tup ?_|refine Wk.agg ?_|exact trivial|(intro h;first|exact h|rfl)|constructor))⟩⟩
 | true =>
   rw[if_pos rfl];try refine aa_ ?_
   refine PG_ ?_
   refine au_ (c2) ?_;try refine aa_ ?_
   refine au_ (c3) ?_;try refine aa_ ?_
   cases o with
   | none =>
     simp only[Option.isSome_none,Option.getD_none];try refine aa_ ?_
     refine PH_ ?_
     refine⟨_,by first|rfl|exact evd,.inr ⟨_,by(try simp only[go_sem,Nat.reduceAdd,Nat.reduceSub,Nat.reduceMul,Nat.reduceLT,Nat.reduceLeDiff,Nat.reduceEqDiff,reduceIte,Int.reduceToNat,Int.reduceLT,Int.reduceLE,Int.reduceEq,Int.reduceNeg,reduceCtorEq,Int.reduceBEq,Int.reduceBNe]);try rfl,puA,(by repeat'(first|exact Wk.refl _|exact Wk.empty _ _ _|exact Wk.open_ _ _ _|refine Wk.tup ?_|refine Wk.agg ?_|exact trivial|(intro h;first|exact h|rfl)|constructor))⟩⟩
   | some u =>
     simp only[Option.isSome_some,Option.getD_some];try refine aa_ ?_
     refine PG_ ?_
     exact af_
theorem xR_(t:List Nod)(ht:cF_ t)(i:Int)(hb:t.length≤1000000):PC Tryz.prog 270 [.agg [nA t],.int .i64 i] (.tup [.agg [nA (iO_ t i).1],.int .i64 (iO_ t i).2]):=by
 refine PC.fact 8 sb_ (by simp) puA puA ?_;unfold kF_;refine bd ?_;have c1:=hE_ t i;have c2:=xT_ t ht hb i;have hl:(ii_ t i).length≤0+t.length:=tD_ t i t.length;have c3:=Dg_ t (ii_ t i) 2 1 hb (by omega) (fun j hj=>pz_ t i t.length j hj);unfold iO_;generalize vk_ t (ii_ t i) 2 1=o at *;try refine aa_ ?_
 refine ah_ c1 ?_;cases h:isN t i with
 | false =>
   rw[if_neg (by simp)];try refine aa_ ?_
   refine PH_ ?_
   refine⟨_,by first|rfl|exact evd,.inr ⟨_,by(try simp only[go_sem,Nat.reduceAdd,Nat.reduceSub,Nat.reduceMul,Nat.reduceLT,Nat.reduceLeDiff,Nat.reduceEqDiff,reduceIte,Int.reduceToNat,Int.reduceLT,Int.reduceLE,Int.reduceEq,Int.reduceNeg,reduceCtorEq,Int.reduceBEq,Int.reduceBNe]);try rfl,puA,(by repeat'(first|exact Wk.refl _|exact Wk.empty _ _ _|exact Wk.open_ _ _ _|refine Wk.tup ?_|refine Wk.agg ?_|exact trivial|(intro h;first|exact h|rfl)|constructor))⟩⟩
 | true =>
   rw[if_pos rfl];try refine aa_ ?_
   refine PG_ ?_
   refine au_ (c2) ?_;try refine aa_ ?_
   refine au_ (c3) ?_;try refine aa_ ?_
   cases o with
   | none =>
     simp only[Option.isSome_none,Option.getD_none];try refine aa_ ?_
     refine PH_ ?_
     refine⟨_,by first|rfl|exact evd,.inr ⟨_,by(try simp only[go_sem,Nat.reduceAdd,Nat.reduceSub,Nat.reduceMul,Nat.reduceLT,Nat.reduceLeDiff,Nat.reduceEqDiff,reduceIte,Int.reduceToNat,Int.reduceLT,Int.reduceLE,Int.reduceEq,Int.reduceNeg,reduceCtorEq,Int.reduceBEq,Int.reduceBNe]);try rfl,puA,(by repeat'(first|exact Wk.refl _|exact Wk.empty _ _ _|exact Wk.open_ _ _ _|refine Wk.tup ?_|refine Wk.agg ?_|exact trivial|(intro h;first|exact h|rfl)|constructor))⟩⟩
   | some u =>
     simp only[Option.isSome_some,Option.getD_some];try refine aa_ ?_
     refine PG_ ?_
     exact af_
theorem Fq_(t:List Nod)(i:Int)(k:Nat)(p:List Nod×List Int):(bL_ t i k p).2.length=p.2.length+1∧(bL_ t i k p).1.length≤p.1.length+1:=by
 unfold bL_;split<;>simp
theorem hM_(t:List Nod)(i:Int):∀k,(ay_ (bL_ t i) ([],[]) k).2.length=k∧(ay_ (bL_ t i) ([],[]) k).1.length≤k
 |0=>⟨rfl,Nat.le_refl _⟩
 | k + 1 => by
   rw[br_];have h1:=hM_ t i k;have h2:=Fq_ t i k (ay_ (bL_ t i) ([],[]) k);omega
theorem Fs_(t:List Nod)(ht:cF_ t)(i0:Int)(hb:t.length≤1000000)(h0:isN t i0=true):
 PC Tryz.prog 125 [.agg [nA t],.int .i64 i0] (.tup [.agg [nA (eb_ t i0).1],.sl 1 false (aq_ .i64 (eb_ t i0).2),.int .i64 0]):=by
 refine PC.fact 11 ws_ (by simp) puA puA ?_;unfold nA_;refine bd ?_;unfold eb_;have c0:=hE_ t i0;rw[h0]at c0;try refine aa_ ?_
 refine Qy_ c0 ?_
 refine PG_ ?_
 refine iB_ 2 0 240 ?_;simp only[go_sem];refine cP_ 8 1 ?_;simp only[go_sem];refine am_ (fun i:Nat=>[(9,.int .i64 i),(8,.hs 1 4 0 (ay_ (bL_ t i0) ([],[]) i).2.length)]) (fun i=>[.var [nA t],.var [.sl 0 true []],.var [.hs 240 3 0 (ay_ (bL_ t i0) ([],[]) i).1.length],.vec 240 (rows aG_ (ay_ (bL_ t i0) ([],[]) i).1),.vec 1 (aq_ .i64 (ay_ (bL_ t i0) ([],[]) i).2)]) (fun i=>t.length-i) (fun i=>i≤t.length) 0 (Nat.zero_le _) ?_ ?_
 ·exact QV_ [] [0,1,2,3,4]
 intro i hi;(try simp only[ao_,ar_,List.set_cons_zero,List.set_cons_succ])
 by_cases h1:i<t.length
 ·have e1 : decide ((i : Int) < ((t.length : Nat) : Int)) = true := decide_eq_true (by omega)
  have hw:=ae_ h1 (by omega);have c1:=oX_ t ht hb i0 (i:Int);have hgd:=bD_ h1;have hs:=br_ (bL_ t i0) ([],[]) i;obtain⟨hl2,hl1⟩:=hM_ t i0 i;generalize ay_ (bL_ t i0) ([],[]) i=p at *;obtain⟨kp,ix⟩:=p;dsimp only at hl1 hl2;have hc:bL_ t i0 i (kp,ix)=if db_ t i0 i=true then (kp++[⟨(nod t i).blk,if (i:Int)=i0 then -1 else ix.getD (nod t i).up.toNat 0,(nod t i).status⟩],ix++[(kp.length:Int)])else (kp,ix++[-1]):=rfl
  have hr:∀w:Int,aq_ .i64 ix++[[AV.int .i64 w]]=aq_ .i64 (ix++[w]):=fun w=>eZ_ .i64 ix [w]
  have hrn:=bP_ aG_ kp;dsimp only;repeat(first|refine aa_ ?_|simp only[go_sem,e1])
  refine PH_ ?_
  refine ah_ c1 ?_;cases ha:db_ t i0 i with
  | false =>
    rw[if_neg (by simp[ha])]at hc;try refine aa_ ?_
    refine ac_ ?_;repeat(first|refine aa_ ?_|simp only[go_sem,hr,hw])
    refine⟨i+1,h1,by omega,?_⟩;rw[hs,hc];exact QV_ [] [0,1,2,3,5]
  | true =>
    rw[if_pos ha]at hc;try refine aa_ ?_
    refine ab_ ?_;repeat(first|refine aa_ ?_|simp only[go_sem,hgd])
    by_cases hk:(i:Int)=i0
    ·have e2:((i:Int)==i0)=true:=by simpa using hk
     rw[if_pos hk]at hc;repeat(first|refine aa_ ?_|simp only[go_sem,e2])
     refine ac_ ?_;repeat(first|refine aa_ ?_|simp only[go_sem,hr,hw,hrn])
     refine⟨i+1,h1,by omega,?_⟩;rw[hs,hc];exact QV_ [] [0,1,2,7,6]
    ·have e2:((i:Int)==i0)=false:=by simpa using hk
     rw[if_neg hk]at hc
     have hi0:0<i:=by
      rcases Nat.eq_zero_or_pos i with h|h
      ·subst h;unfold db_ at ha;rw[show ((0:Nat):Int)=0 from rfl,hG_ h1]at ha;simp at ha;exact absurd ha.symm hk
      ·exact h
     obtain⟨u0,u1⟩:=ht i hi0 h1;have hgi:=gdn (k:=.i64) (ns:=ix) (i:=(nod t i).up.toNat) (by omega);repeat(first|refine aa_ ?_|simp only[go_sem,e2])
     refine ab_ ?_;repeat(first|refine aa_ ?_|simp only[go_sem,hr,hw,hrn,hgi,Nat.mul_one])
     refine⟨i+1,h1,by omega,?_⟩;rw[hs,hc];exact QV_ [] [0,1,2,7,6]
 ·obtain rfl:i=t.length:=by omega
  have e1:decide (((t.length:Nat):Int)<((t.length:Nat):Int))=false:=decide_eq_false (by omega);obtain⟨hl2,hl1⟩:=hM_ t i0 t.length;repeat(first|refine aa_ ?_|simp only[go_sem,e1])
  refine PG_ ?_
  exact af_
theorem FB_(t:List Nod)(ht:cF_ t)(i0:Int)(latest:Rt)(hb:t.length≤1000000):PC Tryz.prog 269 [.agg [nA t],.int .i64 i0,.agg (rtc latest)] (.tup [.int .i64 (hj_ t i0 latest).1,.int .i64 (hj_ t i0 latest).2]):=by
 refine PC.fact 11 wu_ (by simp) puA puA ?_;unfold nC_;refine bd ?_;have c1:=jR_ t ht hb i0;have hl:=iq_ ht i0;have hm:∀x∈bG_ t i0,0≤x∧x<t.length:=fun x hx=>by have:=er_ ht hx;omega
 unfold hj_;generalize bG_ t i0=p at *;try refine aa_ ?_
 refine ah_ c1 ?_;by_cases q0:p.length=0
 ·have e0:((p.length:Int)==0)=true:=by simp[q0]
  rw[if_pos q0];repeat(first|refine aa_ ?_|simp only[go_sem,e0])
  refine PH_ ?_
  exact af_
 have e0:((p.length:Int)==0)=false:=by rw[←Bool.not_eq_true,beq_iff_eq];omega
 rw[if_neg q0];have hmk:∀k,k<p.length→0≤p.getD k 0∧p.getD k 0<t.length:=fun k hk=>hm _ (by rw[List.getD_eq_getElem?_getD,List.getElem?_eq_getElem hk];exact List.getElem_mem hk)
 by_cases q1:latest=rt0
 ·have e1:decide (latest=rt0)=true:=decide_eq_true q1
  rw[if_pos q1];repeat(first|refine aa_ ?_|simp only[go_sem,e0])
  refine ab_ ?_;repeat(first|refine aa_ ?_|simp only[go_sem,e1])
  refine PH_ ?_
  generalize hR:cD_ (fun k=>decide ((nod t (p.getD k 0).toNat).blk.payload≠rt0)) p.length=R;refine am_ (fun i:Nat=>[(9,.int .i64 i)]) (fun i=>[.var [nA t],.var (rtc latest)]) (fun i=>p.length-i) (fun i=>i≤p.length∧R=eF_ (fun k=>decide ((nod t (p.getD k 0).toNat).blk.payload≠rt0)) (p.length-i) i) 0 ⟨Nat.zero_le _,hR.symm⟩ ?_ ?_
  ·exact QV_ [] [0,1]
  clear hR;rintro i ⟨hi,hn⟩;rw[hn];(try simp only[ao_,ar_,List.set_cons_zero,List.set_cons_succ])
  by_cases h1:i<p.length
  ·have e1:decide ((i:Int)<((p.length:Nat):Int))=true:=decide_eq_true (by omega)
   have hw:=ae_ h1 (by omega);have hgp:=gdn (k:=.i64) h1;obtain⟨x0,x1⟩:=hmk i h1;have hs1:=gm_ (p:=fun k=>decide ((nod t (p.getD k 0).toNat).blk.payload≠rt0)) h1;have hs2:=gl_ (p:=fun k=>decide ((nod t (p.getD k 0).toNat).blk.payload≠rt0)) h1;have hgd:=bD_ (t:=t) (i:=(p.getD i 0).toNat) (by omega);repeat(first|refine aa_ ?_|simp only[go_sem,e1])
   refine ac_ ?_;by_cases q2:(nod t (p.getD i 0).toNat).blk.payload=rt0
   ·have e2:decide ((nod t (p.getD i 0).toNat).blk.payload=rt0)=true:=decide_eq_true q2;rw[hs2 (decide_eq_false (fun h=>h q2))];repeat(first|refine aa_ ?_|simp only[go_sem,hgp,Nat.mul_one,hgd,e2])
    refine ab_ ?_;repeat(first|refine aa_ ?_|simp only[go_sem,hw])
    refine⟨i+1,⟨h1,rfl⟩,by omega,?_⟩;exact QV_ [] [0,1]
   ·have e2:decide ((nod t (p.getD i 0).toNat).blk.payload=rt0)=false:=decide_eq_false q2;rw[hs1 (decide_eq_true q2)];repeat(first|refine aa_ ?_|simp only[go_sem,hgp,Nat.mul_one,hgd,e2])
    refine ac_ ?_;repeat(first|refine aa_ ?_|simp only[go_sem,hgp,Nat.mul_one,hgd])
    exact af_
  ·obtain rfl:i=p.length:=by omega
   have e1:decide (((p.length:Nat):Int)<((p.length:Nat):Int))=false:=decide_eq_false (by omega);rw[gk_];repeat(first|refine aa_ ?_|simp only[go_sem,e1])
   refine PG_ ?_
   exact af_
 ·have e1:decide (latest=rt0)=false:=decide_eq_false q1
  rw[if_neg q1];have hw0:IntKind.i64.wrap ((p.length:Int)-2)=((p.length-1:Nat):Int)-1:=by rw[aF_ (by omega) (by omega)];omega
  repeat(first|refine aa_ ?_|simp only[go_sem,e0])
  refine ab_ ?_;repeat(first|refine aa_ ?_|simp only[go_sem,e1])
  refine ab_ ?_;repeat(first|refine aa_ ?_|simp only[go_sem,hw0])
  generalize hR:wU_ (fun k=>decide ((nod t (p.getD k 0).toNat).blk.payload=latest)) (p.length-1)=R;refine am_ (fun i:Nat=>[(10,.int .i64 ((i:Int)-1))]) (fun i=>[.var [nA t],.var (rtc latest)]) (fun i=>i) (fun i=>i≤p.length-1∧R=wU_ (fun k=>decide ((nod t (p.getD k 0).toNat).blk.payload=latest)) i) (p.length-1) ⟨Nat.le_refl _,hR.symm⟩ ?_ ?_
  ·exact QV_ [] [0,1]
  clear hR;rintro i ⟨hi,hn⟩;rw[hn];cases i with
  | zero =>
    rw[Pr_];try refine aa_ ?_
    refine PG_ ?_
    exact af_
  | succ i =>
    have h1:i<p.length:=by omega
    have h2:i+1<p.length:=by omega
    have e3:((i+1:Nat):Int)-1=(i:Int):=by omega
    have e4:decide ((i:Int) ≥ 0)=true:=decide_eq_true (by omega);have e5:decide ((0:Int)≤i)=true:=decide_eq_true (by omega);have hw:IntKind.i64.wrap ((i:Int)-1)=(i:Int)-1:=aF_ (by omega) (by omega);have hw2:=ae_ h2 (by omega);have hw3:IntKind.i64.wrap ((i:Int)+1)=((i+1:Nat):Int):=ae_ h1 (by omega);have hgp:=gdn (k:=.i64) h1;have hgp2:=gdn (k:=.i64) h2;obtain⟨x0,x1⟩:=hmk i h1;have hgd:=bD_ (t:=t) (i:=(p.getD i 0).toNat) (by omega);rw[e3];repeat(first|refine aa_ ?_|simp only[go_sem,e3,e4,e5])
    refine ac_ ?_;repeat(first|refine aa_ ?_|simp only[go_sem,hgp,Nat.mul_one,hgd])
    refine aW_ (fun h=>?_) (fun h=>?_)
    ·rw[Pq_ h];repeat(first|refine aa_ ?_|simp only[go_sem,hgp,hgp2,hw3,Nat.mul_one,hgd])
     exact af_
    ·rw[Pp_ h];repeat(first|refine aa_ ?_|simp only[go_sem,hw])
     refine⟨i,⟨by omega,rfl⟩,by omega,?_⟩;exact QV_ [] [0,1]
theorem Cu_(t:List Nod)(ht:cF_ t)(i0:Int)(v:Vdt)(keep:List Int)(hb:t.length≤1000000)(hk:keep.length≤1000000)(R:List Nod×Int)(hR:R=gn_ t i0 v keep):PC Tryz.prog 250 [.agg [nA t],.int .i64 i0,.agg (cl_ v),.sl 1 true (aq_ .i64 keep)] (.tup [.agg [nA R.1],.int .i64 R.2]):=by
 refine PC.fact 35 wr_ (by simp) puA puA ?_;unfold nz_;refine bd ?_;have c0:=hE_ t i0;have c1:=uR_ t ht i0 hb;have c2:=FB_ t ht i0 v.latest hb;unfold gn_ at hR;generalize hq:hj_ t i0 v.latest=q at *;obtain⟨q1,q2⟩:=q;have c4:=xR_ t ht q2 hb;have c3:=uR_ t ht q1 hb
 have c5:(cV_ t q1).2=0→PC Tryz.prog 270 [.agg [nA (cV_ t q1).1],.int .i64 q2] (.tup [.agg [nA (iO_ (cV_ t q1).1 q2).1],.int .i64 (iO_ (cV_ t q1).1 q2).2]):=fun h=>by
  obtain⟨h1,h2,_⟩:=IU_ ht h;exact xR_ _ h1 q2 (by omega)
 have ca:=fun k=>oX_ t ht hb q2 (keep.getD k 0)
 dsimp only at hR c2;generalize cV_ t i0=r1 at *;generalize cV_ t q1=r2 at *;generalize iO_ t q2=r3 at *;generalize iO_ r2.1 q2=r4 at *;obtain⟨r1a,r1b⟩:=r1;obtain⟨r2a,r2b⟩:=r2;obtain⟨r3a,r3b⟩:=r3;obtain⟨r4a,r4b⟩:=r4;dsimp only at hR c1 c3 c4 c5;try refine aa_ ?_
 refine ah_ c0 ?_;cases h0:isN t i0 with
 | false =>
   rw[if_pos h0]at hR;subst hR;try refine aa_ ?_
   refine PH_ ?_
   refine⟨_,by first|rfl|exact evd,.inr ⟨_,by(try simp only[go_sem,Nat.reduceAdd,Nat.reduceSub,Nat.reduceMul,Nat.reduceLT,Nat.reduceLeDiff,Nat.reduceEqDiff,reduceIte,Int.reduceToNat,Int.reduceLT,Int.reduceLE,Int.reduceEq,Int.reduceNeg,reduceCtorEq,Int.reduceBEq,Int.reduceBNe]);try rfl,puA,(by repeat'(first|exact Wk.refl _|exact Wk.empty _ _ _|exact Wk.open_ _ _ _|refine Wk.tup ?_|refine Wk.agg ?_|exact trivial|(intro h;first|exact h|rfl)|constructor))⟩⟩
 | true =>
   rw[if_neg (by simp[h0])]at hR;try refine aa_ ?_
   refine PG_ ?_
   by_cases k1:v.kind=1
   ·have e1:(v.kind==1)=true:=by simp[k1]
    rw[if_pos k1]at hR;subst hR;repeat(first|refine aa_ ?_|simp only[go_sem,e1])
    refine PH_ ?_
    refine Qy_ c1 ?_
    exact af_
   have e1:(v.kind==1)=false:=by simp[k1]
   rw[if_neg k1]at hR;by_cases k3:v.kind=3
   ·have e3:(v.kind==3)=true:=by simp[k3]
    rw[if_pos (.inl k3)]at hR;subst hR;repeat(first|refine aa_ ?_|simp only[go_sem,e1,e3])
    refine ab_ ?_;repeat(first|refine aa_ ?_|simp only[go_sem,e3])
    refine PH_ ?_
    refine PH_ ?_
    exact af_
   have e3:(v.kind==3)=false:=by simp[k3]
   by_cases k4:v.kind=4
   ·have e4:(v.kind==4)=true:=by simp[k4]
    rw[if_pos (.inr k4)]at hR;subst hR;repeat(first|refine aa_ ?_|simp only[go_sem,e1,e3])
    refine ab_ ?_;repeat(first|refine aa_ ?_|simp only[go_sem,e3])
    refine ab_ ?_;repeat(first|refine aa_ ?_|simp only[go_sem,e4])
    refine PH_ ?_
    exact af_
   have e4:(v.kind==4)=false:=by simp[k4]
   rw[if_neg (by simp[k3,k4])]at hR;by_cases k2:v.kind=2
   case neg=>
    have e2:(v.kind==2)=false:=by simp[k2]
    rw[if_pos k2]at hR;subst hR;repeat(first|refine aa_ ?_|simp only[go_sem,e1])
    refine ab_ ?_;repeat(first|refine aa_ ?_|simp only[go_sem,e3])
    refine ab_ ?_;repeat(first|refine aa_ ?_|simp only[go_sem,e4])
    refine ab_ ?_;repeat(first|refine aa_ ?_|simp only[go_sem,e2])
    refine PG_ ?_
    refine⟨_,by first|rfl|exact evd,.inr ⟨_,by(try simp only[go_sem,Nat.reduceAdd,Nat.reduceSub,Nat.reduceMul,Nat.reduceLT,Nat.reduceLeDiff,Nat.reduceEqDiff,reduceIte,Int.reduceToNat,Int.reduceLT,Int.reduceLE,Int.reduceEq,Int.reduceNeg,reduceCtorEq,Int.reduceBEq,Int.reduceBNe]);try rfl,puA,(by repeat'(first|exact Wk.refl _|exact Wk.empty _ _ _|exact Wk.open_ _ _ _|refine Wk.tup ?_|refine Wk.agg ?_|exact trivial|(intro h;first|exact h|rfl)|constructor))⟩⟩
   have e2:(v.kind==2)=true:=by simp[k2]
   rw[if_neg (fun h=>h k2)]at hR;repeat(first|refine aa_ ?_|simp only[go_sem,e1])
   refine ab_ ?_;repeat(first|refine aa_ ?_|simp only[go_sem,e3])
   refine ab_ ?_;repeat(first|refine aa_ ?_|simp only[go_sem,e4])
   refine ab_ ?_;repeat(first|refine aa_ ?_|simp only[go_sem,e2])
   refine PH_ ?_
   refine Qy_ c2 ?_
   generalize hA:cD_ (fun k=>db_ t q2 (keep.getD k 0)) keep.length=A at hR;refine am_ (fun i:Nat=>[(12,.int .i64 i)]) (fun i=>[.var [nA t],.var (cl_ v),.var [.sl 0 true []]]) (fun i=>keep.length-i) (fun i=>i≤keep.length∧A=eF_ (fun k=>db_ t q2 (keep.getD k 0)) (keep.length-i) i) 0 ⟨Nat.zero_le _,hA.symm⟩ ?_ ?_
   ·exact QV_ [] [0,1,2]
   clear hA;rintro i ⟨hi,hn⟩;(try simp only[ao_,ar_,List.set_cons_zero,List.set_cons_succ])
   by_cases h1:i<keep.length
   ·have e1:decide ((i:Int)<((keep.length:Nat):Int))=true:=decide_eq_true (by omega)
    have hw:=ae_ h1 (by omega);have hgk:=gdn (k:=.i64) h1;have c6:=ca i;have hs1:=gm_ (p:=fun k=>db_ t q2 (keep.getD k 0)) h1;have hs2:=gl_ (p:=fun k=>db_ t q2 (keep.getD k 0)) h1;repeat(first|refine aa_ ?_|simp only[go_sem,e1])
    refine ac_ ?_;repeat(first|refine aa_ ?_|simp only[go_sem,hgk,Nat.mul_one])
    refine au_ (c6) ?_;try refine aa_ ?_
    cases h2:db_ t q2 (keep.getD i 0)with
    | true =>
      rw[hs1 h2]at hn;rw[if_pos (by rw[hn];rfl)]at hR;subst hR;try refine aa_ ?_
      refine PH_ ?_
      refine⟨_,by first|rfl|exact evd,.inr ⟨_,by(try simp only[go_sem,Nat.reduceAdd,Nat.reduceSub,Nat.reduceMul,Nat.reduceLT,Nat.reduceLeDiff,Nat.reduceEqDiff,reduceIte,Int.reduceToNat,Int.reduceLT,Int.reduceLE,Int.reduceEq,Int.reduceNeg,reduceCtorEq,Int.reduceBEq,Int.reduceBNe]);try rfl,puA,(by repeat'(first|exact Wk.refl _|exact Wk.empty _ _ _|exact Wk.open_ _ _ _|refine Wk.tup ?_|refine Wk.agg ?_|exact trivial|(intro h;first|exact h|rfl)|constructor))⟩⟩
    | false =>
      rw[hs2 h2]at hn;try refine aa_ ?_
      refine ab_ ?_;repeat(first|refine aa_ ?_|simp only[go_sem,hw])
      refine⟨i+1,⟨h1,hn⟩,by omega,?_⟩;exact QV_ [] [0,1,2]
   ·obtain rfl:i=keep.length:=by omega
    have e1:decide (((keep.length:Nat):Int)<((keep.length:Nat):Int))=false:=decide_eq_false (by omega);rw[gk_]at hn;rw[if_neg (by rw[hn];simp)]at hR;repeat(first|refine aa_ ?_|simp only[go_sem,e1])
    refine PG_ ?_
    by_cases k5:0≤q1
    ·have e5:decide (q1 ≥ 0)=true:=decide_eq_true k5
     have e6:decide (0≤q1)=true:=decide_eq_true k5;rw[if_pos k5]at hR;repeat(first|refine aa_ ?_|simp only[go_sem,e5,e6])
     refine PH_ ?_
     refine Qy_ c3 ?_
     by_cases k6:r2b=0
     ·have e7:(r2b != 0)=false:=by simp[k6]
      rw[if_neg (by simp[k6])]at hR;subst hR;repeat(first|refine aa_ ?_|simp only[go_sem,e7])
      refine PG_ ?_
      refine Qy_ (c5 k6) ?_
      exact af_
     ·have e7:(r2b != 0)=true:=by simp[k6]
      rw[if_pos k6]at hR;subst hR;repeat(first|refine aa_ ?_|simp only[go_sem,e7])
      refine PH_ ?_
      refine⟨_,by first|rfl|exact evd,.inr ⟨_,by(try simp only[go_sem,Nat.reduceAdd,Nat.reduceSub,Nat.reduceMul,Nat.reduceLT,Nat.reduceLeDiff,Nat.reduceEqDiff,reduceIte,Int.reduceToNat,Int.reduceLT,Int.reduceLE,Int.reduceEq,Int.reduceNeg,reduceCtorEq,Int.reduceBEq,Int.reduceBNe]);try rfl,puA,(by repeat'(first|exact Wk.refl _|exact Wk.empty _ _ _|exact Wk.open_ _ _ _|refine Wk.tup ?_|refine Wk.agg ?_|exact trivial|(intro h;first|exact h|rfl)|constructor))⟩⟩
    ·have e5:decide (q1 ≥ 0)=false:=decide_eq_false k5;have e6:decide (0≤q1)=false:=decide_eq_false k5;rw[if_neg k5]at hR;subst hR;repeat(first|refine aa_ ?_|simp only[go_sem,e5,e6])
     refine PG_ ?_
     refine Qy_ c4 ?_
     exact af_
theorem EL_(t:List Nod)(ht:cF_ t)(i0:Int)(v:Vdt)(keep:List Int)(hb:t.length≤1000000)(hk:keep.length≤1000000):PC Tryz.prog 250 [.agg [nA t],.int .i64 i0,.agg (cl_ v),.sl 1 true (aq_ .i64 keep)] (.tup [.agg [nA (gn_ t i0 v keep).1],.int .i64 (gn_ t i0 v keep).2]):=Cu_ t ht i0 v keep hb hk _ rfl
end Go.Proofs.YtkgimpdgncakjaaGreat
