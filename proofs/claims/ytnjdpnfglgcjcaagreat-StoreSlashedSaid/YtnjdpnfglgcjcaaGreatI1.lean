/-
 My texts Ks, Ic, Ie, Id, Uc, joined.
-/
import Derived.Test.YtnjdpnfglgcjcaaGreatChecked
import Derived.Shelf.SortM.Plain
import Derived.Shelf.SortM.SortNone
import Derived.Ground.SlgmProg
import Derived.KernelRfl
import Derived.Test.YtnjdpnfglgcjcaaGreatW3
import Derived.Test.YtnjdpnfglgcjcaaGreatV3
set_option linter.unusedVariables false
set_option linter.unusedSimpArgs false
set_option maxRecDepth 8000
set_option maxHeartbeats 4000000
namespace Go.Proofs
open Go.Shelf
def Tryz.mSort_ren:Go.Shelf.Ren:=⟨fun|5=>223|8=>319|7=>318|19=>384|20=>385|10=>376|11=>377|12=>378|13=>379|14=>380|15=>381|16=>224|17=>382|18=>383|30=>403|31=>404|32=>405|33=>406|34=>407|35=>320|40=>410|n=>n,fun|23=>22|25=>3|3=>3|32=>92|22=>22|0=>0|44=>397|46=>23|4=>4|36=>392|35=>391|41=>179|5=>5|9=>9|53=>411|57=>328|63=>415|64=>386|n=>n,fun|n=>n⟩
theorem Tryz.mSort:Go.Proofs.SlLaysM.n5 Tryz.prog Tryz.mSort_ren where
 mixed:=by kernel_rfl
 f5 := ⟨ "slices.Sort[[]int,int]", by decide, Tryz.func223.trans (congrArg some (by kernel_rfl))⟩
 f7 := ⟨ "slices.pdqsortOrdered[int]", by decide, Tryz.func318.trans (congrArg some (by kernel_rfl))⟩
 f8:=Tryz.func319.trans (congrArg some (by kernel_rfl))
 f10 := ⟨ "slices.insertionSortOrdered[int]", by decide, Tryz.func376.trans (congrArg some (by kernel_rfl))⟩
 f11 := ⟨ "slices.heapSortOrdered[int]", by decide, Tryz.func377.trans (congrArg some (by kernel_rfl))⟩
 f12 := ⟨ "slices.breakPatternsOrdered[int]", by decide, Tryz.func378.trans (congrArg some (by kernel_rfl))⟩
 f13 := ⟨ "slices.choosePivotOrdered[int]", by decide, Tryz.func379.trans (congrArg some (by kernel_rfl))⟩
 f14 := ⟨ "slices.reverseRangeOrdered[int]", by decide, Tryz.func380.trans (congrArg some (by kernel_rfl))⟩
 f15 := ⟨ "slices.partialInsertionSortOrdered[int]", by decide, Tryz.func381.trans (congrArg some (by kernel_rfl))⟩
 f16 := ⟨ "cmp.Less[int]", by decide, Tryz.func224.trans (congrArg some (by kernel_rfl))⟩
 f17 := ⟨ "slices.partitionEqualOrdered[int]", by decide, Tryz.func382.trans (congrArg some (by kernel_rfl))⟩
 f18 := ⟨ "slices.partitionOrdered[int]", by decide, Tryz.func383.trans (congrArg some (by kernel_rfl))⟩
 f19:=Tryz.func384.trans (congrArg some (by kernel_rfl))
 f20:=Tryz.func385.trans (congrArg some (by kernel_rfl))
 f30 := ⟨ "slices.siftDownOrdered[int]", by decide, Tryz.func403.trans (congrArg some (by kernel_rfl))⟩
 f31:=Tryz.func404.trans (congrArg some (by kernel_rfl))
 f32:=Tryz.func405.trans (congrArg some (by kernel_rfl))
 f33 := ⟨ "slices.medianAdjacentOrdered[int]", by decide, Tryz.func406.trans (congrArg some (by kernel_rfl))⟩
 f34 := ⟨ "slices.medianOrdered[int]", by decide, Tryz.func407.trans (congrArg some (by kernel_rfl))⟩
 f35 := ⟨ "cmp.isNaN[int]", by decide, Tryz.func320.trans (congrArg some (by kernel_rfl))⟩
 f40 := ⟨ "slices.order2Ordered[int]", by decide, Tryz.func410.trans (congrArg some (by kernel_rfl))⟩
 t0:=Tryz.underlying0
 a0:=Tryz.isAgg0
 z0:=Tryz.sizeOf0
 v0:=Tryz.zeroValue0
 t3:=Tryz.underlying3
 a3:=Tryz.isAgg3
 z3:=Tryz.sizeOf3
 v3:=Tryz.zeroValue3
 t4:=Tryz.underlying4
 a4:=Tryz.isAgg4
 z4:=Tryz.sizeOf4
 v4:=Tryz.zeroValue4
 t5:=Tryz.underlying5
 a5:=Tryz.isAgg5
 z5:=Tryz.sizeOf5
 v5:=Tryz.zeroValue5
 t9:=Tryz.underlying9
 a9:=Tryz.isAgg9
 z9:=Tryz.sizeOf9
 v9:=Tryz.zeroValue9
 t22:=Tryz.underlying22
 a22:=Tryz.isAgg22
 z22:=Tryz.sizeOf22
 v22:=Tryz.zeroValue22
 t23:=Tryz.underlying22
 a23:=Tryz.isAgg22
 z23:=Tryz.sizeOf22
 v23:=Tryz.zeroValue22
 t25:=Tryz.underlying3
 a25:=Tryz.isAgg3
 z25:=Tryz.sizeOf3
 v25:=Tryz.zeroValue3
 t32:=Tryz.underlying92
 a32:=Tryz.isAgg92
 z32:=Tryz.sizeOf92
 v32:=Tryz.zeroValue92
 t35:=Tryz.underlying391
 a35:=Tryz.isAgg391
 z35:=Tryz.sizeOf391
 v35:=Tryz.zeroValue391
 t36:=Tryz.underlying392
 a36:=Tryz.isAgg392
 z36:=Tryz.sizeOf392
 v36:=Tryz.zeroValue392
 t41:=Tryz.underlying179
 a41:=Tryz.isAgg179
 z41:=Tryz.sizeOf179
 v41:=Tryz.zeroValue179
 t44:=Tryz.underlying397
 a44:=Tryz.isAgg397
 z44:=Tryz.sizeOf397
 v44:=Tryz.zeroValue397
 t46:=Tryz.underlying23
 a46:=Tryz.isAgg23
 z46:=Tryz.sizeOf23
 v46:=Tryz.zeroValue23
 t53:=Tryz.underlying411
 a53:=Tryz.isAgg411
 z53:=Tryz.sizeOf411
 v53:=Tryz.zeroValue411
 t57:=Tryz.underlying328
 a57:=Tryz.isAgg328
 z57:=Tryz.sizeOf328
 v57:=Tryz.zeroValue328
 t63:=Tryz.underlying415
 a63:=Tryz.isAgg415
 z63:=Tryz.sizeOf415
 v63:=Tryz.zeroValue415
 t64:=Tryz.underlying386
 a64:=Tryz.isAgg386
 z64:=Tryz.sizeOf386
 v64:=Tryz.zeroValue386
end Go.Proofs
namespace Go.Proofs.YtnjdpnfglgcjcaaGreat
open Go Go.FH Go.RowKit Go.Shelf Go.Sort
theorem V8(blk off cap:Nat)(zs:List Int)(w:World)(hH:Holds (Value.int .i64) w blk off zs.toArray)(hblk:blk<w.heap.size)(hsz:zs.length<4611686018427387904):
 Calls Tryz.prog 223 #[.slice (some ⟨blk,off,none⟩) zs.length cap] w fun e w'=>
  e=.returned (.tuple #[])∧∃n os,w'=grow (putRow (Value.int .i64) (Sort.ahead w n) blk off (zs.mergeSort fun x y=>decide (x≤y)).toArray) os:=by
 have hcon:=AnyM.slices_Sort_int Tryz.mSort blk off cap zs w hH hblk hsz;change Calls Tryz.prog 223 _ _ _ at hcon
 exact hcon
theorem J0(a:Option Addr)(cap:Nat)(w:World):Calls Tryz.prog 223 #[.slice a 0 cap] w fun e w'=>e=.returned (.tuple #[])∧w'=w:=by
 have hcon:=AnyM.slices_Sort_int_none Tryz.mSort a cap w;change Calls Tryz.prog 223 _ _ _ at hcon
 exact hcon
theorem No{E:Env}{k:IntKind}:∀ {zs:List Int} {us:List Value},RlE E 1 (ax k zs) us→us=zs.map (Value.int k)
 | [],_,h=>by simpa[ax,RlE]using h
 | z :: zs, _, h => by
   obtain⟨us,ws,rfl,h2,h3,h4⟩:=h;obtain⟨u,r,rfl,_,h5,h6⟩:=h3;simp only[RlC]at h6;subst h6;simp only[Rl]at h5;subst h5;rw[No h4];rfl
theorem AX(E:Env)(k:IntKind):∀zs:List Int,RlE E 1 (ax k zs) (zs.map (Value.int k))
 | []=>rfl
 |z::zs=>⟨[.int k z],_,rfl,rfl,⟨_,[],rfl,rfl,rfl,rfl⟩,AX E k zs⟩
theorem E5(w:World)(n blk off:Nat)(d:Array Int)(os:Array Obj){b:Nat}(hb:b<w.heap.size):(grow (putRow (Value.int .i64) (Sort.ahead w n) blk off d) os).heap[b]?=(w.heap.modify blk (onCells (putCells (Value.int .i64) off d)))[b]?:=by
 unfold grow putRow mapBlock;simp only[Array.getElem?_append,heap_ahead,Array.size_modify,hb,if_true]
theorem Z9(cs vs ws:List Value)(d:List Int)(h:vs.length=d.length):(putCells (Value.int .i64) cs.length d.toArray (cs++vs++ws).toArray)=(cs++d.map (Value.int .i64)++ws).toArray:=by
 apply Array.toList_inj.1
 apply List.ext_getElem?
 intro j;simp only[putCells,Array.toList_mapIdx,List.getElem?_mapIdx,List.size_toArray];by_cases h1:j<cs.length
 ·simp[List.getElem?_append,h1,Nat.lt_add_right,show ¬ (cs.length≤j)by omega]
 ·by_cases h2:j<cs.length+d.length
  ·simp[List.getElem?_append,h1,h2,h,show cs.length≤j by omega,show j-cs.length<d.length by omega]
  ·simp[List.getElem?_append,h1,h2,h];rw[if_neg (by omega),if_neg (by omega)]
theorem V9(zs:List Int)(hz:zs.length<4611686018427387904):aI Tryz.prog 223 [.hs 1 0 0 zs.length] [.vec 1 (ax .i64 zs)] (.tup []) [.vec 1 (ax .i64 (zs.mergeSort fun x y=>decide (x≤y)))]:=by
 refine⟨by kernel_rfl,by simp,?_⟩;intro X loc w vs hr hv;obtain⟨v,us,rfl,h1,h2⟩:=hv;simp only[RlS]at h2;subst h2;obtain⟨a,cap,L,rfl,g1,g2,g3,g4,g5⟩:=h1;have hσ:([bO.vec 1 (ax .i64 zs)]:St)[0]?=some (.vec 1 (ax .i64 zs)):=rfl;by_cases h0:zs=[]
 ·subst h0;refine(J0 a cap w).mono fun e w' ⟨he,hw⟩=>?_
  subst he hw;exact⟨_,loc,rfl,⟨fun _ _ h=>h,by simpa using hr,⟨[],rfl,rfl⟩,Ev.refl _ _,fun b hb=>.inl (by simpa using hb)⟩,fun _ _=>rfl⟩
 have hpos:0<zs.length:=List.length_pos_iff.2 h0;rcases hr.vec hσ g4 with⟨q1,q2⟩|⟨q1,cs,ms,ws,t,k2,k3,k4,k5,k6⟩
 ·exact absurd (by simpa[ax]using q2) h0
 rcases g5 with g5|⟨_,rfl,_⟩
 ·omega
 have hms:=No k5;subst hms;have hlt:L.blk<w.heap.size:=(Array.getElem?_eq_some_iff.1 k2).1
 have hH:Holds (Value.int .i64) w L.blk L.base zs.toArray:=by
  intro j hj;have hj':j<zs.length:=by simpa using hj
  refine⟨?_,?_⟩
  ·rw[Zu k2,←k3];simp[List.getElem?_append,hj',show ¬ (cs.length+j<cs.length)by omega]
  ·simp[World.frozen?,k2]
 have hc:=V8 L.blk L.base cap zs w hH hlt hz;simp only[Nat.zero_mul,Nat.add_zero];refine hc.mono fun e w' ⟨he,n,os,hw⟩=>?_
 subst he hw
 have hget:(grow (putRow (Value.int .i64) (Sort.ahead w n) L.blk L.base (zs.mergeSort fun x y=>decide (x≤y)).toArray) os).heap[L.blk]?=some (.cells (cs++(zs.mergeSort fun x y=>decide (x≤y)).map (Value.int .i64)++ws).toArray t (0,0)):=by
  rw[E5 _ _ _ _ _ _ hlt,Array.getElem?_modify,if_pos rfl,k2];simp only[Option.map_some,onCells];rw[←k3,Z9 _ _ _ _ (by simp)]
 have hev:Ev (fun b=>b=L.blk) w (grow (putRow (Value.int .i64) (Sort.ahead w n) L.blk L.base (zs.mergeSort fun x y=>decide (x≤y)).toArray) os):=by
  refine⟨?_,fun b hb hn=>?_,rfl,rfl,rfl⟩
  ·simp[grow]
  ·rw[E5 _ _ _ _ _ _ hb,Array.getElem?_modify,if_neg (fun e=>hn e.symm)]
 obtain⟨m1,m2,m3⟩:=hr.turnW hσ rfl (o':=.vec 1 (ax .i64 (zs.mergeSort fun x y=>decide (x≤y)))) rfl g4 q1 hev (fun E hE hloc hw=>.inr ⟨q1,cs,_,ws,t,by rw[hw];exact hget,k3,by simpa using k4,AX _ _ _,k6⟩);exact⟨_,loc,rfl,⟨fun _ _ h=>h,m1,⟨[],rfl,rfl⟩,m3,fun b hb=>.inl (m2 b hb)⟩,fun _ _=>rfl⟩
theorem YX(cl:Bool):PC Tryz.prog 223 [.sl 0 cl []] (.tup []):=by
 refine⟨⟨by kernel_rfl,by simp,?_⟩,⟨trivial,trivial⟩,trivial⟩;intro X loc w vs hr hv;obtain⟨v,us,rfl,h1,h2⟩:=hv;simp only[RlS]at h2;subst h2;obtain⟨a,m,cap,rfl,g1,_⟩:=h1;have:m=0:=by simpa using g1
 subst this;refine(J0 a cap w).mono fun e w' ⟨he,hw⟩=>?_
 subst he hw;exact⟨_,loc,rfl,⟨fun _ _ h=>h,hr,⟨[],rfl,rfl⟩,Ev.refl _ _,fun b hb=>.inl hb⟩,fun _ _=>rfl⟩
end Go.Proofs.YtnjdpnfglgcjcaaGreat
namespace Go.Proofs.YtnjdpnfglgcjcaaGreat
theorem F9:∀ (a b:List Int),a.Pairwise (· < ·)→b.Pairwise (· < ·)→(∀x,x∈a↔x∈b)→a=b
 | [],[],_,_,_=>rfl
 | [],y::ys,_,_,h=>by have:=(h y).2 (by simp);simp at this
 |x::xs,[],_,_,h=>by have:=(h x).1 (by simp);simp at this
 | x :: xs, y :: ys, ha, hb, h => by
   rw[List.pairwise_cons]at ha hb
   have h1:x=y:=by
    have p1:=(h x).1 (by simp);have p2:=(h y).2 (by simp);rcases List.mem_cons.1 p1 with e|e
    ·exact e
    ·rcases List.mem_cons.1 p2 with e2|e2
     ·exact e2.symm
     ·have:=ha.1 y e2;have:=hb.1 x e;omega
   subst h1;congr 1;refine F9 xs ys ha.2 hb.2 fun z=>⟨fun hz=>?_,fun hz=>?_⟩
   ·rcases List.mem_cons.1 ((h z).1 (List.mem_cons_of_mem _ hz))with e|e
    ·subst e;have:=ha.1 z hz;omega
    ·exact e
   ·rcases List.mem_cons.1 ((h z).2 (List.mem_cons_of_mem _ hz))with e|e
    ·subst e;have:=hb.1 z hz;omega
    ·exact e
theorem E7(v x:Int):∀l:List Int,x∈jj l v↔x=v∨x∈l
 | []=>by simp[jj]
 | a :: r => by
   have ih:=E7 v x r;unfold jj;split
   ·simp only[List.mem_cons,ih]
    constructor
    ·rintro (h|h|h)
     ·exact .inr (.inl h)
     ·exact .inl h
     ·exact .inr (.inr h)
    ·rintro (h|h|h)
     ·exact .inr (.inl h)
     ·exact .inl h
     ·exact .inr (.inr h)
   ·split
    ·rename_i h;subst h
     simp only[List.mem_cons];constructor
     ·exact fun h=>.inr h
     ·rintro (h|h)
      ·exact .inl h
      ·exact h
    ·simp only[List.mem_cons]
theorem tn(v:Int):∀l:List Int,l.Pairwise (· < ·)→(jj l v).Pairwise (· < ·)
 | [],_=>by simp[jj]
 | a :: r, h => by
   rw[List.pairwise_cons]at h;have ih:=tn v r h.2;unfold jj;split
   ·rename_i h1;rw[List.pairwise_cons];refine⟨fun x hx=>?_,ih⟩;rcases (E7 v x r).1 hx with e|e
    ·omega
    ·exact h.1 x e
   ·split
    ·rw[List.pairwise_cons];exact h
    ·rename_i h1 h2;rw[List.pairwise_cons,List.pairwise_cons];refine⟨fun x hx=>?_,h⟩;rcases List.mem_cons.1 hx with e|e
     ·omega
     ·have:=h.1 x e;omega
theorem IR(l m:List Int):∀i,i≤l.length→(ee l m i).Pairwise (· < ·)∧∀x,x∈ee l m i↔x∈l.take i∧x∈m
 |0,_=>⟨by simp[ee],by simp[ee]⟩
 | i + 1, h => by
   have h1:i<l.length:=h;obtain⟨g1,g2⟩:=IR l m i (by omega);have e0:l[i]=l.getD i 0:=by rw[List.getD_eq_getElem?_getD,List.getElem?_eq_getElem h1];rfl
   have ht:∀x,x∈l.take (i+1)↔x∈l.take i∨x=l.getD i 0:=by
    intro x;rw[List.take_add_one,List.getElem?_eq_getElem h1,e0];simp
   rw[K3 h1];by_cases hm:l.getD i 0∈m
   ·rw[if_pos hm]
    refine⟨tn _ _ g1,fun x=>?_⟩;rw[E7,g2,ht];constructor
    ·rintro (e|⟨e1,e2⟩)
     ·subst e;exact⟨.inr rfl,hm⟩
     ·exact⟨.inl e1,e2⟩
    ·rintro⟨e|e,e2⟩
     ·exact .inr ⟨e,e2⟩
     ·exact .inl e
   ·rw[if_neg hm]
    refine⟨g1,fun x=>?_⟩;rw[g2,ht];constructor
    ·rintro⟨e1,e2⟩;exact⟨.inl e1,e2⟩
    ·rintro⟨e|e,e2⟩
     ·exact⟨e,e2⟩
     ·subst e;exact absurd e2 hm
def upB(m:List (Int×Bool))(v:Int)(b:Bool):List (Int×Bool):=match m.findIdx? (fun p=>p.1==v)with
 |some j=>m.set j (v,b)
 |none=>m++[(v,b)]
def mp1(l:List Int)(i:Nat):List (Int×Bool):=(l.take i).foldl (fun m v=>upB m v false) []
def mp2(l m:List Int)(i:Nat):List (Int×Bool):=(m.take i).foldl (fun M v=>if (M.findIdx? (fun p=>p.1==v)).isSome then upB M v true else M) (mp1 l l.length)
theorem XX{l:List Int}{i:Nat}(h:i<l.length):mp1 l (i+1)=upB (mp1 l i) (l.getD i 0) false:=by
 have e0:l[i]=l.getD i 0:=by rw[List.getD_eq_getElem?_getD,List.getElem?_eq_getElem h];rfl
 unfold mp1;rw[List.take_add_one,List.getElem?_eq_getElem h,Option.toList_some,List.foldl_append,List.foldl_cons,List.foldl_nil,e0]
theorem aa4{l m:List Int}{i:Nat}(h:i<m.length):mp2 l m (i+1)=if ((mp2 l m i).findIdx? (fun p=>p.1==m.getD i 0)).isSome then upB (mp2 l m i) (m.getD i 0) true else mp2 l m i:=by
 have e0:m[i]=m.getD i 0:=by rw[List.getD_eq_getElem?_getD,List.getElem?_eq_getElem h];rfl
 unfold mp2;rw[List.take_add_one,List.getElem?_eq_getElem h,Option.toList_some,List.foldl_append,List.foldl_cons,List.foldl_nil,e0]
theorem AU{m:List (Int×Bool)}{v:Int}{j:Nat}(h:m.findIdx? (fun p=>p.1==v)=some j):∃q,m[j]?=some (v,q):=by
 obtain⟨h1,h2,_⟩:=List.findIdx?_eq_some_iff_getElem.1 h;refine⟨m[j].2,?_⟩;rw[List.getElem?_eq_getElem h1];have:m[j].1=v:=by simpa using h2
 rw[←this]
theorem Gs(m:List (Int×Bool))(v:Int)(b:Bool):(upB m v b).map (·.1)=if v∈m.map (·.1)then m.map (·.1)else m.map (·.1)++[v]:=by
 unfold upB;split
 ·rename_i j hj
  obtain⟨q,hq⟩:=AU hj;have hmem:v∈m.map (·.1):=List.mem_map.2 ⟨(v,q),List.mem_of_getElem? hq,rfl⟩;rw[if_pos hmem];apply List.ext_getElem?
  intro i;simp only[List.getElem?_map,List.getElem?_set];by_cases hij:j=i
  ·subst hij;have hlt:j<m.length:=(List.getElem?_eq_some_iff.1 hq).1;have e:m[j]=(v,q):=by simpa[hlt]using hq
   simp[hlt,e]
  ·simp[hij]
 ·rename_i hn
  have hmem:v∉m.map (·.1):=by
   intro hv;obtain⟨p,hp,rfl⟩:=List.mem_map.1 hv;have:=List.findIdx?_eq_none_iff.1 hn p hp;simp at this
  rw[if_neg hmem];simp
theorem IZ(m:List (Int×Bool))(v:Int):(m.findIdx? (fun p=>p.1==v)).isSome=true↔v∈m.map (·.1):=by
 rw[List.findIdx?_isSome,List.any_eq_true];simp only[List.mem_map,beq_iff_eq]
theorem TI{m:List (Int×Bool)}{v:Int}{b:Bool}(hd:(m.map (·.1)).Nodup)(k:Int)(q:Bool):(k,q)∈upB m v b↔(k=v∧q=b)∨(k≠v∧(k,q)∈m):=by
 unfold upB;split
 ·rename_i j hj
  obtain⟨q0,hq⟩:=AU hj;have hlt:j<m.length:=(List.getElem?_eq_some_iff.1 hq).1
  have uniq:∀i p,m[i]?=some p→p.1=v→i=j:=by
   intro i p hi hp;have h1:(m.map (·.1))[i]?=some v:=by rw[List.getElem?_map,hi];simp[hp]
   have h2:(m.map (·.1))[j]?=some v:=by rw[List.getElem?_map,hq];rfl
   exact(List.getElem?_inj (by rw[List.length_map];exact(List.getElem?_eq_some_iff.1 hi).1) hd).1 (by rw[h1,h2])
  constructor
  ·intro h
   obtain⟨i,hi⟩:=List.mem_iff_getElem?.1 h;rw[List.getElem?_set]at hi;by_cases hij:j=i
   ·subst hij;simp[hlt]at hi;exact .inl ⟨hi.1.symm,hi.2.symm⟩
   ·rw[if_neg hij]at hi;refine .inr ⟨fun e=>hij (uniq i _ hi e).symm,List.mem_of_getElem? hi⟩
  ·rintro (⟨rfl,rfl⟩|⟨h1,h2⟩)
   ·exact List.mem_of_getElem? (i:=j) (by simp[hlt])
   ·obtain⟨i,hi⟩:=List.mem_iff_getElem?.1 h2
    have hij:j≠i:=by
     rintro rfl;rw[hq]at hi;simp only[Option.some.injEq,Prod.mk.injEq]at hi;exact h1 hi.1.symm
    exact List.mem_of_getElem? (i:=i) (by rw[List.getElem?_set,if_neg hij];exact hi)
 ·rename_i hn
  have hno:∀p∈m,p.1≠v:=fun p hp e=>by
   have:=List.findIdx?_eq_none_iff.1 hn p hp;simp[e]at this
  rw[List.mem_append,List.mem_singleton,Prod.mk.injEq];constructor
  ·rintro (h|h)
   ·exact .inr ⟨hno _ h,h⟩
   ·exact .inl h
  ·rintro (h|h)
   ·exact .inr h
   ·exact .inl h.2
theorem y8(l:List Int):∀i,i≤l.length→((mp1 l i).map (·.1)).Nodup∧(∀x,x∈(mp1 l i).map (·.1)↔x∈l.take i)∧∀k q,(k,q)∈mp1 l i→q=false
 |0,_=>⟨by simp[mp1],by simp[mp1],by simp[mp1]⟩
 | i + 1, h => by
   have h1:i<l.length:=h;obtain⟨g1,g2,g3⟩:=y8 l i (by omega);have e0:l[i]=l.getD i 0:=by rw[List.getD_eq_getElem?_getD,List.getElem?_eq_getElem h1];rfl
   have ht:∀x,x∈l.take (i+1)↔x∈l.take i∨x=l.getD i 0:=by
    intro x;rw[List.take_add_one,List.getElem?_eq_getElem h1,e0];simp
   rw[XX h1];refine⟨?_,fun x=>?_,fun k q hk=>?_⟩
   ·rw[Gs]
    split
    ·exact g1
    ·rename_i hn;rw[List.nodup_append];refine⟨g1,by simp,fun a ha b hb=>?_⟩;simp only[List.mem_singleton]at hb;subst hb;rintro rfl;exact hn ha
   ·rw [Gs, ht]
    split
    ·rename_i hin
     rw[g2];constructor
     ·exact .inl
     ·rintro (e|e)
      ·exact e
      ·subst e;exact(g2 _).1 hin
    ·rw[List.mem_append,List.mem_singleton,g2]
   ·rcases (TI g1 k q).1 hk with⟨_,e⟩|⟨_,e⟩
    ·exact e
    ·exact g3 k q e
theorem Fw(l m:List Int):∀i,i≤m.length→(mp2 l m i).map (·.1)=(mp1 l l.length).map (·.1)∧∀k q,(k,q)∈mp2 l m i↔k∈l∧q=decide (k∈m.take i)
 | 0, _ => by
   obtain⟨g1,g2,g3⟩:=y8 l l.length (Nat.le_refl _);refine⟨rfl,fun k q=>?_⟩;show (k,q)∈mp1 l l.length↔_
   rw[List.take_length]at g2;constructor
   ·intro h;exact⟨(g2 k).1 (List.mem_map.2 ⟨_,h,rfl⟩),by simpa using g3 k q h⟩
   ·rintro⟨h1,h2⟩;obtain⟨p,hp,rfl⟩:=List.mem_map.1 ((g2 k).2 h1);have:=g3 p.1 p.2 hp;have h3:q=false:=by simpa using h2
    rw[h3,←this];exact hp
 | i + 1, h => by
   have h1:i<m.length:=h;obtain⟨g1,g2,g3⟩:=y8 l l.length (Nat.le_refl _);obtain⟨k1,k2⟩:=Fw l m i (by omega);rw[List.take_length]at g2;have e0:m[i]=m.getD i 0:=by rw[List.getD_eq_getElem?_getD,List.getElem?_eq_getElem h1];rfl
   have ht:∀x,x∈m.take (i+1)↔x∈m.take i∨x=m.getD i 0:=by
    intro x;rw[List.take_add_one,List.getElem?_eq_getElem h1,e0];simp
   rw[aa4 h1];by_cases hf:((mp2 l m i).findIdx? (fun p=>p.1==m.getD i 0)).isSome=true
   ·rw [if_pos hf]
    have hin:=(IZ _ _).1 hf;refine⟨by rw[Gs,if_pos hin,k1],fun k q=>?_⟩;rw[TI (by rw[k1];exact g1),k2];have hl:m.getD i 0∈l:=(g2 _).1 (by rw[←k1];exact hin);constructor
    ·rintro (⟨rfl,rfl⟩|⟨e1,e2,e3⟩)
     ·exact⟨hl,(decide_eq_true ((ht _).2 (.inr rfl))).symm⟩
     ·refine⟨e2,?_⟩;rw[e3];refine decide_eq_decide.2 ?_;rw[ht];simp only[e1,or_false]
    ·rintro⟨e1,e2⟩
     by_cases hk:k=m.getD i 0
     ·left
      refine⟨hk,?_⟩;rw[e2];exact decide_eq_true ((ht _).2 (.inr hk))
     ·right
      refine⟨hk,e1,?_⟩;rw[e2];refine decide_eq_decide.2 ?_;rw[ht];simp only[hk,or_false]
   ·rw[if_neg hf]
    refine⟨k1,fun k q=>?_⟩;rw[k2];have hno:m.getD i 0∉l:=fun hl=>hf ((IZ _ _).2 (by rw[k1];exact(g2 _).2 hl))
    constructor
    ·rintro⟨e1,e2⟩;refine⟨e1,?_⟩;rw[e2];refine decide_eq_decide.2 ?_;rw[ht];have:k≠m.getD i 0:=fun e=>hno (e▸e1)
     simp only[this,or_false]
    ·rintro⟨e1,e2⟩;refine⟨e1,?_⟩;rw[e2];refine decide_eq_decide.2 ?_;rw[ht];have:k≠m.getD i 0:=fun e=>hno (e▸e1)
     simp only[this,or_false]
theorem aaS(m:List (Int×Bool))(v:Int)(b:Bool):(upB m v b).length≤m.length+1:=by
 unfold upB;split<;>simp
theorem SW(l:List Int):∀i,(mp1 l i).length≤i
 |0=>by simp[mp1]
 | i + 1 => by
   have ih:=SW l i;by_cases h:i<l.length
   ·rw[XX h];have:=aaS (mp1 l i) (l.getD i 0) false;omega
   ·have:mp1 l (i+1)=mp1 l i:=by unfold mp1;rw[List.take_of_length_le (by omega),List.take_of_length_le (by omega)]
    rw[this];omega
def tJ(M:List (Int×Bool))(seen:List Nat):List Int:=seen.filterMap fun i=>(M[i]?).bind fun p=>if p.2 then some p.1 else none
theorem Yf(M:List (Int×Bool))(seen:List Nat)(i:Nat)(h:i<M.length):tJ M (seen++[i])=if M[i].2 then tJ M seen++[M[i].1]else tJ M seen:=by
 unfold tJ;rw[List.filterMap_append];simp only[List.filterMap_cons,List.filterMap_nil,List.getElem?_eq_getElem h,Option.bind_some];cases M[i].2<;>simp
theorem Ye(M:List (Int×Bool))(seen:List Nat):(tJ M seen).length≤seen.length:=List.length_filterMap_le _ _
theorem ON(l m:List Int)(seen:List Nat)(hn:seen.Nodup)(hall:∀i,i<(mp2 l m m.length).length→i∈seen):
 (tJ (mp2 l m m.length) seen).mergeSort (fun x y=>decide (x≤y))=ee l m l.length:=by
 obtain⟨g1,g2,g3⟩:=y8 l l.length (Nat.le_refl _);obtain⟨k1,k2⟩:=Fw l m m.length (Nat.le_refl _);obtain⟨c1,c2⟩:=IR l m l.length (Nat.le_refl _);rw[List.take_length]at c2 k2;generalize hM:mp2 l m m.length=M at *;have hkeys:(M.map (·.1)).Nodup:=by rw[k1];exact g1
 have hmem:∀x,x∈tJ M seen↔x∈l∧x∈m:=by
  intro x;unfold tJ;rw[List.mem_filterMap];constructor
  ·rintro⟨i,hi,h⟩
   obtain⟨p,hp,hq⟩:=Option.bind_eq_some_iff.1 h;have:=(k2 p.1 p.2).1 (List.mem_of_getElem? hp);split at hq
   ·rename_i ht;simp only[Option.some.injEq]at hq;subst hq;rw[ht]at this;exact⟨this.1,of_decide_eq_true this.2.symm⟩
   ·cases hq
  ·rintro⟨h1,h2⟩;have:(x,true)∈M:=(k2 x true).2 ⟨h1,(decide_eq_true h2).symm⟩;obtain⟨i,hi⟩:=List.mem_iff_getElem?.1 this;exact⟨i,hall i (List.getElem?_eq_some_iff.1 hi).1,by rw[hi];rfl⟩
 have hnd:(tJ M seen).Nodup:=by
  unfold tJ;clear hall hmem;induction seen with
  |nil=>simp
  | cons i r ih =>
    rw[List.nodup_cons]at hn;rw[List.filterMap_cons];split
    ·exact ih hn.2
    ·rename_i x hx;rw[List.nodup_cons];refine⟨fun hin=>?_,ih hn.2⟩;obtain⟨j,hj,hx2⟩:=List.mem_filterMap.1 hin;obtain⟨p,hp,hq⟩:=Option.bind_eq_some_iff.1 hx;obtain⟨p2,hp2,hq2⟩:=Option.bind_eq_some_iff.1 hx2;have e1:p.1=x:=by split at hq<;>simp_all
     have e2:p2.1=x:=by split at hq2<;>simp_all
     have h1:(M.map (·.1))[i]?=some x:=by rw[List.getElem?_map,hp];simp[e1]
     have h2:(M.map (·.1))[j]?=some x:=by rw[List.getElem?_map,hp2];simp[e2]
     have:i=j:=(List.getElem?_inj (by rw[List.length_map];exact(List.getElem?_eq_some_iff.1 hp).1) hkeys).1 (by rw[h1,h2]);subst this;exact hn.1 hj
 refine F9 _ _ ?_ c1 fun x=>?_
 ·have hs := List.pairwise_mergeSort (le := fun x y : Int => decide (x ≤ y)) (fun a b c h1 h2 => by simp at *; omega) (fun a b => by simp; omega) (tJ M seen)
  have hn2:((tJ M seen).mergeSort (fun x y=>decide (x≤y))).Nodup:=(List.mergeSort_perm _ _).nodup_iff.2 hnd
  exact (hs.and hn2).imp (fun {a b} h => by have h1 : a ≤ b := by simpa using h.1
                                            have h2:a≠b:=h.2;omega)
 ·rw[(List.mergeSort_perm _ _).mem_iff,hmem,c2]
theorem SQ{n i:Nat}{seen:List Nat}(hi:i<n)(hs:i∉seen):((List.range n).filter fun j=>decide (j∉seen++[i])).length<((List.range n).filter fun j=>decide (j∉seen)).length:=by
 have e:((List.range n).filter fun j=>decide (j∉seen++[i]))=((List.range n).filter fun j=>decide (j∉seen)).filter fun j=>decide (j≠i):=by
  rw[List.filter_filter];apply List.filter_congr
  intro j _;by_cases h1:j∈seen<;>by_cases h2:j=i<;>simp[h1,h2]
 rw[e];exact List.length_filter_lt_length_iff_exists.2 ⟨i,List.mem_filter.2 ⟨List.mem_range.2 hi,by simpa using hs⟩,by simp⟩
theorem Fy{seen:List Nat}{i:Nat}(h:seen.Nodup)(hi:i∉seen):(seen++[i]).Nodup:=by
 rw[List.nodup_append];refine⟨h,by simp,fun a ha b hb=>?_⟩;simp only[List.mem_singleton]at hb;subst hb;rintro rfl;exact hi ha
end Go.Proofs.YtnjdpnfglgcjcaaGreat
namespace Go.Proofs.YtnjdpnfglgcjcaaGreat
open Go Go.FH Go.RowKit
theorem IS(x:Slg)(l m:List Int)(c d:Bool)(hx:x.fst.vals=.sl 1 c (ax .i64 l))(hy:x.snd.vals=.sl 1 d (ax .i64 m))(hl:l.length≤100)(hm:m.length≤100):
 PC Tryz.prog 103 [.agg (dq x)] (.sl 1 false (ax .i64 (ee l m l.length))):=by
 obtain⟨⟨a1,a2,r1,v1⟩,⟨b1,b2,r2,v2⟩⟩:=x;dsimp only at hx hy;subst hx hy;have hp:PuL (dq ⟨⟨a1,a2,r1,.sl 1 c (ax .i64 l)⟩,⟨b1,b2,r2,.sl 1 d (ax .i64 m)⟩⟩):=(ia _).2 ⟨bj _ _,bj _ _⟩;refine PC.fact 13 qc (by simp) ⟨hp,trivial⟩ (bj _ _) ?_;unfold jH;refine bd ?_;have hmm:(List.nil:List (List AV))=mns .i64 []:=rfl;refine gon ?_
 refine gN (fun i:Nat=>⟨13,[.agg (dq ⟨⟨a1,a2,r1,.sl 1 c (ax .i64 l)⟩,⟨b1,b2,r2,.sl 1 d (ax .i64 m)⟩⟩),.ptr 0 0,.sl 0 true [],.mp 1,.dead,.dead,.dead,.dead,.dead,.dead,.dead,.dead,.dead],[(18,.int .i64 i),(17,.int .i64 l.length),(16,.sl 1 c (ax .i64 l))]⟩) (fun i=>[.var (dq ⟨⟨a1,a2,r1,.sl 1 c (ax .i64 l)⟩,⟨b1,b2,r2,.sl 1 d (ax .i64 m)⟩⟩),.map (mns .i64 (mp1 l i))]) (fun i=>l.length-i) (fun i=>i≤l.length) 0 (by omega) ?_ ?_
 ·rw[show mns .i64 (mp1 l 0)=[]from rfl];refine GC.mkT [] [0,1] (by simp) rfl (by simp) (by simp) evd evd evd
 rintro i hi;try dsimp only
 by_cases h1:i<l.length
 ·have e1:decide ((i:Int)<(l.length:Int))=true:=ak (by omega)
  have hgd:=fZ (k:=.i64) h1;have hw:=ah h1 (by omega);have hs:=XX h1;unfold upB at hs;refine bg e1 ?_;cases hf:(mp1 l i).findIdx? (fun p=>p.1==l.getD i 0)with
  | some j =>
    rw[hf]at hs;refine eW hgd Nat.mul_one hf hw ?_;refine⟨i+1,h1,by omega,?_⟩;rw[hs];refine GC.mkT [] [0,1] (by simp) rfl (by simp) (by simp) evd evd evd
  | none =>
    rw[hf]at hs;refine eW hgd Nat.mul_one hf hw ?_;refine⟨i+1,h1,by omega,?_⟩;rw[hs];refine GC.mkT [] [0,1] (by simp) rfl (by simp) (by simp) evd evd evd
 have e1:decide ((i:Int)<(l.length:Int))=false:=au (by omega);obtain rfl:i=l.length:=by omega
 refine aD e1 ?_
 refine gN (fun i:Nat=>⟨13,[.agg (dq ⟨⟨a1,a2,r1,.sl 1 c (ax .i64 l)⟩,⟨b1,b2,r2,.sl 1 d (ax .i64 m)⟩⟩),.ptr 0 0,.sl 0 true [],.mp 1,.dead,.dead,.dead,.dead,.dead,.dead,.dead,.dead,.dead],[(29,.int .i64 i),(28,.int .i64 m.length),(27,.sl 1 d (ax .i64 m))]⟩) (fun i=>[.var (dq ⟨⟨a1,a2,r1,.sl 1 c (ax .i64 l)⟩,⟨b1,b2,r2,.sl 1 d (ax .i64 m)⟩⟩),.map (mns .i64 (mp2 l m i))]) (fun i=>m.length-i) (fun i=>i≤m.length) 0 (by omega) ?_ ?_
 ·rw[show mp2 l m 0=mp1 l l.length from rfl];refine GC.mkT [] [0,1] (by simp) rfl (by simp) (by simp) evd evd evd
 rintro i hi;try dsimp only
 by_cases h1:i<m.length
 ·have e1:decide ((i:Int)<(m.length:Int))=true:=ak (by omega)
  have hgd:=fZ (k:=.i64) h1;have hw:=ah h1 (by omega);have hs:=aa4 (l:=l) h1;unfold upB at hs;refine bg e1 ?_;cases hf:(mp2 l m i).findIdx? (fun p=>p.1==m.getD i 0)with
  | some j =>
    rw[hf]at hs;simp only[Option.isSome_some,if_true]at hs;obtain⟨q,hq⟩:=AU hf;have hlt:j<(mp2 l m i).length:=(List.getElem?_eq_some_iff.1 hq).1;have hm2:=LZ .i64 (mp2 l m i) j hlt;refine I4 hgd Nat.mul_one hf hm2 ?_;refine eW hgd Nat.mul_one hf hw ?_;refine⟨i+1,h1,by omega,?_⟩;rw[hs];refine GC.mkT [] [0,1] (by simp) rfl (by simp) (by simp) evd evd evd
  | none =>
    rw[hf]at hs;simp only[Option.isSome_none,Bool.false_eq_true,if_false]at hs;refine vW hgd Nat.mul_one hf ?_;refine ap hw ?_;refine⟨i+1,h1,by omega,?_⟩;rw[hs];refine GC.mkT [] [0,1] (by simp) rfl (by simp) (by simp) evd evd evd
 have e1:decide ((i:Int)<(m.length:Int))=false:=au (by omega);obtain rfl:i=m.length:=by omega
 have hsort:=fun seen=>ON l m seen
 have hM:(mp2 l m m.length).length≤100:=by
  have h2:=congrArg List.length (Fw l m m.length (Nat.le_refl _)).1;rw[List.length_map,List.length_map]at h2;have h3:=SW l l.length;omega
 generalize mp2 l m m.length=M at *;refine aD e1 ?_
 refine gN (fun x:List Nat×Bool=>⟨13,[.agg (dq ⟨⟨a1,a2,r1,.sl 1 c (ax .i64 l)⟩,⟨b1,b2,r2,.sl 1 d (ax .i64 m)⟩⟩),.ptr 0 0,.sl 0 true [],.mp 1,.dead,.dead,.dead,.dead,.dead,.dead,if x.2 then .hs 1 3 0 (tJ M x.1).length else .sl 0 true [],.dead,.dead],[(44,.ptr 2 0)]⟩) (fun x=>.var (dq ⟨⟨a1,a2,r1,.sl 1 c (ax .i64 l)⟩,⟨b1,b2,r2,.sl 1 d (ax .i64 m)⟩⟩)::.map (mns .i64 M)::.iter 1 M.length x.1::(if x.2 then [.vec 1 (ax .i64 (tJ M x.1))]else []))
  (fun x=>((List.range M.length).filter fun j=>decide (j∉x.1)).length) (fun x=>x.1.Nodup∧x.1.length+((List.range M.length).filter fun j=>decide (j∉x.1)).length≤M.length∧(x.2=false→tJ M x.1=[])) ([],false) ⟨List.nodup_nil,(by have:=List.length_filter_le (fun j=>decide (j∉([]:List Nat))) (List.range M.length);simpa using this),fun _=>rfl⟩ ?_ ?_
 ·simp only[Bool.false_eq_true,if_false];refine GC.mkT [] [0,1,2] (by simp) rfl (by simp) (by simp) evd evd evd
 rintro⟨seen,st⟩ ⟨hn,hlt,hst⟩;dsimp only at hn hlt hst ⊢;have hlen:=Ye M seen;cases st with
 | true =>
   simp only[if_true];refine gon ?_;refine⟨fun i hi hs=>?_,fun hall=>?_⟩
   ·have hg:=LZ .i64 M i hi
    have hout:=Yf M seen i hi;have hn2:=Fy hn hs;have hmu:=SQ hi hs
    have hlt2:(seen++[i]).length+((List.range M.length).filter fun j=>decide (j∉seen++[i])).length≤M.length:=by
     rw[List.length_append];simp only[List.length_cons,List.length_nil];omega
    refine bg hg ?_;refine ap hg ?_;cases hq:M[i].2 with
    | true =>
      rw[hq]at hout;simp only[if_true]at hout;refine abX ?_;refine⟨(seen++[i],true),⟨hn2,hlt2,fun h=>(by cases h)⟩,hmu,?_⟩;simp only[if_true,hout];refine GC.mkT [] [0,1,2,4] (by simp) rfl (by simp) (by simp) evd evd evd
    | false =>
      rw[hq]at hout;simp only[Bool.false_eq_true,if_false]at hout;refine abW ?_;refine⟨(seen++[i],true),⟨hn2,hlt2,fun h=>(by cases h)⟩,hmu,?_⟩;simp only[if_true,hout];refine GC.mkT [] [0,1,2,3] (by simp) rfl (by simp) (by simp) evd evd evd
   ·have hR:=hsort seen hn hall;have cs:=V9 (tJ M seen) (by omega);rw[hR]at cs;have hRl:(ee l m l.length).length=(tJ M seen).length:=by rw[←hR,List.length_mergeSort]
    refine bh ?_;refine bP [3] (cs) evd (bx.mk' (by simp) evd) ?_;refine evg ?_;refine gon ?_;rw[←hRl];exact af
 | false =>
   simp only[Bool.false_eq_true,if_false];refine gon ?_;refine⟨fun i hi hs=>?_,fun hall=>?_⟩
   ·have hg:=LZ .i64 M i hi
    have hout:=Yf M seen i hi;have hn2:=Fy hn hs;have hmu:=SQ hi hs
    have hlt2:(seen++[i]).length+((List.range M.length).filter fun j=>decide (j∉seen++[i])).length≤M.length:=by
     rw[List.length_append];simp only[List.length_cons,List.length_nil];omega
    refine bg hg ?_;refine ap hg ?_;cases hq:M[i].2 with
    | true =>
      rw[hq]at hout;simp only[if_true]at hout;refine abX ?_;refine⟨(seen++[i],true),⟨hn2,hlt2,fun h=>(by cases h)⟩,hmu,?_⟩;simp only[if_true,hout];rw[hst rfl];refine GC.mkT [] [0,1,2,3] (by simp) rfl (by simp) (by simp) evd evd evd
    | false =>
      rw[hq]at hout;simp only[Bool.false_eq_true,if_false]at hout;refine abW ?_;refine⟨(seen++[i],false),⟨hn2,hlt2,fun h=>(by dsimp only;rw[hout];exact hst rfl)⟩,hmu,?_⟩;simp only[Bool.false_eq_true,if_false,hout];refine GC.mkT [] [0,1,2] (by simp) rfl (by simp) (by simp) evd evd evd
   ·have hR:=hsort seen hn hall;rw[hst rfl,List.mergeSort_nil]at hR;rw[←hR];refine bh ?_;refine acT (YX true) ?_;refine⟨_,by first|rfl|exact evd,.inr ⟨.sl 0 true [],evd,trivial,Wk.empty _ _ _⟩⟩
theorem tW(a b:Clm)(ha:a.good=true)(hb:b.good=true)(pa:a.Pure)(pb:b.Pure):PC Tryz.prog 314 [.agg (de a),.agg (de b)] (.bool (sur a b)):=by
 refine PC.fact 5 pl (by simp) ⟨(i5 a).2 pa,(i5 b).2 pb,trivial⟩ trivial ?_;unfold jb sur;refine bd ?_;cases e1:decide (a.src<b.src)with
 | false =>
   refine cZ ha hb e1 ?_;exact af
 | true =>
   refine cZ ha hb e1 ?_;exact af
theorem F5(a b:Clm)(ha:a.good=true)(hb:b.good=true)(pa:a.Pure)(pb:b.Pure)(D:Bool)(ts:List (Nat×AV)):Tri Tryz.prog 36 0 (bL.tl 2) (PQ [.tmp 4] (.bool (D || sur a b || sur b a))) ⟨6,[.agg (de a),.agg (de b),.ptr 0 0,.ptr 1 0,.bool false,.bool D],ts⟩ [.var (de a),.var (de b)]:=by
 unfold bL;refine bd ?_;simp only[ab.tl];have c1:=tW a b ha hb pa pb;have c2:=tW b a hb ha pb pa;cases D with
 | true =>
   refine gon ?_;exact af
 | false =>
   generalize hs:sur a b=s1 at *;cases s1 with
   | true =>
     refine gon ?_;refine acT c1 ?_;exact af
   | false =>
     refine gon ?_;refine acT c1 ?_;refine acT c2 ?_;exact af
theorem F6(a b:Clm)(ha:a.good=true)(hb:b.good=true)(pa:a.Pure)(pb:b.Pure):PC Tryz.prog 216 [.agg (de a),.agg (de b)] (.bool (slb a b)):=by
 refine PC.fact 6 pi (by simp) ⟨(i5 a).2 pa,(i5 b).2 pb,trivial⟩ trivial ?_;have tl:=F5 a b ha hb pa pb;have hc:bL=.seq bL.hd (.seq (bL.tl 1).hd (bL.tl 2)):=rfl;rw[hc];generalize bL.tl 2=cT at *;unfold bL slb dbl;refine bd ?_;simp only[ab.tl,ab.hd];cases e1:(a.tgt==b.tgt)with
 | false =>
   refine cZ ha hb e1 ?_;exact tl _ _
 | true =>
   cases e2:(a.src != b.src)with
   | true =>
     refine eW ha hb e1 e2 ?_;exact tl _ _
   | false =>
     refine eW ha hb e1 e2 ?_;exact tl _ _
theorem Rz(l m:List Int)(c d:Bool)(n a1 a2 b1 b2:Int)(r1 r2:Rt)(hl:l.length≤100)(hm:m.length≤100)(ts:List (Nat×AV)):
 Tri Tryz.prog 54 0 (bQ.tl 2) (PQ [.tmp 4] (.int .i64 (if a2<a1∨b2<b1 then 2 else if slb ⟨a1,a2,r1,.sl 1 c (ax .i64 l)⟩ ⟨b1,b2,r2,.sl 1 d (ax .i64 m)⟩=false∨ee l m l.length=[]then 20 else 0)))
  ⟨8,[.agg (dq ⟨⟨a1,a2,r1,.sl 1 c (ax .i64 l)⟩,⟨b1,b2,r2,.sl 1 d (ax .i64 m)⟩⟩),.int .i64 n,.ptr 0 0,.dead,.int .i64 0,.dead,.dead,.dead],ts⟩ [.var (dq ⟨⟨a1,a2,r1,.sl 1 c (ax .i64 l)⟩,⟨b1,b2,r2,.sl 1 d (ax .i64 m)⟩⟩)]:=by
 have cu:=IS ⟨⟨a1,a2,r1,.sl 1 c (ax .i64 l)⟩,⟨b1,b2,r2,.sl 1 d (ax .i64 m)⟩⟩ l m c d rfl rfl hl hm;have sl:=F6 ⟨a1,a2,r1,.sl 1 c (ax .i64 l)⟩ ⟨b1,b2,r2,.sl 1 d (ax .i64 m)⟩ rfl rfl (bj _ _) (bj _ _);unfold bQ;refine bd ?_;simp only[ab.tl];generalize slb ⟨a1,a2,r1,.sl 1 c (ax .i64 l)⟩ ⟨b1,b2,r2,.sl 1 d (ax .i64 m)⟩=S at *;generalize ee l m l.length=R at *;by_cases q3:a2<a1
 ·have e3:=ak q3;rw[if_pos (.inl q3)];refine aE e3 ?_;exact af
 have e3:=au q3;by_cases q4:b2<b1
 ·have e4:=ak q4;rw[if_pos (.inr q4)];refine cn e3 e4 ?_;exact af
 have e4:=au q4;rw[if_neg (fun h=>h.elim q3 q4)];refine eC e3 e4 ?_;refine ai sl ?_;cases S with
 | false =>
   rw[if_pos (.inl rfl)];refine aV ?_;exact af
 | true =>
   refine gon ?_;refine ai cu ?_;by_cases q5:R=[]
   ·subst q5;rw[if_pos rfl];refine aV ?_;exact af
   ·have e5:((R.length:Int)==0)=false:=by
     rw[←Bool.not_eq_true,beq_iff_eq];have:=List.length_pos_iff.2 q5;omega
    rw[if_neg (by simp[q5])];refine aD e5 ?_;exact af
theorem RA(x:Slg)(l m:List Int)(c d:Bool)(n:Int)(hx:x.fst.vals=.sl 1 c (ax .i64 l))(hy:x.snd.vals=.sl 1 d (ax .i64 m))(hl:l.length≤100)(hm:m.length≤100):
 PC Tryz.prog 101 [.agg (dq x),.int .i64 n] (.int .i64 (evE x l m n)):=by
 obtain⟨⟨a1,a2,r1,v1⟩,⟨b1,b2,r2,v2⟩⟩:=x;dsimp only at hx hy;subst hx hy;have tl:=Rz l m c d n a1 a2 b1 b2 r1 r2 hl hm;have w1:=ou l c n (by omega);have w2:=ou m d n (by omega);refine PC.fact 8 qd (by simp) ⟨(ia _).2 ⟨bj _ _,bj _ _⟩,trivial,trivial⟩ trivial ?_;have hc:bQ=.seq bQ.hd (.seq (bQ.tl 1).hd (bQ.tl 2)):=rfl;rw[hc];clear hc;generalize bQ.tl 2=cT at *;unfold bQ evE;refine bd ?_;simp only[ab.tl,ab.hd];refine gon ?_;refine Sr 3 (Y7 ?_);refine aV ?_;refine ai w1 ?_;by_cases q1:dr l n=0
 case neg=>
  have e1:(dr l n != 0)=true:=by rw[bne_iff_ne];exact q1
  rw[if_pos q1];refine aE e1 ?_;exact af
 rw[if_neg (fun h=>h q1),q1];refine bh ?_;refine Y7 ?_;refine aV ?_;refine ai w2 ?_;by_cases q2:dr m n=0
 case neg=>
  have e1:(dr m n != 0)=true:=by rw[bne_iff_ne];exact q2
  rw[if_pos q2];refine aE e1 ?_;exact af
 rw[if_neg (fun h=>h q2),q2];refine bh ?_;refine Y7 ?_;refine dk ?_;refine kE ?_;simp only[go_sem];refine dR ?_ (tl []);exact adk [] [0]
end Go.Proofs.YtnjdpnfglgcjcaaGreat
