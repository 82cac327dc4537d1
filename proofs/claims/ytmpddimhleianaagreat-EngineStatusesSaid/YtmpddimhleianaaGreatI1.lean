/- Joined. -/
import Derived.Test.YtmpddimhleianaaGreatW3
import Derived.Test.YtmpddimhleianaaGreatChecked
import Derived.Test.YtmpddimhleianaaGreatI0
import Derived.KernelRfl
import Derived.Test.YtmpddimhleianaaGreatV3
set_option linter.unusedVariables false
set_option linter.unusedSimpArgs false
set_option maxRecDepth 8000
set_option maxHeartbeats 4000000
namespace Go.Proofs.YtmpddimhleianaaGreat
open Go Go.FH Go.RowKit Go.Shelf Go.Sort
theorem OM(blk off cap:Nat)(zs:List Int)(w:World)(hH:Holds (Value.int .i64) w blk off zs.toArray)(hblk:blk<w.heap.size)(hsz:zs.length<4611686018427387904):
 Calls Tryz.prog 264 #[.slice (some ⟨blk,off,none⟩) zs.length cap] w fun e w'=>
  e=.returned (.tuple #[])/\∃n os,w'=grow (putRow (Value.int .i64) (Sort.ahead w n) blk off (zs.mergeSort fun x y=>decide (x<=y)).toArray) os:=by
 have hcon:=AnyM.slices_Sort_int Tryz.mSort blk off cap zs w hH hblk hsz;change Calls Tryz.prog 264 _ _ _ at hcon
 exact hcon
theorem AO(a:Option Addr)(cap:Nat)(w:World):Calls Tryz.prog 264 #[.slice a 0 cap] w fun e w'=>e=.returned (.tuple #[])/\w'=w:=by
 have hcon:=AnyM.slices_Sort_int_none Tryz.mSort a cap w;change Calls Tryz.prog 264 _ _ _ at hcon
 exact hcon
theorem CI{E:Env}{k:IntKind}:∀ {zs:List Int} {us:List Value},RlE E 1 (aH k zs) us->us=zs.map (Value.int k)
 | [],_,h=>by simpa[aH,RlE]using h
 | z :: zs, _, h => by
   obtain⟨us,ws,rfl,h2,h3,h4⟩:=h;obtain⟨u,r,rfl,_,h5,h6⟩:=h3;simp only[RlC]at h6;subst h6;simp only[Rl]at h5;subst h5;rw[CI h4];rfl
theorem sb(E:Env)(k:IntKind):∀zs:List Int,RlE E 1 (aH k zs) (zs.map (Value.int k))
 | []=>rfl
 |z::zs=>⟨[.int k z],_,rfl,rfl,⟨_,[],rfl,rfl,rfl,rfl⟩,sb E k zs⟩
theorem tH(w:World)(n blk off:Nat)(d:Array Int)(os:Array Obj){b:Nat}(hb:b<w.heap.size):(grow (putRow (Value.int .i64) (Sort.ahead w n) blk off d) os).heap[b]?=(w.heap.modify blk (onCells (putCells (Value.int .i64) off d)))[b]?:=by
 unfold grow putRow mapBlock;simp only[Array.getElem?_append,heap_ahead,Array.size_modify,hb,amt]
theorem R0(cs vs ws:List Value)(d:List Int)(h:vs.length=d.length):(putCells (Value.int .i64) cs.length d.toArray (cs++vs++ws).toArray)=(cs++d.map (Value.int .i64)++ws).toArray:=by
 apply amL.1
 apply akb
 intro j;simp only[putCells,Array.toList_mapIdx,List.getElem?_mapIdx,akr];by_cases h1:j<cs.length
 ·simp[aj2,h1,Nat.lt_add_right,show ¬ (cs.length<=j)by omega]
 ·by_cases h2:j<cs.length+d.length
  ·simp[aj2,h1,h2,h,show cs.length<=j by omega,show j-cs.length<d.length by omega]
  ·simp[aj2,h1,h2,h];rw[al5 WL,al5 WL]
theorem ON(zs:List Int)(hz:zs.length<4611686018427387904):ay Tryz.prog 264 [.hs 1 0 0 zs.length] [.vec 1 (aH .i64 zs)] (.tup []) [.vec 1 (aH .i64 (zs.mergeSort fun x y=>decide (x<=y)))]:=by
 refine⟨by kernel_rfl,WM,?_⟩;intro X loc w vs hr hv;obtain⟨v,us,rfl,h1,h2⟩:=hv;simp only[RlS]at h2;subst h2;obtain⟨a,cap,L,rfl,g1,g2,g3,g4,g5⟩:=h1;have hσ:([cn.vec 1 (aH .i64 zs)]:St)[0]?=some (.vec 1 (aH .i64 zs)):=rfl;by_cases h0:zs=[]
 ·subst h0;refine(AO a cap w).mono fun e w' ⟨he,hw⟩=>?_
  subst he hw;exact⟨_,loc,rfl,⟨fun _ _ h=>h,by simpa using hr,⟨[],rfl,rfl⟩,Ev.refl _ _,fun b hb=>.inl (by simpa using hb)⟩,fun _ _=>rfl⟩
 have hpos:0<zs.length:=ajX.2 h0;rcases hr.vec hσ g4 with⟨q1,q2⟩|⟨q1,cs,ms,ws,t,k2,k3,k4,k5,k6⟩
 ·exact absurd (by simpa[aH]using q2) h0
 rcases g5 with g5|⟨_,rfl,_⟩
 ·omega
 have hms:=CI k5;subst hms;have hlt:L.blk<w.heap.size:=(ajy.1 k2).1
 have hH:Holds (Value.int .i64) w L.blk L.base zs.toArray:=by
  intro j hj;have hj':j<zs.length:=by simpa using hj
  refine⟨?_,?_⟩
  ·rw[Q3 k2,<-k3];simp[aj2,hj',show ¬ (cs.length+j<cs.length)by omega]
  ·simp[World.frozen?,k2]
 have hc:=OM L.blk L.base cap zs w hH hlt hz;simp only[Nat.zero_mul,ajV];refine hc.mono fun e w' ⟨he,n,os,hw⟩=>?_
 subst he hw
 have hget:(grow (putRow (Value.int .i64) (Sort.ahead w n) L.blk L.base (zs.mergeSort fun x y=>decide (x<=y)).toArray) os).heap[L.blk]?=some (.cells (cs++(zs.mergeSort fun x y=>decide (x<=y)).map (Value.int .i64)++ws).toArray t (0,0)):=by
  rw[tH _ _ _ _ _ _ hlt,Array.getElem?_modify,al7 rfl,k2];simp only[akd,onCells];rw[<-k3,R0 _ _ _ _ WM]
 have hev:Ev (fun b=>b=L.blk) w (grow (putRow (Value.int .i64) (Sort.ahead w n) L.blk L.base (zs.mergeSort fun x y=>decide (x<=y)).toArray) os):=by
  refine⟨?_,fun b hb hn=>?_,rfl,rfl,rfl⟩
  ·simp[grow]
  ·rw[tH _ _ _ _ _ _ hb,Array.getElem?_modify,al5 (fun e=>hn e.symm)]
 obtain⟨m1,m2,m3⟩:=hr.turnW hσ rfl (o':=.vec 1 (aH .i64 (zs.mergeSort fun x y=>decide (x<=y)))) rfl g4 q1 hev (fun E hE hloc hw=>.inr ⟨q1,cs,_,ws,t,by rw[hw];exact hget,k3,by simpa using k4,sb _ _ _,k6⟩);exact⟨_,loc,rfl,⟨fun _ _ h=>h,m1,⟨[],rfl,rfl⟩,m3,fun b hb=>.inl (m2 b hb)⟩,fun _ _=>rfl⟩
theorem QD(cl:Bool):PC Tryz.prog 264 [.sl 0 cl []] (.tup []):=by
 refine⟨⟨by kernel_rfl,WM,?_⟩,⟨trivial,trivial⟩,trivial⟩;intro X loc w vs hr hv;obtain⟨v,us,rfl,h1,h2⟩:=hv;simp only[RlS]at h2;subst h2;obtain⟨a,m,cap,rfl,g1,_⟩:=h1;have:m=0:=by simpa using g1
 subst this;refine(AO a cap w).mono fun e w' ⟨he,hw⟩=>?_
 subst he hw;exact⟨_,loc,rfl,⟨fun _ _ h=>h,hr,⟨[],rfl,rfl⟩,Ev.refl _ _,fun b hb=>.inl hb⟩,fun _ _=>rfl⟩
end Go.Proofs.YtmpddimhleianaaGreat
namespace Go.Proofs.YtmpddimhleianaaGreat
open Go
open FH
theorem I2:∀ (a b:List Int),a.Pairwise (· < ·)->b.Pairwise (· < ·)->(∀x,x∈a↔x∈b)->a=b
 | [],[],_,_,_=>rfl
 | [],y::ys,_,_,h=>by have:=(h y).2 WM;simp at this
 |x::xs,[],_,_,h=>by have:=(h x).1 WM;simp at this
 | x :: xs, y :: ys, ha, hb, h => by
   rw[aj8]at ha hb
   have h1:x=y:=by
    have p1:=(h x).1 WM;have p2:=(h y).2 WM;rcases ajo.1 p1 with e|e
    ·exact e
    ·rcases ajo.1 p2 with e2|e2
     ·exact e2.symm
     ·have:=ha.1 y e2;have:=hb.1 x e;omega
   subst h1;congr 1;refine I2 xs ys ha.2 hb.2 fun z=>⟨fun hz=>?_,fun hz=>?_⟩
   ·rcases ajo.1 ((h z).1 (amM _ hz))with e|e
    ·subst e;have:=ha.1 z hz;omega
    ·exact e
   ·rcases ajo.1 ((h z).2 (amM _ hz))with e|e
    ·subst e;have:=hb.1 z hz;omega
    ·exact e
theorem tX(v x:Int):∀l:List Int,x∈pX l v↔x=v\/x∈l
 | []=>by simp[pX]
 | a :: r => by
   have ih:=tX v x r;unfold pX;split
   ·simp only[ajo,ih]
    constructor
    ·rintro (h|h|h)
     ·exact .inr (.inl h)
     ·exact .inl h
     ·exact .inr (.inr h)
    ·rintro (h|h|h)
     ·exact .inr (.inl h)
     ·exact .inl h
     ·exact .inr (.inr h)
   ·split
    ·rename_i h;subst h
     simp only[ajo];constructor
     ·exact fun h=>.inr h
     ·rintro (h|h)
      ·exact .inl h
      ·exact h
    ·simp only[ajo]
theorem lM(v:Int):∀l:List Int,l.Pairwise (· < ·)->(pX l v).Pairwise (· < ·)
 | [],_=>by simp[pX]
 | a :: r, h => by
   rw[aj8]at h;have ih:=lM v r h.2;unfold pX;split
   ·rename_i h1;rw[aj8];refine⟨fun x hx=>?_,ih⟩;rcases (tX v x r).1 hx with e|e
    ·omega
    ·exact h.1 x e
   ·split
    ·rw[aj8];exact h
    ·rename_i h1 h2;rw[aj8,aj8];refine⟨fun x hx=>?_,h⟩;rcases ajo.1 hx with e|e
     ·omega
     ·have:=h.1 x e;omega
theorem yk(l m:List Int):∀i,i<=l.length->(kr l m i).Pairwise (· < ·)/\∀x,x∈kr l m i↔x∈l.take i/\x∈m
 |0,_=>⟨by simp[kr],by simp[kr]⟩
 | i + 1, h => by
   have h1:i<l.length:=h;obtain⟨g1,g2⟩:=yk l m i WL;have e0:l[i]=l.getD i 0:=by rw[alt,al6 h1];rfl
   have ht:∀x,x∈l.take (i+1)↔x∈l.take i\/x=l.getD i 0:=by
    intro x;rw[amY,al6 h1,e0];simp
   rw[DG h1];by_cases hm:l.getD i 0∈m
   ·rw[al7 hm]
    refine⟨lM _ _ g1,fun x=>?_⟩;rw[tX,g2,ht];constructor
    ·rintro (e|⟨e1,e2⟩)
     ·subst e;exact⟨.inr rfl,hm⟩
     ·exact⟨.inl e1,e2⟩
    ·rintro⟨e|e,e2⟩
     ·exact .inr ⟨e,e2⟩
     ·exact .inl e
   ·rw[al5 hm]
    refine⟨g1,fun x=>?_⟩;rw[g2,ht];constructor
    ·rintro⟨e1,e2⟩;exact⟨.inl e1,e2⟩
    ·rintro⟨e|e,e2⟩
     ·exact⟨e,e2⟩
     ·subst e;exact absurd e2 hm
def upB(m:List (Int×Bool))(v:Int)(b:Bool):List (Int×Bool):=match m.findIdx? (fun p=>p.1==v)with
 |some j=>m.set j (v,b)
 |none=>m++[(v,b)]
def mp1(l:List Int)(i:Nat):List (Int×Bool):=(l.take i).foldl (fun m v=>upB m v false) []
def mp2(l m:List Int)(i:Nat):List (Int×Bool):=(m.take i).foldl (fun M v=>if (M.findIdx? (fun p=>p.1==v)).isSome then upB M v true else M) (mp1 l l.length)
theorem P7{l:List Int}{i:Nat}(h:i<l.length):mp1 l (i+1)=upB (mp1 l i) (l.getD i 0) false:=by
 have e0:l[i]=l.getD i 0:=by rw[alt,al6 h];rfl
 unfold mp1;rw[amY,al6 h,ak1,Wu,akY,WK,e0]
theorem Sf{l m:List Int}{i:Nat}(h:i<m.length):mp2 l m (i+1)=if ((mp2 l m i).findIdx? (fun p=>p.1==m.getD i 0)).isSome then upB (mp2 l m i) (m.getD i 0) true else mp2 l m i:=by
 have e0:m[i]=m.getD i 0:=by rw[alt,al6 h];rfl
 unfold mp2;rw[amY,al6 h,ak1,Wu,akY,WK,e0]
theorem rY{m:List (Int×Bool)}{v:Int}{j:Nat}(h:m.findIdx? (fun p=>p.1==v)=some j):∃q,m[j]?=some (v,q):=by
 obtain⟨h1,h2,_⟩:=ak4.1 h;refine⟨m[j].2,?_⟩;rw[al6 h1];have:m[j].1=v:=by simpa using h2
 rw[<-this]
theorem xP(m:List (Int×Bool))(v:Int)(b:Bool):(upB m v b).map (·.1)=if v∈m.map (·.1)then m.map (·.1)else m.map (·.1)++[v]:=by
 unfold upB;split
 ·rename_i j hj
  obtain⟨q,hq⟩:=rY hj;have hmem:v∈m.map (·.1):=amV.2 ⟨(v,q),ajE hq,rfl⟩;rw[al7 hmem];apply akb
  intro i;simp only[ajv,ak8];by_cases hij:j=i
  ·subst hij;have hlt:j<m.length:=(aml.1 hq).1;have e:m[j]=(v,q):=by simpa[hlt]using hq
   simp[hlt,e]
  ·simp[hij]
 ·rename_i hn
  have hmem:v∉m.map (·.1):=by
   intro hv;obtain⟨p,hp,rfl⟩:=amV.1 hv;have:=List.findIdx?_eq_none_iff.1 hn p hp;simp at this
  rw[al5 hmem];simp
theorem zj(m:List (Int×Bool))(v:Int):(m.findIdx? (fun p=>p.1==v)).isSome=true↔v∈m.map (·.1):=by
 rw[List.findIdx?_isSome,alg];simp only[amV,am0]
theorem LA{m:List (Int×Bool)}{v:Int}{b:Bool}(hd:(m.map (·.1)).Nodup)(k:Int)(q:Bool):(k,q)∈upB m v b↔(k=v/\q=b)\/(k≠v/\(k,q)∈m):=by
 unfold upB;split
 ·rename_i j hj
  obtain⟨q0,hq⟩:=rY hj;have hlt:j<m.length:=(aml.1 hq).1
  have uniq:∀i p,m[i]?=some p->p.1=v->i=j:=by
   intro i p hi hp;have h1:(m.map (·.1))[i]?=some v:=by rw[ajv,hi];simp[hp]
   have h2:(m.map (·.1))[j]?=some v:=by rw[ajv,hq];rfl
   exact(List.getElem?_inj (by rw[akn];exact(aml.1 hi).1) hd).1 (by rw[h1,h2])
  constructor
  ·intro h
   obtain⟨i,hi⟩:=WA.1 h;rw[ak8]at hi;by_cases hij:j=i
   ·subst hij;simp[hlt]at hi;exact .inl ⟨hi.1.symm,hi.2.symm⟩
   ·rw[al5 hij]at hi;refine .inr ⟨fun e=>hij (uniq i _ hi e).symm,ajE hi⟩
  ·rintro (⟨rfl,rfl⟩|⟨h1,h2⟩)
   ·exact ajE (i:=j) (by simp[hlt])
   ·obtain⟨i,hi⟩:=WA.1 h2
    have hij:j≠i:=by
     rintro rfl;rw[hq]at hi;simp only[al9,ajR]at hi;exact h1 hi.1.symm
    exact ajE (i:=i) (by rw[ak8,al5 hij];exact hi)
 ·rename_i hn
  have hno:∀p∈m,p.1≠v:=fun p hp e=>by
   have:=List.findIdx?_eq_none_iff.1 hn p hp;simp[e]at this
  rw[amm,amn,ajR];constructor
  ·rintro (h|h)
   ·exact .inr ⟨hno _ h,h⟩
   ·exact .inl h
  ·rintro (h|h)
   ·exact .inr h
   ·exact .inl h.2
theorem pV(l:List Int):∀i,i<=l.length->((mp1 l i).map (·.1)).Nodup/\(∀x,x∈(mp1 l i).map (·.1)↔x∈l.take i)/\∀k q,(k,q)∈mp1 l i->q=false
 |0,_=>⟨by simp[mp1],by simp[mp1],by simp[mp1]⟩
 | i + 1, h => by
   have h1:i<l.length:=h;obtain⟨g1,g2,g3⟩:=pV l i WL;have e0:l[i]=l.getD i 0:=by rw[alt,al6 h1];rfl
   have ht:∀x,x∈l.take (i+1)↔x∈l.take i\/x=l.getD i 0:=by
    intro x;rw[amY,al6 h1,e0];simp
   rw[P7 h1];refine⟨?_,fun x=>?_,fun k q hk=>?_⟩
   ·rw[xP]
    split
    ·exact g1
    ·rename_i hn;rw[List.nodup_append];refine⟨g1,WM,fun a ha b hb=>?_⟩;simp only[amn]at hb;subst hb;rintro rfl;exact hn ha
   ·rw [xP, ht]
    split
    ·rename_i hin
     rw[g2];constructor
     ·exact .inl
     ·rintro (e|e)
      ·exact e
      ·subst e;exact(g2 _).1 hin
    ·rw[amm,amn,g2]
   ·rcases (LA g1 k q).1 hk with⟨_,e⟩|⟨_,e⟩
    ·exact e
    ·exact g3 k q e
theorem HW(l m:List Int):∀i,i<=m.length->(mp2 l m i).map (·.1)=(mp1 l l.length).map (·.1)/\∀k q,(k,q)∈mp2 l m i↔k∈l/\q=decide (k∈m.take i)
 | 0, _ => by
   obtain⟨g1,g2,g3⟩:=pV l l.length (amb _);refine⟨rfl,fun k q=>?_⟩;show (k,q)∈mp1 l l.length↔_
   rw[ajp]at g2;constructor
   ·intro h;exact⟨(g2 k).1 (amV.2 ⟨_,h,rfl⟩),by simpa using g3 k q h⟩
   ·rintro⟨h1,h2⟩;obtain⟨p,hp,rfl⟩:=amV.1 ((g2 k).2 h1);have:=g3 p.1 p.2 hp;have h3:q=false:=by simpa using h2
    rw[h3,<-this];exact hp
 | i + 1, h => by
   have h1:i<m.length:=h;obtain⟨g1,g2,g3⟩:=pV l l.length (amb _);obtain⟨k1,k2⟩:=HW l m i WL;rw[ajp]at g2;have e0:m[i]=m.getD i 0:=by rw[alt,al6 h1];rfl
   have ht:∀x,x∈m.take (i+1)↔x∈m.take i\/x=m.getD i 0:=by
    intro x;rw[amY,al6 h1,e0];simp
   rw[Sf h1];by_cases hf:((mp2 l m i).findIdx? (fun p=>p.1==m.getD i 0)).isSome=true
   ·rw [al7 hf]
    have hin:=(zj _ _).1 hf;refine⟨by rw[xP,al7 hin,k1],fun k q=>?_⟩;rw[LA (by rw[k1];exact g1),k2];have hl:m.getD i 0∈l:=(g2 _).1 (by rw[<-k1];exact hin);constructor
    ·rintro (⟨rfl,rfl⟩|⟨e1,e2,e3⟩)
     ·exact⟨hl,(Wx ((ht _).2 (.inr rfl))).symm⟩
     ·refine⟨e2,?_⟩;rw[e3];refine ald.2 ?_;rw[ht];simp only[e1,al0]
    ·rintro⟨e1,e2⟩
     by_cases hk:k=m.getD i 0
     ·left
      refine⟨hk,?_⟩;rw[e2];exact Wx ((ht _).2 (.inr hk))
     ·right
      refine⟨hk,e1,?_⟩;rw[e2];refine ald.2 ?_;rw[ht];simp only[hk,al0]
   ·rw[al5 hf]
    refine⟨k1,fun k q=>?_⟩;rw[k2];have hno:m.getD i 0∉l:=fun hl=>hf ((zj _ _).2 (by rw[k1];exact(g2 _).2 hl))
    constructor
    ·rintro⟨e1,e2⟩;refine⟨e1,?_⟩;rw[e2];refine ald.2 ?_;rw[ht];have:k≠m.getD i 0:=fun e=>hno (e▸e1)
     simp only[this,al0]
    ·rintro⟨e1,e2⟩;refine⟨e1,?_⟩;rw[e2];refine ald.2 ?_;rw[ht];have:k≠m.getD i 0:=fun e=>hno (e▸e1)
     simp only[this,al0]
theorem R9(m:List (Int×Bool))(v:Int)(b:Bool):(upB m v b).length<=m.length+1:=by
 unfold upB;split<;>simp
theorem KB(l:List Int):∀i,(mp1 l i).length<=i
 |0=>by simp[mp1]
 | i + 1 => by
   have ih:=KB l i;by_cases h:i<l.length
   ·rw[P7 h];have:=R9 (mp1 l i) (l.getD i 0) false;omega
   ·have:mp1 l (i+1)=mp1 l i:=by unfold mp1;rw[amf WL,amf WL]
    rw[this];omega
def lU(M:List (Int×Bool))(seen:List Nat):List Int:=seen.filterMap fun i=>(M[i]?).bind fun p=>if p.2 then some p.1 else none
theorem Qf(M:List (Int×Bool))(seen:List Nat)(i:Nat)(h:i<M.length):lU M (seen++[i])=if M[i].2 then lU M seen++[M[i].1]else lU M seen:=by
 unfold lU;rw[List.filterMap_append];simp only[List.filterMap_cons,List.filterMap_nil,al6 h,ale];cases M[i].2<;>simp
theorem Qe(M:List (Int×Bool))(seen:List Nat):(lU M seen).length<=seen.length:=List.length_filterMap_le _ _
theorem DQ(l m:List Int)(seen:List Nat)(hn:seen.Nodup)(hall:∀i,i<(mp2 l m m.length).length->i∈seen):
 (lU (mp2 l m m.length) seen).mergeSort (fun x y=>decide (x<=y))=kr l m l.length:=by
 obtain⟨g1,g2,g3⟩:=pV l l.length (amb _);obtain⟨k1,k2⟩:=HW l m m.length (amb _);obtain⟨c1,c2⟩:=yk l m l.length (amb _);rw[ajp]at c2 k2;generalize hM:mp2 l m m.length=M at *;have hkeys:(M.map (·.1)).Nodup:=by rw[k1];exact g1
 have hmem:∀x,x∈lU M seen↔x∈l/\x∈m:=by
  intro x;unfold lU;rw[List.mem_filterMap];constructor
  ·rintro⟨i,hi,h⟩
   obtain⟨p,hp,hq⟩:=ajP.1 h;have:=(k2 p.1 p.2).1 (ajE hp);split at hq
   ·rename_i ht;simp only[al9]at hq;subst hq;rw[ht]at this;exact⟨this.1,aks this.2.symm⟩
   ·cases hq
  ·rintro⟨h1,h2⟩;have:(x,true)∈M:=(k2 x true).2 ⟨h1,(Wx h2).symm⟩;obtain⟨i,hi⟩:=WA.1 this;exact⟨i,hall i (aml.1 hi).1,by rw[hi];rfl⟩
 have hnd:(lU M seen).Nodup:=by
  unfold lU;clear hall hmem;induction seen with
  |nil=>simp
  | cons i r ih =>
    rw[List.nodup_cons]at hn;rw[List.filterMap_cons];split
    ·exact ih hn.2
    ·rename_i x hx;rw[List.nodup_cons];refine⟨fun hin=>?_,ih hn.2⟩;obtain⟨j,hj,hx2⟩:=List.mem_filterMap.1 hin;obtain⟨p,hp,hq⟩:=ajP.1 hx;obtain⟨p2,hp2,hq2⟩:=ajP.1 hx2;have e1:p.1=x:=by split at hq<;>simp_all
     have e2:p2.1=x:=by split at hq2<;>simp_all
     have h1:(M.map (·.1))[i]?=some x:=by rw[ajv,hp];simp[e1]
     have h2:(M.map (·.1))[j]?=some x:=by rw[ajv,hp2];simp[e2]
     have:i=j:=(List.getElem?_inj (by rw[akn];exact(aml.1 hp).1) hkeys).1 (by rw[h1,h2]);subst this;exact hn.1 hj
 refine I2 _ _ ?_ c1 fun x=>?_
 ·have hs := List.pairwise_mergeSort (le := fun x y : Int => decide (x <= y)) (fun a b c h1 h2 => by simp at *; omega) (fun a b => by simp; omega) (lU M seen)
  have hn2:((lU M seen).mergeSort (fun x y=>decide (x<=y))).Nodup:=(List.mergeSort_perm _ _).nodup_iff.2 hnd
  exact (hs.and hn2).imp (fun {a b} h => by have h1 : a <= b := by simpa using h.1
                                            have h2:a≠b:=h.2;omega)
 ·rw[(List.mergeSort_perm _ _).mem_iff,hmem,c2]
theorem Kt{n i:Nat}{seen:List Nat}(hi:i<n)(hs:i∉seen):((List.range n).filter fun j=>decide (j∉seen++[i])).length<((List.range n).filter fun j=>decide (j∉seen)).length:=by
 have e:((List.range n).filter fun j=>decide (j∉seen++[i]))=((List.range n).filter fun j=>decide (j∉seen)).filter fun j=>decide (j≠i):=by
  rw[List.filter_filter];apply List.filter_congr
  intro j _;by_cases h1:j∈seen<;>by_cases h2:j=i<;>simp[h1,h2]
 rw[e];exact List.length_filter_lt_length_iff_exists.2 ⟨i,List.mem_filter.2 ⟨List.mem_range.2 hi,by simpa using hs⟩,WM⟩
theorem vb{seen:List Nat}{i:Nat}(h:seen.Nodup)(hi:i∉seen):(seen++[i]).Nodup:=by
 rw[List.nodup_append];refine⟨h,WM,fun a ha b hb=>?_⟩;simp only[amn]at hb;subst hb;rintro rfl;exact hi ha
end Go.Proofs.YtmpddimhleianaaGreat
namespace Go.Proofs.YtmpddimhleianaaGreat
open Go Go.FH Go.RowKit
theorem M8(x:Slg)(l m:List Int)(c d:Bool)(hx:x.fst.vals=.sl 1 c (aH .i64 l))(hy:x.snd.vals=.sl 1 d (aH .i64 m))(hl:l.length<=100)(hm:m.length<=100):
 PC Tryz.prog 183 [.agg (d7 x)] (.sl 1 false (aH .i64 (kr l m l.length))):=by
 obtain⟨⟨a1,a2,r1,v1⟩,⟨b1,b2,r2,v2⟩⟩:=x;dsimp only at hx hy;subst hx hy;have hp:PuL (d7 ⟨⟨a1,a2,r1,.sl 1 c (aH .i64 l)⟩,⟨b1,b2,r2,.sl 1 d (aH .i64 m)⟩⟩):=(j7 _).2 ⟨bE _ _,bE _ _⟩;refine PC.fact 13 jS WM ⟨hp,trivial⟩ (bE _ _) ?_;unfold ee;refine bd ?_;have hmm:(List.nil:List (List AV))=mns .i64 []:=rfl;refine gon ?_
 refine eZ (fun i:Nat=>⟨13,[.agg (d7 ⟨⟨a1,a2,r1,.sl 1 c (aH .i64 l)⟩,⟨b1,b2,r2,.sl 1 d (aH .i64 m)⟩⟩),.ptr 0 0,.sl 0 true [],.mp 1,.dead,.dead,.dead,.dead,.dead,.dead,.dead,.dead,.dead],[(18,.int .i64 i),(17,.int .i64 l.length),(16,.sl 1 c (aH .i64 l))]⟩) (fun i=>[.var (d7 ⟨⟨a1,a2,r1,.sl 1 c (aH .i64 l)⟩,⟨b1,b2,r2,.sl 1 d (aH .i64 m)⟩⟩),.map (mns .i64 (mp1 l i))]) (fun i=>l.length-i) (fun i=>i<=l.length) 0 WL ?_ ?_
 ·rw[show mns .i64 (mp1 l 0)=[]from rfl];refine GC.mkT [] [0,1] WM rfl WM WM evd evd evd
 rintro i hi;try dsimp only
 by_cases h1:i<l.length
 ·have e1:decide ((i:Int)<(l.length:Int))=true:=au WL
  have hgd:=fF (k:=.i64) h1;have hw:=af h1 WL;have hs:=P7 h1;unfold upB at hs;refine bw e1 ?_;cases hf:(mp1 l i).findIdx? (fun p=>p.1==l.getD i 0)with
  | some j =>
    rw[hf]at hs;refine pz hgd amv hf hw ?_;refine⟨i+1,h1,WL,?_⟩;rw[hs];refine GC.mkT [] [0,1] WM rfl WM WM evd evd evd
  | none =>
    rw[hf]at hs;refine pz hgd amv hf hw ?_;refine⟨i+1,h1,WL,?_⟩;rw[hs];refine GC.mkT [] [0,1] WM rfl WM WM evd evd evd
 have e1:decide ((i:Int)<(l.length:Int))=false:=aA WL;obtain rfl:i=l.length:=WL
 refine aF e1 ?_
 refine eZ (fun i:Nat=>⟨13,[.agg (d7 ⟨⟨a1,a2,r1,.sl 1 c (aH .i64 l)⟩,⟨b1,b2,r2,.sl 1 d (aH .i64 m)⟩⟩),.ptr 0 0,.sl 0 true [],.mp 1,.dead,.dead,.dead,.dead,.dead,.dead,.dead,.dead,.dead],[(29,.int .i64 i),(28,.int .i64 m.length),(27,.sl 1 d (aH .i64 m))]⟩) (fun i=>[.var (d7 ⟨⟨a1,a2,r1,.sl 1 c (aH .i64 l)⟩,⟨b1,b2,r2,.sl 1 d (aH .i64 m)⟩⟩),.map (mns .i64 (mp2 l m i))]) (fun i=>m.length-i) (fun i=>i<=m.length) 0 WL ?_ ?_
 ·rw[show mp2 l m 0=mp1 l l.length from rfl];refine GC.mkT [] [0,1] WM rfl WM WM evd evd evd
 rintro i hi;try dsimp only
 by_cases h1:i<m.length
 ·have e1:decide ((i:Int)<(m.length:Int))=true:=au WL
  have hgd:=fF (k:=.i64) h1;have hw:=af h1 WL;have hs:=Sf (l:=l) h1;unfold upB at hs;refine bw e1 ?_;cases hf:(mp2 l m i).findIdx? (fun p=>p.1==m.getD i 0)with
  | some j =>
    rw[hf]at hs;simp only[WG,amt]at hs;obtain⟨q,hq⟩:=rY hf;have hlt:j<(mp2 l m i).length:=(aml.1 hq).1;have hm2:=ad0 .i64 (mp2 l m i) j hlt;refine U6 hgd amv hf hm2 ?_;refine pz hgd amv hf hw ?_;refine⟨i+1,h1,WL,?_⟩;rw[hs];refine GC.mkT [] [0,1] WM rfl WM WM evd evd evd
  | none =>
    rw[hf]at hs;simp only[alu,ame,amj]at hs;refine zh hgd amv hf ?_;refine ah hw ?_;refine⟨i+1,h1,WL,?_⟩;rw[hs];refine GC.mkT [] [0,1] WM rfl WM WM evd evd evd
 have e1:decide ((i:Int)<(m.length:Int))=false:=aA WL;obtain rfl:i=m.length:=WL
 have hsort:=fun seen=>DQ l m seen
 have hM:(mp2 l m m.length).length<=100:=by
  have h2:=ajG List.length (HW l m m.length (amb _)).1;rw[akn,akn]at h2;have h3:=KB l l.length;omega
 generalize mp2 l m m.length=M at *;refine aF e1 ?_
 refine eZ (fun x:List Nat×Bool=>⟨13,[.agg (d7 ⟨⟨a1,a2,r1,.sl 1 c (aH .i64 l)⟩,⟨b1,b2,r2,.sl 1 d (aH .i64 m)⟩⟩),.ptr 0 0,.sl 0 true [],.mp 1,.dead,.dead,.dead,.dead,.dead,.dead,if x.2 then .hs 1 3 0 (lU M x.1).length else .sl 0 true [],.dead,.dead],[(44,.ptr 2 0)]⟩) (fun x=>.var (d7 ⟨⟨a1,a2,r1,.sl 1 c (aH .i64 l)⟩,⟨b1,b2,r2,.sl 1 d (aH .i64 m)⟩⟩)::.map (mns .i64 M)::.iter 1 M.length x.1::(if x.2 then [.vec 1 (aH .i64 (lU M x.1))]else []))
  (fun x=>((List.range M.length).filter fun j=>decide (j∉x.1)).length) (fun x=>x.1.Nodup/\x.1.length+((List.range M.length).filter fun j=>decide (j∉x.1)).length<=M.length/\(x.2=false->lU M x.1=[])) ([],false) ⟨alT,(by have:=alR (fun j=>decide (j∉([]:List Nat))) (List.range M.length);simpa using this),fun _=>rfl⟩ ?_ ?_
 ·simp only[ame,amj];refine GC.mkT [] [0,1,2] WM rfl WM WM evd evd evd
 rintro⟨seen,st⟩ ⟨hn,hlt,hst⟩;dsimp only at hn hlt hst ⊢;have hlen:=Qe M seen;cases st with
 | true =>
   simp only[amt];refine gon ?_;refine⟨fun i hi hs=>?_,fun hall=>?_⟩
   ·have hg:=ad0 .i64 M i hi
    have hout:=Qf M seen i hi;have hn2:=vb hn hs;have hmu:=Kt hi hs
    have hlt2:(seen++[i]).length+((List.range M.length).filter fun j=>decide (j∉seen++[i])).length<=M.length:=by
     rw[akC];simp only[al8,ama];omega
    refine bw hg ?_;refine ah hg ?_;cases hq:M[i].2 with
    | true =>
      rw[hq]at hout;simp only[amt]at hout;refine agF ?_;refine⟨(seen++[i],true),⟨hn2,hlt2,fun h=>(by cases h)⟩,hmu,?_⟩;simp only[amt,hout];refine GC.mkT [] [0,1,2,4] WM rfl WM WM evd evd evd
    | false =>
      rw[hq]at hout;simp only[ame,amj]at hout;refine agE ?_;refine⟨(seen++[i],true),⟨hn2,hlt2,fun h=>(by cases h)⟩,hmu,?_⟩;simp only[amt,hout];refine GC.mkT [] [0,1,2,3] WM rfl WM WM evd evd evd
   ·have hR:=hsort seen hn hall;have cs:=ON (lU M seen) WL;rw[hR]at cs;have hRl:(kr l m l.length).length=(lU M seen).length:=by rw[<-hR,List.length_mergeSort]
    refine bk ?_;refine ocg [3] cs ?_;rw[<-hRl];exact ai
 | false =>
   simp only[ame,amj];refine gon ?_;refine⟨fun i hi hs=>?_,fun hall=>?_⟩
   ·have hg:=ad0 .i64 M i hi
    have hout:=Qf M seen i hi;have hn2:=vb hn hs;have hmu:=Kt hi hs
    have hlt2:(seen++[i]).length+((List.range M.length).filter fun j=>decide (j∉seen++[i])).length<=M.length:=by
     rw[akC];simp only[al8,ama];omega
    refine bw hg ?_;refine ah hg ?_;cases hq:M[i].2 with
    | true =>
      rw[hq]at hout;simp only[amt]at hout;refine agF ?_;refine⟨(seen++[i],true),⟨hn2,hlt2,fun h=>(by cases h)⟩,hmu,?_⟩;simp only[amt,hout];rw[hst rfl];refine GC.mkT [] [0,1,2,3] WM rfl WM WM evd evd evd
    | false =>
      rw[hq]at hout;simp only[ame,amj]at hout;refine agE ?_;refine⟨(seen++[i],false),⟨hn2,hlt2,fun h=>(by dsimp only;rw[hout];exact hst rfl)⟩,hmu,?_⟩;simp only[ame,amj,hout];refine GC.mkT [] [0,1,2] WM rfl WM WM evd evd evd
   ·have hR:=hsort seen hn hall;rw[hst rfl,List.mergeSort_nil]at hR;rw[<-hR];refine bk ?_;refine ahG (QD true) ?_;refine⟨_,by first|rfl|exact evd,.inr ⟨.sl 0 true [],evd,trivial,Wk.empty _ _ _⟩⟩
theorem mW(a b:Clm)(ha:a.good=true)(hb:b.good=true)(pa:a.Pure)(pb:b.Pure):PC Tryz.prog 330 [.agg (du a),.agg (du b)] (.bool (sur a b)):=by
 refine PC.fact 5 jo WM ⟨(re a).2 pa,(re b).2 pb,trivial⟩ trivial ?_;unfold ec sur;refine bd ?_;cases e1:decide (a.src<b.src)with
 | false =>
   refine dC ha hb e1 ?_;exact ai
 | true =>
   refine dC ha hb e1 ?_;exact ai
theorem xn(a b:Clm)(ha:a.good=true)(hb:b.good=true)(pa:a.Pure)(pb:b.Pure)(D:Bool)(ts:List (Nat×AV)):Tri Tryz.prog 36 0 (bD.tl 2) (PQ [.tmp 4] (.bool (D || sur a b || sur b a))) ⟨6,[.agg (du a),.agg (du b),.ptr 0 0,.ptr 1 0,.bool false,.bool D],ts⟩ [.var (du a),.var (du b)]:=by
 unfold bD;refine bd ?_;simp only[ab.tl];have c1:=mW a b ha hb pa pb;have c2:=mW b a hb ha pb pa;cases D with
 | true =>
   refine gon ?_;exact ai
 | false =>
   generalize hs:sur a b=s1 at *;cases s1 with
   | true =>
     refine gon ?_;refine ahG c1 ?_;exact ai
   | false =>
     refine gon ?_;refine ahG c1 ?_;refine ahG c2 ?_;exact ai
theorem xq(a b:Clm)(ha:a.good=true)(hb:b.good=true)(pa:a.Pure)(pb:b.Pure):PC Tryz.prog 263 [.agg (du a),.agg (du b)] (.bool (slb a b)):=by
 refine PC.fact 6 i7 WM ⟨(re a).2 pa,(re b).2 pb,trivial⟩ trivial ?_;have tl:=xn a b ha hb pa pb;have hc:bD=.seq bD.hd (.seq (bD.tl 1).hd (bD.tl 2)):=rfl;rw[hc];generalize bD.tl 2=cT at *;unfold bD slb dbl;refine bd ?_;simp only[ab.tl,ab.hd];cases e1:(a.tgt==b.tgt)with
 | false =>
   refine dC ha hb e1 ?_;exact tl _ _
 | true =>
   cases e2:(a.src != b.src)with
   | true =>
     refine pz ha hb e1 e2 ?_;exact tl _ _
   | false =>
     refine pz ha hb e1 e2 ?_;exact tl _ _
theorem Io(l m:List Int)(c d:Bool)(n a1 a2 b1 b2:Int)(r1 r2:Rt)(hl:l.length<=100)(hm:m.length<=100)(ts:List (Nat×AV)):
 Tri Tryz.prog 54 0 (bL.tl 2) (PQ [.tmp 4] (.int .i64 (if a2<a1\/b2<b1 then 2 else if slb ⟨a1,a2,r1,.sl 1 c (aH .i64 l)⟩ ⟨b1,b2,r2,.sl 1 d (aH .i64 m)⟩=false\/kr l m l.length=[]then 20 else 0)))
  ⟨8,[.agg (d7 ⟨⟨a1,a2,r1,.sl 1 c (aH .i64 l)⟩,⟨b1,b2,r2,.sl 1 d (aH .i64 m)⟩⟩),.int .i64 n,.ptr 0 0,.dead,.int .i64 0,.dead,.dead,.dead],ts⟩ [.var (d7 ⟨⟨a1,a2,r1,.sl 1 c (aH .i64 l)⟩,⟨b1,b2,r2,.sl 1 d (aH .i64 m)⟩⟩)]:=by
 have cu:=M8 ⟨⟨a1,a2,r1,.sl 1 c (aH .i64 l)⟩,⟨b1,b2,r2,.sl 1 d (aH .i64 m)⟩⟩ l m c d rfl rfl hl hm;have sl:=xq ⟨a1,a2,r1,.sl 1 c (aH .i64 l)⟩ ⟨b1,b2,r2,.sl 1 d (aH .i64 m)⟩ rfl rfl (bE _ _) (bE _ _);unfold bL;refine bd ?_;simp only[ab.tl];generalize slb ⟨a1,a2,r1,.sl 1 c (aH .i64 l)⟩ ⟨b1,b2,r2,.sl 1 d (aH .i64 m)⟩=S at *;generalize kr l m l.length=R at *;by_cases q3:a2<a1
 ·have e3:=au q3;rw[al7 (.inl q3)];refine aM e3 ?_;exact ai
 have e3:=aA q3;by_cases q4:b2<b1
 ·have e4:=au q4;rw[al7 (.inr q4)];repeat(first|refine bY ?_|simp only[go_sem,e3,e4])
  refine agF ?_;exact ai
 have e4:=aA q4;rw[al5 (fun h=>h.elim q3 q4)];repeat(first|refine bY ?_|simp only[go_sem,e3,e4])
 refine agE ?_;refine am sl ?_;cases S with
 | false =>
   rw[al7 (.inl rfl)];refine aX ?_;exact ai
 | true =>
   refine gon ?_;refine am cu ?_;by_cases q5:R=[]
   ·subst q5;rw[al7 rfl];refine aX ?_;exact ai
   ·have e5:((R.length:Int)==0)=false:=by
     rw[<-amZ,am0];have:=ajX.2 q5;omega
    rw[al5 (by simp[q5])];repeat(first|refine bY ?_|simp only[go_sem,e5])
    refine agE ?_;exact ai
theorem Iw(x:Slg)(l m:List Int)(c d:Bool)(n:Int)(hx:x.fst.vals=.sl 1 c (aH .i64 l))(hy:x.snd.vals=.sl 1 d (aH .i64 m))(hl:l.length<=100)(hm:m.length<=100):
 PC Tryz.prog 182 [.agg (d7 x),.int .i64 n] (.int .i64 (evE x l m n)):=by
 obtain⟨⟨a1,a2,r1,v1⟩,⟨b1,b2,r2,v2⟩⟩:=x;dsimp only at hx hy;subst hx hy;have tl:=Io l m c d n a1 a2 b1 b2 r1 r2 hl hm;have w1:=tq l c n WL;have w2:=tq m d n WL;refine PC.fact 8 jZ WM ⟨(j7 _).2 ⟨bE _ _,bE _ _⟩,trivial,trivial⟩ trivial ?_;have hc:bL=.seq bL.hd (.seq (bL.tl 1).hd (bL.tl 2)):=rfl;rw[hc];clear hc;generalize bL.tl 2=cT at *;unfold bL evE;refine bd ?_;simp only[ab.tl,ab.hd];refine gon ?_;refine lV 3 (gY ?_);refine aX ?_;refine am w1 ?_;by_cases q1:cE l n=0
 case neg=>
  have e1:(cE l n != 0)=true:=by rw[alf];exact q1
  rw[al7 q1];refine aM e1 ?_;exact ai
 rw[al5 (fun h=>h q1),q1];refine bk ?_;refine gY ?_;refine aX ?_;refine am w2 ?_;by_cases q2:cE m n=0
 case neg=>
  have e1:(cE m n != 0)=true:=by rw[alf];exact q2
  rw[al7 q2];refine aM e1 ?_;exact ai
 rw[al5 (fun h=>h q2),q2];refine bk ?_;refine gY ?_;refine dQ ?_;refine nc ?_;simp only[go_sem];refine eg ?_ (tl []);exact ais [] [0]
end Go.Proofs.YtmpddimhleianaaGreat
