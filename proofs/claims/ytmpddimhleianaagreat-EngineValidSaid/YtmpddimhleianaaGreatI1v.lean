/- Joined. -/
import Derived.Test.YtmpddimhleianaaGreatW3v
import Derived.Test.YtmpddimhleianaaGreatChecked
import Derived.Test.YtmpddimhleianaaGreatI0v
import Derived.KernelRfl
import Derived.Test.YtmpddimhleianaaGreatV3v
set_option linter.unusedVariables false
set_option linter.unusedSimpArgs false
set_option maxRecDepth 8000
set_option maxHeartbeats 4000000
namespace Go.Proofs.YtmpddimhleianaaGreat
open Go Go.FH Go.RowKit Go.Shelf Go.Sort
theorem RW(blk off cap:Nat)(zs:List Int)(w:World)(hH:Holds (Value.int .i64) w blk off zs.toArray)(hblk:blk<w.heap.size)(hsz:zs.length<4611686018427387904):
 Calls Tryz.prog 264 #[.slice (some ⟨blk,off,none⟩) zs.length cap] w fun e w'=>
  e=.returned (.tuple #[])/\∃n os,w'=grow (putRow (Value.int .i64) (Sort.ahead w n) blk off (zs.mergeSort fun x y=>decide (x<=y)).toArray) os:=by
 have hcon:=AnyM.slices_Sort_int Tryz.mSort blk off cap zs w hH hblk hsz;change Calls Tryz.prog 264 _ _ _ at hcon
 exact hcon
theorem GL(a:Option Addr)(cap:Nat)(w:World):Calls Tryz.prog 264 #[.slice a 0 cap] w fun e w'=>e=.returned (.tuple #[])/\w'=w:=by
 have hcon:=AnyM.slices_Sort_int_none Tryz.mSort a cap w;change Calls Tryz.prog 264 _ _ _ at hcon
 exact hcon
theorem I7{E:Env}{k:IntKind}:∀ {zs:List Int} {us:List Value},RlE E 1 (ah k zs) us->us=zs.map (Value.int k)
 | [],_,h=>by simpa[ah,RlE]using h
 | z :: zs, _, h => by
   obtain⟨us,ws,rfl,h2,h3,h4⟩:=h;obtain⟨u,r,rfl,_,h5,h6⟩:=h3;simp only[RlC]at h6;subst h6;simp only[Rl]at h5;subst h5;rw[I7 h4];rfl
theorem yJ(E:Env)(k:IntKind):∀zs:List Int,RlE E 1 (ah k zs) (zs.map (Value.int k))
 | []=>rfl
 |z::zs=>⟨[.int k z],_,rfl,rfl,⟨_,[],rfl,rfl,rfl,rfl⟩,yJ E k zs⟩
theorem BT(w:World)(n blk off:Nat)(d:Array Int)(os:Array Obj){b:Nat}(hb:b<w.heap.size):(grow (putRow (Value.int .i64) (Sort.ahead w n) blk off d) os).heap[b]?=(w.heap.modify blk (onCells (putCells (Value.int .i64) off d)))[b]?:=by
 unfold grow putRow mapBlock;simp only[Array.getElem?_append,heap_ahead,Array.size_modify,hb,aco]
theorem XT(cs vs ws:List Value)(d:List Int)(h:vs.length=d.length):(putCells (Value.int .i64) cs.length d.toArray (cs++vs++ws).toArray)=(cs++d.map (Value.int .i64)++ws).toArray:=by
 apply acw.1
 apply ac1
 intro j;simp only[putCells,Array.toList_mapIdx,List.getElem?_mapIdx,ad2];by_cases h1:j<cs.length
 ·simp[adr,h1,Nat.lt_add_right,show ¬ (cs.length<=j)by omega]
 ·by_cases h2:j<cs.length+d.length
  ·simp[adr,h1,h2,h,show cs.length<=j by omega,show j-cs.length<d.length by omega]
  ·simp[adr,h1,h2,h];rw[afx af0,afx af0]
theorem RX(zs:List Int)(hz:zs.length<4611686018427387904):aJ Tryz.prog 264 [.hs 1 0 0 zs.length] [.vec 1 (ah .i64 zs)] (.tup []) [.vec 1 (ah .i64 (zs.mergeSort fun x y=>decide (x<=y)))]:=by
 refine⟨by kernel_rfl,af1,?_⟩;intro X loc w vs hr hv;obtain⟨v,us,rfl,h1,h2⟩:=hv;simp only[RlS]at h2;subst h2;obtain⟨a,cap,L,rfl,g1,g2,g3,g4,g5⟩:=h1;have hσ:([bZ.vec 1 (ah .i64 zs)]:St)[0]?=some (.vec 1 (ah .i64 zs)):=rfl;by_cases h0:zs=[]
 ·subst h0;refine(GL a cap w).mono fun e w' ⟨he,hw⟩=>?_
  subst he hw;exact⟨_,loc,rfl,⟨fun _ _ h=>h,by simpa using hr,⟨[],rfl,rfl⟩,Ev.refl _ _,fun b hb=>.inl (by simpa using hb)⟩,fun _ _=>rfl⟩
 have hpos:0<zs.length:=adE.2 h0;rcases hr.vec hσ g4 with⟨q1,q2⟩|⟨q1,cs,ms,ws,t,k2,k3,k4,k5,k6⟩
 ·exact absurd (by simpa[ah]using q2) h0
 rcases g5 with g5|⟨_,rfl,_⟩
 ·omega
 have hms:=I7 k5;subst hms;have hlt:L.blk<w.heap.size:=(adV.1 k2).1
 have hH:Holds (Value.int .i64) w L.blk L.base zs.toArray:=by
  intro j hj;have hj':j<zs.length:=by simpa using hj
  refine⟨?_,?_⟩
  ·rw[WQ k2,<-k3];simp[adr,hj',show ¬ (cs.length+j<cs.length)by omega]
  ·simp[World.frozen?,k2]
 have hc:=RW L.blk L.base cap zs w hH hlt hz;simp only[Nat.zero_mul,acR];refine hc.mono fun e w' ⟨he,n,os,hw⟩=>?_
 subst he hw
 have hget:(grow (putRow (Value.int .i64) (Sort.ahead w n) L.blk L.base (zs.mergeSort fun x y=>decide (x<=y)).toArray) os).heap[L.blk]?=some (.cells (cs++(zs.mergeSort fun x y=>decide (x<=y)).map (Value.int .i64)++ws).toArray t (0,0)):=by
  rw[BT _ _ _ _ _ _ hlt,Array.getElem?_modify,afA rfl,k2];simp only[aeH,onCells];rw[<-k3,XT _ _ _ _ af1]
 have hev:Ev (fun b=>b=L.blk) w (grow (putRow (Value.int .i64) (Sort.ahead w n) L.blk L.base (zs.mergeSort fun x y=>decide (x<=y)).toArray) os):=by
  refine⟨?_,fun b hb hn=>?_,rfl,rfl,rfl⟩
  ·simp[grow]
  ·rw[BT _ _ _ _ _ _ hb,Array.getElem?_modify,afx (fun e=>hn e.symm)]
 obtain⟨m1,m2,m3⟩:=hr.turnW hσ rfl (o':=.vec 1 (ah .i64 (zs.mergeSort fun x y=>decide (x<=y)))) rfl g4 q1 hev (fun E hE hloc hw=>.inr ⟨q1,cs,_,ws,t,by rw[hw];exact hget,k3,by simpa using k4,yJ _ _ _,k6⟩);exact⟨_,loc,rfl,⟨fun _ _ h=>h,m1,⟨[],rfl,rfl⟩,m3,fun b hb=>.inl (m2 b hb)⟩,fun _ _=>rfl⟩
theorem V0(cl:Bool):PC Tryz.prog 264 [.sl 0 cl []] (.tup []):=by
 refine⟨⟨by kernel_rfl,af1,?_⟩,⟨trivial,trivial⟩,trivial⟩;intro X loc w vs hr hv;obtain⟨v,us,rfl,h1,h2⟩:=hv;simp only[RlS]at h2;subst h2;obtain⟨a,m,cap,rfl,g1,_⟩:=h1;have:m=0:=by simpa using g1
 subst this;refine(GL a cap w).mono fun e w' ⟨he,hw⟩=>?_
 subst he hw;exact⟨_,loc,rfl,⟨fun _ _ h=>h,hr,⟨[],rfl,rfl⟩,Ev.refl _ _,fun b hb=>.inl hb⟩,fun _ _=>rfl⟩
end Go.Proofs.YtmpddimhleianaaGreat
namespace Go.Proofs.YtmpddimhleianaaGreat
open Go
open FH
theorem Db:∀ (a b:List Int),a.Pairwise (· < ·)->b.Pairwise (· < ·)->(∀x,x∈a↔x∈b)->a=b
 | [],[],_,_,_=>rfl
 | [],y::ys,_,_,h=>by have:=(h y).2 af1;simp at this
 |x::xs,[],_,_,h=>by have:=(h x).1 af1;simp at this
 | x :: xs, y :: ys, ha, hb, h => by
   rw[ac5]at ha hb
   have h1:x=y:=by
    have p1:=(h x).1 af1;have p2:=(h y).2 af1;rcases acW.1 p1 with e|e
    ·exact e
    ·rcases acW.1 p2 with e2|e2
     ·exact e2.symm
     ·have:=ha.1 y e2;have:=hb.1 x e;omega
   subst h1;congr 1;refine Db xs ys ha.2 hb.2 fun z=>⟨fun hz=>?_,fun hz=>?_⟩
   ·rcases acW.1 ((h z).1 (acA _ hz))with e|e
    ·subst e;have:=ha.1 z hz;omega
    ·exact e
   ·rcases acW.1 ((h z).2 (acA _ hz))with e|e
    ·subst e;have:=hb.1 z hz;omega
    ·exact e
theorem BV(v x:Int):∀l:List Int,x∈kV l v↔x=v\/x∈l
 | []=>by simp[kV]
 | a :: r => by
   have ih:=BV v x r;unfold kV;split
   ·simp only[acW,ih]
    constructor
    ·rintro (h|h|h)
     ·exact .inr (.inl h)
     ·exact .inl h
     ·exact .inr (.inr h)
    ·rintro (h|h|h)
     ·exact .inr (.inl h)
     ·exact .inl h
     ·exact .inr (.inr h)
   ·split
    ·rename_i h;subst h
     simp only[acW];constructor
     ·exact fun h=>.inr h
     ·rintro (h|h)
      ·exact .inl h
      ·exact h
    ·simp only[acW]
theorem sd(v:Int):∀l:List Int,l.Pairwise (· < ·)->(kV l v).Pairwise (· < ·)
 | [],_=>by simp[kV]
 | a :: r, h => by
   rw[ac5]at h;have ih:=sd v r h.2;unfold kV;split
   ·rename_i h1;rw[ac5];refine⟨fun x hx=>?_,ih⟩;rcases (BV v x r).1 hx with e|e
    ·omega
    ·exact h.1 x e
   ·split
    ·rw[ac5];exact h
    ·rename_i h1 h2;rw[ac5,ac5];refine⟨fun x hx=>?_,h⟩;rcases acW.1 hx with e|e
     ·omega
     ·have:=h.1 x e;omega
theorem FA(l m:List Int):∀i,i<=l.length->(gk l m i).Pairwise (· < ·)/\∀x,x∈gk l m i↔x∈l.take i/\x∈m
 |0,_=>⟨by simp[gk],by simp[gk]⟩
 | i + 1, h => by
   have h1:i<l.length:=h;obtain⟨g1,g2⟩:=FA l m i af0;have e0:l[i]=l.getD i 0:=by rw[afy,afz h1];rfl
   have ht:∀x,x∈l.take (i+1)↔x∈l.take i\/x=l.getD i 0:=by
    intro x;rw[acB,afz h1,e0];simp
   rw[Hy h1];by_cases hm:l.getD i 0∈m
   ·rw[afA hm]
    refine⟨sd _ _ g1,fun x=>?_⟩;rw[BV,g2,ht];constructor
    ·rintro (e|⟨e1,e2⟩)
     ·subst e;exact⟨.inr rfl,hm⟩
     ·exact⟨.inl e1,e2⟩
    ·rintro⟨e|e,e2⟩
     ·exact .inr ⟨e,e2⟩
     ·exact .inl e
   ·rw[afx hm]
    refine⟨g1,fun x=>?_⟩;rw[g2,ht];constructor
    ·rintro⟨e1,e2⟩;exact⟨.inl e1,e2⟩
    ·rintro⟨e|e,e2⟩
     ·exact⟨e,e2⟩
     ·subst e;exact absurd e2 hm
def upB(m:List (Int×Bool))(v:Int)(b:Bool):List (Int×Bool):=match m.findIdx? (fun p=>p.1==v)with
 |some j=>m.set j (v,b)
 |none=>m++[(v,b)]
def mp1(l:List Int)(i:Nat):List (Int×Bool):=(l.take i).foldl (fun m v=>upB m v false) []
def mp2(l m:List Int)(i:Nat):List (Int×Bool):=(m.take i).foldl (fun M v=>if (M.findIdx? (fun p=>p.1==v)).isSome then upB M v true else M) (mp1 l l.length)
theorem UM{l:List Int}{i:Nat}(h:i<l.length):mp1 l (i+1)=upB (mp1 l i) (l.getD i 0) false:=by
 have e0:l[i]=l.getD i 0:=by rw[afy,afz h];rfl
 unfold mp1;rw[acB,afz h,adY,aep,ad1,afm,e0]
theorem Y3{l m:List Int}{i:Nat}(h:i<m.length):mp2 l m (i+1)=if ((mp2 l m i).findIdx? (fun p=>p.1==m.getD i 0)).isSome then upB (mp2 l m i) (m.getD i 0) true else mp2 l m i:=by
 have e0:m[i]=m.getD i 0:=by rw[afy,afz h];rfl
 unfold mp2;rw[acB,afz h,adY,aep,ad1,afm,e0]
theorem yG{m:List (Int×Bool)}{v:Int}{j:Nat}(h:m.findIdx? (fun p=>p.1==v)=some j):∃q,m[j]?=some (v,q):=by
 obtain⟨h1,h2,_⟩:=adn.1 h;refine⟨m[j].2,?_⟩;rw[afz h1];have:m[j].1=v:=by simpa using h2
 rw[<-this]
theorem Dv(m:List (Int×Bool))(v:Int)(b:Bool):(upB m v b).map (·.1)=if v∈m.map (·.1)then m.map (·.1)else m.map (·.1)++[v]:=by
 unfold upB;split
 ·rename_i j hj
  obtain⟨q,hq⟩:=yG hj;have hmem:v∈m.map (·.1):=acz.2 ⟨(v,q),acP hq,rfl⟩;rw[afA hmem];apply ac1
  intro i;simp only[acs,ac4];by_cases hij:j=i
  ·subst hij;have hlt:j<m.length:=(afO.1 hq).1;have e:m[j]=(v,q):=by simpa[hlt]using hq
   simp[hlt,e]
  ·simp[hij]
 ·rename_i hn
  have hmem:v∉m.map (·.1):=by
   intro hv;obtain⟨p,hp,rfl⟩:=acz.1 hv;have:=List.findIdx?_eq_none_iff.1 hn p hp;simp at this
  rw[afx hmem];simp
theorem FL(m:List (Int×Bool))(v:Int):(m.findIdx? (fun p=>p.1==v)).isSome=true↔v∈m.map (·.1):=by
 rw[List.findIdx?_isSome,ads];simp only[acz,ac0]
theorem Pa{m:List (Int×Bool)}{v:Int}{b:Bool}(hd:(m.map (·.1)).Nodup)(k:Int)(q:Bool):(k,q)∈upB m v b↔(k=v/\q=b)\/(k≠v/\(k,q)∈m):=by
 unfold upB;split
 ·rename_i j hj
  obtain⟨q0,hq⟩:=yG hj;have hlt:j<m.length:=(afO.1 hq).1
  have uniq:∀i p,m[i]?=some p->p.1=v->i=j:=by
   intro i p hi hp;have h1:(m.map (·.1))[i]?=some v:=by rw[acs,hi];simp[hp]
   have h2:(m.map (·.1))[j]?=some v:=by rw[acs,hq];rfl
   exact(List.getElem?_inj (by rw[adw];exact(afO.1 hi).1) hd).1 (by rw[h1,h2])
  constructor
  ·intro h
   obtain⟨i,hi⟩:=aeW.1 h;rw[ac4]at hi;by_cases hij:j=i
   ·subst hij;simp[hlt]at hi;exact .inl ⟨hi.1.symm,hi.2.symm⟩
   ·rw[afx hij]at hi;refine .inr ⟨fun e=>hij (uniq i _ hi e).symm,acP hi⟩
  ·rintro (⟨rfl,rfl⟩|⟨h1,h2⟩)
   ·exact acP (i:=j) (by simp[hlt])
   ·obtain⟨i,hi⟩:=aeW.1 h2
    have hij:j≠i:=by
     rintro rfl;rw[hq]at hi;simp only[afC,afc]at hi;exact h1 hi.1.symm
    exact acP (i:=i) (by rw[ac4,afx hij];exact hi)
 ·rename_i hn
  have hno:∀p∈m,p.1≠v:=fun p hp e=>by
   have:=List.findIdx?_eq_none_iff.1 hn p hp;simp[e]at this
  rw[afR,afN,afc];constructor
  ·rintro (h|h)
   ·exact .inr ⟨hno _ h,h⟩
   ·exact .inl h
  ·rintro (h|h)
   ·exact .inr h
   ·exact .inl h.2
theorem wt(l:List Int):∀i,i<=l.length->((mp1 l i).map (·.1)).Nodup/\(∀x,x∈(mp1 l i).map (·.1)↔x∈l.take i)/\∀k q,(k,q)∈mp1 l i->q=false
 |0,_=>⟨by simp[mp1],by simp[mp1],by simp[mp1]⟩
 | i + 1, h => by
   have h1:i<l.length:=h;obtain⟨g1,g2,g3⟩:=wt l i af0;have e0:l[i]=l.getD i 0:=by rw[afy,afz h1];rfl
   have ht:∀x,x∈l.take (i+1)↔x∈l.take i\/x=l.getD i 0:=by
    intro x;rw[acB,afz h1,e0];simp
   rw[UM h1];refine⟨?_,fun x=>?_,fun k q hk=>?_⟩
   ·rw[Dv]
    split
    ·exact g1
    ·rename_i hn;rw[List.nodup_append];refine⟨g1,af1,fun a ha b hb=>?_⟩;simp only[afN]at hb;subst hb;rintro rfl;exact hn ha
   ·rw [Dv, ht]
    split
    ·rename_i hin
     rw[g2];constructor
     ·exact .inl
     ·rintro (e|e)
      ·exact e
      ·subst e;exact(g2 _).1 hin
    ·rw[afR,afN,g2]
   ·rcases (Pa g1 k q).1 hk with⟨_,e⟩|⟨_,e⟩
    ·exact e
    ·exact g3 k q e
theorem Cq(l m:List Int):∀i,i<=m.length->(mp2 l m i).map (·.1)=(mp1 l l.length).map (·.1)/\∀k q,(k,q)∈mp2 l m i↔k∈l/\q=decide (k∈m.take i)
 | 0, _ => by
   obtain⟨g1,g2,g3⟩:=wt l l.length (afE _);refine⟨rfl,fun k q=>?_⟩;show (k,q)∈mp1 l l.length↔_
   rw[acL]at g2;constructor
   ·intro h;exact⟨(g2 k).1 (acz.2 ⟨_,h,rfl⟩),by simpa using g3 k q h⟩
   ·rintro⟨h1,h2⟩;obtain⟨p,hp,rfl⟩:=acz.1 ((g2 k).2 h1);have:=g3 p.1 p.2 hp;have h3:q=false:=by simpa using h2
    rw[h3,<-this];exact hp
 | i + 1, h => by
   have h1:i<m.length:=h;obtain⟨g1,g2,g3⟩:=wt l l.length (afE _);obtain⟨k1,k2⟩:=Cq l m i af0;rw[acL]at g2;have e0:m[i]=m.getD i 0:=by rw[afy,afz h1];rfl
   have ht:∀x,x∈m.take (i+1)↔x∈m.take i\/x=m.getD i 0:=by
    intro x;rw[acB,afz h1,e0];simp
   rw[Y3 h1];by_cases hf:((mp2 l m i).findIdx? (fun p=>p.1==m.getD i 0)).isSome=true
   ·rw [afA hf]
    have hin:=(FL _ _).1 hf;refine⟨by rw[Dv,afA hin,k1],fun k q=>?_⟩;rw[Pa (by rw[k1];exact g1),k2];have hl:m.getD i 0∈l:=(g2 _).1 (by rw[<-k1];exact hin);constructor
    ·rintro (⟨rfl,rfl⟩|⟨e1,e2,e3⟩)
     ·exact⟨hl,(aeQ ((ht _).2 (.inr rfl))).symm⟩
     ·refine⟨e2,?_⟩;rw[e3];refine adU.2 ?_;rw[ht];simp only[e1,aeO]
    ·rintro⟨e1,e2⟩
     by_cases hk:k=m.getD i 0
     ·left
      refine⟨hk,?_⟩;rw[e2];exact aeQ ((ht _).2 (.inr hk))
     ·right
      refine⟨hk,e1,?_⟩;rw[e2];refine adU.2 ?_;rw[ht];simp only[hk,aeO]
   ·rw[afx hf]
    refine⟨k1,fun k q=>?_⟩;rw[k2];have hno:m.getD i 0∉l:=fun hl=>hf ((FL _ _).2 (by rw[k1];exact(g2 _).2 hl))
    constructor
    ·rintro⟨e1,e2⟩;refine⟨e1,?_⟩;rw[e2];refine adU.2 ?_;rw[ht];have:k≠m.getD i 0:=fun e=>hno (e▸e1)
     simp only[this,aeO]
    ·rintro⟨e1,e2⟩;refine⟨e1,?_⟩;rw[e2];refine adU.2 ?_;rw[ht];have:k≠m.getD i 0:=fun e=>hno (e▸e1)
     simp only[this,aeO]
theorem YJ(m:List (Int×Bool))(v:Int)(b:Bool):(upB m v b).length<=m.length+1:=by
 unfold upB;split<;>simp
theorem OD(l:List Int):∀i,(mp1 l i).length<=i
 |0=>by simp[mp1]
 | i + 1 => by
   have ih:=OD l i;by_cases h:i<l.length
   ·rw[UM h];have:=YJ (mp1 l i) (l.getD i 0) false;omega
   ·have:mp1 l (i+1)=mp1 l i:=by unfold mp1;rw[afD af0,afD af0]
    rw[this];omega
def sA(M:List (Int×Bool))(seen:List Nat):List Int:=seen.filterMap fun i=>(M[i]?).bind fun p=>if p.2 then some p.1 else none
theorem Va(M:List (Int×Bool))(seen:List Nat)(i:Nat)(h:i<M.length):sA M (seen++[i])=if M[i].2 then sA M seen++[M[i].1]else sA M seen:=by
 unfold sA;rw[List.filterMap_append];simp only[List.filterMap_cons,List.filterMap_nil,afz h,adT];cases M[i].2<;>simp
theorem U9(M:List (Int×Bool))(seen:List Nat):(sA M seen).length<=seen.length:=List.length_filterMap_le _ _
theorem Kh(l m:List Int)(seen:List Nat)(hn:seen.Nodup)(hall:∀i,i<(mp2 l m m.length).length->i∈seen):
 (sA (mp2 l m m.length) seen).mergeSort (fun x y=>decide (x<=y))=gk l m l.length:=by
 obtain⟨g1,g2,g3⟩:=wt l l.length (afE _);obtain⟨k1,k2⟩:=Cq l m m.length (afE _);obtain⟨c1,c2⟩:=FA l m l.length (afE _);rw[acL]at c2 k2;generalize hM:mp2 l m m.length=M at *;have hkeys:(M.map (·.1)).Nodup:=by rw[k1];exact g1
 have hmem:∀x,x∈sA M seen↔x∈l/\x∈m:=by
  intro x;unfold sA;rw[List.mem_filterMap];constructor
  ·rintro⟨i,hi,h⟩
   obtain⟨p,hp,hq⟩:=ac2.1 h;have:=(k2 p.1 p.2).1 (acP hp);split at hq
   ·rename_i ht;simp only[afC]at hq;subst hq;rw[ht]at this;exact⟨this.1,ac3 this.2.symm⟩
   ·cases hq
  ·rintro⟨h1,h2⟩;have:(x,true)∈M:=(k2 x true).2 ⟨h1,(aeQ h2).symm⟩;obtain⟨i,hi⟩:=aeW.1 this;exact⟨i,hall i (afO.1 hi).1,by rw[hi];rfl⟩
 have hnd:(sA M seen).Nodup:=by
  unfold sA;clear hall hmem;induction seen with
  |nil=>simp
  | cons i r ih =>
    rw[List.nodup_cons]at hn;rw[List.filterMap_cons];split
    ·exact ih hn.2
    ·rename_i x hx;rw[List.nodup_cons];refine⟨fun hin=>?_,ih hn.2⟩;obtain⟨j,hj,hx2⟩:=List.mem_filterMap.1 hin;obtain⟨p,hp,hq⟩:=ac2.1 hx;obtain⟨p2,hp2,hq2⟩:=ac2.1 hx2;have e1:p.1=x:=by split at hq<;>simp_all
     have e2:p2.1=x:=by split at hq2<;>simp_all
     have h1:(M.map (·.1))[i]?=some x:=by rw[acs,hp];simp[e1]
     have h2:(M.map (·.1))[j]?=some x:=by rw[acs,hp2];simp[e2]
     have:i=j:=(List.getElem?_inj (by rw[adw];exact(afO.1 hp).1) hkeys).1 (by rw[h1,h2]);subst this;exact hn.1 hj
 refine Db _ _ ?_ c1 fun x=>?_
 ·have hs := List.pairwise_mergeSort (le := fun x y : Int => decide (x <= y)) (fun a b c h1 h2 => by simp at *; omega) (fun a b => by simp; omega) (sA M seen)
  have hn2:((sA M seen).mergeSort (fun x y=>decide (x<=y))).Nodup:=(List.mergeSort_perm _ _).nodup_iff.2 hnd
  exact (hs.and hn2).imp (fun {a b} h => by have h1 : a <= b := by simpa using h.1
                                            have h2:a≠b:=h.2;omega)
 ·rw[(List.mergeSort_perm _ _).mem_iff,hmem,c2]
theorem Ox{n i:Nat}{seen:List Nat}(hi:i<n)(hs:i∉seen):((List.range n).filter fun j=>decide (j∉seen++[i])).length<((List.range n).filter fun j=>decide (j∉seen)).length:=by
 have e:((List.range n).filter fun j=>decide (j∉seen++[i]))=((List.range n).filter fun j=>decide (j∉seen)).filter fun j=>decide (j≠i):=by
  rw[List.filter_filter];apply List.filter_congr
  intro j _;by_cases h1:j∈seen<;>by_cases h2:j=i<;>simp[h1,h2]
 rw[e];exact List.length_filter_lt_length_iff_exists.2 ⟨i,List.mem_filter.2 ⟨List.mem_range.2 hi,by simpa using hs⟩,af1⟩
theorem Cw{seen:List Nat}{i:Nat}(h:seen.Nodup)(hi:i∉seen):(seen++[i]).Nodup:=by
 rw[List.nodup_append];refine⟨h,af1,fun a ha b hb=>?_⟩;simp only[afN]at hb;subst hb;rintro rfl;exact hi ha
end Go.Proofs.YtmpddimhleianaaGreat
namespace Go.Proofs.YtmpddimhleianaaGreat
open Go Go.FH Go.RowKit
theorem FC(x:Slg)(l m:List Int)(c d:Bool)(hx:x.fst.vals=.sl 1 c (ah .i64 l))(hy:x.snd.vals=.sl 1 d (ah .i64 m))(hl:l.length<=100)(hm:m.length<=100):
 PC Tryz.prog 183 [.agg (dU x)] (.sl 1 false (ah .i64 (gk l m l.length))):=by
 obtain⟨⟨a1,a2,r1,v1⟩,⟨b1,b2,r2,v2⟩⟩:=x;dsimp only at hx hy;subst hx hy;have hp:PuL (dU ⟨⟨a1,a2,r1,.sl 1 c (ah .i64 l)⟩,⟨b1,b2,r2,.sl 1 d (ah .i64 m)⟩⟩):=(ij _).2 ⟨aY _ _,aY _ _⟩;refine PC.fact 13 pH af1 ⟨hp,trivial⟩ (aY _ _) ?_;unfold jY;refine bd ?_;have hmm:(List.nil:List (List AV))=mns .i64 []:=rfl;refine gon ?_
 refine eR (fun i:Nat=>⟨13,[.agg (dU ⟨⟨a1,a2,r1,.sl 1 c (ah .i64 l)⟩,⟨b1,b2,r2,.sl 1 d (ah .i64 m)⟩⟩),.ptr 0 0,.sl 0 true [],.mp 1,.dead,.dead,.dead,.dead,.dead,.dead,.dead,.dead,.dead],[(18,.int .i64 i),(17,.int .i64 l.length),(16,.sl 1 c (ah .i64 l))]⟩) (fun i=>[.var (dU ⟨⟨a1,a2,r1,.sl 1 c (ah .i64 l)⟩,⟨b1,b2,r2,.sl 1 d (ah .i64 m)⟩⟩),.map (mns .i64 (mp1 l i))]) (fun i=>l.length-i) (fun i=>i<=l.length) 0 af0 ?_ ?_
 ·rw[show mns .i64 (mp1 l 0)=[]from rfl];refine GC.mkT [] [0,1] af1 rfl af1 af1 evd evd evd
 rintro i hi;try dsimp only
 by_cases h1:i<l.length
 ·have e1:decide ((i:Int)<(l.length:Int))=true:=ax af0
  have hgd:=fC (k:=.i64) h1;have hw:=ae h1 af0;have hs:=UM h1;unfold upB at hs;refine bO e1 ?_;cases hf:(mp1 l i).findIdx? (fun p=>p.1==l.getD i 0)with
  | some j =>
    rw[hf]at hs;refine fk hgd acO hf hw ?_;refine⟨i+1,h1,af0,?_⟩;rw[hs];refine GC.mkT [] [0,1] af1 rfl af1 af1 evd evd evd
  | none =>
    rw[hf]at hs;refine fk hgd acO hf hw ?_;refine⟨i+1,h1,af0,?_⟩;rw[hs];refine GC.mkT [] [0,1] af1 rfl af1 af1 evd evd evd
 have e1:decide ((i:Int)<(l.length:Int))=false:=aD af0;obtain rfl:i=l.length:=af0
 refine aS e1 ?_
 refine eR (fun i:Nat=>⟨13,[.agg (dU ⟨⟨a1,a2,r1,.sl 1 c (ah .i64 l)⟩,⟨b1,b2,r2,.sl 1 d (ah .i64 m)⟩⟩),.ptr 0 0,.sl 0 true [],.mp 1,.dead,.dead,.dead,.dead,.dead,.dead,.dead,.dead,.dead],[(29,.int .i64 i),(28,.int .i64 m.length),(27,.sl 1 d (ah .i64 m))]⟩) (fun i=>[.var (dU ⟨⟨a1,a2,r1,.sl 1 c (ah .i64 l)⟩,⟨b1,b2,r2,.sl 1 d (ah .i64 m)⟩⟩),.map (mns .i64 (mp2 l m i))]) (fun i=>m.length-i) (fun i=>i<=m.length) 0 af0 ?_ ?_
 ·rw[show mp2 l m 0=mp1 l l.length from rfl];refine GC.mkT [] [0,1] af1 rfl af1 af1 evd evd evd
 rintro i hi;try dsimp only
 by_cases h1:i<m.length
 ·have e1:decide ((i:Int)<(m.length:Int))=true:=ax af0
  have hgd:=fC (k:=.i64) h1;have hw:=ae h1 af0;have hs:=Y3 (l:=l) h1;unfold upB at hs;refine bO e1 ?_;cases hf:(mp2 l m i).findIdx? (fun p=>p.1==m.getD i 0)with
  | some j =>
    rw[hf]at hs;simp only[ae8,aco]at hs;obtain⟨q,hq⟩:=yG hf;have hlt:j<(mp2 l m i).length:=(afO.1 hq).1;have hm2:=wq .i64 (mp2 l m i) j hlt;refine On hgd acO hf hm2 ?_;refine fk hgd acO hf hw ?_;refine⟨i+1,h1,af0,?_⟩;rw[hs];refine GC.mkT [] [0,1] af1 rfl af1 af1 evd evd evd
  | none =>
    rw[hf]at hs;simp only[aeJ,afP,acq]at hs;refine uA hgd acO hf ?_;refine aA hw ?_;refine⟨i+1,h1,af0,?_⟩;rw[hs];refine GC.mkT [] [0,1] af1 rfl af1 af1 evd evd evd
 have e1:decide ((i:Int)<(m.length:Int))=false:=aD af0;obtain rfl:i=m.length:=af0
 have hsort:=fun seen=>Kh l m seen
 have hM:(mp2 l m m.length).length<=100:=by
  have h2:=acM List.length (Cq l m m.length (afE _)).1;rw[adw,adw]at h2;have h3:=OD l l.length;omega
 generalize mp2 l m m.length=M at *;refine aS e1 ?_
 refine eR (fun x:List Nat×Bool=>⟨13,[.agg (dU ⟨⟨a1,a2,r1,.sl 1 c (ah .i64 l)⟩,⟨b1,b2,r2,.sl 1 d (ah .i64 m)⟩⟩),.ptr 0 0,.sl 0 true [],.mp 1,.dead,.dead,.dead,.dead,.dead,.dead,if x.2 then .hs 1 3 0 (sA M x.1).length else .sl 0 true [],.dead,.dead],[(44,.ptr 2 0)]⟩) (fun x=>.var (dU ⟨⟨a1,a2,r1,.sl 1 c (ah .i64 l)⟩,⟨b1,b2,r2,.sl 1 d (ah .i64 m)⟩⟩)::.map (mns .i64 M)::.iter 1 M.length x.1::(if x.2 then [.vec 1 (ah .i64 (sA M x.1))]else []))
  (fun x=>((List.range M.length).filter fun j=>decide (j∉x.1)).length) (fun x=>x.1.Nodup/\x.1.length+((List.range M.length).filter fun j=>decide (j∉x.1)).length<=M.length/\(x.2=false->sA M x.1=[])) ([],false) ⟨ae6,(by have:=aeV (fun j=>decide (j∉([]:List Nat))) (List.range M.length);simpa using this),fun _=>rfl⟩ ?_ ?_
 ·simp only[afP,acq];refine GC.mkT [] [0,1,2] af1 rfl af1 af1 evd evd evd
 rintro⟨seen,st⟩ ⟨hn,hlt,hst⟩;dsimp only at hn hlt hst ⊢;have hlen:=U9 M seen;cases st with
 | true =>
   simp only[aco];refine gon ?_;refine⟨fun i hi hs=>?_,fun hall=>?_⟩
   ·have hg:=wq .i64 M i hi
    have hout:=Va M seen i hi;have hn2:=Cw hn hs;have hmu:=Ox hi hs
    have hlt2:(seen++[i]).length+((List.range M.length).filter fun j=>decide (j∉seen++[i])).length<=M.length:=by
     rw[afB];simp only[afG,afM];omega
    refine bO hg ?_;refine aA hg ?_;cases hq:M[i].2 with
    | true =>
      rw[hq]at hout;simp only[aco]at hout;refine aac ?_;refine⟨(seen++[i],true),⟨hn2,hlt2,fun h=>(by cases h)⟩,hmu,?_⟩;simp only[aco,hout];refine GC.mkT [] [0,1,2,4] af1 rfl af1 af1 evd evd evd
    | false =>
      rw[hq]at hout;simp only[afP,acq]at hout;refine aab ?_;refine⟨(seen++[i],true),⟨hn2,hlt2,fun h=>(by cases h)⟩,hmu,?_⟩;simp only[aco,hout];refine GC.mkT [] [0,1,2,3] af1 rfl af1 af1 evd evd evd
   ·have hR:=hsort seen hn hall;have cs:=RX (sA M seen) af0;rw[hR]at cs;have hRl:(gk l m l.length).length=(sA M seen).length:=by rw[<-hR,List.length_mergeSort]
    refine bY ?_;refine ocg [3] cs ?_;rw[<-hRl];exact aj
 | false =>
   simp only[afP,acq];refine gon ?_;refine⟨fun i hi hs=>?_,fun hall=>?_⟩
   ·have hg:=wq .i64 M i hi
    have hout:=Va M seen i hi;have hn2:=Cw hn hs;have hmu:=Ox hi hs
    have hlt2:(seen++[i]).length+((List.range M.length).filter fun j=>decide (j∉seen++[i])).length<=M.length:=by
     rw[afB];simp only[afG,afM];omega
    refine bO hg ?_;refine aA hg ?_;cases hq:M[i].2 with
    | true =>
      rw[hq]at hout;simp only[aco]at hout;refine aac ?_;refine⟨(seen++[i],true),⟨hn2,hlt2,fun h=>(by cases h)⟩,hmu,?_⟩;simp only[aco,hout];rw[hst rfl];refine GC.mkT [] [0,1,2,3] af1 rfl af1 af1 evd evd evd
    | false =>
      rw[hq]at hout;simp only[afP,acq]at hout;refine aab ?_;refine⟨(seen++[i],false),⟨hn2,hlt2,fun h=>(by dsimp only;rw[hout];exact hst rfl)⟩,hmu,?_⟩;simp only[afP,acq,hout];refine GC.mkT [] [0,1,2] af1 rfl af1 af1 evd evd evd
   ·have hR:=hsort seen hn hall;rw[hst rfl,List.mergeSort_nil]at hR;rw[<-hR];refine bY ?_;refine abl (V0 true) ?_;refine⟨_,by first|rfl|exact evd,.inr ⟨.sl 0 true [],evd,trivial,Wk.empty _ _ _⟩⟩
theorem sQ(a b:Clm)(ha:a.good=true)(hb:b.good=true)(pa:a.Pure)(pb:b.Pure):PC Tryz.prog 330 [.agg (dB a),.agg (dB b)] (.bool (sur a b)):=by
 refine PC.fact 5 o9 af1 ⟨(iN a).2 pa,(iN b).2 pb,trivial⟩ trivial ?_;unfold jy sur;refine bd ?_;cases e1:decide (a.src<b.src)with
 | false =>
   refine eS ha hb e1 ?_;exact aj
 | true =>
   refine eS ha hb e1 ?_;exact aj
theorem C7(a b:Clm)(ha:a.good=true)(hb:b.good=true)(pa:a.Pure)(pb:b.Pure)(D:Bool)(ts:List (Nat×AV)):Tri Tryz.prog 36 0 (bU.tl 2) (PQ [.tmp 4] (.bool (D || sur a b || sur b a))) ⟨6,[.agg (dB a),.agg (dB b),.ptr 0 0,.ptr 1 0,.bool false,.bool D],ts⟩ [.var (dB a),.var (dB b)]:=by
 unfold bU;refine bd ?_;simp only[am.tl];have c1:=sQ a b ha hb pa pb;have c2:=sQ b a hb ha pb pa;cases D with
 | true =>
   refine gon ?_;exact aj
 | false =>
   generalize hs:sur a b=s1 at *;cases s1 with
   | true =>
     refine gon ?_;refine abl c1 ?_;exact aj
   | false =>
     refine gon ?_;refine abl c1 ?_;refine abl c2 ?_;exact aj
theorem C8(a b:Clm)(ha:a.good=true)(hb:b.good=true)(pa:a.Pure)(pb:b.Pure):PC Tryz.prog 263 [.agg (dB a),.agg (dB b)] (.bool (slb a b)):=by
 refine PC.fact 6 o8 af1 ⟨(iN a).2 pa,(iN b).2 pb,trivial⟩ trivial ?_;have tl:=C7 a b ha hb pa pb;have hc:bU=.seq bU.hd (.seq (bU.tl 1).hd (bU.tl 2)):=rfl;rw[hc];generalize bU.tl 2=cT at *;unfold bU slb dbl;refine bd ?_;simp only[am.tl,am.hd];cases e1:(a.tgt==b.tgt)with
 | false =>
   refine eS ha hb e1 ?_;exact tl _ _
 | true =>
   cases e2:(a.src != b.src)with
   | true =>
     refine fk ha hb e1 e2 ?_;exact tl _ _
   | false =>
     refine fk ha hb e1 e2 ?_;exact tl _ _
theorem MU(l m:List Int)(c d:Bool)(n a1 a2 b1 b2:Int)(r1 r2:Rt)(hl:l.length<=100)(hm:m.length<=100)(ts:List (Nat×AV)):
 Tri Tryz.prog 54 0 (ce.tl 2) (PQ [.tmp 4] (.int .i64 (if a2<a1\/b2<b1 then 2 else if slb ⟨a1,a2,r1,.sl 1 c (ah .i64 l)⟩ ⟨b1,b2,r2,.sl 1 d (ah .i64 m)⟩=false\/gk l m l.length=[]then 20 else 0)))
  ⟨8,[.agg (dU ⟨⟨a1,a2,r1,.sl 1 c (ah .i64 l)⟩,⟨b1,b2,r2,.sl 1 d (ah .i64 m)⟩⟩),.int .i64 n,.ptr 0 0,.dead,.int .i64 0,.dead,.dead,.dead],ts⟩ [.var (dU ⟨⟨a1,a2,r1,.sl 1 c (ah .i64 l)⟩,⟨b1,b2,r2,.sl 1 d (ah .i64 m)⟩⟩)]:=by
 have cu:=FC ⟨⟨a1,a2,r1,.sl 1 c (ah .i64 l)⟩,⟨b1,b2,r2,.sl 1 d (ah .i64 m)⟩⟩ l m c d rfl rfl hl hm;have sl:=C8 ⟨a1,a2,r1,.sl 1 c (ah .i64 l)⟩ ⟨b1,b2,r2,.sl 1 d (ah .i64 m)⟩ rfl rfl (aY _ _) (aY _ _);unfold ce;refine bd ?_;simp only[am.tl];generalize slb ⟨a1,a2,r1,.sl 1 c (ah .i64 l)⟩ ⟨b1,b2,r2,.sl 1 d (ah .i64 m)⟩=S at *;generalize gk l m l.length=R at *;by_cases q3:a2<a1
 ·have e3:=ax q3;rw[afA (.inl q3)];refine aW e3 ?_;exact aj
 have e3:=aD q3;by_cases q4:b2<b1
 ·have e4:=ax q4;rw[afA (.inr q4)];repeat(first|refine aM ?_|simp only[go_sem,e3,e4])
  refine aac ?_;exact aj
 have e4:=aD q4;rw[afx (fun h=>h.elim q3 q4)];repeat(first|refine aM ?_|simp only[go_sem,e3,e4])
 refine aab ?_;refine ap sl ?_;cases S with
 | false =>
   rw[afA (.inl rfl)];refine bD ?_;exact aj
 | true =>
   refine gon ?_;refine ap cu ?_;by_cases q5:R=[]
   ·subst q5;rw[afA rfl];refine bD ?_;exact aj
   ·have e5:((R.length:Int)==0)=false:=by
     rw[<-acE,ac0];have:=adE.2 q5;omega
    rw[afx (by simp[q5])];repeat(first|refine aM ?_|simp only[go_sem,e5])
    refine aab ?_;exact aj
theorem MV(x:Slg)(l m:List Int)(c d:Bool)(n:Int)(hx:x.fst.vals=.sl 1 c (ah .i64 l))(hy:x.snd.vals=.sl 1 d (ah .i64 m))(hl:l.length<=100)(hm:m.length<=100):
 PC Tryz.prog 182 [.agg (dU x),.int .i64 n] (.int .i64 (evE x l m n)):=by
 obtain⟨⟨a1,a2,r1,v1⟩,⟨b1,b2,r2,v2⟩⟩:=x;dsimp only at hx hy;subst hx hy;have tl:=MU l m c d n a1 a2 b1 b2 r1 r2 hl hm;have w1:=jV l c n af0;have w2:=jV m d n af0;refine PC.fact 8 pI af1 ⟨(ij _).2 ⟨aY _ _,aY _ _⟩,trivial,trivial⟩ trivial ?_;have hc:ce=.seq ce.hd (.seq (ce.tl 1).hd (ce.tl 2)):=rfl;rw[hc];clear hc;generalize ce.tl 2=cT at *;unfold ce evE;refine bd ?_;simp only[am.tl,am.hd];refine gon ?_;refine jU 3 (lC ?_);refine bD ?_;refine ap w1 ?_;by_cases q1:cM l n=0
 case neg=>
  have e1:(cM l n != 0)=true:=by rw[aeM];exact q1
  rw[afA q1];refine aW e1 ?_;exact aj
 rw[afx (fun h=>h q1),q1];refine bY ?_;refine lC ?_;refine bD ?_;refine ap w2 ?_;by_cases q2:cM m n=0
 case neg=>
  have e1:(cM m n != 0)=true:=by rw[aeM];exact q2
  rw[afA q2];refine aW e1 ?_;exact aj
 rw[afx (fun h=>h q2),q2];refine bY ?_;refine lC ?_;refine d6 ?_;refine i7 ?_;simp only[go_sem];refine fN ?_ (tl []);exact abS [] [0]
end Go.Proofs.YtmpddimhleianaaGreat
