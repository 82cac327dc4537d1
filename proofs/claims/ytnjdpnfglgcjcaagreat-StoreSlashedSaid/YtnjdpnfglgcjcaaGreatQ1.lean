/-
 My texts Ua, joined.
-/
import Derived.Test.YtnjdpnfglgcjcaaGreatW3
import Derived.Test.YtnjdpnfglgcjcaaGreatR1
set_option linter.unusedVariables false
set_option linter.unusedSimpArgs false
set_option maxRecDepth 8000
set_option maxHeartbeats 4000000
namespace Go.FH
open Go Go.RowKit
theorem gw.cut{E:Env}{L:Loc}{e:Nat}{ex:Bool}{xs ys:List (List AV)}(h:gw E L (Go.FH.mkr ex e (xs++ys))):gw E L (.vec e xs):=by
 cases ex with
 | true =>
   rcases h with⟨h1,h2⟩|⟨h1,cs,vs,t,h3,h4,h5,h6⟩
   ·exact .inl ⟨h1,(List.append_eq_nil_iff.1 h2).1⟩
   ·have h7:=RlE.take xs.length h6;rw[List.take_left]at h7;exact .inr ⟨h1,cs,_,vs.drop (xs.length*e),t,by rw[List.append_assoc,List.take_append_drop];exact h3,h4,by rw[List.append_assoc,List.take_append_drop];exact h5,h7,fun u hu=>h6.one u (List.mem_of_mem_drop hu)⟩
 | false =>
   rcases h with⟨h1,h2⟩|⟨h1,cs,vs,ws,t,h3,h4,h5,h6,h8⟩
   ·exact .inl ⟨h1,(List.append_eq_nil_iff.1 h2).1⟩
   ·have h7:=RlE.take xs.length h6
    rw[List.take_left]at h7
    have e1:cs++vs.take (xs.length*e)++(vs.drop (xs.length*e)++ws)=cs++vs++ws:=by
     rw[List.append_assoc,<-List.append_assoc (vs.take _),List.take_append_drop,List.append_assoc]
    exact .inr ⟨h1,cs,_,vs.drop (xs.length*e)++ws,t,by rw[e1];exact h3,h4,by rw[e1];exact h5,h7,fun u hu=>(List.mem_append.1 hu).elim (fun h=>h6.one u (List.mem_of_mem_drop h)) (h8 u)⟩
section
variable{P:Program}{nt k:Nat}{fr:Fr}{σ:St}
theorem MZ{c:ab}{Q:Ex->Fr->St->Prop}(d:Nat){e id off len:Nat}(ex:Bool)(xs ys:List (List AV))(hd:fr.get d=.hs e id off len)(hσ:σ[id]?=some (mkr ex e (xs++ys)))
 (h:Tri P nt k c Q ⟨0,[],[(d,.hs e σ.length off len)]⟩ (σ.set id .gone++[.vec e xs])):Tri P nt k c Q fr σ:=by
 intro fx code hc C loc a w hs;have hp:=hs.pad 1;have hid:id<σ.length:=(List.getElem?_eq_some_iff.1 hσ).1;have hlv:(mkr ex e (xs++ys)).live=true:=by cases ex<;>rfl
 have hpid:(σ++List.replicate 1 bO.gone)[id]?=some (mkr ex e (xs++ys)):=by rw[List.getElem?_append_left hid];exact hσ
 obtain⟨L,hL,hO⟩:=hp.rel.obj id _ hpid hlv
 have hset:((σ++List.replicate 1 bO.gone).set id .gone).set σ.length (.vec e xs)=σ.set id .gone++[.vec e xs]:=by
  rw[List.set_append,if_pos hid,List.set_append,List.length_set,if_neg (Nat.lt_irrefl _),Nat.sub_self];rfl
 obtain⟨k1,k2⟩:=hp.rel.add (n:=σ.length) (by simp) (hs.rel.beyond _ (Nat.le_refl _)) (.vec e xs) L w (Ev.refl _ _) ((σ++List.replicate 1 bO.gone).set id .gone)
  (fun j oj g1 g2=>by
   rcases er _ id j _ g1 with⟨rfl,rfl,_⟩|⟨_,k⟩
   ·cases g2
   ·exact k) (by simp)
  (fun j oj L' g1 g2 g3 g4=>⟨fun hh=>by
   rcases er _ id j _ g1 with⟨rfl,rfl,_⟩|⟨hne,k⟩
   ·cases g2
   ·exact hp.rel.apart j id _ _ L' L hne k hpid g2 hlv g3 hL g4 hh,rfl⟩)
  (fun hh=>.inl ⟨id,_,L,hpid,hlv,hL,hh,rfl⟩)
  (fun E hE hw=>gw.mono hE (fun _ _=>by rw[hw]) hO.cut)
 rw[hset]at k1 k2;refine h fx code hc C (iq loc σ.length L) a w ⟨k1,fun t=>?_,hs.size,hs.dfr,hs.ev,fun b hb=>(k2 b hb).elim (fun h1=>hp.old b h1) (fun h1=>.inr (Nat.le_trans hs.ev.size h1)),fun i hi=>?_,by simp;exact Nat.le_succ_of_le hs.klen⟩
 ·by_cases ht:t=d
  ·subst ht;have hv:=hp.frm t;rw[hd]at hv;obtain⟨ad,cap,L',g1,g2,g3,g4,g5,g6⟩:=hv;have g7:loc id=some L':=g5;rw[hL]at g7;cases g7;have e1:Fr.get ⟨0,[],[(t,.hs e σ.length off len)]⟩ t=.hs e σ.length off len:=by simp[Fr.get,qO]
   rw[e1];exact⟨ad,cap,L,g1,g2,g3,g4,dT _ _ _,g6⟩
  ·have e1:Fr.get ⟨0,[],[(d,.hs e σ.length off len)]⟩ t=.dead:=by simp[Fr.get,qO,ht]
   rw[e1];trivial
 ·have:=hs.klen;rw[ej _ _ _ (by omega)];exact hs.pre i hi
end
end Go.FH
namespace Go.Proofs.YtnjdpnfglgcjcaaGreat
open Go Go.FH Go.RowKit
theorem Ov{β:Type}(C R:List β)(i:Nat)(hi:i<=C.length)(hR:0<R.length):∃X,(C++R).take (i+1)++C.drop i++(C++R).drop (i+1+(C.length-i))=X/\X.length=C.length+R.length/\X.take i=C.take i/\X.drop (i+1)=C.drop i++(C++R).drop (C.length+1):=by
 have hl:((C++R).take (i+1)).length=i+1:=by simp;omega
 refine⟨_,rfl,by simp;omega,?_,?_⟩
 ·rw[List.append_assoc,List.take_append_of_le_length (by omega),List.take_take,Nat.min_eq_left (by omega),List.take_append_of_le_length hi]
 ·rw[List.append_assoc,List.drop_append,hl,List.drop_of_length_le (by omega),Nat.sub_self,List.drop_zero,List.nil_append,show i+1+(C.length-i)=C.length+1 by omega]
theorem Ot{β:Type}(C:List β)(z v:β)(i:Nat)(hi:i<=C.length):∃Z,(C.take i++List.replicate (C.length+1-i) z).take i++[v]++(C.take i++List.replicate (C.length+1-i) z).drop (i+1)=Z/\Z.length=C.length+1/\Z.take (i+1)++C.drop i++Z.drop (C.length+1)=C.take i++v::C.drop i:=by
 have hl:(C.take i).length=i:=by simp;omega
 have e1:(C.take i++List.replicate (C.length+1-i) z).take i=C.take i:=by rw[List.take_append_of_le_length (by omega),List.take_of_length_le (by omega)]
 rw[e1];refine⟨_,rfl,by simp only[List.length_append,hl,List.length_drop,List.length_replicate,List.length_cons,List.length_nil];omega,?_⟩;have h2:(C.take i++[v]).length=i+1:=by simp;omega
 have h5:(C.take i++[v]++(C.take i++List.replicate (C.length+1-i) z).drop (i+1)).drop (C.length+1)=[]:=List.drop_of_length_le (by simp only[List.length_append,hl,List.length_drop,List.length_replicate,List.length_cons,List.length_nil];omega);rw[List.take_append_of_le_length (Nat.le_of_eq h2.symm),List.take_of_length_le (Nat.le_of_eq h2),h5];simp
theorem RC(l:List Int)(i:Nat)(v:Int)(hi:i<=l.length)(hb:l.length<=1000000):
 aI Tryz.prog 105 [.hs 1 0 0 l.length,.int .i64 i,.sl 1 true [[.int .i64 v]]] [.vec 1 (ax .i64 l)] (.hs 1 1 0 (l.length+1)) [.gone,.vec 1 (ax .i64 (l.take i++v::l.drop i))]:=by
 refine aI.fact 10 qf (by simp) ?_ (by simp);unfold jJ;refine bd ?_;refine Gr 0 (by rfl) (by rfl) (by decide) (by simp) (fun m hm=>?_);have hv:(ax .i64 l).length=l.length:=by simp
 have hXl:(ax .i64 l++List.replicate m (List.replicate 1 AV.any)).length=l.length+m:=by simp
 have hX1:List.take i (ax .i64 l++List.replicate m (List.replicate 1 AV.any))=ax .i64 (l.take i):=by
  rw[List.take_append_of_le_length (by simp;exact hi)];simp[ax]
 have hX2:List.take (l.length-i) (List.drop i (ax .i64 l++List.replicate m (List.replicate 1 AV.any)))=ax .i64 (l.drop i):=by
  rw[List.drop_append_of_le_length (by simp;exact hi),List.take_append_of_le_length (by simp),List.take_of_length_le (by simp)];simp[ax]
 have hX3:List.take l.length (ax .i64 l++List.replicate m (List.replicate 1 AV.any))=ax .i64 l:=by
  rw[List.take_append_of_le_length (by simp),List.take_of_length_le (by simp)]
 have hF:ax .i64 (l++[v])=ax .i64 (l++v::List.drop l.length l):=by simp[ax]
 have ht:(ax .i64 l).take i=ax .i64 (l.take i):=by simp[ax]
 have hd:(ax .i64 l).drop i=ax .i64 (l.drop i):=by simp[ax]
 have hG:ax .i64 (l.take i)++[[AV.int .i64 v]]++ax .i64 (l.drop i)=ax .i64 (l.take i++v::l.drop i):=by simp[ax]
 have hG2:ax .i64 (l.take i)++[AV.int .i64 v]::ax .i64 (l.drop i)=ax .i64 (l.take i++v::l.drop i):=by simp[ax]
 have R1:=Ov (ax .i64 l) (List.replicate m (List.replicate 1 AV.any)) i (by rw[hv];exact hi);have R2:=Ot (ax .i64 l) [AV.int .i64 0] [AV.int .i64 v] i (by rw[hv];exact hi);rw[hv,ht,hd,List.length_replicate]at R1;rw[hv,ht,hd,hG2]at R2
 have hY:i<l.length->List.take (l.length-i) (List.take (l.length+1-i) (List.drop i (ax .i64 l++List.replicate m (List.replicate 1 AV.any))))=ax .i64 (l.drop i):=fun _=>by
  rw[List.take_take,Nat.min_eq_left (by omega)];exact hX2
 have hYl:0<m->(List.take (l.length+1-i) (List.drop i (ax .i64 l++List.replicate m (List.replicate 1 AV.any)))).length=l.length+1-i:=fun _=>by simp;omega
 generalize ax .i64 l++List.replicate m (List.replicate 1 AV.any)=X at *;have k1:(l.length:Int)<=((l.length+m:Nat):Int):=by omega
 have k2:(i:Int)<=((l.length:Nat):Int):=by omega
 have k3:l.length<=l.length+m:=by omega
 refine BS hXl k1 k2 k3 ?_;refine eW hXl k1 k2 k3 ?_;by_cases q:i=l.length
 ·subst q
  refine bg hXl ?_;by_cases hm0:m=0
  ·subst hm0;have q1:¬l.length+1<=l.length:=by omega
   refine eI hXl Nat.add_zero q1 Nat.le_refl hX3 hF ?_;exact adb [0] [0,1]
  ·have q1:l.length+1<=l.length+m:=by omega
   generalize hret:ab.ret=R;refine eW hXl q1 k3 hX3 ?_;subst hret;refine MZ 6 true (ax .i64 (l++[v])) (X.drop (l.length+1)) (by rfl) (by rfl) ?_;refine ap hF ?_;exact adb [] [0,2]
 have e0:((i:Int)==((l.length:Nat):Int))=false:=by simp;omega
 have hw1:IntKind.i64.wrap ((l.length:Int)+1)=((l.length+1:Nat):Int):=by rw[aK (by omega) (by omega)];omega
 have hw2:IntKind.i64.wrap ((i:Int)+1)=((i+1:Nat):Int):=by rw[aK (by omega) (by omega)];omega
 refine dD hXl e0 ?_;obtain⟨Z,z1,z2,z3⟩:=R2;have m1:min 1 (l.length+1-i)=1:=by omega
 have m2:min (l.length-i) (l.length+1-(i+1))=l.length-i:=by omega
 have m3:min (l.length+1-i) (l.length+1-(i+1))=l.length-i:=by omega
 have t1:List.take 1 [[AV.int .i64 v]]=[[AV.int .i64 v]]:=rfl;by_cases hm0:m=0
 ·subst hm0;clear R1 hY hYl;have e1:decide (((l.length:Nat):Int)<((l.length+1:Nat):Int))=true:=ak (by omega);have hw3:IntKind.i64.wrap (((l.length+1:Nat):Int)-(i:Int))=((l.length+1-i:Nat):Int):=by rw[aK (by omega) (by omega)];omega
  have hs1:i+(l.length+1-i)=l.length+1:=by omega
  have hs2:i+(l.length-i)=l.length:=by omega
  have hs3:i+1+(l.length+1-(i+1))=l.length+1:=by omega
  have hs4:i+1+(l.length-i)=l.length+1:=by omega
  have hdl:(l.drop i).length=l.length-i:=by simp
  have htn:List.take (l.length-i) (ax .i64 (l.drop i))=ax .i64 (l.drop i):=List.take_of_length_le (by simp);have j1:0<l.length+1-i:=by omega
  refine jN hXl e0 hw1 Nat.add_zero Nat.le_refl e1 Nat.sub_zero ?_;refine aF ?_;repeat(first|refine bU ?_|simp only[go_sem,hXl,e0,hw1,hw2,hw3,hs1,hs2,hs3,j1,hX1,hX2,m1,t1,z1,z2,Int.toNat_natCast,Nat.add_zero,Nat.le_refl,e1,Nat.sub_zero,hdl,m2,htn,hs4,z3])
  exact adb [0] [0,1]
 ·have e1:decide (((l.length+m:Nat):Int)<((l.length+1:Nat):Int))=false:=au (by omega);obtain⟨X2,x1,x2,x3,x4⟩:=R1 (by omega);have hY1:=hY (by omega);have hYl1:=hYl (by omega);have r1:i+(l.length+1-i)<=l.length+m:=by omega
  have r2:i+1+(l.length+1-(i+1))<=l.length+m:=by omega
  have r3:l.length+1<=l.length+m:=by omega
  refine eI hXl e0 hw1 k3 e1 Nat.sub_zero ?_;refine aB ?_;refine jN hXl e0 hw1 hw2 k3 e1 Nat.sub_zero ?_;clear R1 hY hYl;refine aF ?_;generalize hret:ab.ret=R;repeat(first|refine bU ?_|simp only[go_sem,hXl,e0,hw1,hw2,k3,e1,Nat.sub_zero,r1,r2,r3,hYl1,m3,hY1,x1,x2,x3,x4,m1,t1])
  subst hret;refine MZ 6 true (ax .i64 (l.take i++v::l.drop i)) (X.drop (l.length+1)) (by rfl) (by rw[<-hG];simp[Go.FH.mkr,ax]) ?_;refine gon ?_;exact adb [] [0,1]
theorem RD(l:List aH)(i:Nat)(v:aH)(hi:i<=l.length)(hb:l.length<=1000000):
 aI Tryz.prog 142 [.hs 34 0 0 l.length,.int .i64 i,.sl 34 true (rows aH.c [v])] [.vec 34 (rows aH.c l)] (.hs 34 1 0 (l.length+1)) [.gone,.vec 34 (rows aH.c (l.take i++v::l.drop i))]:=by
 refine aI.fact 10 jh (by simp) ?_ (by simp);unfold fp;refine bd ?_;refine Gr 0 (by rfl) (by rfl) (by decide) (by simp) (fun m hm=>?_);have hv:(rows aH.c l).length=l.length:=by simp
 have hXl:(rows aH.c l++List.replicate m (List.replicate 34 AV.any)).length=l.length+m:=by simp
 have hX1:List.take i (rows aH.c l++List.replicate m (List.replicate 34 AV.any))=rows aH.c (l.take i):=by
  rw[List.take_append_of_le_length (by simp;exact hi)];simp[rows,aH.c]
 have hX2:List.take (l.length-i) (List.drop i (rows aH.c l++List.replicate m (List.replicate 34 AV.any)))=rows aH.c (l.drop i):=by
  rw[List.drop_append_of_le_length (by simp;exact hi),List.take_append_of_le_length (by simp),List.take_of_length_le (by simp)];simp[rows,aH.c]
 have hX3:List.take l.length (rows aH.c l++List.replicate m (List.replicate 34 AV.any))=rows aH.c l:=by
  rw[List.take_append_of_le_length (by simp),List.take_of_length_le (by simp)]
 have hF:rows aH.c l++rows aH.c [v]=rows aH.c (l++v::List.drop l.length l):=by simp[rows,aH.c]
 have ht:(rows aH.c l).take i=rows aH.c (l.take i):=by simp[rows,aH.c]
 have hd:(rows aH.c l).drop i=rows aH.c (l.drop i):=by simp[rows,aH.c]
 have hG:rows aH.c (l.take i)++rows aH.c [v]++rows aH.c (l.drop i)=rows aH.c (l.take i++v::l.drop i):=by simp[rows,aH.c]
 have hG2:rows aH.c (l.take i)++(bE v.a)::rows aH.c (l.drop i)=rows aH.c (l.take i++v::l.drop i):=by simp[rows,aH.c]
 have R1:=Ov (rows aH.c l) (List.replicate m (List.replicate 34 AV.any)) i (by rw[hv];exact hi);have R2:=Ot (rows aH.c l) (bE ⟨⟨0,rt0⟩,.sl 0 true []⟩) (bE v.a) i (by rw[hv];exact hi);rw[hv,ht,hd,List.length_replicate]at R1;rw[hv,ht,hd,hG2]at R2;rw[show [bE v.a]=rows aH.c [v]from rfl]at R2
 have hY:i<l.length->List.take (l.length-i) (List.take (l.length+1-i) (List.drop i (rows aH.c l++List.replicate m (List.replicate 34 AV.any))))=rows aH.c (l.drop i):=fun _=>by
  rw[List.take_take,Nat.min_eq_left (by omega)];exact hX2
 have hYl:0<m->(List.take (l.length+1-i) (List.drop i (rows aH.c l++List.replicate m (List.replicate 34 AV.any)))).length=l.length+1-i:=fun _=>by simp;omega
 generalize rows aH.c l++List.replicate m (List.replicate 34 AV.any)=X at *;have k1:(l.length:Int)<=((l.length+m:Nat):Int):=by omega
 have k2:(i:Int)<=((l.length:Nat):Int):=by omega
 have k3:l.length<=l.length+m:=by omega
 refine BS hXl k1 k2 k3 ?_;refine eW hXl k1 k2 k3 ?_;by_cases q:i=l.length
 ·subst q
  refine bg hXl ?_;by_cases hm0:m=0
  ·subst hm0;have q1:¬l.length+1<=l.length:=by omega
   refine eI hXl Nat.add_zero q1 Nat.le_refl hX3 hF ?_;exact adb [0] [0,1]
  ·have q1:l.length+1<=l.length+m:=by omega
   generalize hret:ab.ret=R;refine eW hXl q1 k3 hX3 ?_;subst hret;refine MZ 6 true (rows aH.c l++rows aH.c [v]) (X.drop (l.length+1)) (by rfl) (by rfl) ?_;refine ap hF ?_;exact adb [] [0,2]
 have e0:((i:Int)==((l.length:Nat):Int))=false:=by simp;omega
 have hw1:IntKind.i64.wrap ((l.length:Int)+1)=((l.length+1:Nat):Int):=by rw[aK (by omega) (by omega)];omega
 have hw2:IntKind.i64.wrap ((i:Int)+1)=((i+1:Nat):Int):=by rw[aK (by omega) (by omega)];omega
 refine dD hXl e0 ?_;obtain⟨Z,z1,z2,z3⟩:=R2;have m1:min 1 (l.length+1-i)=1:=by omega
 have m2:min (l.length-i) (l.length+1-(i+1))=l.length-i:=by omega
 have m3:min (l.length+1-i) (l.length+1-(i+1))=l.length-i:=by omega
 have t1:List.take 1 (rows aH.c [v])=rows aH.c [v]:=rfl;by_cases hm0:m=0
 ·subst hm0;clear R1 hY hYl;have e1:decide (((l.length:Nat):Int)<((l.length+1:Nat):Int))=true:=ak (by omega);have hw3:IntKind.i64.wrap (((l.length+1:Nat):Int)-(i:Int))=((l.length+1-i:Nat):Int):=by rw[aK (by omega) (by omega)];omega
  have hs1:i+(l.length+1-i)=l.length+1:=by omega
  have hs2:i+(l.length-i)=l.length:=by omega
  have hs3:i+1+(l.length+1-(i+1))=l.length+1:=by omega
  have hs4:i+1+(l.length-i)=l.length+1:=by omega
  have hdl:(l.drop i).length=l.length-i:=by simp
  have htn:List.take (l.length-i) (rows aH.c (l.drop i))=rows aH.c (l.drop i):=List.take_of_length_le (by simp);have j1:0<l.length+1-i:=by omega
  refine jN hXl e0 hw1 Nat.add_zero Nat.le_refl e1 Nat.sub_zero ?_;refine aF ?_;repeat(first|refine bU ?_|simp only[go_sem,hXl,e0,hw1,hw2,hw3,hs1,hs2,hs3,j1,hX1,hX2,m1,t1,z1,z2,Int.toNat_natCast,Nat.add_zero,Nat.le_refl,e1,Nat.sub_zero,hdl,m2,htn,hs4,z3])
  exact adb [0] [0,1]
 ·have e1:decide (((l.length+m:Nat):Int)<((l.length+1:Nat):Int))=false:=au (by omega);obtain⟨X2,x1,x2,x3,x4⟩:=R1 (by omega);have hY1:=hY (by omega);have hYl1:=hYl (by omega);have r1:i+(l.length+1-i)<=l.length+m:=by omega
  have r2:i+1+(l.length+1-(i+1))<=l.length+m:=by omega
  have r3:l.length+1<=l.length+m:=by omega
  refine eI hXl e0 hw1 k3 e1 Nat.sub_zero ?_;refine aB ?_;refine jN hXl e0 hw1 hw2 k3 e1 Nat.sub_zero ?_;clear R1 hY hYl;refine aF ?_;generalize hret:ab.ret=R;repeat(first|refine bU ?_|simp only[go_sem,hXl,e0,hw1,hw2,k3,e1,Nat.sub_zero,r1,r2,r3,hYl1,m3,hY1,x1,x2,x3,x4,m1,t1])
  subst hret;refine MZ 6 true (rows aH.c (l.take i++v::l.drop i)) (X.drop (l.length+1)) (by rfl) (by rw[<-hG];simp[Go.FH.mkr]) ?_;refine gon ?_;exact adb [] [0,1]
end Go.Proofs.YtnjdpnfglgcjcaaGreat
