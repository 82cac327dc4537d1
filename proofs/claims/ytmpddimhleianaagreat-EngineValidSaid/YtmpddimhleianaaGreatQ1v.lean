/- Joined. -/
import Derived.Test.YtmpddimhleianaaGreatW3v
import Derived.Test.YtmpddimhleianaaGreatChecked
import Derived.KernelRfl
set_option linter.unusedVariables false
set_option linter.unusedSimpArgs false
set_option maxRecDepth 8000
set_option maxHeartbeats 4000000
namespace Go.FH
open Go Go.RowKit
theorem iA.cut{E:Env}{L:Loc}{e:Nat}{ex:Bool}{xs ys:List (List AV)}(h:iA E L (Go.FH.mkr ex e (xs++ys))):iA E L (.vec e xs):=by
 cases ex with
 | true =>
   rcases h with⟨h1,h2⟩|⟨h1,cs,vs,t,h3,h4,h5,h6⟩
   ·exact .inl ⟨h1,(List.append_eq_nil_iff.1 h2).1⟩
   ·have h7:=RlE.take xs.length h6;rw[ae7]at h7;exact .inr ⟨h1,cs,_,vs.drop (xs.length*e),t,by rw[afZ,afX];exact h3,h4,by rw[afZ,afX];exact h5,h7,fun u hu=>h6.one u (aeu hu)⟩
 | false =>
   rcases h with⟨h1,h2⟩|⟨h1,cs,vs,ws,t,h3,h4,h5,h6,h8⟩
   ·exact .inl ⟨h1,(List.append_eq_nil_iff.1 h2).1⟩
   ·have h7:=RlE.take xs.length h6
    rw[ae7]at h7
    have e1:cs++vs.take (xs.length*e)++(vs.drop (xs.length*e)++ws)=cs++vs++ws:=by
     rw[afZ,<-afZ (vs.take _),afX,afZ]
    exact .inr ⟨h1,cs,_,vs.drop (xs.length*e)++ws,t,by rw[e1];exact h3,h4,by rw[e1];exact h5,h7,fun u hu=>(afR.1 hu).elim (fun h=>h6.one u (aeu h)) (h8 u)⟩
section
variable{P:Program}{nt k:Nat}{fr:Fr}{σ:St}
theorem yE{c:am}{Q:Ex->Fr->St->Prop}(d:Nat){e id off len:Nat}(ex:Bool)(xs ys:List (List AV))(hd:fr.get d=.hs e id off len)(hσ:σ[id]?=some (mkr ex e (xs++ys)))
 (h:Tri P nt k c Q ⟨0,[],[(d,.hs e σ.length off len)]⟩ (σ.set id .gone++[.vec e xs])):Tri P nt k c Q fr σ:=by
 intro fx code hc C loc a w hs;have hp:=hs.pad 1;have hid:id<σ.length:=(afO.1 hσ).1;have hlv:(mkr ex e (xs++ys)).live=true:=by cases ex<;>rfl
 have hpid:(σ++List.replicate 1 bZ.gone)[id]?=some (mkr ex e (xs++ys)):=by rw[afU hid];exact hσ
 obtain⟨L,hL,hO⟩:=hp.rel.obj id _ hpid hlv
 have hset:((σ++List.replicate 1 bZ.gone).set id .gone).set σ.length (.vec e xs)=σ.set id .gone++[.vec e xs]:=by
  rw[aek,afA hid,aek,adO,afx (adJ _),aey];rfl
 obtain⟨k1,k2⟩:=hp.rel.add (n:=σ.length) af1 (hs.rel.beyond _ (afE _)) (.vec e xs) L w (Ev.refl _ _) ((σ++List.replicate 1 bZ.gone).set id .gone)
  (fun j oj g1 g2=>by
   rcases fD _ id j _ g1 with⟨rfl,rfl,_⟩|⟨_,k⟩
   ·cases g2
   ·exact k) af1
  (fun j oj L' g1 g2 g3 g4=>⟨fun hh=>by
   rcases fD _ id j _ g1 with⟨rfl,rfl,_⟩|⟨hne,k⟩
   ·cases g2
   ·exact hp.rel.apart j id _ _ L' L hne k hpid g2 hlv g3 hL g4 hh,rfl⟩)
  (fun hh=>.inl ⟨id,_,L,hpid,hlv,hL,hh,rfl⟩)
  (fun E hE hw=>iA.mono hE (fun _ _=>by rw[hw]) hO.cut)
 rw[hset]at k1 k2;refine h fx code hc C (iY loc σ.length L) a w ⟨k1,fun t=>?_,hs.size,hs.dfr,hs.ev,fun b hb=>(k2 b hb).elim (fun h1=>hp.old b h1) (fun h1=>.inr (acn hs.ev.size h1)),fun i hi=>?_,by simp;exact aer hs.klen⟩
 ·by_cases ht:t=d
  ·subst ht;have hv:=hp.frm t;rw[hd]at hv;obtain⟨ad,cap,L',g1,g2,g3,g4,g5,g6⟩:=hv;have g7:loc id=some L':=g5;rw[hL]at g7;cases g7;have e1:Fr.get ⟨0,[],[(t,.hs e σ.length off len)]⟩ t=.hs e σ.length off len:=by simp[Fr.get,qB]
   rw[e1];exact⟨ad,cap,L,g1,g2,g3,g4,dY _ _ _,g6⟩
  ·have e1:Fr.get ⟨0,[],[(d,.hs e σ.length off len)]⟩ t=.dead:=by simp[Fr.get,qB,ht]
   rw[e1];trivial
 ·have:=hs.klen;rw[eH _ _ _ af0];exact hs.pre i hi
end
end Go.FH
namespace Go.Proofs.YtmpddimhleianaaGreat
open Go Go.FH Go.RowKit
theorem BX{β:Type}(C R:List β)(i:Nat)(hi:i<=C.length)(hR:0<R.length):∃X,(C++R).take (i+1)++C.drop i++(C++R).drop (i+1+(C.length-i))=X/\X.length=C.length+R.length/\X.take i=C.take i/\X.drop (i+1)=C.drop i++(C++R).drop (C.length+1):=by
 have hl:((C++R).take (i+1)).length=i+1:=by simp;omega
 refine⟨_,rfl,by simp;omega,?_,?_⟩
 ·rw[afZ,afS af0,adW,adk af0,afS hi]
 ·rw[afZ,adz,hl,acK af0,aey,aeP,adN,show i+1+(C.length-i)=C.length+1 by omega]
theorem BW{β:Type}(C:List β)(z v:β)(i:Nat)(hi:i<=C.length):∃Z,(C.take i++List.replicate (C.length+1-i) z).take i++[v]++(C.take i++List.replicate (C.length+1-i) z).drop (i+1)=Z/\Z.length=C.length+1/\Z.take (i+1)++C.drop i++Z.drop (C.length+1)=C.take i++v::C.drop i:=by
 have hl:(C.take i).length=i:=by simp;omega
 have e1:(C.take i++List.replicate (C.length+1-i) z).take i=C.take i:=by rw[afS af0,afD af0]
 rw[e1];refine⟨_,rfl,by simp only[afB,hl,acT,ada,afG,afM];omega,?_⟩;have h2:(C.take i++[v]).length=i+1:=by simp;omega
 have h5:(C.take i++[v]++(C.take i++List.replicate (C.length+1-i) z).drop (i+1)).drop (C.length+1)=[]:=acK (by simp only[afB,hl,acT,ada,afG,afM];omega);rw[afS (afh h2.symm),afD (afh h2),h5];simp
theorem MX(l:List Int)(i:Nat)(v:Int)(hi:i<=l.length)(hb:l.length<=2097152):
 aJ Tryz.prog 185 [.hs 1 0 0 l.length,.int .i64 i,.sl 1 true [[.int .i64 v]]] [.vec 1 (ah .i64 l)] (.hs 1 1 0 (l.length+1)) [.gone,.vec 1 (ah .i64 (l.take i++v::l.drop i))]:=by
 refine cZ 10 ?_;refine vn 0 af5 af5 af2 af1 (fun m hm=>?_);have hv:(ah .i64 l).length=l.length:=af1
 have hXl:(ah .i64 l++List.replicate m (List.replicate 1 AV.any)).length=l.length+m:=af1
 have hX1:List.take i (ah .i64 l++List.replicate m (List.replicate 1 AV.any))=ah .i64 (l.take i):=by
  rw[afS (by simp;exact hi)];simp[ah]
 have hX2:List.take (l.length-i) (List.drop i (ah .i64 l++List.replicate m (List.replicate 1 AV.any)))=ah .i64 (l.drop i):=by
  rw[adg (by simp;exact hi),afS af1,afD af1];simp[ah]
 have hX3:List.take l.length (ah .i64 l++List.replicate m (List.replicate 1 AV.any))=ah .i64 l:=by
  rw[afS af1,afD af1]
 have hF:ah .i64 (l++[v])=ah .i64 (l++v::List.drop l.length l):=by simp[ah]
 have ht:(ah .i64 l).take i=ah .i64 (l.take i):=by simp[ah]
 have hd:(ah .i64 l).drop i=ah .i64 (l.drop i):=by simp[ah]
 have hG:ah .i64 (l.take i)++[[AV.int .i64 v]]++ah .i64 (l.drop i)=ah .i64 (l.take i++v::l.drop i):=by simp[ah]
 have hG2:ah .i64 (l.take i)++[AV.int .i64 v]::ah .i64 (l.drop i)=ah .i64 (l.take i++v::l.drop i):=by simp[ah]
 have R1:=BX (ah .i64 l) (List.replicate m (List.replicate 1 AV.any)) i (by rw[hv];exact hi);have R2:=BW (ah .i64 l) [AV.int .i64 0] [AV.int .i64 v] i (by rw[hv];exact hi);rw[hv,ht,hd,ada]at R1;rw[hv,ht,hd,hG2]at R2
 have hY:i<l.length->List.take (l.length-i) (List.take (l.length+1-i) (List.drop i (ah .i64 l++List.replicate m (List.replicate 1 AV.any))))=ah .i64 (l.drop i):=fun _=>by
  rw[adW,adk af0];exact hX2
 have hYl:0<m->(List.take (l.length+1-i) (List.drop i (ah .i64 l++List.replicate m (List.replicate 1 AV.any)))).length=l.length+1-i:=fun _=>by simp;omega
 generalize ah .i64 l++List.replicate m (List.replicate 1 AV.any)=X at *;have k1:(l.length:Int)<=((l.length+m:Nat):Int):=af0
 have k2:(i:Int)<=((l.length:Nat):Int):=af0
 have k3:l.length<=l.length+m:=af0
 refine BQ hXl k1 k2 k3 ?_;refine fk hXl k1 k2 k3 ?_;by_cases q:i=l.length
 ·subst q
  refine bO hXl ?_;by_cases hm0:m=0
  ·subst hm0;have q1:¬l.length+1<=l.length:=af0
   refine gO hXl acR q1 afE hX3 hF ?_;exact abF [0] [0,1]
  ·have q1:l.length+1<=l.length+m:=af0
   generalize hret:am.ret=R;refine fk hXl q1 k3 hX3 ?_;subst hret;refine yE 6 true (ah .i64 (l++[v])) (X.drop (l.length+1)) af5 af5 ?_;refine aA hF ?_;exact abF [] [0,2]
 have e0:((i:Int)==((l.length:Nat):Int))=false:=by simp;omega
 have hw1:IntKind.i64.wrap ((l.length:Int)+1)=((l.length+1:Nat):Int):=by rw[ar af0 af0];omega
 have hw2:IntKind.i64.wrap ((i:Int)+1)=((i+1:Nat):Int):=by rw[ar af0 af0];omega
 refine iJ hXl e0 ?_;obtain⟨Z,z1,z2,z3⟩:=R2;have m1:min 1 (l.length+1-i)=1:=af0
 have m2:min (l.length-i) (l.length+1-(i+1))=l.length-i:=af0
 have m3:min (l.length+1-i) (l.length+1-(i+1))=l.length-i:=af0
 have t1:List.take 1 [[AV.int .i64 v]]=[[AV.int .i64 v]]:=rfl;by_cases hm0:m=0
 ·subst hm0;clear R1 hY hYl;have e1:decide (((l.length:Nat):Int)<((l.length+1:Nat):Int))=true:=ax af0;have hw3:IntKind.i64.wrap (((l.length+1:Nat):Int)-(i:Int))=((l.length+1-i:Nat):Int):=by rw[ar af0 af0];omega
  have hs1:i+(l.length+1-i)=l.length+1:=af0
  have hs2:i+(l.length-i)=l.length:=af0
  have hs3:i+1+(l.length+1-(i+1))=l.length+1:=af0
  have hs4:i+1+(l.length-i)=l.length+1:=af0
  have hdl:(l.drop i).length=l.length-i:=af1
  have htn:List.take (l.length-i) (ah .i64 (l.drop i))=ah .i64 (l.drop i):=afD af1;have j1:0<l.length+1-i:=af0
  refine lx hXl e0 hw1 acR afE e1 adh ?_;refine aq ?_;repeat(first|refine aM ?_|simp only[go_sem,hXl,e0,hw1,hw2,hw3,hs1,hs2,hs3,j1,hX1,hX2,m1,t1,z1,z2,afH,acR,afE,e1,adh,hdl,m2,htn,hs4,z3])
  exact abF [0] [0,1]
 ·have e1:decide (((l.length+m:Nat):Int)<((l.length+1:Nat):Int))=false:=aD af0;obtain⟨X2,x1,x2,x3,x4⟩:=R1 af0;have hY1:=hY af0;have hYl1:=hYl af0;have r1:i+(l.length+1-i)<=l.length+m:=af0
  have r2:i+1+(l.length+1-(i+1))<=l.length+m:=af0
  have r3:l.length+1<=l.length+m:=af0
  refine gO hXl e0 hw1 k3 e1 adh ?_;refine aI ?_;refine lx hXl e0 hw1 hw2 k3 e1 adh ?_;clear R1 hY hYl;refine aq ?_;generalize hret:am.ret=R;repeat(first|refine aM ?_|simp only[go_sem,hXl,e0,hw1,hw2,k3,e1,adh,r1,r2,r3,hYl1,m3,hY1,x1,x2,x3,x4,m1,t1])
  subst hret;refine yE 6 true (ah .i64 (l.take i++v::l.drop i)) (X.drop (l.length+1)) af5 (by rw[<-hG];simp[Go.FH.mkr,ah]) ?_;refine gon ?_;exact abF [] [0,1]
theorem MZ(l:List aB)(i:Nat)(v:aB)(hi:i<=l.length)(hb:l.length<=2097152):
 aJ Tryz.prog 188 [.hs 34 0 0 l.length,.int .i64 i,.sl 34 true (rows aB.c [v])] [.vec 34 (rows aB.c l)] (.hs 34 1 0 (l.length+1)) [.gone,.vec 34 (rows aB.c (l.take i++v::l.drop i))]:=by
 refine cZ 10 ?_;refine vn 0 af5 af5 af2 af1 (fun m hm=>?_);have hv:(rows aB.c l).length=l.length:=af1
 have hXl:(rows aB.c l++List.replicate m (List.replicate 34 AV.any)).length=l.length+m:=af1
 have hX1:List.take i (rows aB.c l++List.replicate m (List.replicate 34 AV.any))=rows aB.c (l.take i):=by
  rw[afS (by simp;exact hi)];simp[rows,aB.c]
 have hX2:List.take (l.length-i) (List.drop i (rows aB.c l++List.replicate m (List.replicate 34 AV.any)))=rows aB.c (l.drop i):=by
  rw[adg (by simp;exact hi),afS af1,afD af1];simp[rows,aB.c]
 have hX3:List.take l.length (rows aB.c l++List.replicate m (List.replicate 34 AV.any))=rows aB.c l:=by
  rw[afS af1,afD af1]
 have hF:rows aB.c l++rows aB.c [v]=rows aB.c (l++v::List.drop l.length l):=by simp[rows,aB.c]
 have ht:(rows aB.c l).take i=rows aB.c (l.take i):=by simp[rows,aB.c]
 have hd:(rows aB.c l).drop i=rows aB.c (l.drop i):=by simp[rows,aB.c]
 have hG:rows aB.c (l.take i)++rows aB.c [v]++rows aB.c (l.drop i)=rows aB.c (l.take i++v::l.drop i):=by simp[rows,aB.c]
 have hG2:rows aB.c (l.take i)++(bE v.a)::rows aB.c (l.drop i)=rows aB.c (l.take i++v::l.drop i):=by simp[rows,aB.c]
 have R1:=BX (rows aB.c l) (List.replicate m (List.replicate 34 AV.any)) i (by rw[hv];exact hi);have R2:=BW (rows aB.c l) (bE ⟨⟨0,rt0⟩,.sl 0 true []⟩) (bE v.a) i (by rw[hv];exact hi);rw[hv,ht,hd,ada]at R1;rw[hv,ht,hd,hG2]at R2;rw[show [bE v.a]=rows aB.c [v]from rfl]at R2
 have hY:i<l.length->List.take (l.length-i) (List.take (l.length+1-i) (List.drop i (rows aB.c l++List.replicate m (List.replicate 34 AV.any))))=rows aB.c (l.drop i):=fun _=>by
  rw[adW,adk af0];exact hX2
 have hYl:0<m->(List.take (l.length+1-i) (List.drop i (rows aB.c l++List.replicate m (List.replicate 34 AV.any)))).length=l.length+1-i:=fun _=>by simp;omega
 generalize rows aB.c l++List.replicate m (List.replicate 34 AV.any)=X at *;have k1:(l.length:Int)<=((l.length+m:Nat):Int):=af0
 have k2:(i:Int)<=((l.length:Nat):Int):=af0
 have k3:l.length<=l.length+m:=af0
 refine BQ hXl k1 k2 k3 ?_;refine fk hXl k1 k2 k3 ?_;by_cases q:i=l.length
 ·subst q
  refine bO hXl ?_;by_cases hm0:m=0
  ·subst hm0;have q1:¬l.length+1<=l.length:=af0
   refine gO hXl acR q1 afE hX3 hF ?_;exact abF [0] [0,1]
  ·have q1:l.length+1<=l.length+m:=af0
   generalize hret:am.ret=R;refine fk hXl q1 k3 hX3 ?_;subst hret;refine yE 6 true (rows aB.c l++rows aB.c [v]) (X.drop (l.length+1)) af5 af5 ?_;refine aA hF ?_;exact abF [] [0,2]
 have e0:((i:Int)==((l.length:Nat):Int))=false:=by simp;omega
 have hw1:IntKind.i64.wrap ((l.length:Int)+1)=((l.length+1:Nat):Int):=by rw[ar af0 af0];omega
 have hw2:IntKind.i64.wrap ((i:Int)+1)=((i+1:Nat):Int):=by rw[ar af0 af0];omega
 refine iJ hXl e0 ?_;obtain⟨Z,z1,z2,z3⟩:=R2;have m1:min 1 (l.length+1-i)=1:=af0
 have m2:min (l.length-i) (l.length+1-(i+1))=l.length-i:=af0
 have m3:min (l.length+1-i) (l.length+1-(i+1))=l.length-i:=af0
 have t1:List.take 1 (rows aB.c [v])=rows aB.c [v]:=rfl;by_cases hm0:m=0
 ·subst hm0;clear R1 hY hYl;have e1:decide (((l.length:Nat):Int)<((l.length+1:Nat):Int))=true:=ax af0;have hw3:IntKind.i64.wrap (((l.length+1:Nat):Int)-(i:Int))=((l.length+1-i:Nat):Int):=by rw[ar af0 af0];omega
  have hs1:i+(l.length+1-i)=l.length+1:=af0
  have hs2:i+(l.length-i)=l.length:=af0
  have hs3:i+1+(l.length+1-(i+1))=l.length+1:=af0
  have hs4:i+1+(l.length-i)=l.length+1:=af0
  have hdl:(l.drop i).length=l.length-i:=af1
  have htn:List.take (l.length-i) (rows aB.c (l.drop i))=rows aB.c (l.drop i):=afD af1;have j1:0<l.length+1-i:=af0
  refine lx hXl e0 hw1 acR afE e1 adh ?_;refine aq ?_;repeat(first|refine aM ?_|simp only[go_sem,hXl,e0,hw1,hw2,hw3,hs1,hs2,hs3,j1,hX1,hX2,m1,t1,z1,z2,afH,acR,afE,e1,adh,hdl,m2,htn,hs4,z3])
  exact abF [0] [0,1]
 ·have e1:decide (((l.length+m:Nat):Int)<((l.length+1:Nat):Int))=false:=aD af0;obtain⟨X2,x1,x2,x3,x4⟩:=R1 af0;have hY1:=hY af0;have hYl1:=hYl af0;have r1:i+(l.length+1-i)<=l.length+m:=af0
  have r2:i+1+(l.length+1-(i+1))<=l.length+m:=af0
  have r3:l.length+1<=l.length+m:=af0
  refine gO hXl e0 hw1 k3 e1 adh ?_;refine aI ?_;refine lx hXl e0 hw1 hw2 k3 e1 adh ?_;clear R1 hY hYl;refine aq ?_;generalize hret:am.ret=R;repeat(first|refine aM ?_|simp only[go_sem,hXl,e0,hw1,hw2,k3,e1,adh,r1,r2,r3,hYl1,m3,hY1,x1,x2,x3,x4,m1,t1])
  subst hret;refine yE 6 true (rows aB.c (l.take i++v::l.drop i)) (X.drop (l.length+1)) af5 (by rw[<-hG];simp[Go.FH.mkr]) ?_;refine gon ?_;exact abF [] [0,1]
end Go.Proofs.YtmpddimhleianaaGreat
