/- Joined. -/
import Derived.Test.YtmpddimhleianaaGreatW3
import Derived.Test.YtmpddimhleianaaGreatChecked
import Derived.KernelRfl
set_option linter.unusedVariables false
set_option linter.unusedSimpArgs false
set_option maxRecDepth 8000
set_option maxHeartbeats 4000000
namespace Go.FH
open Go Go.RowKit
theorem iF.cut{E:Env}{L:Loc}{e:Nat}{ex:Bool}{xs ys:List (List AV)}(h:iF E L (Go.FH.mkr ex e (xs++ys))):iF E L (.vec e xs):=by
 cases ex with
 | true =>
   rcases h with⟨h1,h2⟩|⟨h1,cs,vs,t,h3,h4,h5,h6⟩
   ·exact .inl ⟨h1,(List.append_eq_nil_iff.1 h2).1⟩
   ·have h7:=RlE.take xs.length h6;rw[WF]at h7;exact .inr ⟨h1,cs,_,vs.drop (xs.length*e),t,by rw[amd,amF];exact h3,h4,by rw[amd,amF];exact h5,h7,fun u hu=>h6.one u (Wv hu)⟩
 | false =>
   rcases h with⟨h1,h2⟩|⟨h1,cs,vs,ws,t,h3,h4,h5,h6,h8⟩
   ·exact .inl ⟨h1,(List.append_eq_nil_iff.1 h2).1⟩
   ·have h7:=RlE.take xs.length h6
    rw[WF]at h7
    have e1:cs++vs.take (xs.length*e)++(vs.drop (xs.length*e)++ws)=cs++vs++ws:=by
     rw[amd,<-amd (vs.take _),amF,amd]
    exact .inr ⟨h1,cs,_,vs.drop (xs.length*e)++ws,t,by rw[e1];exact h3,h4,by rw[e1];exact h5,h7,fun u hu=>(amm.1 hu).elim (fun h=>h6.one u (Wv h)) (h8 u)⟩
section
variable{P:Program}{nt k:Nat}{fr:Fr}{σ:St}
theorem rU{c:ab}{Q:Ex->Fr->St->Prop}(d:Nat){e id off len:Nat}(ex:Bool)(xs ys:List (List AV))(hd:fr.get d=.hs e id off len)(hσ:σ[id]?=some (mkr ex e (xs++ys)))
 (h:Tri P nt k c Q ⟨0,[],[(d,.hs e σ.length off len)]⟩ (σ.set id .gone++[.vec e xs])):Tri P nt k c Q fr σ:=by
 intro fx code hc C loc a w hs;have hp:=hs.pad 1;have hid:id<σ.length:=(aml.1 hσ).1;have hlv:(mkr ex e (xs++ys)).live=true:=by cases ex<;>rfl
 have hpid:(σ++List.replicate 1 cn.gone)[id]?=some (mkr ex e (xs++ys)):=by rw[amH hid];exact hσ
 obtain⟨L,hL,hO⟩:=hp.rel.obj id _ hpid hlv
 have hset:((σ++List.replicate 1 cn.gone).set id .gone).set σ.length (.vec e xs)=σ.set id .gone++[.vec e xs]:=by
  rw[akf,al7 hid,akf,akB,al5 (aj3 _),akQ];rfl
 obtain⟨k1,k2⟩:=hp.rel.add (n:=σ.length) WM (hs.rel.beyond _ (amb _)) (.vec e xs) L w (Ev.refl _ _) ((σ++List.replicate 1 cn.gone).set id .gone)
  (fun j oj g1 g2=>by
   rcases eT _ id j _ g1 with⟨rfl,rfl,_⟩|⟨_,k⟩
   ·cases g2
   ·exact k) WM
  (fun j oj L' g1 g2 g3 g4=>⟨fun hh=>by
   rcases eT _ id j _ g1 with⟨rfl,rfl,_⟩|⟨hne,k⟩
   ·cases g2
   ·exact hp.rel.apart j id _ _ L' L hne k hpid g2 hlv g3 hL g4 hh,rfl⟩)
  (fun hh=>.inl ⟨id,_,L,hpid,hlv,hL,hh,rfl⟩)
  (fun E hE hw=>iF.mono hE (fun _ _=>by rw[hw]) hO.cut)
 rw[hset]at k1 k2;refine h fx code hc C (ja loc σ.length L) a w ⟨k1,fun t=>?_,hs.size,hs.dfr,hs.ev,fun b hb=>(k2 b hb).elim (fun h1=>hp.old b h1) (fun h1=>.inr (ams hs.ev.size h1)),fun i hi=>?_,by simp;exact akK hs.klen⟩
 ·by_cases ht:t=d
  ·subst ht;have hv:=hp.frm t;rw[hd]at hv;obtain⟨ad,cap,L',g1,g2,g3,g4,g5,g6⟩:=hv;have g7:loc id=some L':=g5;rw[hL]at g7;cases g7;have e1:Fr.get ⟨0,[],[(t,.hs e σ.length off len)]⟩ t=.hs e σ.length off len:=by simp[Fr.get,wu]
   rw[e1];exact⟨ad,cap,L,g1,g2,g3,g4,dY _ _ _,g6⟩
  ·have e1:Fr.get ⟨0,[],[(d,.hs e σ.length off len)]⟩ t=.dead:=by simp[Fr.get,wu,ht]
   rw[e1];trivial
 ·have:=hs.klen;rw[cj _ _ _ WL];exact hs.pre i hi
end
end Go.FH
namespace Go.Proofs.YtmpddimhleianaaGreat
open Go Go.FH Go.RowKit
theorem uw{β:Type}(C R:List β)(i:Nat)(hi:i<=C.length)(hR:0<R.length):∃X,(C++R).take (i+1)++C.drop i++(C++R).drop (i+1+(C.length-i))=X/\X.length=C.length+R.length/\X.take i=C.take i/\X.drop (i+1)=C.drop i++(C++R).drop (C.length+1):=by
 have hl:((C++R).take (i+1)).length=i+1:=by simp;omega
 refine⟨_,rfl,by simp;omega,?_,?_⟩
 ·rw[amd,ajs WL,ak7,akA WL,ajs hi]
 ·rw[amd,aj6,hl,ajF WL,akQ,ak9,amD,show i+1+(C.length-i)=C.length+1 by omega]
theorem uv{β:Type}(C:List β)(z v:β)(i:Nat)(hi:i<=C.length):∃Z,(C.take i++List.replicate (C.length+1-i) z).take i++[v]++(C.take i++List.replicate (C.length+1-i) z).drop (i+1)=Z/\Z.length=C.length+1/\Z.take (i+1)++C.drop i++Z.drop (C.length+1)=C.take i++v::C.drop i:=by
 have hl:(C.take i).length=i:=by simp;omega
 have e1:(C.take i++List.replicate (C.length+1-i) z).take i=C.take i:=by rw[ajs WL,amf WL]
 rw[e1];refine⟨_,rfl,by simp only[akC,hl,ajJ,akH,al8,ama];omega,?_⟩;have h2:(C.take i++[v]).length=i+1:=by simp;omega
 have h5:(C.take i++[v]++(C.take i++List.replicate (C.length+1-i) z).drop (i+1)).drop (C.length+1)=[]:=ajF (by simp only[akC,hl,ajJ,akH,al8,ama];omega);rw[ajs (WH h2.symm),amf (WH h2),h5];simp
theorem IA(l:List Int)(i:Nat)(v:Int)(hi:i<=l.length)(hb:l.length<=2097152):
 ay Tryz.prog 185 [.hs 1 0 0 l.length,.int .i64 i,.sl 1 true [[.int .i64 v]]] [.vec 1 (aH .i64 l)] (.hs 1 1 0 (l.length+1)) [.gone,.vec 1 (aH .i64 (l.take i++v::l.drop i))]:=by
 refine dS 10 ?_;refine pe 0 WQ WQ WN WM (fun m hm=>?_);have hv:(aH .i64 l).length=l.length:=WM
 have hXl:(aH .i64 l++List.replicate m (List.replicate 1 AV.any)).length=l.length+m:=WM
 have hX1:List.take i (aH .i64 l++List.replicate m (List.replicate 1 AV.any))=aH .i64 (l.take i):=by
  rw[ajs (by simp;exact hi)];simp[aH]
 have hX2:List.take (l.length-i) (List.drop i (aH .i64 l++List.replicate m (List.replicate 1 AV.any)))=aH .i64 (l.drop i):=by
  rw[akw (by simp;exact hi),ajs WM,amf WM];simp[aH]
 have hX3:List.take l.length (aH .i64 l++List.replicate m (List.replicate 1 AV.any))=aH .i64 l:=by
  rw[ajs WM,amf WM]
 have hF:aH .i64 (l++[v])=aH .i64 (l++v::List.drop l.length l):=by simp[aH]
 have ht:(aH .i64 l).take i=aH .i64 (l.take i):=by simp[aH]
 have hd:(aH .i64 l).drop i=aH .i64 (l.drop i):=by simp[aH]
 have hG:aH .i64 (l.take i)++[[AV.int .i64 v]]++aH .i64 (l.drop i)=aH .i64 (l.take i++v::l.drop i):=by simp[aH]
 have hG2:aH .i64 (l.take i)++[AV.int .i64 v]::aH .i64 (l.drop i)=aH .i64 (l.take i++v::l.drop i):=by simp[aH]
 have R1:=uw (aH .i64 l) (List.replicate m (List.replicate 1 AV.any)) i (by rw[hv];exact hi);have R2:=uv (aH .i64 l) [AV.int .i64 0] [AV.int .i64 v] i (by rw[hv];exact hi);rw[hv,ht,hd,akH]at R1;rw[hv,ht,hd,hG2]at R2
 have hY:i<l.length->List.take (l.length-i) (List.take (l.length+1-i) (List.drop i (aH .i64 l++List.replicate m (List.replicate 1 AV.any))))=aH .i64 (l.drop i):=fun _=>by
  rw[ak7,akA WL];exact hX2
 have hYl:0<m->(List.take (l.length+1-i) (List.drop i (aH .i64 l++List.replicate m (List.replicate 1 AV.any)))).length=l.length+1-i:=fun _=>by simp;omega
 generalize aH .i64 l++List.replicate m (List.replicate 1 AV.any)=X at *;have k1:(l.length:Int)<=((l.length+m:Nat):Int):=WL
 have k2:(i:Int)<=((l.length:Nat):Int):=WL
 have k3:l.length<=l.length+m:=WL
 refine OA hXl k1 k2 k3 ?_;refine pz hXl k1 k2 k3 ?_;by_cases q:i=l.length
 ·subst q
  refine bw hXl ?_;by_cases hm0:m=0
  ·subst hm0;have q1:¬l.length+1<=l.length:=WL
   refine fG hXl ajV q1 amb hX3 hF ?_;exact ahY [0] [0,1]
  ·have q1:l.length+1<=l.length+m:=WL
   generalize hret:ab.ret=R;refine pz hXl q1 k3 hX3 ?_;subst hret;refine rU 6 true (aH .i64 (l++[v])) (X.drop (l.length+1)) WQ WQ ?_;refine ah hF ?_;exact ahY [] [0,2]
 have e0:((i:Int)==((l.length:Nat):Int))=false:=by simp;omega
 have hw1:IntKind.i64.wrap ((l.length:Int)+1)=((l.length+1:Nat):Int):=by rw[aL WL WL];omega
 have hw2:IntKind.i64.wrap ((i:Int)+1)=((i+1:Nat):Int):=by rw[aL WL WL];omega
 refine fp hXl e0 ?_;obtain⟨Z,z1,z2,z3⟩:=R2;have m1:min 1 (l.length+1-i)=1:=WL
 have m2:min (l.length-i) (l.length+1-(i+1))=l.length-i:=WL
 have m3:min (l.length+1-i) (l.length+1-(i+1))=l.length-i:=WL
 have t1:List.take 1 [[AV.int .i64 v]]=[[AV.int .i64 v]]:=rfl;by_cases hm0:m=0
 ·subst hm0;clear R1 hY hYl;have e1:decide (((l.length:Nat):Int)<((l.length+1:Nat):Int))=true:=au WL;have hw3:IntKind.i64.wrap (((l.length+1:Nat):Int)-(i:Int))=((l.length+1-i:Nat):Int):=by rw[aL WL WL];omega
  have hs1:i+(l.length+1-i)=l.length+1:=WL
  have hs2:i+(l.length-i)=l.length:=WL
  have hs3:i+1+(l.length+1-(i+1))=l.length+1:=WL
  have hs4:i+1+(l.length-i)=l.length+1:=WL
  have hdl:(l.drop i).length=l.length-i:=WM
  have htn:List.take (l.length-i) (aH .i64 (l.drop i))=aH .i64 (l.drop i):=amf WM;have j1:0<l.length+1-i:=WL
  refine jj hXl e0 hw1 ajV amb e1 Wt ?_;refine ax ?_;repeat(first|refine bY ?_|simp only[go_sem,hXl,e0,hw1,hw2,hw3,hs1,hs2,hs3,j1,hX1,hX2,m1,t1,z1,z2,amw,ajV,amb,e1,Wt,hdl,m2,htn,hs4,z3])
  exact ahY [0] [0,1]
 ·have e1:decide (((l.length+m:Nat):Int)<((l.length+1:Nat):Int))=false:=aA WL;obtain⟨X2,x1,x2,x3,x4⟩:=R1 WL;have hY1:=hY WL;have hYl1:=hYl WL;have r1:i+(l.length+1-i)<=l.length+m:=WL
  have r2:i+1+(l.length+1-(i+1))<=l.length+m:=WL
  have r3:l.length+1<=l.length+m:=WL
  refine fG hXl e0 hw1 k3 e1 Wt ?_;refine aB ?_;refine jj hXl e0 hw1 hw2 k3 e1 Wt ?_;clear R1 hY hYl;refine ax ?_;generalize hret:ab.ret=R;repeat(first|refine bY ?_|simp only[go_sem,hXl,e0,hw1,hw2,k3,e1,Wt,r1,r2,r3,hYl1,m3,hY1,x1,x2,x3,x4,m1,t1])
  subst hret;refine rU 6 true (aH .i64 (l.take i++v::l.drop i)) (X.drop (l.length+1)) WQ (by rw[<-hG];simp[Go.FH.mkr,aH]) ?_;refine gon ?_;exact ahY [] [0,1]
theorem IE(l:List aW)(i:Nat)(v:aW)(hi:i<=l.length)(hb:l.length<=2097152):
 ay Tryz.prog 188 [.hs 34 0 0 l.length,.int .i64 i,.sl 34 true (rows aW.c [v])] [.vec 34 (rows aW.c l)] (.hs 34 1 0 (l.length+1)) [.gone,.vec 34 (rows aW.c (l.take i++v::l.drop i))]:=by
 refine dS 10 ?_;refine pe 0 WQ WQ WN WM (fun m hm=>?_);have hv:(rows aW.c l).length=l.length:=WM
 have hXl:(rows aW.c l++List.replicate m (List.replicate 34 AV.any)).length=l.length+m:=WM
 have hX1:List.take i (rows aW.c l++List.replicate m (List.replicate 34 AV.any))=rows aW.c (l.take i):=by
  rw[ajs (by simp;exact hi)];simp[rows,aW.c]
 have hX2:List.take (l.length-i) (List.drop i (rows aW.c l++List.replicate m (List.replicate 34 AV.any)))=rows aW.c (l.drop i):=by
  rw[akw (by simp;exact hi),ajs WM,amf WM];simp[rows,aW.c]
 have hX3:List.take l.length (rows aW.c l++List.replicate m (List.replicate 34 AV.any))=rows aW.c l:=by
  rw[ajs WM,amf WM]
 have hF:rows aW.c l++rows aW.c [v]=rows aW.c (l++v::List.drop l.length l):=by simp[rows,aW.c]
 have ht:(rows aW.c l).take i=rows aW.c (l.take i):=by simp[rows,aW.c]
 have hd:(rows aW.c l).drop i=rows aW.c (l.drop i):=by simp[rows,aW.c]
 have hG:rows aW.c (l.take i)++rows aW.c [v]++rows aW.c (l.drop i)=rows aW.c (l.take i++v::l.drop i):=by simp[rows,aW.c]
 have hG2:rows aW.c (l.take i)++(ar v.a)::rows aW.c (l.drop i)=rows aW.c (l.take i++v::l.drop i):=by simp[rows,aW.c]
 have R1:=uw (rows aW.c l) (List.replicate m (List.replicate 34 AV.any)) i (by rw[hv];exact hi);have R2:=uv (rows aW.c l) (ar ⟨⟨0,rt0⟩,.sl 0 true []⟩) (ar v.a) i (by rw[hv];exact hi);rw[hv,ht,hd,akH]at R1;rw[hv,ht,hd,hG2]at R2;rw[show [ar v.a]=rows aW.c [v]from rfl]at R2
 have hY:i<l.length->List.take (l.length-i) (List.take (l.length+1-i) (List.drop i (rows aW.c l++List.replicate m (List.replicate 34 AV.any))))=rows aW.c (l.drop i):=fun _=>by
  rw[ak7,akA WL];exact hX2
 have hYl:0<m->(List.take (l.length+1-i) (List.drop i (rows aW.c l++List.replicate m (List.replicate 34 AV.any)))).length=l.length+1-i:=fun _=>by simp;omega
 generalize rows aW.c l++List.replicate m (List.replicate 34 AV.any)=X at *;have k1:(l.length:Int)<=((l.length+m:Nat):Int):=WL
 have k2:(i:Int)<=((l.length:Nat):Int):=WL
 have k3:l.length<=l.length+m:=WL
 refine OA hXl k1 k2 k3 ?_;refine pz hXl k1 k2 k3 ?_;by_cases q:i=l.length
 ·subst q
  refine bw hXl ?_;by_cases hm0:m=0
  ·subst hm0;have q1:¬l.length+1<=l.length:=WL
   refine fG hXl ajV q1 amb hX3 hF ?_;exact ahY [0] [0,1]
  ·have q1:l.length+1<=l.length+m:=WL
   generalize hret:ab.ret=R;refine pz hXl q1 k3 hX3 ?_;subst hret;refine rU 6 true (rows aW.c l++rows aW.c [v]) (X.drop (l.length+1)) WQ WQ ?_;refine ah hF ?_;exact ahY [] [0,2]
 have e0:((i:Int)==((l.length:Nat):Int))=false:=by simp;omega
 have hw1:IntKind.i64.wrap ((l.length:Int)+1)=((l.length+1:Nat):Int):=by rw[aL WL WL];omega
 have hw2:IntKind.i64.wrap ((i:Int)+1)=((i+1:Nat):Int):=by rw[aL WL WL];omega
 refine fp hXl e0 ?_;obtain⟨Z,z1,z2,z3⟩:=R2;have m1:min 1 (l.length+1-i)=1:=WL
 have m2:min (l.length-i) (l.length+1-(i+1))=l.length-i:=WL
 have m3:min (l.length+1-i) (l.length+1-(i+1))=l.length-i:=WL
 have t1:List.take 1 (rows aW.c [v])=rows aW.c [v]:=rfl;by_cases hm0:m=0
 ·subst hm0;clear R1 hY hYl;have e1:decide (((l.length:Nat):Int)<((l.length+1:Nat):Int))=true:=au WL;have hw3:IntKind.i64.wrap (((l.length+1:Nat):Int)-(i:Int))=((l.length+1-i:Nat):Int):=by rw[aL WL WL];omega
  have hs1:i+(l.length+1-i)=l.length+1:=WL
  have hs2:i+(l.length-i)=l.length:=WL
  have hs3:i+1+(l.length+1-(i+1))=l.length+1:=WL
  have hs4:i+1+(l.length-i)=l.length+1:=WL
  have hdl:(l.drop i).length=l.length-i:=WM
  have htn:List.take (l.length-i) (rows aW.c (l.drop i))=rows aW.c (l.drop i):=amf WM;have j1:0<l.length+1-i:=WL
  refine jj hXl e0 hw1 ajV amb e1 Wt ?_;refine ax ?_;repeat(first|refine bY ?_|simp only[go_sem,hXl,e0,hw1,hw2,hw3,hs1,hs2,hs3,j1,hX1,hX2,m1,t1,z1,z2,amw,ajV,amb,e1,Wt,hdl,m2,htn,hs4,z3])
  exact ahY [0] [0,1]
 ·have e1:decide (((l.length+m:Nat):Int)<((l.length+1:Nat):Int))=false:=aA WL;obtain⟨X2,x1,x2,x3,x4⟩:=R1 WL;have hY1:=hY WL;have hYl1:=hYl WL;have r1:i+(l.length+1-i)<=l.length+m:=WL
  have r2:i+1+(l.length+1-(i+1))<=l.length+m:=WL
  have r3:l.length+1<=l.length+m:=WL
  refine fG hXl e0 hw1 k3 e1 Wt ?_;refine aB ?_;refine jj hXl e0 hw1 hw2 k3 e1 Wt ?_;clear R1 hY hYl;refine ax ?_;generalize hret:ab.ret=R;repeat(first|refine bY ?_|simp only[go_sem,hXl,e0,hw1,hw2,k3,e1,Wt,r1,r2,r3,hYl1,m3,hY1,x1,x2,x3,x4,m1,t1])
  subst hret;refine rU 6 true (rows aW.c (l.take i++v::l.drop i)) (X.drop (l.length+1)) WQ (by rw[<-hG];simp[Go.FH.mkr]) ?_;refine gon ?_;exact ahY [] [0,1]
end Go.Proofs.YtmpddimhleianaaGreat
