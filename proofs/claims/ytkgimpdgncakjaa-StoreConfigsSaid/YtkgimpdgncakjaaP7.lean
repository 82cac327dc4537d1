/-
 My texts Ri, joined.
-/
import Derived.Test.YtkgimpdgncakjaaT8
import Derived.Test.YtkgimpdgncakjaaJl
import Derived.Test.YtkgimpdgncakjaaR1
namespace Go.Proofs.Ytkgimpdgncakjaa
open Go Go.FH Go.RowKit
set_option linter.unusedVariables false
set_option linter.unusedSimpArgs false
set_option maxRecDepth 8000
set_option maxHeartbeats 4000000
theorem Gl_:CpR ct_:=⟨by simp[ct_],by simp[ct_],by simp[ct_],by simp[ct_],fun t ht=>by simp[ct_]at ht,by simp[ct_],by simp[ct_],fun t ht=>by simp[ct_]at ht,by simp[ct_]⟩
theorem zW_{c:aX_}(hb:c.bals.length≤1000000):CpR (kJ_ c).1:=by
 unfold kJ_;split
 ·exact⟨by simp[cv_],by simp[cv_];omega,by simp[cv_],by simp[cv_],fun t ht=>by simp[cv_]at ht;subst ht;exact hb,by simp[cv_],by simp[cv_],fun a ha=>by simp[cv_]at ha,hb⟩
 ·exact Gl_
theorem pc_StoreNew(x:Cfg)(hx:x.Ok):PC Try.prog 3 [.agg (aU_ x)] (.bool true):=by
 obtain⟨lim,spe,boost,ttd,gen,bals⟩:=x;obtain⟨ns,hns,hl,hw⟩:=hx.bals;dsimp only at hns;subst hns
 have hu:∀n∈ns,0≤n∧n<18446744073709551616:=fun n hn=>by
  have:=hw n hn;simp[Lit.wf]at this;have h1:IntKind.u64.min=0:=rfl;have h2:IntKind.u64.max=18446744073709551615:=rfl;omega
 show PC Try.prog 3 [.agg (aU_ (⟨lim,spe,boost,ttd,gen,ns⟩:aX_).a)] (.bool true)
 generalize hv:(⟨lim,spe,boost,ttd,gen,ns⟩:aX_)=v;have hbl:v.bals=ns:=by rw[←hv]
 rw[←hbl]at hl hu;clear hv hbl;refine PC.fact 7 lb_ (by simp) puA puA ?_;unfold gA_;refine bd ?_;have c4:=kj_;have gt:decide ((v.bals.length:Int) > 2000)=decide (2000<(v.bals.length:Int)):=rfl;by_cases q:2000<(v.bals.length:Int)
 ·have e:=decide_eq_true q;repeat(first|refine aa_ ?_|simp only[go_sem,gt,e])
  refine EB_ ?_
  refine FZ_ c4 ?_
  exact am_
 have e:=decide_eq_false q;have hb:v.bals.length≤1000000:=by omega
 have c1:=lp_ v hb hu;have c2:=tF_ v hb;have c3:=qN_ _ (zW_ hb);have eq1:∀n:Int,(n==n)=true:=fun n=>by simp
 generalize kJ_ v=T at *;obtain⟨T1,T2⟩:=T;dsimp only at c1 c2 c3;repeat(first|refine aa_ ?_|simp only[go_sem,gt,e])
 refine EA_ ?_
 refine FZ_ c1 ?_
 refine aA_ c2 ?_;repeat(first|refine aa_ ?_|simp only[go_sem,eq1])
 refine FZ_ c3 ?_
 refine FZ_ c4 ?_
 exact am_
theorem zM_(v:aX_)(hb:v.bals.length≤1000000)(hu:∀n∈v.bals,0≤n∧n<18446744073709551616):Tri Try.prog 125 0 (aL_.tl 3) (PQ [.tmp 6] (.bool true)) ⟨98,[.dead,.dead,.dead,.dead,.dead,.dead,.bool false,.ptr 0 0,.dead,.dead,.dead,.dead,.dead,.dead,.dead,.dead,.dead,.dead,.dead,.dead,.dead,.dead,.dead,.dead,.dead,.dead,.dead,.dead,.dead,.dead,.dead,.dead,.dead,.dead,.dead,.dead,.dead,.dead,.dead,.dead,.dead,.dead,.dead,.dead,.dead,.dead,.dead,.dead,.dead,.dead,.dead,.dead,.dead,.dead,.dead,.dead,.dead,.dead,.dead,.dead,.dead,.dead,.dead,.dead,.dead,.dead,.dead,.dead,.dead,.dead,.dead,.dead,.dead,.dead,.dead,.dead,.dead,.dead,.dead,.dead,.dead,.dead,.dead,.dead,.dead,.dead,.dead,.dead,.dead,.dead,.dead,.dead,.dead,.dead,.dead,.dead,.dead,.dead],[]⟩ [.var (aU_ v.a)]:=by
 unfold aL_;refine bd ?_;simp only[ah_.tl];have c1:=lp_ v hb hu;have c2:=tF_ v hb;have c3:=qN_ _ (zW_ hb);have c4:=kj_;have eq1:∀n:Int,(n==n)=true:=fun n=>by simp
 generalize kJ_ v=T at *;obtain⟨T1,T2⟩:=T;dsimp only at c1 c2 c3;try refine aa_ ?_
 refine FZ_ c1 ?_
 refine aA_ c2 ?_;repeat(first|refine aa_ ?_|simp only[go_sem,eq1])
 refine FZ_ c3 ?_
 refine FZ_ c4 ?_
 exact am_
theorem pc_StoreConfigs(l:List Int)(hl:l.length≤maxLen)(hwl:∀z∈l,(Lit.int .i64 z).wf=true)(which:Int)(hwh:(Lit.int .i64 which).wf=true)(n:Int)(hn:(Lit.int .i64 n).wf=true):PC Try.prog 4 [.sl 1 false (au_ .i64 l),.int .i64 which,.int .i64 n] (.bool true):=by
 have tl:=zM_;obtain⟨c,hc,cc⟩:=sP_ l;have h1:=hc.r.b1;have hb:c.bals.length≤1000000:=by omega
 have hu:∀x∈c.bals,0≤x∧x<18446744073709551616:=fun x hx=>by have:=hc.bu x hx;omega
 obtain⟨r,hr,hr3⟩:=kD_ n 3 (by decide) (by decide);have hr3:r<4:=by omega
 obtain⟨clim,cspe,cboost,cttd,cgen,cbals⟩:=c;obtain⟨l1,l2,l3,l4,l5,l6⟩:=clim;dsimp only at cc hb hu h1;generalize hW:ie_ .i64 which 15=W;have hidx:(r:Int)<((4:Nat):Int):=by omega
 refine PC.fact 98 hY_ (by simp) puA puA ?_;have hc:aL_=.seq aL_.hd (.seq (aL_.tl 1).hd (.seq (aL_.tl 2).hd (aL_.tl 3))):=rfl;rw[hc];clear hc;generalize aL_.tl 3=cT at *;unfold aL_;refine bd ?_;simp only[ah_.tl,ah_.hd];have N1:[[AV.int .i64 0],[AV.int .i64 1],[AV.int .i64 4096],[AV.int .i64 4097]]=au_ .i64 [0,1,4096,4097]:=rfl;try refine aa_ ?_
 refine bC_ [] (cc) evd (bf_.mk' (by simp) evd) ?_;refine evg ?_;repeat(first|refine aa_ ?_|simp only[go_sem,hW])
 by_cases q0:W=0
 ·have e:(W==0)=true:=by simp[q0]
  obtain⟨X,hX⟩:∃X,(au_ .i64 [0,1,4096,4097]).getD r []=[.int .i64 X]:=⟨_,gdn (k:=.i64) (ns:=[0,1,4096,4097]) (i:=r) hr3⟩
  have hnm:(au_ .i64 [0,1,4096,4097]).length=4:=rfl;have t:=tl ⟨⟨X,l2,l3,l4,l5,l6⟩,cspe,cboost,cttd,cgen,cbals⟩ hb hu;have N1:[[AV.int .i64 0],[AV.int .i64 1],[AV.int .i64 4096],[AV.int .i64 4097]]=au_ .i64 [0,1,4096,4097]:=rfl;generalize au_ .i64 [0,1,4096,4097]=NL at *;repeat(first|refine aa_ ?_|simp only[go_sem,e])
  refine ab_ ?_;repeat(first|refine aa_ ?_|simp only[go_sem,hr,N1,hnm,hX,hidx])
  refine cC_ ?_ t;exact GH_ [0] [1]
 have e:(W==0)=false:=by simp[q0]
 repeat(first|refine aa_ ?_|simp only[go_sem,e])
 refine EA_ ?_
 clear e;by_cases q1:W=1
 ·have e:(W==1)=true:=by simp[q1]
  obtain⟨X,hX⟩:∃X,(au_ .i64 [-1,0,64,65]).getD r []=[.int .i64 X]:=⟨_,gdn (k:=.i64) (ns:=[-1,0,64,65]) (i:=r) hr3⟩
  have hnm:(au_ .i64 [-1,0,64,65]).length=4:=rfl;have t:=tl ⟨⟨l1,X,l3,l4,l5,l6⟩,cspe,cboost,cttd,cgen,cbals⟩ hb hu;have N1:[[AV.int .i64 (-1)],[AV.int .i64 0],[AV.int .i64 64],[AV.int .i64 65]]=au_ .i64 [-1,0,64,65]:=rfl;generalize au_ .i64 [-1,0,64,65]=NL at *;repeat(first|refine aa_ ?_|simp only[go_sem,e])
  refine ab_ ?_;repeat(first|refine aa_ ?_|simp only[go_sem,hr,N1,hnm,hX,hidx])
  refine cC_ ?_ t;exact GH_ [0] [1]
 have e:(W==1)=false:=by simp[q1]
 repeat(first|refine aa_ ?_|simp only[go_sem,e])
 refine EA_ ?_
 clear e;by_cases q2:W=2
 ·have e:(W==2)=true:=by simp[q2]
  obtain⟨X,hX⟩:∃X,(au_ .i64 [-1,0,256,257]).getD r []=[.int .i64 X]:=⟨_,gdn (k:=.i64) (ns:=[-1,0,256,257]) (i:=r) hr3⟩
  have hnm:(au_ .i64 [-1,0,256,257]).length=4:=rfl;have t:=tl ⟨⟨l1,l2,X,l4,l5,l6⟩,cspe,cboost,cttd,cgen,cbals⟩ hb hu;have N1:[[AV.int .i64 (-1)],[AV.int .i64 0],[AV.int .i64 256],[AV.int .i64 257]]=au_ .i64 [-1,0,256,257]:=rfl;generalize au_ .i64 [-1,0,256,257]=NL at *;repeat(first|refine aa_ ?_|simp only[go_sem,e])
  refine ab_ ?_;repeat(first|refine aa_ ?_|simp only[go_sem,hr,N1,hnm,hX,hidx])
  refine cC_ ?_ t;exact GH_ [0] [1]
 have e:(W==2)=false:=by simp[q2]
 repeat(first|refine aa_ ?_|simp only[go_sem,e])
 refine EA_ ?_
 clear e;by_cases q3:W=3
 ·have e:(W==3)=true:=by simp[q3]
  obtain⟨X,hX⟩:∃X,(au_ .i64 [0,1,64,65]).getD r []=[.int .i64 X]:=⟨_,gdn (k:=.i64) (ns:=[0,1,64,65]) (i:=r) hr3⟩
  have hnm:(au_ .i64 [0,1,64,65]).length=4:=rfl;have t:=tl ⟨⟨l1,l2,l3,X,l5,l6⟩,cspe,cboost,cttd,cgen,cbals⟩ hb hu;have N1:[[AV.int .i64 0],[AV.int .i64 1],[AV.int .i64 64],[AV.int .i64 65]]=au_ .i64 [0,1,64,65]:=rfl;generalize au_ .i64 [0,1,64,65]=NL at *;repeat(first|refine aa_ ?_|simp only[go_sem,e])
  refine ab_ ?_;repeat(first|refine aa_ ?_|simp only[go_sem,hr,N1,hnm,hX,hidx])
  refine cC_ ?_ t;exact GH_ [0] [1]
 have e:(W==3)=false:=by simp[q3]
 repeat(first|refine aa_ ?_|simp only[go_sem,e])
 refine EA_ ?_
 clear e;by_cases q4:W=4
 ·have e:(W==4)=true:=by simp[q4]
  obtain⟨X,hX⟩:∃X,(au_ .i64 [-1,0,256,257]).getD r []=[.int .i64 X]:=⟨_,gdn (k:=.i64) (ns:=[-1,0,256,257]) (i:=r) hr3⟩
  have hnm:(au_ .i64 [-1,0,256,257]).length=4:=rfl;have t:=tl ⟨⟨l1,l2,l3,l4,X,l6⟩,cspe,cboost,cttd,cgen,cbals⟩ hb hu;have N1:[[AV.int .i64 (-1)],[AV.int .i64 0],[AV.int .i64 256],[AV.int .i64 257]]=au_ .i64 [-1,0,256,257]:=rfl;generalize au_ .i64 [-1,0,256,257]=NL at *;repeat(first|refine aa_ ?_|simp only[go_sem,e])
  refine ab_ ?_;repeat(first|refine aa_ ?_|simp only[go_sem,hr,N1,hnm,hX,hidx])
  refine cC_ ?_ t;exact GH_ [0] [1]
 have e:(W==4)=false:=by simp[q4]
 repeat(first|refine aa_ ?_|simp only[go_sem,e])
 refine EA_ ?_
 clear e;by_cases q5:W=5
 ·have e:(W==5)=true:=by simp[q5]
  obtain⟨X,hX⟩:∃X,(au_ .u64 [0,1,1048576,1048577]).getD r []=[.int .u64 X]:=⟨_,gdn (k:=.u64) (ns:=[0,1,1048576,1048577]) (i:=r) hr3⟩
  have hnm:(au_ .u64 [0,1,1048576,1048577]).length=4:=rfl;have t:=tl ⟨⟨l1,l2,l3,l4,l5,X⟩,cspe,cboost,cttd,cgen,cbals⟩ hb hu;have N1:[[AV.int .u64 0],[AV.int .u64 1],[AV.int .u64 1048576],[AV.int .u64 1048577]]=au_ .u64 [0,1,1048576,1048577]:=rfl;generalize au_ .u64 [0,1,1048576,1048577]=NL at *;repeat(first|refine aa_ ?_|simp only[go_sem,e])
  refine ab_ ?_;repeat(first|refine aa_ ?_|simp only[go_sem,hr,N1,hnm,hX,hidx])
  refine cC_ ?_ t;exact GH_ [0] [1]
 have e:(W==5)=false:=by simp[q5]
 repeat(first|refine aa_ ?_|simp only[go_sem,e])
 refine EA_ ?_
 clear e;by_cases q6:W=6
 ·have e:(W==6)=true:=by simp[q6]
  obtain⟨X,hX⟩:∃X,(au_ .u64 [0,1,64,65]).getD r []=[.int .u64 X]:=⟨_,gdn (k:=.u64) (ns:=[0,1,64,65]) (i:=r) hr3⟩
  have hnm:(au_ .u64 [0,1,64,65]).length=4:=rfl;have t:=tl ⟨⟨l1,l2,l3,l4,l5,l6⟩,X,cboost,cttd,cgen,cbals⟩ hb hu;have N1:[[AV.int .u64 0],[AV.int .u64 1],[AV.int .u64 64],[AV.int .u64 65]]=au_ .u64 [0,1,64,65]:=rfl;generalize au_ .u64 [0,1,64,65]=NL at *;repeat(first|refine aa_ ?_|simp only[go_sem,e])
  refine ab_ ?_;repeat(first|refine aa_ ?_|simp only[go_sem,hr,N1,hnm,hX,hidx])
  refine cC_ ?_ t;exact GH_ [0] [1]
 have e:(W==6)=false:=by simp[q6]
 repeat(first|refine aa_ ?_|simp only[go_sem,e])
 refine EA_ ?_
 clear e;by_cases q7:W=7
 ·have e:(W==7)=true:=by simp[q7]
  obtain⟨X,hX⟩:∃X,(au_ .u64 [0,100,101,18446744073709551615]).getD r []=[.int .u64 X]:=⟨_,gdn (k:=.u64) (ns:=[0,100,101,18446744073709551615]) (i:=r) hr3⟩
  have hnm:(au_ .u64 [0,100,101,18446744073709551615]).length=4:=rfl;have t:=tl ⟨⟨l1,l2,l3,l4,l5,l6⟩,cspe,X,cttd,cgen,cbals⟩ hb hu;have N1:[[AV.int .u64 0],[AV.int .u64 100],[AV.int .u64 101],[AV.int .u64 18446744073709551615]]=au_ .u64 [0,100,101,18446744073709551615]:=rfl;generalize au_ .u64 [0,100,101,18446744073709551615]=NL at *;repeat(first|refine aa_ ?_|simp only[go_sem,e])
  refine ab_ ?_;repeat(first|refine aa_ ?_|simp only[go_sem,hr,N1,hnm,hX,hidx])
  refine cC_ ?_ t;exact GH_ [0] [1]
 have e:(W==7)=false:=by simp[q7]
 repeat(first|refine aa_ ?_|simp only[go_sem,e])
 refine EA_ ?_
 clear e;by_cases q8:W=8
 ·have e:(W==8)=true:=by simp[q8]
  have t:=tl ⟨⟨l1,l2,l3,l4,l5,l6⟩,cspe,cboost,cttd,rt0,cbals⟩ hb hu;repeat(first|refine aa_ ?_|simp only[go_sem,e])
  refine EB_ ?_
  refine cC_ ?_ t;exact GH_ [0] [1]
 have e:(W==8)=false:=by simp[q8]
 repeat(first|refine aa_ ?_|simp only[go_sem,e])
 refine EA_ ?_
 clear e;by_cases q9:W=9
 ·have e:(W==9)=true:=by simp[q9]
  have t:=tl ⟨⟨l1,l2,l3,l4,l5,l6⟩,cspe,cboost,cttd,cgen,cbals++[4611686018427387904]⟩ (by simp;omega) (fun x hx=>by
   rw[List.mem_append,List.mem_singleton]at hx;rcases hx with hx|rfl
   ·exact hu x hx
   ·decide)
  have hr2:au_ .u64 cbals++[[AV.int .u64 4611686018427387904]]=au_ .u64 (cbals++[4611686018427387904]):=tI_ .u64 cbals [4611686018427387904];have ht:List.take (cbals.length+1) (au_ .u64 (cbals++[4611686018427387904]))=au_ .u64 (cbals++[4611686018427387904]):=List.take_of_length_le (by simp);repeat(first|refine aa_ ?_|simp only[go_sem,e])
  refine ab_ ?_;repeat(first|refine aa_ ?_|simp only[go_sem,hr2])
  refine cC_ ?_ t
  refine GC.mk' [2] [1] (by simp) rfl (by simp) (by simp) (by(try simp only[go_sem,Nat.reduceAdd,Nat.reduceSub,Nat.reduceMul,Nat.reduceLT,Nat.reduceLeDiff,Nat.reduceEqDiff,reduceIte,Int.reduceToNat,Int.reduceLT,Int.reduceLE,Int.reduceEq,Int.reduceNeg,reduceCtorEq,Int.reduceBEq,Int.reduceBNe,ht]);all_goals rfl) (by(try simp only[go_sem,Nat.reduceAdd,Nat.reduceSub,Nat.reduceMul,Nat.reduceLT,Nat.reduceLeDiff,Nat.reduceEqDiff,reduceIte,Int.reduceToNat,Int.reduceLT,Int.reduceLE,Int.reduceEq,Int.reduceNeg,reduceCtorEq,Int.reduceBEq,Int.reduceBNe,ht]);all_goals rfl)
 have e:(W==9)=false:=by simp[q9]
 repeat(first|refine aa_ ?_|simp only[go_sem,e])
 refine EA_ ?_
 clear e;by_cases q10:W=10
 ·have e:(W==10)=true:=by simp[q10]
  obtain⟨b,hb1,hb2⟩:=kD_ n 1 (by decide) (by decide);have hw:IntKind.i64.wrap (1024+(b:Int))=((1024+b:Nat):Int):=by rw[be_ (by omega) (by omega)];omega
  have t:=tl ⟨⟨l1,l2,l3,l4,l5,l6⟩,cspe,cboost,cttd,cgen,List.replicate (1024+b) 0⟩ (by simp;omega) (fun x hx=>by
   rw[List.mem_replicate]at hx;rw[hx.2];decide)
  have hr2:List.replicate (1024+b) [AV.int .u64 0]=au_ .u64 (List.replicate (1024+b) 0):=by simp[au_]
  have hlr:(List.replicate (1024+b) (0:Int)).length=1024+b:=List.length_replicate;have ht:List.take (1024+b) (au_ .u64 (List.replicate (1024+b) 0))=au_ .u64 (List.replicate (1024+b) 0):=List.take_of_length_le (by simp);repeat(first|refine aa_ ?_|simp only[go_sem,e])
  refine ab_ ?_;repeat(first|refine aa_ ?_|simp only[go_sem,hb1,hw,hr2])
  refine cC_ ?_ t
  refine GC.mk' [2] [1] (by simp) rfl (by simp) (by simp) (by(try simp only[go_sem,Nat.reduceAdd,Nat.reduceSub,Nat.reduceMul,Nat.reduceLT,Nat.reduceLeDiff,Nat.reduceEqDiff,reduceIte,Int.reduceToNat,Int.reduceLT,Int.reduceLE,Int.reduceEq,Int.reduceNeg,reduceCtorEq,Int.reduceBEq,Int.reduceBNe,ht,hlr,Nat.le_refl]);all_goals rfl) (by(try simp only[go_sem,Nat.reduceAdd,Nat.reduceSub,Nat.reduceMul,Nat.reduceLT,Nat.reduceLeDiff,Nat.reduceEqDiff,reduceIte,Int.reduceToNat,Int.reduceLT,Int.reduceLE,Int.reduceEq,Int.reduceNeg,reduceCtorEq,Int.reduceBEq,Int.reduceBNe,ht,hlr,Nat.le_refl]);all_goals rfl)
 have e:(W==10)=false:=by simp[q10]
 have t:=tl ⟨⟨l1,l2,l3,l4,l5,l6⟩,cspe,cboost,cttd,cgen,cbals⟩ hb hu;repeat(first|refine aa_ ?_|simp only[go_sem,e])
 refine EA_ ?_
 refine cC_ ?_ t;exact GH_ [0] [1]
end Go.Proofs.Ytkgimpdgncakjaa
