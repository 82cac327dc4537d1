/-
 My texts Ga, Gb, Gc, Gd, Ge, joined.
-/
import Derived.Test.YtkgimpdgncakjaaGreatV1
import Derived.Test.YtkgimpdgncakjaaGreatW5
import Derived.Test.YtkgimpdgncakjaaGreatW3
namespace Go.Proofs.YtkgimpdgncakjaaGreat
open Go Go.FH Go.RowKit
set_option linter.unusedVariables false
set_option linter.unusedSimpArgs false
structure OpV where
 kind:Int
 blk:Blk
 att:Int×Rt×Cp×List Int
 slg:Sv
 tab:Tv
 vdt:Vdt
 write:Int
 keep:Int
def opL(x:OpV):SOp:=⟨x.kind,x.blk,lQ_ x.att,lJ_ x.slg,kR_ x.tab,x.vdt,x.write,x.keep⟩
theorem Nj_(x:OpV):(opL x).kind=x.kind:=rfl
theorem Pj_(x:OpV):(opL x).blk=x.blk:=rfl
theorem Pi_(x:OpV):(opL x).att=lQ_ x.att:=rfl
theorem Pl_(x:OpV):(opL x).slg=lJ_ x.slg:=rfl
theorem Pm_(x:OpV):(opL x).tab=kR_ x.tab:=rfl
theorem Pn_(x:OpV):(opL x).vdt=x.vdt:=rfl
theorem Km_(x:OpV):(opL x).write=x.write:=rfl
theorem Ni_(x:OpV):(opL x).keep=x.keep:=rfl
theorem Nh_(x:OpV):(opL x).good=true:=rfl
theorem Rc_(x:OpV):(opL x).Pure:=⟨aN_ _ _,⟨HN_ _,HN_ _⟩,aN_ _ _⟩
theorem fM_(x:OpV):PuL (bJ_ (opL x)):=(ff_ _).2 (Rc_ x)
theorem Pk_(x:OpV)(ρ:Nat→Nat):(opL x).map (ren ρ)=opL x:=by simp only[opL,SOp.map,Db_,ET_,Fg_]
theorem Rb_(x:OpV)(σ:St)(zs:List Nat):(opL x).map (fz σ zs)=opL x:=by simp only[opL,SOp.map,HL_,Ir_,IA_]
theorem NT_(x:Sv):(lJ_ x).fst=pb_ x.1:=rfl
theorem NU_(x:Sv):(lJ_ x).snd=pb_ x.2:=rfl
theorem IV_(x:Int×Rt×Cp×List Int):(lQ_ x).vals=.sl 1 false (aq_ .i64 x.2.2.2):=rfl
theorem Lj_(x:Tv):(kR_ x).bals=.sl 1 false (aq_ .u64 x.2):=rfl
theorem Qc_(x:Tv):(kR_ x).cp=x.1:=rfl
attribute [go_sem] Nj_ Pj_ Pi_ Pl_ Pm_ Pn_ Km_ Ni_ Nh_ Pk_ Rb_ NT_ NU_ IV_ Lj_ Qc_
def okF(k:Int)(fs:List (Int×Bool))(i:Nat):Bool:=if h:i<fs.length then ((fs[i].1==k) || fs[i].2)&&okF k fs (i+1)else true
termination_by fs.length-i
theorem zQ_{k:Int}{fs:List (Int×Bool)}{i:Nat}(h:i<fs.length):okF k fs i=(((fs[i].1==k) || fs[i].2)&&okF k fs (i+1)):=by rw[okF,dif_pos h]
theorem Ph_{k:Int}{fs:List (Int×Bool)}{i:Nat}(h:¬i<fs.length):okF k fs i=true:=by rw[okF,dif_neg h]
def QD_(x:OpV):List (Int×Bool):=
 [(2,decide (x.blk=cg_)),(3,decide (x.att=kA_)),(4,decide (x.slg.1=uG_)&&decide (x.slg.2=uG_)),(5,decide (x.tab.1=cp0)&&decide (x.tab.2=[])),(6,decide (x.vdt=gH_)),(8,(x.write==0)&&(x.keep==0))]
def MO_(x:OpV):Bool:=okF x.kind (QD_ x) 0
structure yW_(x:OpV):Prop where
 att:x.att.2.2.2.length≤140737488355328
 fst:x.slg.1.2.2.2.length≤140737488355328
 snd:x.slg.2.2.2.2.length≤140737488355328
 tab:x.tab.2.length≤140737488355328
def Hr_(a b:Int×Rt×Cp×List Int):Bool:=decide (a.1=b.1∧a.2.1=b.2.1∧a.2.2.1=b.2.2.1∧a.2.2.2=b.2.2.2)
def wu_(a b:Cv):Bool:=decide (a.1=b.1∧a.2.1=b.2.1∧a.2.2.1=b.2.2.1∧a.2.2.2=b.2.2.2)
def Hs_(a b:Tv):Bool:=decide (a.1=b.1∧a.2=b.2)
def Cg_(x y:OpV):Bool:=(x.kind==y.kind)&&(decide (x.blk=y.blk)&&(Hr_ x.att y.att&&((wu_ x.slg.1 y.slg.1&&wu_ x.slg.2 y.slg.2)&&(Hs_ x.tab y.tab&&(decide (x.vdt=y.vdt)&&((x.write==y.write)&&(x.keep==y.keep)))))))
set_option maxHeartbeats 4000000 in
theorem Pw_(x y:OpV)(hx:yW_ x)(hy:yW_ y):PC Tryz.prog 214 [.agg (bJ_ (opL x)),.agg (bJ_ (opL y))] (.bool (Cg_ x y)):=by
 refine PC.fact 5 xY_ (by simp) ⟨fM_ x,fM_ y,trivial⟩ trivial ?_;unfold oE_ Cg_;refine bd ?_;have k1:PC Tryz.prog 53 [.agg (bi_ (lQ_ x.att)),.agg (bi_ (lQ_ y.att))] (.bool (Hr_ x.att y.att)):=EM_ (lQ_ x.att) (lQ_ y.att) _ _ false false rfl rfl hx.att hy.att;have k2:PC Tryz.prog 244 [.agg (cs_ (lJ_ x.slg)),.agg (cs_ (lJ_ y.slg))] (.bool (wu_ x.slg.1 y.slg.1&&wu_ x.slg.2 y.slg.2)):=NK_ (lJ_ x.slg) (lJ_ y.slg) _ _ _ _ false false false false rfl rfl rfl rfl hx.fst hx.snd hy.fst hy.snd;have k3:PC Tryz.prog 130 [.agg (bb_ (kR_ x.tab)),.agg (bb_ (kR_ y.tab))] (.bool (Hs_ x.tab y.tab)):=EO_ (kR_ x.tab) (kR_ y.tab) _ _ false false rfl rfl hx.tab hy.tab;generalize h1:(x.kind==y.kind)=B1 at *;generalize h2:decide (x.blk=y.blk)=B2 at *;generalize Hr_ x.att y.att=B3 at *;generalize (wu_ x.slg.1 y.slg.1&&wu_ x.slg.2 y.slg.2)=B4 at *;generalize Hs_ x.tab y.tab=B5 at *;generalize h6:decide (x.vdt=y.vdt)=B6 at *;generalize h7:(x.write==y.write)=B7 at *;generalize h8:(x.keep==y.keep)=B8 at *;cases B1
 ·repeat(first|refine aa_ ?_|simp only[go_sem,h1])
  exact ag_
 cases B2
 ·repeat(first|refine aa_ ?_|simp only[go_sem,h1,h2])
  exact ag_
 repeat(first|refine aa_ ?_|simp only[go_sem,h1,h2])
 refine ae_ k1 ?_;cases B3
 ·repeat(first|refine aa_ ?_|simp only[go_sem,h1,h2])
  exact ag_
 repeat(first|refine aa_ ?_|simp only[go_sem,h1,h2])
 refine ae_ k2 ?_;cases B4
 ·repeat(first|refine aa_ ?_|simp only[go_sem,h1,h2])
  exact ag_
 repeat(first|refine aa_ ?_|simp only[go_sem,h1,h2])
 refine ae_ k3 ?_;cases B5
 ·repeat(first|refine aa_ ?_|simp only[go_sem,h1,h2,h6])
  exact ag_
 cases B6
 ·repeat(first|refine aa_ ?_|simp only[go_sem,h1,h2,h6])
  exact ag_
 cases B7
 ·repeat(first|refine aa_ ?_|simp only[go_sem,h1,h2,h6,h7])
  exact ag_
 ·repeat(first|refine aa_ ?_|simp only[go_sem,h1,h2,h6,h7,h8])
  exact ag_
structure OpU(x:OpV):Prop where
 blk:LH_ x.blk
 slot:U64 x.att.1
 ep:U64 x.att.2.2.1.ep
 att:x.att.2.2.2.length≤140737488355328
 fst:rm_ (pb_ x.slg.1) x.slg.1.2.2.2 false
 snd:rm_ (pb_ x.slg.2) x.slg.2.2.2.2 false
 tab:CU_ (kR_ x.tab) x.tab.2 false
 tag:U64 x.vdt.tag
theorem OpU.len{x:OpV}(h:OpU x):yW_ x:=⟨h.att,h.fst.len,h.snd.len,h.tab.len⟩
def uk_(x:OpV):Bool:=!(decide (0≤x.write∧x.write≤32768)&&decide (0≤x.keep∧x.keep≤32768))
def fld(x:OpV):List UInt8×Int:=
 if x.kind=2 then (RM_ x.blk,0)
 else if x.kind=3 then (if cV_ x.att.2.2.2 1024=0 then RB_ (lQ_ x.att) x.att.2.2.2 else [],cV_ x.att.2.2.2 1024)
 else if x.kind=4 then (if ES_ x.slg.1.2.2.2 x.slg.2.2.2.2=0 then Qw_ (lJ_ x.slg) x.slg.1.2.2.2 x.slg.2.2.2.2 else [],ES_ x.slg.1.2.2.2 x.slg.2.2.2.2)
 else if x.kind=5 then (if 1024<x.tab.2.length then []else Ol_ (kR_ x.tab) x.tab.2,if 1024<x.tab.2.length then 3 else 0)
 else if x.kind=6 then (if Fm_ x.vdt then []else Sd_ x.vdt,if Fm_ x.vdt then 3 else 0)
 else if x.kind=8 then (if uk_ x then ([],3)else (bY_ x.write.toNat++bY_ x.keep.toNat,0))
 else ([],0)
set_option maxHeartbeats 4000000 in
theorem ER_(x:OpV)(hx:OpU x):PC Tryz.prog 213 [.agg (bJ_ (opL x))] (.tup [.sl 1 false (bts (fld x).1),.int .i64 (fld x).2]):=by
 refine PC.fact 4 Bz_ (by simp) ⟨fM_ x,trivial⟩ ⟨jE_ _,trivial,trivial⟩ ?_;unfold qk_ fld;refine bd ?_;by_cases h2:x.kind=2
 ·rw[if_pos h2];have e2:(x.kind==2)=true:=by simp[h2]
  try refine aa_ ?_
  refine ac_ ?_ (by(try simp only[go_sem,e2]);try exact evd);try refine aa_ ?_
  refine Sv_ (NN_ x.blk hx.blk) ?_
  exact ag_
 rw[if_neg h2];have n2:(x.kind==2)=false:=by simp[h2]
 by_cases h3:x.kind=3
 ·rw[if_pos h3];have e3:(x.kind==3)=true:=by simp[h3]
  have k3:=NM_ (lQ_ x.att) x.att.2.2.2 false rfl hx.att hx.slot hx.ep;try refine aa_ ?_
  refine ab_ ?_ (by(try simp only[go_sem,n2]);try exact evd);try refine aa_ ?_
  refine ac_ ?_ (by(try simp only[go_sem,e3]);try exact evd);try refine aa_ ?_
  refine Sv_ k3 ?_
  exact ag_
 rw[if_neg h3];have n3:(x.kind==3)=false:=by simp[h3]
 by_cases h4:x.kind=4
 ·rw[if_pos h4];have e4:(x.kind==4)=true:=by simp[h4]
  have k4:=NO_ (lJ_ x.slg) x.slg.1.2.2.2 x.slg.2.2.2.2 false false hx.fst hx.snd;try refine aa_ ?_
  refine ab_ ?_ (by(try simp only[go_sem,n2]);try exact evd);try refine aa_ ?_
  refine ab_ ?_ (by(try simp only[go_sem,n3]);try exact evd);try refine aa_ ?_
  refine ac_ ?_ (by(try simp only[go_sem,e4]);try exact evd);try refine aa_ ?_
  refine Sv_ k4 ?_
  exact ag_
 rw[if_neg h4];have n4:(x.kind==4)=false:=by simp[h4]
 by_cases h5:x.kind=5
 ·rw[if_pos h5];have e5:(x.kind==5)=true:=by simp[h5]
  have k5:=NP_ (kR_ x.tab) x.tab.2 false hx.tab;try refine aa_ ?_
  refine ab_ ?_ (by(try simp only[go_sem,n2]);try exact evd);try refine aa_ ?_
  refine ab_ ?_ (by(try simp only[go_sem,n3]);try exact evd);try refine aa_ ?_
  refine ab_ ?_ (by(try simp only[go_sem,n4]);try exact evd);try refine aa_ ?_
  refine ac_ ?_ (by(try simp only[go_sem,e5]);try exact evd);try refine aa_ ?_
  refine Sv_ k5 ?_
  exact ag_
 rw[if_neg h5];have n5:(x.kind==5)=false:=by simp[h5]
 by_cases h6:x.kind=6
 ·rw[if_pos h6];have e6:(x.kind==6)=true:=by simp[h6]
  have k6:=NQ_ x.vdt hx.tag;try refine aa_ ?_
  refine ab_ ?_ (by(try simp only[go_sem,n2]);try exact evd);try refine aa_ ?_
  refine ab_ ?_ (by(try simp only[go_sem,n3]);try exact evd);try refine aa_ ?_
  refine ab_ ?_ (by(try simp only[go_sem,n4]);try exact evd);try refine aa_ ?_
  refine ab_ ?_ (by(try simp only[go_sem,n5]);try exact evd);try refine aa_ ?_
  refine ac_ ?_ (by(try simp only[go_sem,e6]);try exact evd);try refine aa_ ?_
  refine Sv_ k6 ?_
  exact ag_
 rw[if_neg h6];have n6:(x.kind==6)=false:=by simp[h6]
 try refine aa_ ?_
 refine ab_ ?_ (by(try simp only[go_sem,n2]);try exact evd);try refine aa_ ?_
 refine ab_ ?_ (by(try simp only[go_sem,n3]);try exact evd);try refine aa_ ?_
 refine ab_ ?_ (by(try simp only[go_sem,n4]);try exact evd);try refine aa_ ?_
 refine ab_ ?_ (by(try simp only[go_sem,n5]);try exact evd);try refine aa_ ?_
 refine ab_ ?_ (by(try simp only[go_sem,n6]);try exact evd);try refine aa_ ?_
 by_cases h8:x.kind=8
 ·rw[if_pos h8]
  have e8:(x.kind==8)=true:=by simp[h8]
  refine ac_ ?_ (by(try simp only[go_sem,e8]);try exact evd);by_cases a1:x.write<0
  ·have d1:decide (x.write<0)=true:=by simpa using a1
   have hb:uk_ x=true:=by simp[uk_];omega
   rw[hb];simp only[if_true];repeat(first|refine aa_ ?_|simp only[go_sem,d1])
   refine Rn_ ?_
   refine⟨_,rfl,.inr ⟨.tup [.sl 0 true [],.int .i64 3],evd,⟨trivial,trivial,trivial⟩,Wk.tup ⟨Wk.empty _ _ _,Wk.refl _,trivial⟩⟩⟩
  have d1:decide (x.write<0)=false:=by simpa using a1
  by_cases a2:32768<x.write
  ·have d2:decide (32768<x.write)=true:=by simpa using a2
   have hb:uk_ x=true:=by simp[uk_];omega
   rw[hb];simp only[if_true];repeat(first|refine aa_ ?_|simp only[go_sem,d1,d2])
   refine Rn_ ?_
   refine⟨_,rfl,.inr ⟨.tup [.sl 0 true [],.int .i64 3],evd,⟨trivial,trivial,trivial⟩,Wk.tup ⟨Wk.empty _ _ _,Wk.refl _,trivial⟩⟩⟩
  have d2:decide (32768<x.write)=false:=by simpa using a2
  by_cases a3:x.keep<0
  ·have d3:decide (x.keep<0)=true:=by simpa using a3
   have hb:uk_ x=true:=by simp[uk_];omega
   rw[hb];simp only[if_true];repeat(first|refine aa_ ?_|simp only[go_sem,d1,d2,d3])
   refine Rn_ ?_
   refine⟨_,rfl,.inr ⟨.tup [.sl 0 true [],.int .i64 3],evd,⟨trivial,trivial,trivial⟩,Wk.tup ⟨Wk.empty _ _ _,Wk.refl _,trivial⟩⟩⟩
  have d3:decide (x.keep<0)=false:=by simpa using a3
  by_cases a4:32768<x.keep
  ·have d4:decide (32768<x.keep)=true:=by simpa using a4
   have hb:uk_ x=true:=by simp[uk_];omega
   rw[hb];simp only[if_true];repeat(first|refine aa_ ?_|simp only[go_sem,d1,d2,d3,d4])
   refine Rn_ ?_
   refine⟨_,rfl,.inr ⟨.tup [.sl 0 true [],.int .i64 3],evd,⟨trivial,trivial,trivial⟩,Wk.tup ⟨Wk.empty _ _ _,Wk.refl _,trivial⟩⟩⟩
  have d4:decide (32768<x.keep)=false:=by simpa using a4
  have hb:uk_ x=false:=by simp[uk_];omega
  have w1:IntKind.u64.wrap x.write=x.write:=aF_ (by omega) (by omega);have w2:IntKind.u64.wrap x.keep=x.keep:=aF_ (by omega) (by omega);have q1:=fy_ (n:=x.write.toNat) (by omega);have q2:=fy_ (n:=x.keep.toNat) (by omega);have p1:=(cp_ x.write (by omega) (by omega)).nil (by omega);have p2:=(cp_ x.keep (by omega) (by omega)).own (bY_ x.write.toNat) (by omega);rw[hb];simp only[Bool.false_eq_true,if_false];repeat(first|refine aa_ ?_|simp only[go_sem,d1,d2,d3,d4])
  refine ab_ ?_;repeat(first|refine aa_ ?_|simp only[go_sem,w1,w2])
  refine bv_ [] (p1) (by simp) evd (bR_.mk' (by simp) (by simp) evd) ?_;refine evg ?_;repeat(first|refine aa_ ?_|simp only[go_sem,w1,w2])
  refine bv_ [1] (p2) (by simp) evd (bR_.mk' (by simp) (by simp) evd) ?_;refine evg ?_;try refine aa_ ?_
  exact ag_
 ·rw[if_neg h8];have n8:(x.kind==8)=false:=by simp[h8]
  refine ab_ ?_ (by(try simp only[go_sem,n8]);try exact evd);try refine aa_ ?_
  refine⟨_,rfl,.inr ⟨.tup [.sl 0 true [],.int .i64 0],evd,⟨trivial,trivial,trivial⟩,Wk.tup ⟨Wk.empty _ _ _,Wk.refl _,trivial⟩⟩⟩
def vOp(x:OpV):Int:=if x.kind<1∨8<x.kind then 2 else if (fld x).2≠0 then (fld x).2 else if MO_ x then 0 else 2
theorem OU_(x:OpV):MO_ x=(((((2:Int)==x.kind) || decide (x.blk=cg_)))&&((((3:Int)==x.kind) || decide (x.att=kA_))&&((((4:Int)==x.kind) || (decide (x.slg.1=uG_)&&decide (x.slg.2=uG_)))&&((((5:Int)==x.kind) || (decide (x.tab.1=cp0)&&decide (x.tab.2=[])))&&((((6:Int)==x.kind) || decide (x.vdt=gH_))&&(((8:Int)==x.kind) || ((x.write==0)&&(x.keep==0)))))))):=by
 unfold MO_ QD_;rw[zQ_ (by simp),zQ_ (by simp),zQ_ (by simp),zQ_ (by simp),zQ_ (by simp),zQ_ (by simp),Ph_ (by simp)];simp
theorem pA_(a:Int×Rt×Cp×List Int):Hr_ a kA_=decide (a=kA_):=by
 obtain⟨s,r,c,l⟩:=a;show decide (s=0∧r=rt0∧c=cp0∧l=[])=_
 rw[Bool.eq_iff_iff];simp[kA_]
theorem pB_(a:Cv):wu_ a uG_=decide (a=uG_):=by
 obtain⟨s,r,c,l⟩:=a;show decide (s=0∧r=0∧c=rt0∧l=[])=_
 rw[Bool.eq_iff_iff];simp[uG_]
theorem pC_(a:Tv):Hs_ a pE_=(decide (a.1=cp0)&&decide (a.2=[])):=by show decide (a.1=cp0∧a.2=[])=_;rw[Bool.eq_iff_iff];simp
theorem KM_(a:Int×Rt×Cp×List Int):Hr_ a a=true:=by simp[Hr_]
theorem KN_(a:Cv):wu_ a a=true:=by simp[wu_]
theorem KQ_(a:Tv):Hs_ a a=true:=by simp[Hs_]
def mask(x:OpV):OpV:=
 if x.kind=2 then ⟨x.kind,x.blk,kA_,ja_,pE_,gH_,0,0⟩
 else if x.kind=3 then ⟨x.kind,cg_,x.att,ja_,pE_,gH_,0,0⟩
 else if x.kind=4 then ⟨x.kind,cg_,kA_,x.slg,pE_,gH_,0,0⟩
 else if x.kind=5 then ⟨x.kind,cg_,kA_,ja_,x.tab,gH_,0,0⟩
 else if x.kind=6 then ⟨x.kind,cg_,kA_,ja_,pE_,x.vdt,0,0⟩
 else if x.kind=8 then ⟨x.kind,cg_,kA_,ja_,pE_,gH_,x.write,x.keep⟩
 else ⟨x.kind,cg_,kA_,ja_,pE_,gH_,0,0⟩
theorem gC_(x:OpV)(k:Int)(b:Blk)(a:Int×Rt×Cp×List Int)(s:Sv)(t:Tv)(v:Vdt)(w p:Int):Cg_ x ⟨k,b,a,s,t,v,w,p⟩=((x.kind==k)&&(decide (x.blk=b)&&(Hr_ x.att a&&((wu_ x.slg.1 s.1&&wu_ x.slg.2 s.2)&&(Hs_ x.tab t&&(decide (x.vdt=v)&&((x.write==w)&&(x.keep==p)))))))):=rfl
theorem Kg_(x:OpV):Cg_ x (mask x)=MO_ x:=by
 rw[OU_,Bool.eq_iff_iff];unfold mask;split
 ·rename_i h;rw[gC_];simp[ja_,pA_,pB_,pC_,h]
 split
 ·rename_i h;rw[gC_];simp[ja_,pA_,pB_,pC_,KM_,h]
 split
 ·rename_i h;rw[gC_];simp[ja_,pA_,pB_,pC_,KN_,h]
 split
 ·rename_i h;rw[gC_];simp[ja_,pA_,pB_,pC_,KQ_,h]
 split
 ·rename_i h;rw[gC_];simp[ja_,pA_,pB_,pC_,h]
 split
 ·rename_i h;rw[gC_];simp[ja_,pA_,pB_,pC_,h]
 ·rename_i h2 h3 h4 h5 h6 h8;have n2:((2:Int)==x.kind)=false:=by simp;omega
  have n3:((3:Int)==x.kind)=false:=by simp;omega
  have n4:((4:Int)==x.kind)=false:=by simp;omega
  have n5:((5:Int)==x.kind)=false:=by simp;omega
  have n6:((6:Int)==x.kind)=false:=by simp;omega
  have n8:((8:Int)==x.kind)=false:=by simp;omega
  rw[gC_];simp[ja_,pA_,pB_,pC_,n2,n3,n4,n5,n6,n8]
theorem yW_.mask{x:OpV}(h:yW_ x):yW_ (mask x):=by
 unfold Go.Proofs.YtkgimpdgncakjaaGreat.mask;(repeat' split)<;>exact⟨by first|exact h.att|simp[kA_],by first|exact h.fst|simp[ja_,uG_],by first|exact h.snd|simp[ja_,uG_],by first|exact h.tab|simp[pE_]⟩
theorem gI_{x y:SOp}(h1:x.kind=y.kind)(h2:x.blk=y.blk)(h3:WkC (bi_ x.att) (bi_ y.att))(h4:WkC (cs_ x.slg) (cs_ y.slg))(h5:WkC (bb_ x.tab) (bb_ y.tab))(h6:x.vdt=y.vdt)(h7:x.write=y.write)(h8:x.keep=y.keep):WkC (bJ_ x) (bJ_ y):=by
 obtain⟨a1,a2,a3,a4,a5,a6,a7,a8⟩:=x;obtain⟨b1,b2,b3,b4,b5,b6,b7,b8⟩:=y;simp only at h1 h2 h3 h4 h5 h6 h7 h8;subst h1 h2 h6 h7 h8;exact WkC.same _ ((WkC.refl _).app (h3.app (h4.app (h5.app ((WkC.refl _).app (WkC.refl _))))))
theorem eI_:WkC (bi_ wY_) (bi_ (lQ_ kA_)):=WkC.same _ ((WkC.refl (rtc rt0)).app ((WkC.refl (cpC cp0)).app (WkC.one (Wk.empty 0 1 false) fun h=>h)))
theorem eJ_:WkC (cs_ yw_) (cs_ (lJ_ ja_)):=(II_ 0 0 rt0 (Wk.empty 0 1 false) fun h=>h).app (II_ 0 0 rt0 (Wk.empty 0 1 false) fun h=>h)
theorem eK_:WkC (bb_ rf_) (bb_ (kR_ pE_)):=(WkC.refl (cpC cp0)).app (WkC.one (Wk.empty 0 1 false) fun h=>h)
set_option maxHeartbeats 8000000 in
theorem Fd_(x:OpV)(hx:OpU x):PC Tryz.prog 174 [.agg (bJ_ (opL x))] (.int .i64 (vOp x)):=by
 refine PC.fact 6 qz_ (by simp) ⟨fM_ x,trivial⟩ trivial ?_;unfold jh_ vOp;refine bd ?_;have k1:=ER_ x hx;have k2:=Pw_ x (mask x) hx.len hx.len.mask;rw[Kg_]at k2;by_cases h1:x.kind<1
 ·have d1:decide (x.kind<1)=true:=by simpa using h1
  rw[if_pos (.inl h1)];repeat(first|refine aa_ ?_|simp only[go_sem,d1])
  refine Rn_ ?_
  exact ag_
 have d1:decide (x.kind<1)=false:=by simpa using h1
 by_cases h2:8<x.kind
 ·have d2:decide (8<x.kind)=true:=by simpa using h2
  rw[if_pos (.inr h2)];repeat(first|refine aa_ ?_|simp only[go_sem,d1,d2])
  refine Rn_ ?_
  exact ag_
 have d2:decide (8<x.kind)=false:=by simpa using h2
 rw[if_neg (by omega)];repeat(first|refine aa_ ?_|simp only[go_sem,d1,d2])
 refine ab_ ?_;generalize fld x=F at *;obtain⟨f,e⟩:=F;dsimp only at k1 ⊢;try refine aa_ ?_
 refine Sv_ k1 ?_
 by_cases he:e=0
 case neg=>
  have he':(e != 0)=true:=by simpa using he
  rw[if_pos he];refine ac_ ?_ (by(try simp only[go_sem,he']);try exact evd);try refine aa_ ?_
  exact ag_
 subst he;refine ab_ ?_;generalize MO_ x=I at *;rw[if_neg (by simp)];by_cases h2k:x.kind=2
 case pos=>
  have e2:(x.kind==2)=true:=by simp[h2k]
  have hm:mask x=⟨x.kind,x.blk,kA_,ja_,pE_,gH_,0,0⟩:=by unfold mask;rw[if_pos h2k]
  rw[hm]at k2;try refine aa_ ?_
  refine ac_ ?_ (by(try simp only[go_sem,e2]);try exact evd);try refine aa_ ?_
  refine iN_ k2 ⟨Wk.refl _,Wk.agg (gI_ rfl rfl eI_ eJ_ eK_ rfl rfl rfl),trivial⟩ ⟨fM_ x,(ff_ _).2 ⟨trivial,⟨trivial,trivial⟩,trivial⟩,trivial⟩ ?_;cases I
  ·try refine aa_ ?_
   refine Rn_ ?_
   exact ag_
  ·try refine aa_ ?_
   refine Rm_ ?_
   exact ag_
 have n2:(x.kind==2)=false:=by simp[h2k]
 by_cases h3k:x.kind=3
 case pos=>
  have e3:(x.kind==3)=true:=by simp[h3k]
  have hm:mask x=⟨x.kind,cg_,x.att,ja_,pE_,gH_,0,0⟩:=by unfold mask;rw[if_neg h2k];rw[if_pos h3k]
  rw[hm]at k2;try refine aa_ ?_
  refine ab_ ?_ (by(try simp only[go_sem,n2]);try exact evd);try refine aa_ ?_
  refine ac_ ?_ (by(try simp only[go_sem,e3]);try exact evd);try refine aa_ ?_
  refine iN_ k2 ⟨Wk.refl _,Wk.agg (gI_ rfl rfl (WkC.refl _) eJ_ eK_ rfl rfl rfl),trivial⟩ ⟨fM_ x,(ff_ _).2 ⟨aN_ _ _,⟨trivial,trivial⟩,trivial⟩,trivial⟩ ?_;cases I
  ·try refine aa_ ?_
   refine Rn_ ?_
   exact ag_
  ·try refine aa_ ?_
   refine Rm_ ?_
   exact ag_
 have n3:(x.kind==3)=false:=by simp[h3k]
 by_cases h4k:x.kind=4
 case pos=>
  have e4:(x.kind==4)=true:=by simp[h4k]
  have hm:mask x=⟨x.kind,cg_,kA_,x.slg,pE_,gH_,0,0⟩:=by unfold mask;rw[if_neg h2k];rw[if_neg h3k];rw[if_pos h4k]
  rw[hm]at k2;try refine aa_ ?_
  refine ab_ ?_ (by(try simp only[go_sem,n2]);try exact evd);try refine aa_ ?_
  refine ab_ ?_ (by(try simp only[go_sem,n3]);try exact evd);try refine aa_ ?_
  refine ac_ ?_ (by(try simp only[go_sem,e4]);try exact evd);try refine aa_ ?_
  refine iN_ k2 ⟨Wk.refl _,Wk.agg (gI_ rfl rfl eI_ (WkC.refl _) eK_ rfl rfl rfl),trivial⟩ ⟨fM_ x,(ff_ _).2 ⟨trivial,⟨aN_ _ _,aN_ _ _⟩,trivial⟩,trivial⟩ ?_;cases I
  ·try refine aa_ ?_
   refine Rn_ ?_
   exact ag_
  ·try refine aa_ ?_
   refine Rm_ ?_
   exact ag_
 have n4:(x.kind==4)=false:=by simp[h4k]
 by_cases h5k:x.kind=5
 case pos=>
  have e5:(x.kind==5)=true:=by simp[h5k]
  have hm:mask x=⟨x.kind,cg_,kA_,ja_,x.tab,gH_,0,0⟩:=by unfold mask;rw[if_neg h2k];rw[if_neg h3k];rw[if_neg h4k];rw[if_pos h5k]
  rw[hm]at k2;try refine aa_ ?_
  refine ab_ ?_ (by(try simp only[go_sem,n2]);try exact evd);try refine aa_ ?_
  refine ab_ ?_ (by(try simp only[go_sem,n3]);try exact evd);try refine aa_ ?_
  refine ab_ ?_ (by(try simp only[go_sem,n4]);try exact evd);try refine aa_ ?_
  refine ac_ ?_ (by(try simp only[go_sem,e5]);try exact evd);try refine aa_ ?_
  refine iN_ k2 ⟨Wk.refl _,Wk.agg (gI_ rfl rfl eI_ eJ_ (WkC.refl _) rfl rfl rfl),trivial⟩ ⟨fM_ x,(ff_ _).2 ⟨trivial,⟨trivial,trivial⟩,aN_ _ _⟩,trivial⟩ ?_;cases I
  ·try refine aa_ ?_
   refine Rn_ ?_
   exact ag_
  ·try refine aa_ ?_
   refine Rm_ ?_
   exact ag_
 have n5:(x.kind==5)=false:=by simp[h5k]
 by_cases h6k:x.kind=6
 case pos=>
  have e6:(x.kind==6)=true:=by simp[h6k]
  have hm:mask x=⟨x.kind,cg_,kA_,ja_,pE_,x.vdt,0,0⟩:=by unfold mask;rw[if_neg h2k];rw[if_neg h3k];rw[if_neg h4k];rw[if_neg h5k];rw[if_pos h6k]
  rw[hm]at k2;try refine aa_ ?_
  refine ab_ ?_ (by(try simp only[go_sem,n2]);try exact evd);try refine aa_ ?_
  refine ab_ ?_ (by(try simp only[go_sem,n3]);try exact evd);try refine aa_ ?_
  refine ab_ ?_ (by(try simp only[go_sem,n4]);try exact evd);try refine aa_ ?_
  refine ab_ ?_ (by(try simp only[go_sem,n5]);try exact evd);try refine aa_ ?_
  refine ac_ ?_ (by(try simp only[go_sem,e6]);try exact evd);try refine aa_ ?_
  refine iN_ k2 ⟨Wk.refl _,Wk.agg (gI_ rfl rfl eI_ eJ_ eK_ rfl rfl rfl),trivial⟩ ⟨fM_ x,(ff_ _).2 ⟨trivial,⟨trivial,trivial⟩,trivial⟩,trivial⟩ ?_;cases I
  ·try refine aa_ ?_
   refine Rn_ ?_
   exact ag_
  ·try refine aa_ ?_
   refine Rm_ ?_
   exact ag_
 have n6:(x.kind==6)=false:=by simp[h6k]
 by_cases h8k:x.kind=8
 case pos=>
  have e8:(x.kind==8)=true:=by simp[h8k]
  have hm:mask x=⟨x.kind,cg_,kA_,ja_,pE_,gH_,x.write,x.keep⟩:=by unfold mask;rw[if_neg h2k];rw[if_neg h3k];rw[if_neg h4k];rw[if_neg h5k];rw[if_neg h6k];rw[if_pos h8k]
  rw[hm]at k2;try refine aa_ ?_
  refine ab_ ?_ (by(try simp only[go_sem,n2]);try exact evd);try refine aa_ ?_
  refine ab_ ?_ (by(try simp only[go_sem,n3]);try exact evd);try refine aa_ ?_
  refine ab_ ?_ (by(try simp only[go_sem,n4]);try exact evd);try refine aa_ ?_
  refine ab_ ?_ (by(try simp only[go_sem,n5]);try exact evd);try refine aa_ ?_
  refine ab_ ?_ (by(try simp only[go_sem,n6]);try exact evd);try refine aa_ ?_
  refine ac_ ?_ (by(try simp only[go_sem,e8]);try exact evd);try refine aa_ ?_
  refine iN_ k2 ⟨Wk.refl _,Wk.agg (gI_ rfl rfl eI_ eJ_ eK_ rfl rfl rfl),trivial⟩ ⟨fM_ x,(ff_ _).2 ⟨trivial,⟨trivial,trivial⟩,trivial⟩,trivial⟩ ?_;cases I
  ·try refine aa_ ?_
   refine Rn_ ?_
   exact ag_
  ·try refine aa_ ?_
   refine Rm_ ?_
   exact ag_
 have n8:(x.kind==8)=false:=by simp[h8k]
 have hm:mask x=⟨x.kind,cg_,kA_,ja_,pE_,gH_,0,0⟩:=by unfold mask;rw[if_neg h2k];rw[if_neg h3k];rw[if_neg h4k];rw[if_neg h5k];rw[if_neg h6k];rw[if_neg h8k]
 rw[hm]at k2;try refine aa_ ?_
 refine ab_ ?_ (by(try simp only[go_sem,n2]);try exact evd);try refine aa_ ?_
 refine ab_ ?_ (by(try simp only[go_sem,n3]);try exact evd);try refine aa_ ?_
 refine ab_ ?_ (by(try simp only[go_sem,n4]);try exact evd);try refine aa_ ?_
 refine ab_ ?_ (by(try simp only[go_sem,n5]);try exact evd);try refine aa_ ?_
 refine ab_ ?_ (by(try simp only[go_sem,n6]);try exact evd);try refine aa_ ?_
 refine ab_ ?_ (by(try simp only[go_sem,n8]);try exact evd);try refine aa_ ?_
 refine iN_ k2 ⟨Wk.refl _,Wk.agg (gI_ rfl rfl eI_ eJ_ eK_ rfl rfl rfl),trivial⟩ ⟨fM_ x,(ff_ _).2 ⟨trivial,⟨trivial,trivial⟩,trivial⟩,trivial⟩ ?_;cases I
 ·try refine aa_ ?_
  refine Rn_ ?_
  exact ag_
 ·try refine aa_ ?_
  refine Rm_ ?_
  exact ag_
end Go.Proofs.YtkgimpdgncakjaaGreat
