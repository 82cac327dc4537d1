/-
 My texts Ga, Gc, Gd, Ge, joined.
-/
import Derived.Test.YtnjdpnfglgcjcaaGreatV1
import Derived.Test.YtnjdpnfglgcjcaaGreatW5
import Derived.Test.YtnjdpnfglgcjcaaGreatW3
set_option linter.unusedVariables false
set_option linter.unusedSimpArgs false
set_option maxRecDepth 8000
set_option maxHeartbeats 4000000
namespace Go.Proofs.YtnjdpnfglgcjcaaGreat
open Go Go.FH Go.RowKit
structure OpV where
 kind:Int
 blk:Blk
 att:Int×Rt×Cp×List Int
 slg:Sv
 tab:Tv
 vdt:Vdt
 write:Int
 keep:Int
def opL(x:OpV):SOp:=⟨x.kind,x.blk,rX x.att,rQ x.slg,qT x.tab,x.vdt,x.write,x.keep⟩
theorem X8(x:OpV):(opL x).kind=x.kind:=rfl
theorem ZX(x:OpV):(opL x).blk=x.blk:=rfl
theorem ZW(x:OpV):(opL x).att=rX x.att:=rfl
theorem ZZ(x:OpV):(opL x).slg=rQ x.slg:=rfl
theorem Z0(x:OpV):(opL x).tab=qT x.tab:=rfl
theorem Z1(x:OpV):(opL x).vdt=x.vdt:=rfl
theorem Vi(x:OpV):(opL x).write=x.write:=rfl
theorem X7(x:OpV):(opL x).keep=x.keep:=rfl
theorem X6(x:OpV):(opL x).good=true:=rfl
theorem abK(x:OpV):(opL x).Pure:=⟨bj _ _,⟨SE _,SE _⟩,bj _ _⟩
theorem jX(x:OpV):PuL (dp (opL x)):=(i6 _).2 (abK x)
theorem ZY(x:OpV)(ρ:Nat->Nat):(opL x).map (ren ρ)=opL x:=by simp only[opL,SOp.map,Nx,Po,PF]
theorem abJ(x:OpV)(σ:St)(zs:List Nat):(opL x).map (fz σ zs)=opL x:=by simp only[opL,SOp.map,SB,Tx,TF]
theorem YH(x:Sv):(rQ x).fst=ww x.1:=rfl
theorem YI(x:Sv):(rQ x).snd=ww x.2:=rfl
theorem T7(x:Int×Rt×Cp×List Int):(rX x).vals=.sl 1 false (ax .i64 x.2.2.2):=rfl
theorem Wj(x:Tv):(qT x).bals=.sl 1 false (ax .u64 x.2):=rfl
theorem aaN(x:Tv):(qT x).cp=x.1:=rfl
attribute [go_sem] X8 ZX ZW ZZ Z0 Z1 Vi X7 X6 ZY abJ YH YI T7 Wj aaN
def okF(k:Int)(fs:List (Int×Bool))(i:Nat):Bool:=if h:i<fs.length then ((fs[i].1==k) || fs[i].2)&&okF k fs (i+1)else true
termination_by fs.length-i
theorem Jv{k:Int}{fs:List (Int×Bool)}{i:Nat}(h:i<fs.length):okF k fs i=(((fs[i].1==k) || fs[i].2)&&okF k fs (i+1)):=by rw[okF,dif_pos h]
theorem ZV{k:Int}{fs:List (Int×Bool)}{i:Nat}(h:¬i<fs.length):okF k fs i=true:=by rw[okF,dif_neg h]
def abd(x:OpV):List (Int×Bool):=
 [(2,decide (x.blk=dO)),(3,decide (x.att=qz)),(4,decide (x.slg.1=D3)&&decide (x.slg.2=D3)),(5,decide (x.tab.1=cp0)&&decide (x.tab.2=[])),(6,decide (x.vdt=lk)),(8,(x.write==0)&&(x.keep==0))]
def XH(x:OpV):Bool:=okF x.kind (abd x) 0
structure Is(x:OpV):Prop where
 att:x.att.2.2.2.length<=140737488355328
 fst:x.slg.1.2.2.2.length<=140737488355328
 snd:x.slg.2.2.2.2.length<=140737488355328
 tab:x.tab.2.length<=140737488355328
def R4(a b:Int×Rt×Cp×List Int):Bool:=decide (a.1=b.1/\a.2.1=b.2.1/\a.2.2.1=b.2.2.1/\a.2.2.2=b.2.2.2)
def F0(a b:Cv):Bool:=decide (a.1=b.1/\a.2.1=b.2.1/\a.2.2.1=b.2.2.1/\a.2.2.2=b.2.2.2)
def R5(a b:Tv):Bool:=decide (a.1=b.1/\a.2=b.2)
def Mx(x y:OpV):Bool:=(x.kind==y.kind)&&(decide (x.blk=y.blk)&&(R4 x.att y.att&&((F0 x.slg.1 y.slg.1&&F0 x.slg.2 y.slg.2)&&(R5 x.tab y.tab&&(decide (x.vdt=y.vdt)&&((x.write==y.write)&&(x.keep==y.keep)))))))
set_option maxHeartbeats 4000000 in
theorem aae(x y:OpV)(hx:Is x)(hy:Is y):PC Tryz.prog 203 [.agg (dp (opL x)),.agg (dp (opL y))] (.bool (Mx x y)):=by
 refine PC.fact 5 Hy (by simp) ⟨jX x,jX y,trivial⟩ trivial ?_;unfold vI Mx;refine bd ?_;have k1:PC Tryz.prog 136 [.agg (bZ (rX x.att)),.agg (bZ (rX y.att))] (.bool (R4 x.att y.att)):=Ph (rX x.att) (rX y.att) _ _ false false rfl rfl hx.att hy.att;have k2:PC Tryz.prog 298 [.agg (dq (rQ x.slg)),.agg (dq (rQ y.slg))] (.bool (F0 x.slg.1 y.slg.1&&F0 x.slg.2 y.slg.2)):=Yz (rQ x.slg) (rQ y.slg) _ _ _ _ false false false false rfl rfl rfl rfl hx.fst hx.snd hy.fst hy.snd;have k3:PC Tryz.prog 259 [.agg (bE (qT x.tab)),.agg (bE (qT y.tab))] (.bool (R5 x.tab y.tab)):=Pj (qT x.tab) (qT y.tab) _ _ false false rfl rfl hx.tab hy.tab;generalize h1:(x.kind==y.kind)=B1 at *;generalize h2:decide (x.blk=y.blk)=B2 at *;generalize R4 x.att y.att=B3 at *;generalize (F0 x.slg.1 y.slg.1&&F0 x.slg.2 y.slg.2)=B4 at *;generalize R5 x.tab y.tab=B5 at *;generalize h6:decide (x.vdt=y.vdt)=B6 at *;generalize h7:(x.write==y.write)=B7 at *;generalize h8:(x.keep==y.keep)=B8 at *;cases B1
 ·refine ap h1 ?_;exact af
 cases B2
 ·refine aO h1 h2 ?_;exact af
 refine aO h1 h2 ?_;refine ai k1 ?_;cases B3
 ·refine aO h1 h2 ?_;exact af
 refine aO h1 h2 ?_;refine ai k2 ?_;cases B4
 ·refine aO h1 h2 ?_;exact af
 refine aO h1 h2 ?_;refine ai k3 ?_;cases B5
 ·refine cZ h1 h2 h6 ?_;exact af
 cases B6
 ·refine cZ h1 h2 h6 ?_;exact af
 cases B7
 ·refine eW h1 h2 h6 h7 ?_;exact af
 ·refine eO h1 h2 h6 h7 h8 ?_;exact af
structure OpU(x:OpV):Prop where
 blk:WI x.blk
 slot:U64 x.att.1
 ep:U64 x.att.2.2.1.ep
 att:x.att.2.2.2.length<=140737488355328
 fst:zF (ww x.slg.1) x.slg.1.2.2.2 false
 snd:zF (ww x.slg.2) x.slg.2.2.2.2 false
 tab:Np (qT x.tab) x.tab.2 false
 tag:U64 x.vdt.tag
theorem OpU.len{x:OpV}(h:OpU x):Is x:=⟨h.att,h.fst.len,h.snd.len,h.tab.len⟩
def DJ(x:OpV):Bool:=!(decide (0<=x.write/\x.write<=32768)&&decide (0<=x.keep/\x.keep<=32768))
def fld(x:OpV):List UInt8×Int:=
 if x.kind=2 then (acl x.blk,0)
 else if x.kind=3 then (if dr x.att.2.2.2 1024=0 then acb (rX x.att) x.att.2.2.2 else [],dr x.att.2.2.2 1024)
 else if x.kind=4 then (if Pn x.slg.1.2.2.2 x.slg.2.2.2.2=0 then aa6 (rQ x.slg) x.slg.1.2.2.2 x.slg.2.2.2.2 else [],Pn x.slg.1.2.2.2 x.slg.2.2.2.2)
 else if x.kind=5 then (if 1024<x.tab.2.length then []else Y0 (qT x.tab) x.tab.2,if 1024<x.tab.2.length then 3 else 0)
 else if x.kind=6 then (if PK x.vdt then []else acD x.vdt,if PK x.vdt then 3 else 0)
 else if x.kind=8 then (if DJ x then ([],3)else (dI x.write.toNat++dI x.keep.toNat,0))
 else ([],0)
set_option maxHeartbeats 4000000 in
theorem Pm(x:OpV)(hx:OpU x):PC Tryz.prog 202 [.agg (dp (opL x))] (.tup [.sl 1 false (bts (fld x).1),.int .i64 (fld x).2]):=by
 refine PC.fact 4 LQ (by simp) ⟨jX x,trivial⟩ ⟨pd _,trivial,trivial⟩ ?_;unfold yv fld;refine bd ?_;by_cases h2:x.kind=2
 ·rw[if_pos h2];have e2:(x.kind==2)=true:=by simp[h2]
  refine gon ?_;refine aF ?_ (by(try simp only[go_sem,e2]);try exact evd);refine gon ?_;refine acT (YC x.blk hx.blk) ?_;exact af
 rw[if_neg h2];have n2:(x.kind==2)=false:=by simp[h2]
 by_cases h3:x.kind=3
 ·rw[if_pos h3];have e3:(x.kind==3)=true:=by simp[h3]
  have k3:=YB (rX x.att) x.att.2.2.2 false rfl hx.att hx.slot hx.ep;refine gon ?_;refine aB ?_ (by(try simp only[go_sem,n2]);try exact evd);refine gon ?_;refine aF ?_ (by(try simp only[go_sem,e3]);try exact evd);refine gon ?_;refine acT k3 ?_;exact af
 rw[if_neg h3];have n3:(x.kind==3)=false:=by simp[h3]
 by_cases h4:x.kind=4
 ·rw[if_pos h4];have e4:(x.kind==4)=true:=by simp[h4]
  have k4:=YD (rQ x.slg) x.slg.1.2.2.2 x.slg.2.2.2.2 false false hx.fst hx.snd;refine gon ?_;refine aB ?_ (by(try simp only[go_sem,n2]);try exact evd);refine gon ?_;refine aB ?_ (by(try simp only[go_sem,n3]);try exact evd);refine gon ?_;refine aF ?_ (by(try simp only[go_sem,e4]);try exact evd);refine gon ?_;refine acT k4 ?_;exact af
 rw[if_neg h4];have n4:(x.kind==4)=false:=by simp[h4]
 by_cases h5:x.kind=5
 ·rw[if_pos h5];have e5:(x.kind==5)=true:=by simp[h5]
  have k5:=YE (qT x.tab) x.tab.2 false hx.tab;refine gon ?_;refine aB ?_ (by(try simp only[go_sem,n2]);try exact evd);refine gon ?_;refine aB ?_ (by(try simp only[go_sem,n3]);try exact evd);refine gon ?_;refine aB ?_ (by(try simp only[go_sem,n4]);try exact evd);refine gon ?_;refine aF ?_ (by(try simp only[go_sem,e5]);try exact evd);refine gon ?_;refine acT k5 ?_;exact af
 rw[if_neg h5];have n5:(x.kind==5)=false:=by simp[h5]
 by_cases h6:x.kind=6
 ·rw[if_pos h6];have e6:(x.kind==6)=true:=by simp[h6]
  have k6:=YF x.vdt hx.tag;refine gon ?_;refine aB ?_ (by(try simp only[go_sem,n2]);try exact evd);refine gon ?_;refine aB ?_ (by(try simp only[go_sem,n3]);try exact evd);refine gon ?_;refine aB ?_ (by(try simp only[go_sem,n4]);try exact evd);refine gon ?_;refine aB ?_ (by(try simp only[go_sem,n5]);try exact evd);refine gon ?_;refine aF ?_ (by(try simp only[go_sem,e6]);try exact evd);refine gon ?_;refine acT k6 ?_;exact af
 rw[if_neg h6];have n6:(x.kind==6)=false:=by simp[h6]
 refine gon ?_;refine aB ?_ (by(try simp only[go_sem,n2]);try exact evd);refine gon ?_;refine aB ?_ (by(try simp only[go_sem,n3]);try exact evd);refine gon ?_;refine aB ?_ (by(try simp only[go_sem,n4]);try exact evd);refine gon ?_;refine aB ?_ (by(try simp only[go_sem,n5]);try exact evd);refine gon ?_;refine aB ?_ (by(try simp only[go_sem,n6]);try exact evd);refine gon ?_;by_cases h8:x.kind=8
 ·rw[if_pos h8]
  have e8:(x.kind==8)=true:=by simp[h8]
  refine aF ?_ (by(try simp only[go_sem,e8]);try exact evd);by_cases a1:x.write<0
  ·have d1:decide (x.write<0)=true:=by simpa using a1
   have hb:DJ x=true:=by simp[DJ];omega
   rw[hb];simp only[if_true];refine aE d1 ?_;refine⟨_,rfl,.inr ⟨.tup [.sl 0 true [],.int .i64 3],evd,⟨trivial,trivial,trivial⟩,Wk.tup ⟨Wk.empty _ _ _,Wk.refl _,trivial⟩⟩⟩
  have d1:decide (x.write<0)=false:=by simpa using a1
  by_cases a2:32768<x.write
  ·have d2:decide (32768<x.write)=true:=by simpa using a2
   have hb:DJ x=true:=by simp[DJ];omega
   rw[hb];simp only[if_true];refine cn d1 d2 ?_;refine⟨_,rfl,.inr ⟨.tup [.sl 0 true [],.int .i64 3],evd,⟨trivial,trivial,trivial⟩,Wk.tup ⟨Wk.empty _ _ _,Wk.refl _,trivial⟩⟩⟩
  have d2:decide (32768<x.write)=false:=by simpa using a2
  by_cases a3:x.keep<0
  ·have d3:decide (x.keep<0)=true:=by simpa using a3
   have hb:DJ x=true:=by simp[DJ];omega
   rw[hb];simp only[if_true];refine fK d1 d2 d3 ?_;refine⟨_,rfl,.inr ⟨.tup [.sl 0 true [],.int .i64 3],evd,⟨trivial,trivial,trivial⟩,Wk.tup ⟨Wk.empty _ _ _,Wk.refl _,trivial⟩⟩⟩
  have d3:decide (x.keep<0)=false:=by simpa using a3
  by_cases a4:32768<x.keep
  ·have d4:decide (32768<x.keep)=true:=by simpa using a4
   have hb:DJ x=true:=by simp[DJ];omega
   rw[hb];simp only[if_true];refine qM d1 d2 d3 d4 ?_;refine⟨_,rfl,.inr ⟨.tup [.sl 0 true [],.int .i64 3],evd,⟨trivial,trivial,trivial⟩,Wk.tup ⟨Wk.empty _ _ _,Wk.refl _,trivial⟩⟩⟩
  have d4:decide (32768<x.keep)=false:=by simpa using a4
  have hb:DJ x=false:=by simp[DJ];omega
  have w1:IntKind.u64.wrap x.write=x.write:=aU (by omega) (by omega);have w2:IntKind.u64.wrap x.keep=x.keep:=aU (by omega) (by omega);have q1:=jD (n:=x.write.toNat) (by omega);have q2:=jD (n:=x.keep.toNat) (by omega);have p1:=(d7 x.write (by omega) (by omega)).nil (by omega);have p2:=(d7 x.keep (by omega) (by omega)).own (dI x.write.toNat) (by omega);rw[hb];simp only[Bool.false_eq_true,if_false];refine BS d1 d2 d3 d4 ?_;refine aO w1 w2 ?_;refine cO [] (p1) (by simp) evd (dt.mk' (by simp) (by simp) evd) ?_;refine evg ?_;refine aO w1 w2 ?_;refine cO [1] (p2) (by simp) evd (dt.mk' (by simp) (by simp) evd) ?_;refine evg ?_;refine gon ?_;exact af
 ·rw[if_neg h8];have n8:(x.kind==8)=false:=by simp[h8]
  refine aB ?_ (by(try simp only[go_sem,n8]);try exact evd);refine gon ?_;refine⟨_,rfl,.inr ⟨.tup [.sl 0 true [],.int .i64 0],evd,⟨trivial,trivial,trivial⟩,Wk.tup ⟨Wk.empty _ _ _,Wk.refl _,trivial⟩⟩⟩
def vOp(x:OpV):Int:=if x.kind<1\/8<x.kind then 2 else if (fld x).2≠0 then (fld x).2 else if XH x then 0 else 2
theorem ZI(x:OpV):XH x=(((((2:Int)==x.kind) || decide (x.blk=dO)))&&((((3:Int)==x.kind) || decide (x.att=qz))&&((((4:Int)==x.kind) || (decide (x.slg.1=D3)&&decide (x.slg.2=D3)))&&((((5:Int)==x.kind) || (decide (x.tab.1=cp0)&&decide (x.tab.2=[])))&&((((6:Int)==x.kind) || decide (x.vdt=lk))&&(((8:Int)==x.kind) || ((x.write==0)&&(x.keep==0)))))))):=by
 unfold XH abd;rw[Jv (by simp),Jv (by simp),Jv (by simp),Jv (by simp),Jv (by simp),Jv (by simp),ZV (by simp)];simp
theorem xG(a:Int×Rt×Cp×List Int):R4 a qz=decide (a=qz):=by
 obtain⟨s,r,c,l⟩:=a;show decide (s=0/\r=rt0/\c=cp0/\l=[])=_
 rw[Bool.eq_iff_iff];simp[qz]
theorem xH(a:Cv):F0 a D3=decide (a=D3):=by
 obtain⟨s,r,c,l⟩:=a;show decide (s=0/\r=0/\c=rt0/\l=[])=_
 rw[Bool.eq_iff_iff];simp[D3]
theorem xI(a:Tv):R5 a xL=(decide (a.1=cp0)&&decide (a.2=[])):=by show decide (a.1=cp0/\a.2=[])=_;rw[Bool.eq_iff_iff];simp
theorem VL(a:Int×Rt×Cp×List Int):R4 a a=true:=by simp[R4]
theorem VM(a:Cv):F0 a a=true:=by simp[F0]
theorem VP(a:Tv):R5 a a=true:=by simp[R5]
def mask(x:OpV):OpV:=
 if x.kind=2 then ⟨x.kind,x.blk,qz,oA,xL,lk,0,0⟩
 else if x.kind=3 then ⟨x.kind,dO,x.att,oA,xL,lk,0,0⟩
 else if x.kind=4 then ⟨x.kind,dO,qz,x.slg,xL,lk,0,0⟩
 else if x.kind=5 then ⟨x.kind,dO,qz,oA,x.tab,lk,0,0⟩
 else if x.kind=6 then ⟨x.kind,dO,qz,oA,xL,x.vdt,0,0⟩
 else if x.kind=8 then ⟨x.kind,dO,qz,oA,xL,lk,x.write,x.keep⟩
 else ⟨x.kind,dO,qz,oA,xL,lk,0,0⟩
theorem lc(x:OpV)(k:Int)(b:Blk)(a:Int×Rt×Cp×List Int)(s:Sv)(t:Tv)(v:Vdt)(w p:Int):Mx x ⟨k,b,a,s,t,v,w,p⟩=((x.kind==k)&&(decide (x.blk=b)&&(R4 x.att a&&((F0 x.slg.1 s.1&&F0 x.slg.2 s.2)&&(R5 x.tab t&&(decide (x.vdt=v)&&((x.write==w)&&(x.keep==p)))))))):=rfl
theorem Vc(x:OpV):Mx x (mask x)=XH x:=by
 rw[ZI,Bool.eq_iff_iff];unfold mask;split
 ·rename_i h;rw[lc];simp[oA,xG,xH,xI,h]
 split
 ·rename_i h;rw[lc];simp[oA,xG,xH,xI,VL,h]
 split
 ·rename_i h;rw[lc];simp[oA,xG,xH,xI,VM,h]
 split
 ·rename_i h;rw[lc];simp[oA,xG,xH,xI,VP,h]
 split
 ·rename_i h;rw[lc];simp[oA,xG,xH,xI,h]
 split
 ·rename_i h;rw[lc];simp[oA,xG,xH,xI,h]
 ·rename_i h2 h3 h4 h5 h6 h8;have n2:((2:Int)==x.kind)=false:=by simp;omega
  have n3:((3:Int)==x.kind)=false:=by simp;omega
  have n4:((4:Int)==x.kind)=false:=by simp;omega
  have n5:((5:Int)==x.kind)=false:=by simp;omega
  have n6:((6:Int)==x.kind)=false:=by simp;omega
  have n8:((8:Int)==x.kind)=false:=by simp;omega
  rw[lc];simp[oA,xG,xH,xI,n2,n3,n4,n5,n6,n8]
theorem Is.mask{x:OpV}(h:Is x):Is (mask x):=by
 unfold Go.Proofs.YtnjdpnfglgcjcaaGreat.mask;(repeat' split)<;>exact⟨by first|exact h.att|simp[qz],by first|exact h.fst|simp[oA,D3],by first|exact h.snd|simp[oA,D3],by first|exact h.tab|simp[xL]⟩
theorem lm{x y:SOp}(h1:x.kind=y.kind)(h2:x.blk=y.blk)(h3:WkC (bZ x.att) (bZ y.att))(h4:WkC (dq x.slg) (dq y.slg))(h5:WkC (bE x.tab) (bE y.tab))(h6:x.vdt=y.vdt)(h7:x.write=y.write)(h8:x.keep=y.keep):WkC (dp x) (dp y):=by
 obtain⟨a1,a2,a3,a4,a5,a6,a7,a8⟩:=x;obtain⟨b1,b2,b3,b4,b5,b6,b7,b8⟩:=y;simp only at h1 h2 h3 h4 h5 h6 h7 h8;subst h1 h2 h6 h7 h8;exact WkC.same _ ((WkC.refl _).app (h3.app (h4.app (h5.app ((WkC.refl _).app (WkC.refl _))))))
theorem iz:WkC (bZ GG) (bZ (rX qz)):=WkC.same _ ((WkC.refl (rtc rt0)).app ((WkC.refl (cpC cp0)).app (WkC.one (Wk.empty 0 1 false) fun h=>h)))
theorem iA:WkC (dq HV) (dq (rQ oA)):=(TQ 0 0 rt0 (Wk.empty 0 1 false) fun h=>h).app (TQ 0 0 rt0 (Wk.empty 0 1 false) fun h=>h)
theorem iB:WkC (bE zw) (bE (qT xL)):=(WkC.refl (cpC cp0)).app (WkC.one (Wk.empty 0 1 false) fun h=>h)
set_option maxHeartbeats 8000000 in
theorem PB(x:OpV)(hx:OpU x):PC Tryz.prog 82 [.agg (dp (opL x))] (.int .i64 (vOp x)):=by
 refine PC.fact 6 yJ (by simp) ⟨jX x,trivial⟩ trivial ?_;unfold oH vOp;refine bd ?_;have k1:=Pm x hx;have k2:=aae x (mask x) hx.len hx.len.mask;rw[Vc]at k2;by_cases h1:x.kind<1
 ·have d1:decide (x.kind<1)=true:=by simpa using h1
  rw[if_pos (.inl h1)];refine aE d1 ?_;exact af
 have d1:decide (x.kind<1)=false:=by simpa using h1
 by_cases h2:8<x.kind
 ·have d2:decide (8<x.kind)=true:=by simpa using h2
  rw[if_pos (.inr h2)];refine cn d1 d2 ?_;exact af
 have d2:decide (8<x.kind)=false:=by simpa using h2
 rw[if_neg (by omega)];refine dD d1 d2 ?_;generalize fld x=F at *;obtain⟨f,e⟩:=F;dsimp only at k1 ⊢;refine gon ?_;refine acT k1 ?_;by_cases he:e=0
 case neg=>
  have he':(e != 0)=true:=by simpa using he
  rw[if_pos he];refine aF ?_ (by(try simp only[go_sem,he']);try exact evd);refine gon ?_;exact af
 subst he;refine aB ?_;generalize XH x=I at *;rw[if_neg (by simp)];by_cases h2k:x.kind=2
 case pos=>
  have e2:(x.kind==2)=true:=by simp[h2k]
  have hm:mask x=⟨x.kind,x.blk,qz,oA,xL,lk,0,0⟩:=by unfold mask;rw[if_pos h2k]
  rw[hm]at k2;refine gon ?_;refine aF ?_ (by(try simp only[go_sem,e2]);try exact evd);refine gon ?_;refine mm k2 ⟨Wk.refl _,Wk.agg (lm rfl rfl iz iA iB rfl rfl rfl),trivial⟩ ⟨jX x,(i6 _).2 ⟨trivial,⟨trivial,trivial⟩,trivial⟩,trivial⟩ ?_;cases I
  ·refine aV ?_;exact af
  ·refine bh ?_;exact af
 have n2:(x.kind==2)=false:=by simp[h2k]
 by_cases h3k:x.kind=3
 case pos=>
  have e3:(x.kind==3)=true:=by simp[h3k]
  have hm:mask x=⟨x.kind,dO,x.att,oA,xL,lk,0,0⟩:=by unfold mask;rw[if_neg h2k];rw[if_pos h3k]
  rw[hm]at k2;refine gon ?_;refine aB ?_ (by(try simp only[go_sem,n2]);try exact evd);refine gon ?_;refine aF ?_ (by(try simp only[go_sem,e3]);try exact evd);refine gon ?_;refine mm k2 ⟨Wk.refl _,Wk.agg (lm rfl rfl (WkC.refl _) iA iB rfl rfl rfl),trivial⟩ ⟨jX x,(i6 _).2 ⟨bj _ _,⟨trivial,trivial⟩,trivial⟩,trivial⟩ ?_;cases I
  ·refine aV ?_;exact af
  ·refine bh ?_;exact af
 have n3:(x.kind==3)=false:=by simp[h3k]
 by_cases h4k:x.kind=4
 case pos=>
  have e4:(x.kind==4)=true:=by simp[h4k]
  have hm:mask x=⟨x.kind,dO,qz,x.slg,xL,lk,0,0⟩:=by unfold mask;rw[if_neg h2k];rw[if_neg h3k];rw[if_pos h4k]
  rw[hm]at k2;refine gon ?_;refine aB ?_ (by(try simp only[go_sem,n2]);try exact evd);refine gon ?_;refine aB ?_ (by(try simp only[go_sem,n3]);try exact evd);refine gon ?_;refine aF ?_ (by(try simp only[go_sem,e4]);try exact evd);refine gon ?_;refine mm k2 ⟨Wk.refl _,Wk.agg (lm rfl rfl iz (WkC.refl _) iB rfl rfl rfl),trivial⟩ ⟨jX x,(i6 _).2 ⟨trivial,⟨bj _ _,bj _ _⟩,trivial⟩,trivial⟩ ?_;cases I
  ·refine aV ?_;exact af
  ·refine bh ?_;exact af
 have n4:(x.kind==4)=false:=by simp[h4k]
 by_cases h5k:x.kind=5
 case pos=>
  have e5:(x.kind==5)=true:=by simp[h5k]
  have hm:mask x=⟨x.kind,dO,qz,oA,x.tab,lk,0,0⟩:=by unfold mask;rw[if_neg h2k];rw[if_neg h3k];rw[if_neg h4k];rw[if_pos h5k]
  rw[hm]at k2;refine gon ?_;refine aB ?_ (by(try simp only[go_sem,n2]);try exact evd);refine gon ?_;refine aB ?_ (by(try simp only[go_sem,n3]);try exact evd);refine gon ?_;refine aB ?_ (by(try simp only[go_sem,n4]);try exact evd);refine gon ?_;refine aF ?_ (by(try simp only[go_sem,e5]);try exact evd);refine gon ?_;refine mm k2 ⟨Wk.refl _,Wk.agg (lm rfl rfl iz iA (WkC.refl _) rfl rfl rfl),trivial⟩ ⟨jX x,(i6 _).2 ⟨trivial,⟨trivial,trivial⟩,bj _ _⟩,trivial⟩ ?_;cases I
  ·refine aV ?_;exact af
  ·refine bh ?_;exact af
 have n5:(x.kind==5)=false:=by simp[h5k]
 by_cases h6k:x.kind=6
 case pos=>
  have e6:(x.kind==6)=true:=by simp[h6k]
  have hm:mask x=⟨x.kind,dO,qz,oA,xL,x.vdt,0,0⟩:=by unfold mask;rw[if_neg h2k];rw[if_neg h3k];rw[if_neg h4k];rw[if_neg h5k];rw[if_pos h6k]
  rw[hm]at k2;refine gon ?_;refine aB ?_ (by(try simp only[go_sem,n2]);try exact evd);refine gon ?_;refine aB ?_ (by(try simp only[go_sem,n3]);try exact evd);refine gon ?_;refine aB ?_ (by(try simp only[go_sem,n4]);try exact evd);refine gon ?_;refine aB ?_ (by(try simp only[go_sem,n5]);try exact evd);refine gon ?_;refine aF ?_ (by(try simp only[go_sem,e6]);try exact evd);refine gon ?_;refine mm k2 ⟨Wk.refl _,Wk.agg (lm rfl rfl iz iA iB rfl rfl rfl),trivial⟩ ⟨jX x,(i6 _).2 ⟨trivial,⟨trivial,trivial⟩,trivial⟩,trivial⟩ ?_;cases I
  ·refine aV ?_;exact af
  ·refine bh ?_;exact af
 have n6:(x.kind==6)=false:=by simp[h6k]
 by_cases h8k:x.kind=8
 case pos=>
  have e8:(x.kind==8)=true:=by simp[h8k]
  have hm:mask x=⟨x.kind,dO,qz,oA,xL,lk,x.write,x.keep⟩:=by unfold mask;rw[if_neg h2k];rw[if_neg h3k];rw[if_neg h4k];rw[if_neg h5k];rw[if_neg h6k];rw[if_pos h8k]
  rw[hm]at k2;refine gon ?_;refine aB ?_ (by(try simp only[go_sem,n2]);try exact evd);refine gon ?_;refine aB ?_ (by(try simp only[go_sem,n3]);try exact evd);refine gon ?_;refine aB ?_ (by(try simp only[go_sem,n4]);try exact evd);refine gon ?_;refine aB ?_ (by(try simp only[go_sem,n5]);try exact evd);refine gon ?_;refine aB ?_ (by(try simp only[go_sem,n6]);try exact evd);refine gon ?_;refine aF ?_ (by(try simp only[go_sem,e8]);try exact evd);refine gon ?_;refine mm k2 ⟨Wk.refl _,Wk.agg (lm rfl rfl iz iA iB rfl rfl rfl),trivial⟩ ⟨jX x,(i6 _).2 ⟨trivial,⟨trivial,trivial⟩,trivial⟩,trivial⟩ ?_;cases I
  ·refine aV ?_;exact af
  ·refine bh ?_;exact af
 have n8:(x.kind==8)=false:=by simp[h8k]
 have hm:mask x=⟨x.kind,dO,qz,oA,xL,lk,0,0⟩:=by unfold mask;rw[if_neg h2k];rw[if_neg h3k];rw[if_neg h4k];rw[if_neg h5k];rw[if_neg h6k];rw[if_neg h8k]
 rw[hm]at k2;refine gon ?_;refine aB ?_ (by(try simp only[go_sem,n2]);try exact evd);refine gon ?_;refine aB ?_ (by(try simp only[go_sem,n3]);try exact evd);refine gon ?_;refine aB ?_ (by(try simp only[go_sem,n4]);try exact evd);refine gon ?_;refine aB ?_ (by(try simp only[go_sem,n5]);try exact evd);refine gon ?_;refine aB ?_ (by(try simp only[go_sem,n6]);try exact evd);refine gon ?_;refine aB ?_ (by(try simp only[go_sem,n8]);try exact evd);refine gon ?_;refine mm k2 ⟨Wk.refl _,Wk.agg (lm rfl rfl iz iA iB rfl rfl rfl),trivial⟩ ⟨jX x,(i6 _).2 ⟨trivial,⟨trivial,trivial⟩,trivial⟩,trivial⟩ ?_;cases I
 ·refine aV ?_;exact af
 ·refine bh ?_;exact af
end Go.Proofs.YtnjdpnfglgcjcaaGreat
