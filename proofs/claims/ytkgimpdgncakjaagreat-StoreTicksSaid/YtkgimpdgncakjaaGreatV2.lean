/-
 My texts Ga, Gb, Gc, Gd, Ge, joined.
-/
import Derived.Test.YtkgimpdgncakjaaGreatV1
import Derived.Test.YtkgimpdgncakjaaGreatW5
import Derived.Test.YtkgimpdgncakjaaGreatW3
namespace Go.Proofs.YtkgimpdgncakjaaGreat
open Go Go.FH Go.RowKit
set_option linter.unusedVariables false
set_option linter.unusedSimpArgs false
structure OpV where
 kind:Int
 blk:Blk
 att:Int×Rt×Cp×List Int
 slg:Sv
 tab:Tv
 vdt:Vdt
 write:Int
 keep:Int
def opL(x:OpV):SOp:=⟨x.kind,x.blk,ll_ x.att,lf_ x.slg,ku_ x.tab,x.vdt,x.write,x.keep⟩
theorem LD_(x:OpV):(opL x).kind=x.kind:=rfl
theorem Ny_(x:OpV):(opL x).blk=x.blk:=rfl
theorem Nx_(x:OpV):(opL x).att=ll_ x.att:=rfl
theorem NA_(x:OpV):(opL x).slg=lf_ x.slg:=rfl
theorem NB_(x:OpV):(opL x).tab=ku_ x.tab:=rfl
theorem NC_(x:OpV):(opL x).vdt=x.vdt:=rfl
theorem ID_(x:OpV):(opL x).write=x.write:=rfl
theorem LC_(x:OpV):(opL x).keep=x.keep:=rfl
theorem LB_(x:OpV):(opL x).good=true:=rfl
theorem Pw_(x:OpV):(opL x).Pure:=⟨aM_ _ _,⟨Gd_ _,Gd_ _⟩,aM_ _ _⟩
theorem fy_(x:OpV):PuL (bq_ (opL x)):=(eS_ _).2 (Pw_ x)
theorem Nz_(x:OpV)(ρ:Nat→Nat):(opL x).map (ren ρ)=opL x:=by simp only[opL,SOp.map,Bs_,Dj_,Dx_]
theorem Pv_(x:OpV)(σ:St)(zs:List Nat):(opL x).map (fz σ zs)=opL x:=by simp only[opL,SOp.map,Gb_,GL_,GT_]
theorem Mi_(x:Sv):(lf_ x).fst=ok_ x.1:=rfl
theorem Mj_(x:Sv):(lf_ x).snd=ok_ x.2:=rfl
theorem Hm_(x:Int×Rt×Cp×List Int):(ll_ x).vals=.sl 1 false (aq_ .i64 x.2.2.2):=rfl
theorem JD_(x:Tv):(ku_ x).bals=.sl 1 false (aq_ .u64 x.2):=rfl
theorem Ot_(x:Tv):(ku_ x).cp=x.1:=rfl
attribute [go_sem] LD_ Ny_ Nx_ NA_ NB_ NC_ ID_ LC_ LB_ Nz_ Pv_ Mi_ Mj_ Hm_ JD_ Ot_
def prs(fs:List (Int×Bool)):List (List AV):=fs.map fun f=>[.int .i64 f.1,.bool f.2]
theorem Fa_(fs:List (Int×Bool)):(prs fs).length=fs.length:=by simp[prs]
theorem Kb_(fs:List (Int×Bool)):dh_ (prs fs):=by
 induction fs with
 |nil=>trivial
 |cons f fs ih=>exact⟨⟨trivial,trivial,trivial⟩,ih⟩
theorem Jb_(ρ:Nat→Nat)(fs:List (Int×Bool)):bH_ ρ (prs fs)=prs fs:=(Kb_ fs).ren ρ
theorem KY_(σ:St)(zs:List Nat)(fs:List (Int×Bool)):dZ_ σ zs (prs fs)=prs fs:=(Kb_ fs).fz σ zs
attribute [go_sem] Fa_ Jb_ KY_
def okF(k:Int)(fs:List (Int×Bool))(i:Nat):Bool:=if h:i<fs.length then ((fs[i].1==k) || fs[i].2)&&okF k fs (i+1)else true
termination_by fs.length-i
theorem yp_{k:Int}{fs:List (Int×Bool)}{i:Nat}(h:i<fs.length):okF k fs i=(((fs[i].1==k) || fs[i].2)&&okF k fs (i+1)):=by rw[okF,dif_pos h]
theorem Nw_{k:Int}{fs:List (Int×Bool)}{i:Nat}(h:¬i<fs.length):okF k fs i=true:=by rw[okF,dif_neg h]
def OU_(x:OpV):List (Int×Bool):=
 [(2,decide (x.blk=bR_)),(3,decide (x.att=kb_)),(4,decide (x.slg.1=tz_)&&decide (x.slg.2=tz_)),(5,decide (x.tab.1=cp0)&&decide (x.tab.2=[])),(6,decide (x.vdt=fV_)),(8,(x.write==0)&&(x.keep==0))]
def Lh_(x:OpV):Bool:=okF x.kind (OU_ x) 0
structure xB_(x:OpV):Prop where
 att:x.att.2.2.2.length≤140737488355328
 fst:x.slg.1.2.2.2.length≤140737488355328
 snd:x.slg.2.2.2.2.length≤140737488355328
 tab:x.tab.2.length≤140737488355328
def FF_(a b:Int×Rt×Cp×List Int):Bool:=decide (a.1=b.1∧a.2.1=b.2.1∧a.2.2.1=b.2.2.1∧a.2.2.2=b.2.2.2)
def vg_(a b:Cv):Bool:=decide (a.1=b.1∧a.2.1=b.2.1∧a.2.2.1=b.2.2.1∧a.2.2.2=b.2.2.2)
def FG_(a b:Tv):Bool:=decide (a.1=b.1∧a.2=b.2)
def Az_(x y:OpV):Bool:=(x.kind==y.kind)&&(decide (x.blk=y.blk)&&(FF_ x.att y.att&&((vg_ x.slg.1 y.slg.1&&vg_ x.slg.2 y.slg.2)&&(FG_ x.tab y.tab&&(decide (x.vdt=y.vdt)&&((x.write==y.write)&&(x.keep==y.keep)))))))
set_option maxHeartbeats 4000000 in
theorem NM_(x y:OpV)(hx:xB_ x)(hy:xB_ y):PC Tryz.prog 214 [.agg (bq_ (opL x)),.agg (bq_ (opL y))] (.bool (Az_ x y)):=by
 refine PC.fact 5 wH_ (by simp) ⟨fy_ x,fy_ y,trivial⟩ trivial ?_;unfold nN_ Az_;refine bd ?_;have k1:PC Tryz.prog 53 [.agg (aY_ (ll_ x.att)),.agg (aY_ (ll_ y.att))] (.bool (FF_ x.att y.att)):=Dc_ (ll_ x.att) (ll_ y.att) _ _ false false rfl rfl hx.att hy.att;have k2:PC Tryz.prog 244 [.agg (bZ_ (lf_ x.slg)),.agg (bZ_ (lf_ y.slg))] (.bool (vg_ x.slg.1 y.slg.1&&vg_ x.slg.2 y.slg.2)):=LZ_ (lf_ x.slg) (lf_ y.slg) _ _ _ _ false false false false rfl rfl rfl rfl hx.fst hx.snd hy.fst hy.snd;have k3:PC Tryz.prog 130 [.agg (aT_ (ku_ x.tab)),.agg (aT_ (ku_ y.tab))] (.bool (FG_ x.tab y.tab)):=De_ (ku_ x.tab) (ku_ y.tab) _ _ false false rfl rfl hx.tab hy.tab;generalize h1:(x.kind==y.kind)=B1 at *;generalize h2:decide (x.blk=y.blk)=B2 at *;generalize FF_ x.att y.att=B3 at *;generalize (vg_ x.slg.1 y.slg.1&&vg_ x.slg.2 y.slg.2)=B4 at *;generalize FG_ x.tab y.tab=B5 at *;generalize h6:decide (x.vdt=y.vdt)=B6 at *;generalize h7:(x.write==y.write)=B7 at *;generalize h8:(x.keep==y.keep)=B8 at *;cases B1
 ·repeat(first|refine aa_ ?_|simp only[go_sem,h1])
  exact af_
 cases B2
 ·repeat(first|refine aa_ ?_|simp only[go_sem,h1,h2])
  exact af_
 repeat(first|refine aa_ ?_|simp only[go_sem,h1,h2])
 refine ah_ k1 ?_;cases B3
 ·repeat(first|refine aa_ ?_|simp only[go_sem,h1,h2])
  exact af_
 repeat(first|refine aa_ ?_|simp only[go_sem,h1,h2])
 refine ah_ k2 ?_;cases B4
 ·repeat(first|refine aa_ ?_|simp only[go_sem,h1,h2])
  exact af_
 repeat(first|refine aa_ ?_|simp only[go_sem,h1,h2])
 refine ah_ k3 ?_;cases B5
 ·repeat(first|refine aa_ ?_|simp only[go_sem,h1,h2,h6])
  exact af_
 cases B6
 ·repeat(first|refine aa_ ?_|simp only[go_sem,h1,h2,h6])
  exact af_
 cases B7
 ·repeat(first|refine aa_ ?_|simp only[go_sem,h1,h2,h6,h7])
  exact af_
 ·repeat(first|refine aa_ ?_|simp only[go_sem,h1,h2,h6,h7,h8])
  exact af_
structure OpU(x:OpV):Prop where
 blk:jW_ x.blk
 slot:U64 x.att.1
 ep:U64 x.att.2.2.1.ep
 att:x.att.2.2.2.length≤140737488355328
 fst:ql_ (ok_ x.slg.1) x.slg.1.2.2.2 false
 snd:ql_ (ok_ x.slg.2) x.slg.2.2.2.2 false
 tab:Bl_ (ku_ x.tab) x.tab.2 false
 tag:U64 x.vdt.tag
theorem OpU.len{x:OpV}(h:OpU x):xB_ x:=⟨h.att,h.fst.len,h.snd.len,h.tab.len⟩
def tg_(x:OpV):Bool:=!(decide (0≤x.write∧x.write≤32768)&&decide (0≤x.keep∧x.keep≤32768))
def fld(x:OpV):List UInt8×Int:=
 if x.kind=2 then (Qe_ x.blk,0)
 else if x.kind=3 then (if cM_ x.att.2.2.2 1024=0 then PV_ (ll_ x.att) x.att.2.2.2 else [],cM_ x.att.2.2.2 1024)
 else if x.kind=4 then (if Di_ x.slg.1.2.2.2 x.slg.2.2.2.2=0 then ON_ (lf_ x.slg) x.slg.1.2.2.2 x.slg.2.2.2.2 else [],Di_ x.slg.1.2.2.2 x.slg.2.2.2.2)
 else if x.kind=5 then (if 1024<x.tab.2.length then []else MA_ (ku_ x.tab) x.tab.2,if 1024<x.tab.2.length then 3 else 0)
 else if x.kind=6 then (if DE_ x.vdt then []else Qr_ x.vdt,if DE_ x.vdt then 3 else 0)
 else if x.kind=8 then (if tg_ x then ([],3)else (bN_ x.write.toNat++bN_ x.keep.toNat,0))
 else ([],0)
set_option maxHeartbeats 4000000 in
theorem Dh_(x:OpV)(hx:OpU x):PC Tryz.prog 213 [.agg (bq_ (opL x))] (.tup [.sl 1 false (bts (fld x).1),.int .i64 (fld x).2]):=by
 refine PC.fact 4 zV_ (by simp) ⟨fy_ x,trivial⟩ ⟨je_ _,trivial,trivial⟩ ?_;unfold ps_ fld;refine bd ?_;by_cases h2:x.kind=2
 ·rw[if_pos h2];have e2:(x.kind==2)=true:=by simp[h2]
  try refine aa_ ?_
  refine ac_ ?_ (by(try simp only[go_sem,e2]);try exact evd);try refine aa_ ?_
  refine Qy_ (Mc_ x.blk hx.blk) ?_
  exact af_
 rw[if_neg h2];have n2:(x.kind==2)=false:=by simp[h2]
 by_cases h3:x.kind=3
 ·rw[if_pos h3];have e3:(x.kind==3)=true:=by simp[h3]
  have k3:=Mb_ (ll_ x.att) x.att.2.2.2 false rfl hx.att hx.slot hx.ep;try refine aa_ ?_
  refine ab_ ?_ (by(try simp only[go_sem,n2]);try exact evd);try refine aa_ ?_
  refine ac_ ?_ (by(try simp only[go_sem,e3]);try exact evd);try refine aa_ ?_
  refine Qy_ k3 ?_
  exact af_
 rw[if_neg h3];have n3:(x.kind==3)=false:=by simp[h3]
 by_cases h4:x.kind=4
 ·rw[if_pos h4];have e4:(x.kind==4)=true:=by simp[h4]
  have k4:=Md_ (lf_ x.slg) x.slg.1.2.2.2 x.slg.2.2.2.2 false false hx.fst hx.snd;try refine aa_ ?_
  refine ab_ ?_ (by(try simp only[go_sem,n2]);try exact evd);try refine aa_ ?_
  refine ab_ ?_ (by(try simp only[go_sem,n3]);try exact evd);try refine aa_ ?_
  refine ac_ ?_ (by(try simp only[go_sem,e4]);try exact evd);try refine aa_ ?_
  refine Qy_ k4 ?_
  exact af_
 rw[if_neg h4];have n4:(x.kind==4)=false:=by simp[h4]
 by_cases h5:x.kind=5
 ·rw[if_pos h5];have e5:(x.kind==5)=true:=by simp[h5]
  have k5:=Me_ (ku_ x.tab) x.tab.2 false hx.tab;try refine aa_ ?_
  refine ab_ ?_ (by(try simp only[go_sem,n2]);try exact evd);try refine aa_ ?_
  refine ab_ ?_ (by(try simp only[go_sem,n3]);try exact evd);try refine aa_ ?_
  refine ab_ ?_ (by(try simp only[go_sem,n4]);try exact evd);try refine aa_ ?_
  refine ac_ ?_ (by(try simp only[go_sem,e5]);try exact evd);try refine aa_ ?_
  refine Qy_ k5 ?_
  exact af_
 rw[if_neg h5];have n5:(x.kind==5)=false:=by simp[h5]
 by_cases h6:x.kind=6
 ·rw[if_pos h6];have e6:(x.kind==6)=true:=by simp[h6]
  have k6:=Mf_ x.vdt hx.tag;try refine aa_ ?_
  refine ab_ ?_ (by(try simp only[go_sem,n2]);try exact evd);try refine aa_ ?_
  refine ab_ ?_ (by(try simp only[go_sem,n3]);try exact evd);try refine aa_ ?_
  refine ab_ ?_ (by(try simp only[go_sem,n4]);try exact evd);try refine aa_ ?_
  refine ab_ ?_ (by(try simp only[go_sem,n5]);try exact evd);try refine aa_ ?_
  refine ac_ ?_ (by(try simp only[go_sem,e6]);try exact evd);try refine aa_ ?_
  refine Qy_ k6 ?_
  exact af_
 rw[if_neg h6];have n6:(x.kind==6)=false:=by simp[h6]
 try refine aa_ ?_
 refine ab_ ?_ (by(try simp only[go_sem,n2]);try exact evd);try refine aa_ ?_
 refine ab_ ?_ (by(try simp only[go_sem,n3]);try exact evd);try refine aa_ ?_
 refine ab_ ?_ (by(try simp only[go_sem,n4]);try exact evd);try refine aa_ ?_
 refine ab_ ?_ (by(try simp only[go_sem,n5]);try exact evd);try refine aa_ ?_
 refine ab_ ?_ (by(try simp only[go_sem,n6]);try exact evd);try refine aa_ ?_
 by_cases h8:x.kind=8
 ·rw[if_pos h8]
  have e8:(x.kind==8)=true:=by simp[h8]
  refine ac_ ?_ (by(try simp only[go_sem,e8]);try exact evd);by_cases a1:x.write<0
  ·have d1:decide (x.write<0)=true:=by simpa using a1
   have hb:tg_ x=true:=by simp[tg_];omega
   rw[hb];simp only[if_true];repeat(first|refine aa_ ?_|simp only[go_sem,d1])
   refine PH_ ?_
   refine⟨_,rfl,.inr ⟨.tup [.sl 0 true [],.int .i64 3],evd,⟨trivial,trivial,trivial⟩,Wk.tup ⟨Wk.empty _ _ _,Wk.refl _,trivial⟩⟩⟩
  have d1:decide (x.write<0)=false:=by simpa using a1
  by_cases a2:32768<x.write
  ·have d2:decide (32768<x.write)=true:=by simpa using a2
   have hb:tg_ x=true:=by simp[tg_];omega
   rw[hb];simp only[if_true];repeat(first|refine aa_ ?_|simp only[go_sem,d1,d2])
   refine PH_ ?_
   refine⟨_,rfl,.inr ⟨.tup [.sl 0 true [],.int .i64 3],evd,⟨trivial,trivial,trivial⟩,Wk.tup ⟨Wk.empty _ _ _,Wk.refl _,trivial⟩⟩⟩
  have d2:decide (32768<x.write)=false:=by simpa using a2
  by_cases a3:x.keep<0
  ·have d3:decide (x.keep<0)=true:=by simpa using a3
   have hb:tg_ x=true:=by simp[tg_];omega
   rw[hb];simp only[if_true];repeat(first|refine aa_ ?_|simp only[go_sem,d1,d2,d3])
   refine PH_ ?_
   refine⟨_,rfl,.inr ⟨.tup [.sl 0 true [],.int .i64 3],evd,⟨trivial,trivial,trivial⟩,Wk.tup ⟨Wk.empty _ _ _,Wk.refl _,trivial⟩⟩⟩
  have d3:decide (x.keep<0)=false:=by simpa using a3
  by_cases a4:32768<x.keep
  ·have d4:decide (32768<x.keep)=true:=by simpa using a4
   have hb:tg_ x=true:=by simp[tg_];omega
   rw[hb];simp only[if_true];repeat(first|refine aa_ ?_|simp only[go_sem,d1,d2,d3,d4])
   refine PH_ ?_
   refine⟨_,rfl,.inr ⟨.tup [.sl 0 true [],.int .i64 3],evd,⟨trivial,trivial,trivial⟩,Wk.tup ⟨Wk.empty _ _ _,Wk.refl _,trivial⟩⟩⟩
  have d4:decide (32768<x.keep)=false:=by simpa using a4
  have hb:tg_ x=false:=by simp[tg_];omega
  have w1:IntKind.u64.wrap x.write=x.write:=aL_ (by omega) (by omega);have w2:IntKind.u64.wrap x.keep=x.keep:=aL_ (by omega) (by omega);have q1:=fk_ (n:=x.write.toNat) (by omega);have q2:=fk_ (n:=x.keep.toNat) (by omega);have p1:=(cb_ x.write (by omega) (by omega)).nil (by omega);have p2:=(cb_ x.keep (by omega) (by omega)).own (bN_ x.write.toNat) (by omega);rw[hb];simp only[Bool.false_eq_true,if_false];repeat(first|refine aa_ ?_|simp only[go_sem,d1,d2,d3,d4])
  refine ab_ ?_;repeat(first|refine aa_ ?_|simp only[go_sem,w1,w2])
  refine bo_ [] (p1) (by simp) evd (bF_.mk' (by simp) (by simp) evd) ?_;refine evg ?_;repeat(first|refine aa_ ?_|simp only[go_sem,w1,w2])
  refine bo_ [1] (p2) (by simp) evd (bF_.mk' (by simp) (by simp) evd) ?_;refine evg ?_;try refine aa_ ?_
  exact af_
 ·rw[if_neg h8];have n8:(x.kind==8)=false:=by simp[h8]
  refine ab_ ?_ (by(try simp only[go_sem,n8]);try exact evd);try refine aa_ ?_
  refine⟨_,rfl,.inr ⟨.tup [.sl 0 true [],.int .i64 0],evd,⟨trivial,trivial,trivial⟩,Wk.tup ⟨Wk.empty _ _ _,Wk.refl _,trivial⟩⟩⟩
def vOp(x:OpV):Int:=if x.kind<1∨8<x.kind then 2 else if (fld x).2≠0 then (fld x).2 else if Lh_ x then 0 else 2
theorem Ni_(x:OpV):Lh_ x=(((((2:Int)==x.kind) || decide (x.blk=bR_)))&&((((3:Int)==x.kind) || decide (x.att=kb_))&&((((4:Int)==x.kind) || (decide (x.slg.1=tz_)&&decide (x.slg.2=tz_)))&&((((5:Int)==x.kind) || (decide (x.tab.1=cp0)&&decide (x.tab.2=[])))&&((((6:Int)==x.kind) || decide (x.vdt=fV_))&&(((8:Int)==x.kind) || ((x.write==0)&&(x.keep==0)))))))):=by
 unfold Lh_ OU_;rw[yp_ (by simp),yp_ (by simp),yp_ (by simp),yp_ (by simp),yp_ (by simp),yp_ (by simp),Nw_ (by simp)];simp
theorem oK_(a:Int×Rt×Cp×List Int):FF_ a kb_=decide (a=kb_):=by
 obtain⟨s,r,c,l⟩:=a;show decide (s=0∧r=rt0∧c=cp0∧l=[])=_
 rw[Bool.eq_iff_iff];simp[kb_]
theorem oL_(a:Cv):vg_ a tz_=decide (a=tz_):=by
 obtain⟨s,r,c,l⟩:=a;show decide (s=0∧r=0∧c=rt0∧l=[])=_
 rw[Bool.eq_iff_iff];simp[tz_]
theorem oM_(a:Tv):FG_ a oO_=(decide (a.1=cp0)&&decide (a.2=[])):=by show decide (a.1=cp0∧a.2=[])=_;rw[Bool.eq_iff_iff];simp
theorem Jg_(a:Int×Rt×Cp×List Int):FF_ a a=true:=by simp[FF_]
theorem Jh_(a:Cv):vg_ a a=true:=by simp[vg_]
theorem Jk_(a:Tv):FG_ a a=true:=by simp[FG_]
def mask(x:OpV):OpV:=
 if x.kind=2 then ⟨x.kind,x.blk,kb_,iF_,oO_,fV_,0,0⟩
 else if x.kind=3 then ⟨x.kind,bR_,x.att,iF_,oO_,fV_,0,0⟩
 else if x.kind=4 then ⟨x.kind,bR_,kb_,x.slg,oO_,fV_,0,0⟩
 else if x.kind=5 then ⟨x.kind,bR_,kb_,iF_,x.tab,fV_,0,0⟩
 else if x.kind=6 then ⟨x.kind,bR_,kb_,iF_,oO_,x.vdt,0,0⟩
 else if x.kind=8 then ⟨x.kind,bR_,kb_,iF_,oO_,fV_,x.write,x.keep⟩
 else ⟨x.kind,bR_,kb_,iF_,oO_,fV_,0,0⟩
theorem gp_(x:OpV)(k:Int)(b:Blk)(a:Int×Rt×Cp×List Int)(s:Sv)(t:Tv)(v:Vdt)(w p:Int):Az_ x ⟨k,b,a,s,t,v,w,p⟩=((x.kind==k)&&(decide (x.blk=b)&&(FF_ x.att a&&((vg_ x.slg.1 s.1&&vg_ x.slg.2 s.2)&&(FG_ x.tab t&&(decide (x.vdt=v)&&((x.write==w)&&(x.keep==p)))))))):=rfl
theorem Ix_(x:OpV):Az_ x (mask x)=Lh_ x:=by
 rw[Ni_,Bool.eq_iff_iff];unfold mask;split
 ·rename_i h;rw[gp_];simp[iF_,oK_,oL_,oM_,h]
 split
 ·rename_i h;rw[gp_];simp[iF_,oK_,oL_,oM_,Jg_,h]
 split
 ·rename_i h;rw[gp_];simp[iF_,oK_,oL_,oM_,Jh_,h]
 split
 ·rename_i h;rw[gp_];simp[iF_,oK_,oL_,oM_,Jk_,h]
 split
 ·rename_i h;rw[gp_];simp[iF_,oK_,oL_,oM_,h]
 split
 ·rename_i h;rw[gp_];simp[iF_,oK_,oL_,oM_,h]
 ·rename_i h2 h3 h4 h5 h6 h8;have n2:((2:Int)==x.kind)=false:=by simp;omega
  have n3:((3:Int)==x.kind)=false:=by simp;omega
  have n4:((4:Int)==x.kind)=false:=by simp;omega
  have n5:((5:Int)==x.kind)=false:=by simp;omega
  have n6:((6:Int)==x.kind)=false:=by simp;omega
  have n8:((8:Int)==x.kind)=false:=by simp;omega
  rw[gp_];simp[iF_,oK_,oL_,oM_,n2,n3,n4,n5,n6,n8]
theorem xB_.mask{x:OpV}(h:xB_ x):xB_ (mask x):=by
 unfold Go.Proofs.YtkgimpdgncakjaaGreat.mask;(repeat' split)<;>exact⟨by first|exact h.att|simp[kb_],by first|exact h.fst|simp[iF_,tz_],by first|exact h.snd|simp[iF_,tz_],by first|exact h.tab|simp[oO_]⟩
theorem gu_{x y:SOp}(h1:x.kind=y.kind)(h2:x.blk=y.blk)(h3:WkC (aY_ x.att) (aY_ y.att))(h4:WkC (bZ_ x.slg) (bZ_ y.slg))(h5:WkC (aT_ x.tab) (aT_ y.tab))(h6:x.vdt=y.vdt)(h7:x.write=y.write)(h8:x.keep=y.keep):WkC (bq_ x) (bq_ y):=by
 obtain⟨a1,a2,a3,a4,a5,a6,a7,a8⟩:=x;obtain⟨b1,b2,b3,b4,b5,b6,b7,b8⟩:=y;simp only at h1 h2 h3 h4 h5 h6 h7 h8;subst h1 h2 h6 h7 h8;exact WkC.same _ ((WkC.refl _).app (h3.app (h4.app (h5.app ((WkC.refl _).app (WkC.refl _))))))
theorem ex_:WkC (aY_ jw_) (aY_ (ll_ kb_)):=WkC.same _ ((WkC.refl (rtc rt0)).app ((WkC.refl (cpC cp0)).app (WkC.one (Wk.empty 0 1 false) fun h=>h)))
theorem ey_:WkC (bZ_ sF_) (bZ_ (lf_ iF_)):=(Ha_ 0 0 rt0 (Wk.empty 0 1 false) fun h=>h).app (Ha_ 0 0 rt0 (Wk.empty 0 1 false) fun h=>h)
theorem ez_:WkC (aT_ fw_) (aT_ (ku_ oO_)):=(WkC.refl (cpC cp0)).app (WkC.one (Wk.empty 0 1 false) fun h=>h)
set_option maxHeartbeats 8000000 in
theorem Du_(x:OpV)(hx:OpU x):PC Tryz.prog 174 [.agg (bq_ (opL x))] (.int .i64 (vOp x)):=by
 refine PC.fact 6 pE_ (by simp) ⟨fy_ x,trivial⟩ trivial ?_;unfold iJ_ vOp;refine bd ?_;have k1:=Dh_ x hx;have k2:=NM_ x (mask x) hx.len hx.len.mask;rw[Ix_]at k2;by_cases h1:x.kind<1
 ·have d1:decide (x.kind<1)=true:=by simpa using h1
  rw[if_pos (.inl h1)];repeat(first|refine aa_ ?_|simp only[go_sem,d1])
  refine PH_ ?_
  exact af_
 have d1:decide (x.kind<1)=false:=by simpa using h1
 by_cases h2:8<x.kind
 ·have d2:decide (8<x.kind)=true:=by simpa using h2
  rw[if_pos (.inr h2)];repeat(first|refine aa_ ?_|simp only[go_sem,d1,d2])
  refine PH_ ?_
  exact af_
 have d2:decide (8<x.kind)=false:=by simpa using h2
 rw[if_neg (by omega)];repeat(first|refine aa_ ?_|simp only[go_sem,d1,d2])
 refine ab_ ?_;generalize fld x=F at *;obtain⟨f,e⟩:=F;dsimp only at k1 ⊢;try refine aa_ ?_
 refine Qy_ k1 ?_
 by_cases he:e=0
 case neg=>
  have he':(e != 0)=true:=by simpa using he
  rw[if_pos he];refine ac_ ?_ (by(try simp only[go_sem,he']);try exact evd);try refine aa_ ?_
  exact af_
 subst he;refine ab_ ?_;generalize Lh_ x=I at *;rw[if_neg (by simp)];by_cases h2k:x.kind=2
 case pos=>
  have e2:(x.kind==2)=true:=by simp[h2k]
  have hm:mask x=⟨x.kind,x.blk,kb_,iF_,oO_,fV_,0,0⟩:=by unfold mask;rw[if_pos h2k]
  rw[hm]at k2;try refine aa_ ?_
  refine ac_ ?_ (by(try simp only[go_sem,e2]);try exact evd);try refine aa_ ?_
  refine ir_ k2 ⟨Wk.refl _,Wk.agg (gu_ rfl rfl ex_ ey_ ez_ rfl rfl rfl),trivial⟩ ⟨fy_ x,(eS_ _).2 ⟨trivial,⟨trivial,trivial⟩,trivial⟩,trivial⟩ ?_;cases I
  ·try refine aa_ ?_
   refine PH_ ?_
   exact af_
  ·try refine aa_ ?_
   refine PG_ ?_
   exact af_
 have n2:(x.kind==2)=false:=by simp[h2k]
 by_cases h3k:x.kind=3
 case pos=>
  have e3:(x.kind==3)=true:=by simp[h3k]
  have hm:mask x=⟨x.kind,bR_,x.att,iF_,oO_,fV_,0,0⟩:=by unfold mask;rw[if_neg h2k];rw[if_pos h3k]
  rw[hm]at k2;try refine aa_ ?_
  refine ab_ ?_ (by(try simp only[go_sem,n2]);try exact evd);try refine aa_ ?_
  refine ac_ ?_ (by(try simp only[go_sem,e3]);try exact evd);try refine aa_ ?_
  refine ir_ k2 ⟨Wk.refl _,Wk.agg (gu_ rfl rfl (WkC.refl _) ey_ ez_ rfl rfl rfl),trivial⟩ ⟨fy_ x,(eS_ _).2 ⟨aM_ _ _,⟨trivial,trivial⟩,trivial⟩,trivial⟩ ?_;cases I
  ·try refine aa_ ?_
   refine PH_ ?_
   exact af_
  ·try refine aa_ ?_
   refine PG_ ?_
   exact af_
 have n3:(x.kind==3)=false:=by simp[h3k]
 by_cases h4k:x.kind=4
 case pos=>
  have e4:(x.kind==4)=true:=by simp[h4k]
  have hm:mask x=⟨x.kind,bR_,kb_,x.slg,oO_,fV_,0,0⟩:=by unfold mask;rw[if_neg h2k];rw[if_neg h3k];rw[if_pos h4k]
  rw[hm]at k2;try refine aa_ ?_
  refine ab_ ?_ (by(try simp only[go_sem,n2]);try exact evd);try refine aa_ ?_
  refine ab_ ?_ (by(try simp only[go_sem,n3]);try exact evd);try refine aa_ ?_
  refine ac_ ?_ (by(try simp only[go_sem,e4]);try exact evd);try refine aa_ ?_
  refine ir_ k2 ⟨Wk.refl _,Wk.agg (gu_ rfl rfl ex_ (WkC.refl _) ez_ rfl rfl rfl),trivial⟩ ⟨fy_ x,(eS_ _).2 ⟨trivial,⟨aM_ _ _,aM_ _ _⟩,trivial⟩,trivial⟩ ?_;cases I
  ·try refine aa_ ?_
   refine PH_ ?_
   exact af_
  ·try refine aa_ ?_
   refine PG_ ?_
   exact af_
 have n4:(x.kind==4)=false:=by simp[h4k]
 by_cases h5k:x.kind=5
 case pos=>
  have e5:(x.kind==5)=true:=by simp[h5k]
  have hm:mask x=⟨x.kind,bR_,kb_,iF_,x.tab,fV_,0,0⟩:=by unfold mask;rw[if_neg h2k];rw[if_neg h3k];rw[if_neg h4k];rw[if_pos h5k]
  rw[hm]at k2;try refine aa_ ?_
  refine ab_ ?_ (by(try simp only[go_sem,n2]);try exact evd);try refine aa_ ?_
  refine ab_ ?_ (by(try simp only[go_sem,n3]);try exact evd);try refine aa_ ?_
  refine ab_ ?_ (by(try simp only[go_sem,n4]);try exact evd);try refine aa_ ?_
  refine ac_ ?_ (by(try simp only[go_sem,e5]);try exact evd);try refine aa_ ?_
  refine ir_ k2 ⟨Wk.refl _,Wk.agg (gu_ rfl rfl ex_ ey_ (WkC.refl _) rfl rfl rfl),trivial⟩ ⟨fy_ x,(eS_ _).2 ⟨trivial,⟨trivial,trivial⟩,aM_ _ _⟩,trivial⟩ ?_;cases I
  ·try refine aa_ ?_
   refine PH_ ?_
   exact af_
  ·try refine aa_ ?_
   refine PG_ ?_
   exact af_
 have n5:(x.kind==5)=false:=by simp[h5k]
 by_cases h6k:x.kind=6
 case pos=>
  have e6:(x.kind==6)=true:=by simp[h6k]
  have hm:mask x=⟨x.kind,bR_,kb_,iF_,oO_,x.vdt,0,0⟩:=by unfold mask;rw[if_neg h2k];rw[if_neg h3k];rw[if_neg h4k];rw[if_neg h5k];rw[if_pos h6k]
  rw[hm]at k2;try refine aa_ ?_
  refine ab_ ?_ (by(try simp only[go_sem,n2]);try exact evd);try refine aa_ ?_
  refine ab_ ?_ (by(try simp only[go_sem,n3]);try exact evd);try refine aa_ ?_
  refine ab_ ?_ (by(try simp only[go_sem,n4]);try exact evd);try refine aa_ ?_
  refine ab_ ?_ (by(try simp only[go_sem,n5]);try exact evd);try refine aa_ ?_
  refine ac_ ?_ (by(try simp only[go_sem,e6]);try exact evd);try refine aa_ ?_
  refine ir_ k2 ⟨Wk.refl _,Wk.agg (gu_ rfl rfl ex_ ey_ ez_ rfl rfl rfl),trivial⟩ ⟨fy_ x,(eS_ _).2 ⟨trivial,⟨trivial,trivial⟩,trivial⟩,trivial⟩ ?_;cases I
  ·try refine aa_ ?_
   refine PH_ ?_
   exact af_
  ·try refine aa_ ?_
   refine PG_ ?_
   exact af_
 have n6:(x.kind==6)=false:=by simp[h6k]
 by_cases h8k:x.kind=8
 case pos=>
  have e8:(x.kind==8)=true:=by simp[h8k]
  have hm:mask x=⟨x.kind,bR_,kb_,iF_,oO_,fV_,x.write,x.keep⟩:=by unfold mask;rw[if_neg h2k];rw[if_neg h3k];rw[if_neg h4k];rw[if_neg h5k];rw[if_neg h6k];rw[if_pos h8k]
  rw[hm]at k2;try refine aa_ ?_
  refine ab_ ?_ (by(try simp only[go_sem,n2]);try exact evd);try refine aa_ ?_
  refine ab_ ?_ (by(try simp only[go_sem,n3]);try exact evd);try refine aa_ ?_
  refine ab_ ?_ (by(try simp only[go_sem,n4]);try exact evd);try refine aa_ ?_
  refine ab_ ?_ (by(try simp only[go_sem,n5]);try exact evd);try refine aa_ ?_
  refine ab_ ?_ (by(try simp only[go_sem,n6]);try exact evd);try refine aa_ ?_
  refine ac_ ?_ (by(try simp only[go_sem,e8]);try exact evd);try refine aa_ ?_
  refine ir_ k2 ⟨Wk.refl _,Wk.agg (gu_ rfl rfl ex_ ey_ ez_ rfl rfl rfl),trivial⟩ ⟨fy_ x,(eS_ _).2 ⟨trivial,⟨trivial,trivial⟩,trivial⟩,trivial⟩ ?_;cases I
  ·try refine aa_ ?_
   refine PH_ ?_
   exact af_
  ·try refine aa_ ?_
   refine PG_ ?_
   exact af_
 have n8:(x.kind==8)=false:=by simp[h8k]
 have hm:mask x=⟨x.kind,bR_,kb_,iF_,oO_,fV_,0,0⟩:=by unfold mask;rw[if_neg h2k];rw[if_neg h3k];rw[if_neg h4k];rw[if_neg h5k];rw[if_neg h6k];rw[if_neg h8k]
 rw[hm]at k2;try refine aa_ ?_
 refine ab_ ?_ (by(try simp only[go_sem,n2]);try exact evd);try refine aa_ ?_
 refine ab_ ?_ (by(try simp only[go_sem,n3]);try exact evd);try refine aa_ ?_
 refine ab_ ?_ (by(try simp only[go_sem,n4]);try exact evd);try refine aa_ ?_
 refine ab_ ?_ (by(try simp only[go_sem,n5]);try exact evd);try refine aa_ ?_
 refine ab_ ?_ (by(try simp only[go_sem,n6]);try exact evd);try refine aa_ ?_
 refine ab_ ?_ (by(try simp only[go_sem,n8]);try exact evd);try refine aa_ ?_
 refine ir_ k2 ⟨Wk.refl _,Wk.agg (gu_ rfl rfl ex_ ey_ ez_ rfl rfl rfl),trivial⟩ ⟨fy_ x,(eS_ _).2 ⟨trivial,⟨trivial,trivial⟩,trivial⟩,trivial⟩ ?_;cases I
 ·try refine aa_ ?_
  refine PH_ ?_
  exact af_
 ·try refine aa_ ?_
  refine PG_ ?_
  exact af_
end Go.Proofs.YtkgimpdgncakjaaGreat
