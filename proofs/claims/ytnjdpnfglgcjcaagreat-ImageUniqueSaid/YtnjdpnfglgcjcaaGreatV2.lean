/- Joined. -/
import Derived.Test.YtnjdpnfglgcjcaaGreatV1
import Derived.Test.YtnjdpnfglgcjcaaGreatW5
import Derived.Test.YtnjdpnfglgcjcaaGreatW3
set_option linter.unusedVariables false
set_option linter.unusedSimpArgs false
set_option maxRecDepth 8000
set_option maxHeartbeats 4000000
namespace Go.Proofs.YtnjdpnfglgcjcaaGreat
open Go Go.FH Go.RowKit
structure OpV where
 kind:Int
 blk:Blk
 att:Int×Rt×Cp×List Int
 slg:Sv
 tab:Tv
 vdt:Vdt
 write:Int
 keep:Int
def opL(x:OpV):SOp:=⟨x.kind,x.blk,rj x.att,abn x.slg,EU x.tab,x.vdt,x.write,x.keep⟩
theorem ni(x:OpV):(opL x).kind=x.kind:=rfl
theorem pe(x:OpV):(opL x).blk=x.blk:=rfl
theorem oV(x:OpV):(opL x).att=rj x.att:=rfl
theorem pD(x:OpV):(opL x).slg=abn x.slg:=rfl
theorem pZ(x:OpV):(opL x).tab=EU x.tab:=rfl
theorem qb(x:OpV):(opL x).vdt=x.vdt:=rfl
theorem iw(x:OpV):(opL x).write=x.write:=rfl
theorem m0(x:OpV):(opL x).keep=x.keep:=rfl
theorem mF(x:OpV):(opL x).good=true:=rfl
theorem ajd(x:OpV):(opL x).Pure:=⟨bE _ _,⟨adx _,adx _⟩,bE _ _⟩
theorem D5(x:OpV):PuL (dj (opL x)):=(jd _).2 (ajd x)
theorem nQ(x:Sv):(abn x).fst=ahc x.1:=rfl
theorem oa(x:Sv):(abn x).snd=ahc x.2:=rfl
theorem fw(x:Int×Rt×Cp×List Int):(rj x).vals=.sl 1 false (aH .i64 x.2.2.2):=rfl
theorem jN(x:Tv):(EU x).bals=.sl 1 false (aH .u64 x.2):=rfl
theorem qT(x:Tv):(EU x).cp=x.1:=rfl
attribute [go_sem] ni pe oV pD pZ qb iw m0 mF nQ oa fw jN qT
def okF(k:Int)(fs:List (Int×Bool))(i:Nat):Bool:=if h:i<fs.length then ((fs[i].1==k) || fs[i].2)&&okF k fs (i+1)else true
termination_by fs.length-i
theorem W1{k:Int}{fs:List (Int×Bool)}{i:Nat}(h:i<fs.length):okF k fs i=(((fs[i].1==k) || fs[i].2)&&okF k fs (i+1)):=by rw[okF,dif_pos h]
theorem aiH{k:Int}{fs:List (Int×Bool)}{i:Nat}(h:¬i<fs.length):okF k fs i=true:=by rw[okF,dif_neg h]
def ai0(x:OpV):List (Int×Bool):=
 [(2,decide (x.blk=cw)),(3,decide (x.att=oX)),(4,decide (x.slg.1=Tx)&&decide (x.slg.2=Tx)),(5,decide (x.tab.1=cp0)&&decide (x.tab.2=[])),(6,decide (x.vdt=lZ)),(8,(x.write==0)&&(x.keep==0))]
def ahB(x:OpV):Bool:=okF x.kind (ai0 x) 0
structure VN(x:OpV):Prop where
 att:x.att.2.2.2.length<=140737488355328
 fst:x.slg.1.2.2.2.length<=140737488355328
 snd:x.slg.2.2.2.2.length<=140737488355328
 tab:x.tab.2.length<=140737488355328
def acE(a b:Int×Rt×Cp×List Int):Bool:=decide (a.1=b.1/\a.2.1=b.2.1/\a.2.2.1=b.2.2.1/\a.2.2.2=b.2.2.2)
def Ua(a b:Cv):Bool:=decide (a.1=b.1/\a.2.1=b.2.1/\a.2.2.1=b.2.2.1/\a.2.2.2=b.2.2.2)
def acH(a b:Tv):Bool:=decide (a.1=b.1/\a.2=b.2)
def ZC(x y:OpV):Bool:=(x.kind==y.kind)&&(decide (x.blk=y.blk)&&(acE x.att y.att&&((Ua x.slg.1 y.slg.1&&Ua x.slg.2 y.slg.2)&&(acH x.tab y.tab&&(decide (x.vdt=y.vdt)&&((x.write==y.write)&&(x.keep==y.keep)))))))
set_option maxHeartbeats 4000000 in
theorem aiN(x y:OpV)(hx:VN x)(hy:VN y):PC Tryz.prog 203 [.agg (dj (opL x)),.agg (dj (opL y))] (.bool (ZC x y)):=by
 refine PC.fact 5 Vo (by simp) ⟨D5 x,D5 y,trivial⟩ trivial ?_;unfold MS ZC;refine bd ?_;have k1:PC Tryz.prog 136 [.agg (cy (rj x.att)),.agg (cy (rj y.att))] (.bool (acE x.att y.att)):=SE (rj x.att) (rj y.att) _ _ false false rfl rfl hx.att hy.att;have k2:PC Tryz.prog 298 [.agg (d7 (abn x.slg)),.agg (d7 (abn y.slg))] (.bool (Ua x.slg.1 y.slg.1&&Ua x.slg.2 y.slg.2)):=ahR (abn x.slg) (abn y.slg) _ _ _ _ false false false false rfl rfl rfl rfl hx.fst hx.snd hy.fst hy.snd;have k3:PC Tryz.prog 259 [.agg (bS (EU x.tab)),.agg (bS (EU y.tab))] (.bool (acH x.tab y.tab)):=SG (EU x.tab) (EU y.tab) _ _ false false rfl rfl hx.tab hy.tab;generalize h1:(x.kind==y.kind)=B1 at *;generalize h2:decide (x.blk=y.blk)=B2 at *;generalize acE x.att y.att=B3 at *;generalize (Ua x.slg.1 y.slg.1&&Ua x.slg.2 y.slg.2)=B4 at *;generalize acH x.tab y.tab=B5 at *;generalize h6:decide (x.vdt=y.vdt)=B6 at *;generalize h7:(x.write==y.write)=B7 at *;generalize h8:(x.keep==y.keep)=B8 at *;cases B1
 ·refine ah h1 ?_;exact ai
 cases B2
 ·refine aZ h1 h2 ?_;exact ai
 refine aZ h1 h2 ?_;refine am k1 ?_;cases B3
 ·refine aZ h1 h2 ?_;exact ai
 refine aZ h1 h2 ?_;refine am k2 ?_;cases B4
 ·refine aZ h1 h2 ?_;exact ai
 refine aZ h1 h2 ?_;refine am k3 ?_;cases B5
 ·refine dC h1 h2 h6 ?_;exact ai
 cases B6
 ·refine dC h1 h2 h6 ?_;exact ai
 cases B7
 ·refine pz h1 h2 h6 h7 ?_;exact ai
 ·refine eU h1 h2 h6 h7 h8 ?_;exact ai
structure OpU(x:OpV):Prop where
 blk:NQ x.blk
 slot:U64 x.att.1
 ep:U64 x.att.2.2.1.ep
 att:x.att.2.2.2.length<=140737488355328
 fst:Dj (ahc x.slg.1) x.slg.1.2.2.2 false
 snd:Dj (ahc x.slg.2) x.slg.2.2.2.2 false
 tab:GR (EU x.tab) x.tab.2 false
 tag:U64 x.vdt.tag
theorem OpU.len{x:OpV}(h:OpU x):VN x:=⟨h.att,h.fst.len,h.snd.len,h.tab.len⟩
def SW(x:OpV):Bool:=!(decide (0<=x.write/\x.write<=32768)&&decide (0<=x.keep/\x.keep<=32768))
def fld(x:OpV):List UInt8×Int:=
 if x.kind=2 then (i9 x.blk,0)
 else if x.kind=3 then (if cE x.att.2.2.2 1024=0 then oW (rj x.att) x.att.2.2.2 else [],cE x.att.2.2.2 1024)
 else if x.kind=4 then (if abi x.slg.1.2.2.2 x.slg.2.2.2.2=0 then aiY (abn x.slg) x.slg.1.2.2.2 x.slg.2.2.2.2 else [],abi x.slg.1.2.2.2 x.slg.2.2.2.2)
 else if x.kind=5 then (if 1024<x.tab.2.length then []else oK (EU x.tab) x.tab.2,if 1024<x.tab.2.length then 3 else 0)
 else if x.kind=6 then (if abA x.vdt then []else ajj x.vdt,if abA x.vdt then 3 else 0)
 else if x.kind=8 then (if SW x then ([],3)else (bF x.write.toNat++bF x.keep.toNat,0))
 else ([],0)
set_option maxHeartbeats 4000000 in
theorem abe(x:OpV)(hx:OpU x):PC Tryz.prog 202 [.agg (dj (opL x))] (.tup [.sl 1 false (bts (fld x).1),.int .i64 (fld x).2]):=by
 refine PC.fact 4 YR (by simp) ⟨D5 x,trivial⟩ ⟨iV _,trivial,trivial⟩ ?_;unfold Oi fld;refine bd ?_;by_cases h2:x.kind=2
 ·rw[al7 h2];have e2:(x.kind==2)=true:=by simp[h2]
  refine gon ?_;refine ax ?_ (by(try simp only[go_sem,e2]);try exact evd);refine gon ?_;refine ahG (ahS x.blk hx.blk) ?_;exact ai
 rw[al5 h2];have n2:(x.kind==2)=false:=by simp[h2]
 by_cases h3:x.kind=3
 ·rw[al7 h3];have e3:(x.kind==3)=true:=by simp[h3]
  have k3:=SI (rj x.att) x.att.2.2.2 false rfl hx.att hx.slot hx.ep;refine gon ?_;refine aB ?_ (by(try simp only[go_sem,n2]);try exact evd);refine gon ?_;refine ax ?_ (by(try simp only[go_sem,e3]);try exact evd);refine gon ?_;refine ahG k3 ?_;exact ai
 rw[al5 h3];have n3:(x.kind==3)=false:=by simp[h3]
 by_cases h4:x.kind=4
 ·rw[al7 h4];have e4:(x.kind==4)=true:=by simp[h4]
  have k4:=ahW (abn x.slg) x.slg.1.2.2.2 x.slg.2.2.2.2 false false hx.fst hx.snd;refine gon ?_;refine aB ?_ (by(try simp only[go_sem,n2]);try exact evd);refine gon ?_;refine aB ?_ (by(try simp only[go_sem,n3]);try exact evd);refine gon ?_;refine ax ?_ (by(try simp only[go_sem,e4]);try exact evd);refine gon ?_;refine ahG k4 ?_;exact ai
 rw[al5 h4];have n4:(x.kind==4)=false:=by simp[h4]
 by_cases h5:x.kind=5
 ·rw[al7 h5];have e5:(x.kind==5)=true:=by simp[h5]
  have k5:=SJ (EU x.tab) x.tab.2 false hx.tab;refine gon ?_;refine aB ?_ (by(try simp only[go_sem,n2]);try exact evd);refine gon ?_;refine aB ?_ (by(try simp only[go_sem,n3]);try exact evd);refine gon ?_;refine aB ?_ (by(try simp only[go_sem,n4]);try exact evd);refine gon ?_;refine ax ?_ (by(try simp only[go_sem,e5]);try exact evd);refine gon ?_;refine ahG k5 ?_;exact ai
 rw[al5 h5];have n5:(x.kind==5)=false:=by simp[h5]
 by_cases h6:x.kind=6
 ·rw[al7 h6];have e6:(x.kind==6)=true:=by simp[h6]
  have k6:=aim x.vdt hx.tag;refine gon ?_;refine aB ?_ (by(try simp only[go_sem,n2]);try exact evd);refine gon ?_;refine aB ?_ (by(try simp only[go_sem,n3]);try exact evd);refine gon ?_;refine aB ?_ (by(try simp only[go_sem,n4]);try exact evd);refine gon ?_;refine aB ?_ (by(try simp only[go_sem,n5]);try exact evd);refine gon ?_;refine ax ?_ (by(try simp only[go_sem,e6]);try exact evd);refine gon ?_;refine ahG k6 ?_;exact ai
 rw[al5 h6];have n6:(x.kind==6)=false:=by simp[h6]
 refine gon ?_;refine aB ?_ (by(try simp only[go_sem,n2]);try exact evd);refine gon ?_;refine aB ?_ (by(try simp only[go_sem,n3]);try exact evd);refine gon ?_;refine aB ?_ (by(try simp only[go_sem,n4]);try exact evd);refine gon ?_;refine aB ?_ (by(try simp only[go_sem,n5]);try exact evd);refine gon ?_;refine aB ?_ (by(try simp only[go_sem,n6]);try exact evd);refine gon ?_;by_cases h8:x.kind=8
 ·rw[al7 h8]
  have e8:(x.kind==8)=true:=by simp[h8]
  refine ax ?_ (by(try simp only[go_sem,e8]);try exact evd);by_cases a1:x.write<0
  ·have d1:decide (x.write<0)=true:=by simpa using a1
   have hb:SW x=true:=by simp[SW];omega
   rw[hb];simp only[amt];refine aM d1 ?_;refine⟨_,rfl,.inr ⟨.tup [.sl 0 true [],.int .i64 3],evd,⟨trivial,trivial,trivial⟩,Wk.tup ⟨Wk.empty _ _ _,Wk.refl _,trivial⟩⟩⟩
  have d1:decide (x.write<0)=false:=by simpa using a1
  by_cases a2:32768<x.write
  ·have d2:decide (32768<x.write)=true:=by simpa using a2
   have hb:SW x=true:=by simp[SW];omega
   rw[hb];simp only[amt];refine cH d1 d2 ?_;refine⟨_,rfl,.inr ⟨.tup [.sl 0 true [],.int .i64 3],evd,⟨trivial,trivial,trivial⟩,Wk.tup ⟨Wk.empty _ _ _,Wk.refl _,trivial⟩⟩⟩
  have d2:decide (32768<x.write)=false:=by simpa using a2
  by_cases a3:x.keep<0
  ·have d3:decide (x.keep<0)=true:=by simpa using a3
   have hb:SW x=true:=by simp[SW];omega
   rw[hb];simp only[amt];refine fI d1 d2 d3 ?_;refine⟨_,rfl,.inr ⟨.tup [.sl 0 true [],.int .i64 3],evd,⟨trivial,trivial,trivial⟩,Wk.tup ⟨Wk.empty _ _ _,Wk.refl _,trivial⟩⟩⟩
  have d3:decide (x.keep<0)=false:=by simpa using a3
  by_cases a4:32768<x.keep
  ·have d4:decide (32768<x.keep)=true:=by simpa using a4
   have hb:SW x=true:=by simp[SW];omega
   rw[hb];simp only[amt];refine nC d1 d2 d3 d4 ?_;refine⟨_,rfl,.inr ⟨.tup [.sl 0 true [],.int .i64 3],evd,⟨trivial,trivial,trivial⟩,Wk.tup ⟨Wk.empty _ _ _,Wk.refl _,trivial⟩⟩⟩
  have d4:decide (32768<x.keep)=false:=by simpa using a4
  have hb:SW x=false:=by simp[SW];omega
  have w1:IntKind.u64.wrap x.write=x.write:=aN (by omega) (by omega);have w2:IntKind.u64.wrap x.keep=x.keep:=aN (by omega) (by omega);have q1:=dT (n:=x.write.toNat) (by omega);have q2:=dT (n:=x.keep.toNat) (by omega);have p1:=(dd x.write (by omega) (by omega)).nil (by omega);have p2:=(dd x.keep (by omega) (by omega)).own (bF x.write.toNat) (by omega);rw[hb];simp only[ame,amj];refine OA d1 d2 d3 d4 ?_;refine aZ w1 w2 ?_;refine aQ [] (p1) (by simp) evd (bj.mk' (by simp) (by simp) evd) ?_;refine evg ?_;refine aZ w1 w2 ?_;refine aQ [1] (p2) (by simp) evd (bj.mk' (by simp) (by simp) evd) ?_;refine evg ?_;refine gon ?_;exact ai
 ·rw[al5 h8];have n8:(x.kind==8)=false:=by simp[h8]
  refine aB ?_ (by(try simp only[go_sem,n8]);try exact evd);refine gon ?_;refine⟨_,rfl,.inr ⟨.tup [.sl 0 true [],.int .i64 0],evd,⟨trivial,trivial,trivial⟩,Wk.tup ⟨Wk.empty _ _ _,Wk.refl _,trivial⟩⟩⟩
def vOp(x:OpV):Int:=if x.kind<1\/8<x.kind then 2 else if (fld x).2≠0 then (fld x).2 else if ahB x then 0 else 2
theorem aiE(x:OpV):ahB x=(((((2:Int)==x.kind) || decide (x.blk=cw)))&&((((3:Int)==x.kind) || decide (x.att=oX))&&((((4:Int)==x.kind) || (decide (x.slg.1=Tx)&&decide (x.slg.2=Tx)))&&((((5:Int)==x.kind) || (decide (x.tab.1=cp0)&&decide (x.tab.2=[])))&&((((6:Int)==x.kind) || decide (x.vdt=lZ))&&(((8:Int)==x.kind) || ((x.write==0)&&(x.keep==0)))))))):=by
 unfold ahB ai0;rw[W1 (by simp),W1 (by simp),W1 (by simp),W1 (by simp),W1 (by simp),W1 (by simp),aiH (by simp)];simp
theorem Nn(a:Int×Rt×Cp×List Int):acE a oX=decide (a=oX):=by
 obtain⟨s,r,c,l⟩:=a;show decide (s=0/\r=rt0/\c=cp0/\l=[])=_
 rw[ajZ];simp[oX]
theorem Nq(a:Cv):Ua a Tx=decide (a=Tx):=by
 obtain⟨s,r,c,l⟩:=a;show decide (s=0/\r=0/\c=rt0/\l=[])=_
 rw[ajZ];simp[Tx]
theorem Nt(a:Tv):acH a j4=(decide (a.1=cp0)&&decide (a.2=[])):=by show decide (a.1=cp0/\a.2=[])=_;rw[ajZ];simp
theorem agc(a:Int×Rt×Cp×List Int):acE a a=true:=by simp[acE]
theorem agf(a:Cv):Ua a a=true:=by simp[Ua]
theorem agi(a:Tv):acH a a=true:=by simp[acH]
def mask(x:OpV):OpV:=
 if x.kind=2 then ⟨x.kind,x.blk,oX,GV,j4,lZ,0,0⟩
 else if x.kind=3 then ⟨x.kind,cw,x.att,GV,j4,lZ,0,0⟩
 else if x.kind=4 then ⟨x.kind,cw,oX,x.slg,j4,lZ,0,0⟩
 else if x.kind=5 then ⟨x.kind,cw,oX,GV,x.tab,lZ,0,0⟩
 else if x.kind=6 then ⟨x.kind,cw,oX,GV,j4,x.vdt,0,0⟩
 else if x.kind=8 then ⟨x.kind,cw,oX,GV,j4,lZ,x.write,x.keep⟩
 else ⟨x.kind,cw,oX,GV,j4,lZ,0,0⟩
theorem EW(x:OpV)(k:Int)(b:Blk)(a:Int×Rt×Cp×List Int)(s:Sv)(t:Tv)(v:Vdt)(w p:Int):ZC x ⟨k,b,a,s,t,v,w,p⟩=((x.kind==k)&&(decide (x.blk=b)&&(acE x.att a&&((Ua x.slg.1 s.1&&Ua x.slg.2 s.2)&&(acH x.tab t&&(decide (x.vdt=v)&&((x.write==w)&&(x.keep==p)))))))):=rfl
theorem afG(x:OpV):ZC x (mask x)=ahB x:=by
 rw[aiE,ajZ];unfold mask;split
 ·rename_i h;rw[EW];simp[GV,Nn,Nq,Nt,h]
 split
 ·rename_i h;rw[EW];simp[GV,Nn,Nq,Nt,agc,h]
 split
 ·rename_i h;rw[EW];simp[GV,Nn,Nq,Nt,agf,h]
 split
 ·rename_i h;rw[EW];simp[GV,Nn,Nq,Nt,agi,h]
 split
 ·rename_i h;rw[EW];simp[GV,Nn,Nq,Nt,h]
 split
 ·rename_i h;rw[EW];simp[GV,Nn,Nq,Nt,h]
 ·rename_i h2 h3 h4 h5 h6 h8;have n2:((2:Int)==x.kind)=false:=by simp;omega
  have n3:((3:Int)==x.kind)=false:=by simp;omega
  have n4:((4:Int)==x.kind)=false:=by simp;omega
  have n5:((5:Int)==x.kind)=false:=by simp;omega
  have n6:((6:Int)==x.kind)=false:=by simp;omega
  have n8:((8:Int)==x.kind)=false:=by simp;omega
  rw[EW];simp[GV,Nn,Nq,Nt,n2,n3,n4,n5,n6,n8]
theorem VN.mask{x:OpV}(h:VN x):VN (mask x):=by
 unfold Go.Proofs.YtnjdpnfglgcjcaaGreat.mask;(repeat' split)<;>exact⟨by first|exact h.att|simp[oX],by first|exact h.fst|simp[GV,Tx],by first|exact h.snd|simp[GV,Tx],by first|exact h.tab|simp[j4]⟩
theorem Fe{x y:SOp}(h1:x.kind=y.kind)(h2:x.blk=y.blk)(h3:WkC (cy x.att) (cy y.att))(h4:WkC (d7 x.slg) (d7 y.slg))(h5:WkC (bS x.tab) (bS y.tab))(h6:x.vdt=y.vdt)(h7:x.write=y.write)(h8:x.keep=y.keep):WkC (dj x) (dj y):=by
 obtain⟨a1,a2,a3,a4,a5,a6,a7,a8⟩:=x;obtain⟨b1,b2,b3,b4,b5,b6,b7,b8⟩:=y;simp only at h1 h2 h3 h4 h5 h6 h7 h8;subst h1 h2 h6 h7 h8;exact WkC.same _ ((WkC.refl _).app (h3.app (h4.app (h5.app ((WkC.refl _).app (WkC.refl _))))))
theorem CT:WkC (cy Do) (cy (rj oX)):=WkC.same _ ((WkC.refl (rtc rt0)).app ((WkC.refl (cpC cp0)).app (WkC.one (Wk.empty 0 1 false) fun h=>h)))
theorem C0:WkC (d7 KY) (d7 (abn GV)):=(aea 0 0 rt0 (Wk.empty 0 1 false) fun h=>h).app (aea 0 0 rt0 (Wk.empty 0 1 false) fun h=>h)
theorem C6:WkC (bS yp) (bS (EU j4)):=(WkC.refl (cpC cp0)).app (WkC.one (Wk.empty 0 1 false) fun h=>h)
set_option maxHeartbeats 8000000 in
theorem abz(x:OpV)(hx:OpU x):PC Tryz.prog 82 [.agg (dj (opL x))] (.int .i64 (vOp x)):=by
 refine PC.fact 6 Oy (by simp) ⟨D5 x,trivial⟩ trivial ?_;unfold GX vOp;refine bd ?_;have k1:=abe x hx;have k2:=aiN x (mask x) hx.len hx.len.mask;rw[afG]at k2;by_cases h1:x.kind<1
 ·have d1:decide (x.kind<1)=true:=by simpa using h1
  rw[al7 (.inl h1)];refine aM d1 ?_;exact ai
 have d1:decide (x.kind<1)=false:=by simpa using h1
 by_cases h2:8<x.kind
 ·have d2:decide (8<x.kind)=true:=by simpa using h2
  rw[al7 (.inr h2)];refine cH d1 d2 ?_;exact ai
 have d2:decide (8<x.kind)=false:=by simpa using h2
 rw[al5 (by omega)];refine fp d1 d2 ?_;generalize fld x=F at *;obtain⟨f,e⟩:=F;dsimp only at k1 ⊢;refine gon ?_;refine ahG k1 ?_;by_cases he:e=0
 case neg=>
  have he':(e != 0)=true:=by simpa using he
  rw[al7 he];refine ax ?_ (by(try simp only[go_sem,he']);try exact evd);refine gon ?_;exact ai
 subst he;refine aB ?_;generalize ahB x=I at *;rw[al5 (by simp)];by_cases h2k:x.kind=2
 case pos=>
  have e2:(x.kind==2)=true:=by simp[h2k]
  have hm:mask x=⟨x.kind,x.blk,oX,GV,j4,lZ,0,0⟩:=by unfold mask;rw[al7 h2k]
  rw[hm]at k2;refine gon ?_;refine ax ?_ (by(try simp only[go_sem,e2]);try exact evd);refine gon ?_;refine pG k2 ⟨Wk.refl _,Wk.agg (Fe rfl rfl CT C0 C6 rfl rfl rfl),trivial⟩ ⟨D5 x,(jd _).2 ⟨trivial,⟨trivial,trivial⟩,trivial⟩,trivial⟩ ?_;cases I
  ·refine aX ?_;exact ai
  ·refine bk ?_;exact ai
 have n2:(x.kind==2)=false:=by simp[h2k]
 by_cases h3k:x.kind=3
 case pos=>
  have e3:(x.kind==3)=true:=by simp[h3k]
  have hm:mask x=⟨x.kind,cw,x.att,GV,j4,lZ,0,0⟩:=by unfold mask;rw[al5 h2k];rw[al7 h3k]
  rw[hm]at k2;refine gon ?_;refine aB ?_ (by(try simp only[go_sem,n2]);try exact evd);refine gon ?_;refine ax ?_ (by(try simp only[go_sem,e3]);try exact evd);refine gon ?_;refine pG k2 ⟨Wk.refl _,Wk.agg (Fe rfl rfl (WkC.refl _) C0 C6 rfl rfl rfl),trivial⟩ ⟨D5 x,(jd _).2 ⟨bE _ _,⟨trivial,trivial⟩,trivial⟩,trivial⟩ ?_;cases I
  ·refine aX ?_;exact ai
  ·refine bk ?_;exact ai
 have n3:(x.kind==3)=false:=by simp[h3k]
 by_cases h4k:x.kind=4
 case pos=>
  have e4:(x.kind==4)=true:=by simp[h4k]
  have hm:mask x=⟨x.kind,cw,oX,x.slg,j4,lZ,0,0⟩:=by unfold mask;rw[al5 h2k];rw[al5 h3k];rw[al7 h4k]
  rw[hm]at k2;refine gon ?_;refine aB ?_ (by(try simp only[go_sem,n2]);try exact evd);refine gon ?_;refine aB ?_ (by(try simp only[go_sem,n3]);try exact evd);refine gon ?_;refine ax ?_ (by(try simp only[go_sem,e4]);try exact evd);refine gon ?_;refine pG k2 ⟨Wk.refl _,Wk.agg (Fe rfl rfl CT (WkC.refl _) C6 rfl rfl rfl),trivial⟩ ⟨D5 x,(jd _).2 ⟨trivial,⟨bE _ _,bE _ _⟩,trivial⟩,trivial⟩ ?_;cases I
  ·refine aX ?_;exact ai
  ·refine bk ?_;exact ai
 have n4:(x.kind==4)=false:=by simp[h4k]
 by_cases h5k:x.kind=5
 case pos=>
  have e5:(x.kind==5)=true:=by simp[h5k]
  have hm:mask x=⟨x.kind,cw,oX,GV,x.tab,lZ,0,0⟩:=by unfold mask;rw[al5 h2k];rw[al5 h3k];rw[al5 h4k];rw[al7 h5k]
  rw[hm]at k2;refine gon ?_;refine aB ?_ (by(try simp only[go_sem,n2]);try exact evd);refine gon ?_;refine aB ?_ (by(try simp only[go_sem,n3]);try exact evd);refine gon ?_;refine aB ?_ (by(try simp only[go_sem,n4]);try exact evd);refine gon ?_;refine ax ?_ (by(try simp only[go_sem,e5]);try exact evd);refine gon ?_;refine pG k2 ⟨Wk.refl _,Wk.agg (Fe rfl rfl CT C0 (WkC.refl _) rfl rfl rfl),trivial⟩ ⟨D5 x,(jd _).2 ⟨trivial,⟨trivial,trivial⟩,bE _ _⟩,trivial⟩ ?_;cases I
  ·refine aX ?_;exact ai
  ·refine bk ?_;exact ai
 have n5:(x.kind==5)=false:=by simp[h5k]
 by_cases h6k:x.kind=6
 case pos=>
  have e6:(x.kind==6)=true:=by simp[h6k]
  have hm:mask x=⟨x.kind,cw,oX,GV,j4,x.vdt,0,0⟩:=by unfold mask;rw[al5 h2k];rw[al5 h3k];rw[al5 h4k];rw[al5 h5k];rw[al7 h6k]
  rw[hm]at k2;refine gon ?_;refine aB ?_ (by(try simp only[go_sem,n2]);try exact evd);refine gon ?_;refine aB ?_ (by(try simp only[go_sem,n3]);try exact evd);refine gon ?_;refine aB ?_ (by(try simp only[go_sem,n4]);try exact evd);refine gon ?_;refine aB ?_ (by(try simp only[go_sem,n5]);try exact evd);refine gon ?_;refine ax ?_ (by(try simp only[go_sem,e6]);try exact evd);refine gon ?_;refine pG k2 ⟨Wk.refl _,Wk.agg (Fe rfl rfl CT C0 C6 rfl rfl rfl),trivial⟩ ⟨D5 x,(jd _).2 ⟨trivial,⟨trivial,trivial⟩,trivial⟩,trivial⟩ ?_;cases I
  ·refine aX ?_;exact ai
  ·refine bk ?_;exact ai
 have n6:(x.kind==6)=false:=by simp[h6k]
 by_cases h8k:x.kind=8
 case pos=>
  have e8:(x.kind==8)=true:=by simp[h8k]
  have hm:mask x=⟨x.kind,cw,oX,GV,j4,lZ,x.write,x.keep⟩:=by unfold mask;rw[al5 h2k];rw[al5 h3k];rw[al5 h4k];rw[al5 h5k];rw[al5 h6k];rw[al7 h8k]
  rw[hm]at k2;refine gon ?_;refine aB ?_ (by(try simp only[go_sem,n2]);try exact evd);refine gon ?_;refine aB ?_ (by(try simp only[go_sem,n3]);try exact evd);refine gon ?_;refine aB ?_ (by(try simp only[go_sem,n4]);try exact evd);refine gon ?_;refine aB ?_ (by(try simp only[go_sem,n5]);try exact evd);refine gon ?_;refine aB ?_ (by(try simp only[go_sem,n6]);try exact evd);refine gon ?_;refine ax ?_ (by(try simp only[go_sem,e8]);try exact evd);refine gon ?_;refine pG k2 ⟨Wk.refl _,Wk.agg (Fe rfl rfl CT C0 C6 rfl rfl rfl),trivial⟩ ⟨D5 x,(jd _).2 ⟨trivial,⟨trivial,trivial⟩,trivial⟩,trivial⟩ ?_;cases I
  ·refine aX ?_;exact ai
  ·refine bk ?_;exact ai
 have n8:(x.kind==8)=false:=by simp[h8k]
 have hm:mask x=⟨x.kind,cw,oX,GV,j4,lZ,0,0⟩:=by unfold mask;rw[al5 h2k];rw[al5 h3k];rw[al5 h4k];rw[al5 h5k];rw[al5 h6k];rw[al5 h8k]
 rw[hm]at k2;refine gon ?_;refine aB ?_ (by(try simp only[go_sem,n2]);try exact evd);refine gon ?_;refine aB ?_ (by(try simp only[go_sem,n3]);try exact evd);refine gon ?_;refine aB ?_ (by(try simp only[go_sem,n4]);try exact evd);refine gon ?_;refine aB ?_ (by(try simp only[go_sem,n5]);try exact evd);refine gon ?_;refine aB ?_ (by(try simp only[go_sem,n6]);try exact evd);refine gon ?_;refine aB ?_ (by(try simp only[go_sem,n8]);try exact evd);refine gon ?_;refine pG k2 ⟨Wk.refl _,Wk.agg (Fe rfl rfl CT C0 C6 rfl rfl rfl),trivial⟩ ⟨D5 x,(jd _).2 ⟨trivial,⟨trivial,trivial⟩,trivial⟩,trivial⟩ ?_;cases I
 ·refine aX ?_;exact ai
 ·refine bk ?_;exact ai
def ops(l:List OpV):List (List AV):=l.map fun x=>dj (opL x)
theorem VY{x:Blk}(u:NQ x):(i9 x).length<=1000:=by
 have r1:=x.root.2;have r2:=x.parent.2;have r3:=x.payload.2;have r4:=(bT x.diff).2;have r5:=(bT x.pdiff).2;have q1:=u.slot.len;have q2:=eK u.just;have q3:=eK u.fin;have q4:=eK u.j;have q5:=eK u.f;have q6:(fW x.timely).length<=1:=by cases x.timely<;>simp[fW]
 simp only[i9,akC];omega
theorem NH(bs:List UInt8)(cl:Bool)(e:Int):ay Tryz.prog 287 [.ptr 0 0] [rdr cl bs e] (.sl 1 cl (bts bs)) [rdr cl bs e]:=by
 refine ay.fact 3 BK (by simp) ?_ (by simp);unfold qm;refine bd ?_;refine gon ?_;exact ahY [] [0]
def tkl(bs:List UInt8)(k:Nat)(e:Int):List UInt8:=if e=0 then bs.drop k else bs
theorem EJ(bs:List UInt8)(cl:Bool)(e:Int)(k:Nat)(hk:k<=bs.length):ay Tryz.prog 285 [.ptr 0 0,.int .i64 (k:Int),.int .i64 e] [rdr cl bs 0] (.tup []) [rdr cl (tkl bs k e) e]:=by
 refine ay.fact 3 qB (by simp) ?_ (by simp);unfold kv tkl;refine bd ?_;refine bk ?_;by_cases he:e=0
 ·subst he;have e3:List.take (bs.length-k) (List.drop k bs)=List.drop k bs:=amf (by simp);rw[al7 rfl];refine aB ?_;refine ah e3 ?_;exact ahY [] [0]
 ·have he':(e != 0)=true:=by simpa using he
  rw[al5 he];refine ax ?_ (by(try simp only[go_sem,he']);try exact evd);refine gon ?_;refine aG [0] (iJ bs cl 0 e) evd (aq.mk' (by simp) evd) ?_;refine evg ?_;refine gon ?_;exact ahY [] [0]
theorem acZ(bs:List UInt8)(e:Int):tkl bs 0 e=bs:=by simp[tkl]
attribute [go_sem] acZ
end Go.Proofs.YtnjdpnfglgcjcaaGreat
