/-
 My texts Ga, Gb, Gc, Gd, Ge, joined.
-/
import Derived.Test.YtkgimpdgncakjaaGreatV1
import Derived.Test.YtkgimpdgncakjaaGreatW5
import Derived.Test.YtkgimpdgncakjaaGreatW3
namespace Go.Proofs.YtkgimpdgncakjaaGreat
open Go Go.FH Go.RowKit
set_option linter.unusedVariables false
set_option linter.unusedSimpArgs false
structure OpV where
 kind:Int
 blk:Blk
 att:Int×Rt×Cp×List Int
 slg:Sv
 tab:Tv
 vdt:Vdt
 write:Int
 keep:Int
def opL(x:OpV):SOp:=⟨x.kind,x.blk,lU_ x.att,lN_ x.slg,kZ_ x.tab,x.vdt,x.write,x.keep⟩
theorem MX_(x:OpV):(opL x).kind=x.kind:=rfl
theorem OW_(x:OpV):(opL x).blk=x.blk:=rfl
theorem OV_(x:OpV):(opL x).att=lU_ x.att:=rfl
theorem OY_(x:OpV):(opL x).slg=lN_ x.slg:=rfl
theorem OZ_(x:OpV):(opL x).tab=kZ_ x.tab:=rfl
theorem Pa_(x:OpV):(opL x).vdt=x.vdt:=rfl
theorem Kh_(x:OpV):(opL x).write=x.write:=rfl
theorem MW_(x:OpV):(opL x).keep=x.keep:=rfl
theorem MV_(x:OpV):(opL x).good=true:=rfl
theorem QW_(x:OpV):(opL x).Pure:=⟨aM_ _ _,⟨HC_ _,HC_ _⟩,aM_ _ _⟩
theorem fX_(x:OpV):PuL (bL_ (opL x)):=(fj_ _).2 (QW_ x)
theorem OX_(x:OpV)(ρ:Nat→Nat):(opL x).map (ren ρ)=opL x:=by simp only[opL,SOp.map,CV_,EK_,EY_]
theorem QV_(x:OpV)(σ:St)(zs:List Nat):(opL x).map (fz σ zs)=opL x:=by simp only[opL,SOp.map,HA_,In_,Iw_]
theorem ND_(x:Sv):(lN_ x).fst=ph_ x.1:=rfl
theorem NE_(x:Sv):(lN_ x).snd=ph_ x.2:=rfl
theorem IR_(x:Int×Rt×Cp×List Int):(lU_ x).vals=.sl 1 false (aq_ .i64 x.2.2.2):=rfl
theorem Lc_(x:Tv):(kZ_ x).bals=.sl 1 false (aq_ .u64 x.2):=rfl
theorem PS_(x:Tv):(kZ_ x).cp=x.1:=rfl
attribute [go_sem] MX_ OW_ OV_ OY_ OZ_ Pa_ Kh_ MW_ MV_ OX_ QV_ ND_ NE_ IR_ Lc_ PS_
def okF(k:Int)(fs:List (Int×Bool))(i:Nat):Bool:=if h:i<fs.length then ((fs[i].1==k) || fs[i].2)&&okF k fs (i+1)else true
termination_by fs.length-i
theorem zF_{k:Int}{fs:List (Int×Bool)}{i:Nat}(h:i<fs.length):okF k fs i=(((fs[i].1==k) || fs[i].2)&&okF k fs (i+1)):=by rw[okF,dif_pos h]
theorem OU_{k:Int}{fs:List (Int×Bool)}{i:Nat}(h:¬i<fs.length):okF k fs i=true:=by rw[okF,dif_neg h]
def Qs_(x:OpV):List (Int×Bool):=
 [(2,decide (x.blk=cF_)),(3,decide (x.att=kI_)),(4,decide (x.slg.1=uE_)&&decide (x.slg.2=uE_)),(5,decide (x.tab.1=cp0)&&decide (x.tab.2=[])),(6,decide (x.vdt=gR_)),(8,(x.write==0)&&(x.keep==0))]
def MC_(x:OpV):Bool:=okF x.kind (Qs_ x) 0
structure yI_(x:OpV):Prop where
 att:x.att.2.2.2.length≤140737488355328
 fst:x.slg.1.2.2.2.length≤140737488355328
 snd:x.slg.2.2.2.2.length≤140737488355328
 tab:x.tab.2.length≤140737488355328
def He_(a b:Int×Rt×Cp×List Int):Bool:=decide (a.1=b.1∧a.2.1=b.2.1∧a.2.2.1=b.2.2.1∧a.2.2.2=b.2.2.2)
def wm_(a b:Cv):Bool:=decide (a.1=b.1∧a.2.1=b.2.1∧a.2.2.1=b.2.2.1∧a.2.2.2=b.2.2.2)
def Hf_(a b:Tv):Bool:=decide (a.1=b.1∧a.2=b.2)
def BX_(x y:OpV):Bool:=(x.kind==y.kind)&&(decide (x.blk=y.blk)&&(He_ x.att y.att&&((wm_ x.slg.1 y.slg.1&&wm_ x.slg.2 y.slg.2)&&(Hf_ x.tab y.tab&&(decide (x.vdt=y.vdt)&&((x.write==y.write)&&(x.keep==y.keep)))))))
set_option maxHeartbeats 4000000 in
theorem Pl_(x y:OpV)(hx:yI_ x)(hy:yI_ y):PC Tryz.prog 214 [.agg (bL_ (opL x)),.agg (bL_ (opL y))] (.bool (BX_ x y)):=by
 refine PC.fact 5 xM_ (by simp) ⟨fX_ x,fX_ y,trivial⟩ trivial ?_;unfold oH_ BX_;refine bd ?_;have k1:PC Tryz.prog 53 [.agg (bl_ (lU_ x.att)),.agg (bl_ (lU_ y.att))] (.bool (He_ x.att y.att)):=Nt_ (lU_ x.att) (lU_ y.att) _ _ false false rfl rfl hx.att hy.att;have k2:PC Tryz.prog 244 [.agg (cy_ (lN_ x.slg)),.agg (cy_ (lN_ y.slg))] (.bool (wm_ x.slg.1 y.slg.1&&wm_ x.slg.2 y.slg.2)):=Nu_ (lN_ x.slg) (lN_ y.slg) _ _ _ _ false false false false rfl rfl rfl rfl hx.fst hx.snd hy.fst hy.snd;have k3:PC Tryz.prog 130 [.agg (aY_ (kZ_ x.tab)),.agg (aY_ (kZ_ y.tab))] (.bool (Hf_ x.tab y.tab)):=Nv_ (kZ_ x.tab) (kZ_ y.tab) _ _ false false rfl rfl hx.tab hy.tab;generalize h1:(x.kind==y.kind)=B1 at *;generalize h2:decide (x.blk=y.blk)=B2 at *;generalize He_ x.att y.att=B3 at *;generalize (wm_ x.slg.1 y.slg.1&&wm_ x.slg.2 y.slg.2)=B4 at *;generalize Hf_ x.tab y.tab=B5 at *;generalize h6:decide (x.vdt=y.vdt)=B6 at *;generalize h7:(x.write==y.write)=B7 at *;generalize h8:(x.keep==y.keep)=B8 at *;cases B1
 ·repeat(first|refine aa_ ?_|simp only[go_sem,h1])
  exact ae_
 cases B2
 ·repeat(first|refine aa_ ?_|simp only[go_sem,h1,h2])
  exact ae_
 repeat(first|refine aa_ ?_|simp only[go_sem,h1,h2])
 refine aj_ k1 ?_;cases B3
 ·repeat(first|refine aa_ ?_|simp only[go_sem,h1,h2])
  exact ae_
 repeat(first|refine aa_ ?_|simp only[go_sem,h1,h2])
 refine aj_ k2 ?_;cases B4
 ·repeat(first|refine aa_ ?_|simp only[go_sem,h1,h2])
  exact ae_
 repeat(first|refine aa_ ?_|simp only[go_sem,h1,h2])
 refine aj_ k3 ?_;cases B5
 ·repeat(first|refine aa_ ?_|simp only[go_sem,h1,h2,h6])
  exact ae_
 cases B6
 ·repeat(first|refine aa_ ?_|simp only[go_sem,h1,h2,h6])
  exact ae_
 cases B7
 ·repeat(first|refine aa_ ?_|simp only[go_sem,h1,h2,h6,h7])
  exact ae_
 ·repeat(first|refine aa_ ?_|simp only[go_sem,h1,h2,h6,h7,h8])
  exact ae_
structure OpU(x:OpV):Prop where
 blk:Ol_ x.blk
 slot:U64 x.att.1
 ep:U64 x.att.2.2.1.ep
 att:x.att.2.2.2.length≤140737488355328
 fst:rn_ (ph_ x.slg.1) x.slg.1.2.2.2 false
 snd:rn_ (ph_ x.slg.2) x.slg.2.2.2.2 false
 tab:CN_ (kZ_ x.tab) x.tab.2 false
 tag:U64 x.vdt.tag
theorem OpU.len{x:OpV}(h:OpU x):yI_ x:=⟨h.att,h.fst.len,h.snd.len,h.tab.len⟩
def ul_(x:OpV):Bool:=!(decide (0≤x.write∧x.write≤32768)&&decide (0≤x.keep∧x.keep≤32768))
def fld(x:OpV):List UInt8×Int:=
 if x.kind=2 then (RG_ x.blk,0)
 else if x.kind=3 then (if cd_ x.att.2.2.2 1024=0 then Rw_ (lU_ x.att) x.att.2.2.2 else [],cd_ x.att.2.2.2 1024)
 else if x.kind=4 then (if EJ_ x.slg.1.2.2.2 x.slg.2.2.2.2=0 then Ql_ (lN_ x.slg) x.slg.1.2.2.2 x.slg.2.2.2.2 else [],EJ_ x.slg.1.2.2.2 x.slg.2.2.2.2)
 else if x.kind=5 then (if 1024<x.tab.2.length then []else NV_ (kZ_ x.tab) x.tab.2,if 1024<x.tab.2.length then 3 else 0)
 else if x.kind=6 then (if Fe_ x.vdt then []else RX_ x.vdt,if Fe_ x.vdt then 3 else 0)
 else if x.kind=8 then (if ul_ x then ([],3)else (cb_ x.write.toNat++cb_ x.keep.toNat,0))
 else ([],0)
set_option maxHeartbeats 4000000 in
theorem EI_(x:OpV)(hx:OpU x):PC Tryz.prog 213 [.agg (bL_ (opL x))] (.tup [.sl 1 false (bts (fld x).1),.int .i64 (fld x).2]):=by
 refine PC.fact 4 Br_ (by simp) ⟨fX_ x,trivial⟩ ⟨jI_ _,trivial,trivial⟩ ?_;unfold qm_ fld;refine bd ?_;by_cases h2:x.kind=2
 ·rw[if_pos h2];have e2:(x.kind==2)=true:=by simp[h2]
  try refine aa_ ?_
  refine ac_ ?_ (by(try simp only[go_sem,e2]);try exact evd);try refine aa_ ?_
  refine So_ (Ny_ x.blk hx.blk) ?_
  exact ae_
 rw[if_neg h2];have n2:(x.kind==2)=false:=by simp[h2]
 by_cases h3:x.kind=3
 ·rw[if_pos h3];have e3:(x.kind==3)=true:=by simp[h3]
  have k3:=Nx_ (lU_ x.att) x.att.2.2.2 false rfl hx.att hx.slot hx.ep;try refine aa_ ?_
  refine ab_ ?_ (by(try simp only[go_sem,n2]);try exact evd);try refine aa_ ?_
  refine ac_ ?_ (by(try simp only[go_sem,e3]);try exact evd);try refine aa_ ?_
  refine So_ k3 ?_
  exact ae_
 rw[if_neg h3];have n3:(x.kind==3)=false:=by simp[h3]
 by_cases h4:x.kind=4
 ·rw[if_pos h4];have e4:(x.kind==4)=true:=by simp[h4]
  have k4:=Nz_ (lN_ x.slg) x.slg.1.2.2.2 x.slg.2.2.2.2 false false hx.fst hx.snd;try refine aa_ ?_
  refine ab_ ?_ (by(try simp only[go_sem,n2]);try exact evd);try refine aa_ ?_
  refine ab_ ?_ (by(try simp only[go_sem,n3]);try exact evd);try refine aa_ ?_
  refine ac_ ?_ (by(try simp only[go_sem,e4]);try exact evd);try refine aa_ ?_
  refine So_ k4 ?_
  exact ae_
 rw[if_neg h4];have n4:(x.kind==4)=false:=by simp[h4]
 by_cases h5:x.kind=5
 ·rw[if_pos h5];have e5:(x.kind==5)=true:=by simp[h5]
  have k5:=NA_ (kZ_ x.tab) x.tab.2 false hx.tab;try refine aa_ ?_
  refine ab_ ?_ (by(try simp only[go_sem,n2]);try exact evd);try refine aa_ ?_
  refine ab_ ?_ (by(try simp only[go_sem,n3]);try exact evd);try refine aa_ ?_
  refine ab_ ?_ (by(try simp only[go_sem,n4]);try exact evd);try refine aa_ ?_
  refine ac_ ?_ (by(try simp only[go_sem,e5]);try exact evd);try refine aa_ ?_
  refine So_ k5 ?_
  exact ae_
 rw[if_neg h5];have n5:(x.kind==5)=false:=by simp[h5]
 by_cases h6:x.kind=6
 ·rw[if_pos h6];have e6:(x.kind==6)=true:=by simp[h6]
  have k6:=NB_ x.vdt hx.tag;try refine aa_ ?_
  refine ab_ ?_ (by(try simp only[go_sem,n2]);try exact evd);try refine aa_ ?_
  refine ab_ ?_ (by(try simp only[go_sem,n3]);try exact evd);try refine aa_ ?_
  refine ab_ ?_ (by(try simp only[go_sem,n4]);try exact evd);try refine aa_ ?_
  refine ab_ ?_ (by(try simp only[go_sem,n5]);try exact evd);try refine aa_ ?_
  refine ac_ ?_ (by(try simp only[go_sem,e6]);try exact evd);try refine aa_ ?_
  refine So_ k6 ?_
  exact ae_
 rw[if_neg h6];have n6:(x.kind==6)=false:=by simp[h6]
 try refine aa_ ?_
 refine ab_ ?_ (by(try simp only[go_sem,n2]);try exact evd);try refine aa_ ?_
 refine ab_ ?_ (by(try simp only[go_sem,n3]);try exact evd);try refine aa_ ?_
 refine ab_ ?_ (by(try simp only[go_sem,n4]);try exact evd);try refine aa_ ?_
 refine ab_ ?_ (by(try simp only[go_sem,n5]);try exact evd);try refine aa_ ?_
 refine ab_ ?_ (by(try simp only[go_sem,n6]);try exact evd);try refine aa_ ?_
 by_cases h8:x.kind=8
 ·rw[if_pos h8]
  have e8:(x.kind==8)=true:=by simp[h8]
  refine ac_ ?_ (by(try simp only[go_sem,e8]);try exact evd);by_cases a1:x.write<0
  ·have d1:decide (x.write<0)=true:=by simpa using a1
   have hb:ul_ x=true:=by simp[ul_];omega
   rw[hb];simp only[if_true];repeat(first|refine aa_ ?_|simp only[go_sem,d1])
   refine Ri_ ?_
   refine⟨_,rfl,.inr ⟨.tup [.sl 0 true [],.int .i64 3],evd,⟨trivial,trivial,trivial⟩,Wk.tup ⟨Wk.empty _ _ _,Wk.refl _,trivial⟩⟩⟩
  have d1:decide (x.write<0)=false:=by simpa using a1
  by_cases a2:32768<x.write
  ·have d2:decide (32768<x.write)=true:=by simpa using a2
   have hb:ul_ x=true:=by simp[ul_];omega
   rw[hb];simp only[if_true];repeat(first|refine aa_ ?_|simp only[go_sem,d1,d2])
   refine Ri_ ?_
   refine⟨_,rfl,.inr ⟨.tup [.sl 0 true [],.int .i64 3],evd,⟨trivial,trivial,trivial⟩,Wk.tup ⟨Wk.empty _ _ _,Wk.refl _,trivial⟩⟩⟩
  have d2:decide (32768<x.write)=false:=by simpa using a2
  by_cases a3:x.keep<0
  ·have d3:decide (x.keep<0)=true:=by simpa using a3
   have hb:ul_ x=true:=by simp[ul_];omega
   rw[hb];simp only[if_true];repeat(first|refine aa_ ?_|simp only[go_sem,d1,d2,d3])
   refine Ri_ ?_
   refine⟨_,rfl,.inr ⟨.tup [.sl 0 true [],.int .i64 3],evd,⟨trivial,trivial,trivial⟩,Wk.tup ⟨Wk.empty _ _ _,Wk.refl _,trivial⟩⟩⟩
  have d3:decide (x.keep<0)=false:=by simpa using a3
  by_cases a4:32768<x.keep
  ·have d4:decide (32768<x.keep)=true:=by simpa using a4
   have hb:ul_ x=true:=by simp[ul_];omega
   rw[hb];simp only[if_true];repeat(first|refine aa_ ?_|simp only[go_sem,d1,d2,d3,d4])
   refine Ri_ ?_
   refine⟨_,rfl,.inr ⟨.tup [.sl 0 true [],.int .i64 3],evd,⟨trivial,trivial,trivial⟩,Wk.tup ⟨Wk.empty _ _ _,Wk.refl _,trivial⟩⟩⟩
  have d4:decide (32768<x.keep)=false:=by simpa using a4
  have hb:ul_ x=false:=by simp[ul_];omega
  have w1:IntKind.u64.wrap x.write=x.write:=aH_ (by omega) (by omega);have w2:IntKind.u64.wrap x.keep=x.keep:=aH_ (by omega) (by omega);have q1:=fH_ (n:=x.write.toNat) (by omega);have q2:=fH_ (n:=x.keep.toNat) (by omega);have p1:=(cv_ x.write (by omega) (by omega)).nil (by omega);have p2:=(cv_ x.keep (by omega) (by omega)).own (cb_ x.write.toNat) (by omega);rw[hb];simp only[Bool.false_eq_true,if_false];repeat(first|refine aa_ ?_|simp only[go_sem,d1,d2,d3,d4])
  refine ab_ ?_;repeat(first|refine aa_ ?_|simp only[go_sem,w1,w2])
  refine bs_ [] (p1) (by simp) evd (bT_.mk' (by simp) (by simp) evd) ?_;refine evg ?_;repeat(first|refine aa_ ?_|simp only[go_sem,w1,w2])
  refine bs_ [1] (p2) (by simp) evd (bT_.mk' (by simp) (by simp) evd) ?_;refine evg ?_;try refine aa_ ?_
  exact ae_
 ·rw[if_neg h8];have n8:(x.kind==8)=false:=by simp[h8]
  refine ab_ ?_ (by(try simp only[go_sem,n8]);try exact evd);try refine aa_ ?_
  refine⟨_,rfl,.inr ⟨.tup [.sl 0 true [],.int .i64 0],evd,⟨trivial,trivial,trivial⟩,Wk.tup ⟨Wk.empty _ _ _,Wk.refl _,trivial⟩⟩⟩
def vOp(x:OpV):Int:=if x.kind<1∨8<x.kind then 2 else if (fld x).2≠0 then (fld x).2 else if MC_ x then 0 else 2
theorem OI_(x:OpV):MC_ x=(((((2:Int)==x.kind) || decide (x.blk=cF_)))&&((((3:Int)==x.kind) || decide (x.att=kI_))&&((((4:Int)==x.kind) || (decide (x.slg.1=uE_)&&decide (x.slg.2=uE_)))&&((((5:Int)==x.kind) || (decide (x.tab.1=cp0)&&decide (x.tab.2=[])))&&((((6:Int)==x.kind) || decide (x.vdt=gR_))&&(((8:Int)==x.kind) || ((x.write==0)&&(x.keep==0)))))))):=by
 unfold MC_ Qs_;rw[zF_ (by simp),zF_ (by simp),zF_ (by simp),zF_ (by simp),zF_ (by simp),zF_ (by simp),OU_ (by simp)];simp
theorem pE_(a:Int×Rt×Cp×List Int):He_ a kI_=decide (a=kI_):=by
 obtain⟨s,r,c,l⟩:=a;show decide (s=0∧r=rt0∧c=cp0∧l=[])=_
 rw[Bool.eq_iff_iff];simp[kI_]
theorem pF_(a:Cv):wm_ a uE_=decide (a=uE_):=by
 obtain⟨s,r,c,l⟩:=a;show decide (s=0∧r=0∧c=rt0∧l=[])=_
 rw[Bool.eq_iff_iff];simp[uE_]
theorem pG_(a:Tv):Hf_ a pI_=(decide (a.1=cp0)&&decide (a.2=[])):=by show decide (a.1=cp0∧a.2=[])=_;rw[Bool.eq_iff_iff];simp
theorem KH_(a:Int×Rt×Cp×List Int):He_ a a=true:=by simp[He_]
theorem KI_(a:Cv):wm_ a a=true:=by simp[wm_]
theorem KL_(a:Tv):Hf_ a a=true:=by simp[Hf_]
def mask(x:OpV):OpV:=
 if x.kind=2 then ⟨x.kind,x.blk,kI_,jk_,pI_,gR_,0,0⟩
 else if x.kind=3 then ⟨x.kind,cF_,x.att,jk_,pI_,gR_,0,0⟩
 else if x.kind=4 then ⟨x.kind,cF_,kI_,x.slg,pI_,gR_,0,0⟩
 else if x.kind=5 then ⟨x.kind,cF_,kI_,jk_,x.tab,gR_,0,0⟩
 else if x.kind=6 then ⟨x.kind,cF_,kI_,jk_,pI_,x.vdt,0,0⟩
 else if x.kind=8 then ⟨x.kind,cF_,kI_,jk_,pI_,gR_,x.write,x.keep⟩
 else ⟨x.kind,cF_,kI_,jk_,pI_,gR_,0,0⟩
theorem gM_(x:OpV)(k:Int)(b:Blk)(a:Int×Rt×Cp×List Int)(s:Sv)(t:Tv)(v:Vdt)(w p:Int):BX_ x ⟨k,b,a,s,t,v,w,p⟩=((x.kind==k)&&(decide (x.blk=b)&&(He_ x.att a&&((wm_ x.slg.1 s.1&&wm_ x.slg.2 s.2)&&(Hf_ x.tab t&&(decide (x.vdt=v)&&((x.write==w)&&(x.keep==p)))))))):=rfl
theorem Kb_(x:OpV):BX_ x (mask x)=MC_ x:=by
 rw[OI_,Bool.eq_iff_iff];unfold mask;split
 ·rename_i h;rw[gM_];simp[jk_,pE_,pF_,pG_,h]
 split
 ·rename_i h;rw[gM_];simp[jk_,pE_,pF_,pG_,KH_,h]
 split
 ·rename_i h;rw[gM_];simp[jk_,pE_,pF_,pG_,KI_,h]
 split
 ·rename_i h;rw[gM_];simp[jk_,pE_,pF_,pG_,KL_,h]
 split
 ·rename_i h;rw[gM_];simp[jk_,pE_,pF_,pG_,h]
 split
 ·rename_i h;rw[gM_];simp[jk_,pE_,pF_,pG_,h]
 ·rename_i h2 h3 h4 h5 h6 h8;have n2:((2:Int)==x.kind)=false:=by simp;omega
  have n3:((3:Int)==x.kind)=false:=by simp;omega
  have n4:((4:Int)==x.kind)=false:=by simp;omega
  have n5:((5:Int)==x.kind)=false:=by simp;omega
  have n6:((6:Int)==x.kind)=false:=by simp;omega
  have n8:((8:Int)==x.kind)=false:=by simp;omega
  rw[gM_];simp[jk_,pE_,pF_,pG_,n2,n3,n4,n5,n6,n8]
theorem yI_.mask{x:OpV}(h:yI_ x):yI_ (mask x):=by
 unfold Go.Proofs.YtkgimpdgncakjaaGreat.mask;(repeat' split)<;>exact⟨by first|exact h.att|simp[kI_],by first|exact h.fst|simp[jk_,uE_],by first|exact h.snd|simp[jk_,uE_],by first|exact h.tab|simp[pI_]⟩
theorem gS_{x y:SOp}(h1:x.kind=y.kind)(h2:x.blk=y.blk)(h3:WkC (bl_ x.att) (bl_ y.att))(h4:WkC (cy_ x.slg) (cy_ y.slg))(h5:WkC (aY_ x.tab) (aY_ y.tab))(h6:x.vdt=y.vdt)(h7:x.write=y.write)(h8:x.keep=y.keep):WkC (bL_ x) (bL_ y):=by
 obtain⟨a1,a2,a3,a4,a5,a6,a7,a8⟩:=x;obtain⟨b1,b2,b3,b4,b5,b6,b7,b8⟩:=y;simp only at h1 h2 h3 h4 h5 h6 h7 h8;subst h1 h2 h6 h7 h8;exact WkC.same _ ((WkC.refl _).app (h3.app (h4.app (h5.app ((WkC.refl _).app (WkC.refl _))))))
theorem eJ_:WkC (bl_ wM_) (bl_ (lU_ kI_)):=WkC.same _ ((WkC.refl (rtc rt0)).app ((WkC.refl (cpC cp0)).app (WkC.one (Wk.empty 0 1 false) fun h=>h)))
theorem eK_:WkC (cy_ yi_) (cy_ (lN_ jk_)):=(IE_ 0 0 rt0 (Wk.empty 0 1 false) fun h=>h).app (IE_ 0 0 rt0 (Wk.empty 0 1 false) fun h=>h)
theorem eL_:WkC (aY_ rg_) (aY_ (kZ_ pI_)):=(WkC.refl (cpC cp0)).app (WkC.one (Wk.empty 0 1 false) fun h=>h)
set_option maxHeartbeats 8000000 in
theorem EV_(x:OpV)(hx:OpU x):PC Tryz.prog 174 [.agg (bL_ (opL x))] (.int .i64 (vOp x)):=by
 refine PC.fact 6 qx_ (by simp) ⟨fX_ x,trivial⟩ trivial ?_;unfold jo_ vOp;refine bd ?_;have k1:=EI_ x hx;have k2:=Pl_ x (mask x) hx.len hx.len.mask;rw[Kb_]at k2;by_cases h1:x.kind<1
 ·have d1:decide (x.kind<1)=true:=by simpa using h1
  rw[if_pos (.inl h1)];repeat(first|refine aa_ ?_|simp only[go_sem,d1])
  refine Ri_ ?_
  exact ae_
 have d1:decide (x.kind<1)=false:=by simpa using h1
 by_cases h2:8<x.kind
 ·have d2:decide (8<x.kind)=true:=by simpa using h2
  rw[if_pos (.inr h2)];repeat(first|refine aa_ ?_|simp only[go_sem,d1,d2])
  refine Ri_ ?_
  exact ae_
 have d2:decide (8<x.kind)=false:=by simpa using h2
 rw[if_neg (by omega)];repeat(first|refine aa_ ?_|simp only[go_sem,d1,d2])
 refine ab_ ?_;generalize fld x=F at *;obtain⟨f,e⟩:=F;dsimp only at k1 ⊢;try refine aa_ ?_
 refine So_ k1 ?_
 by_cases he:e=0
 case neg=>
  have he':(e != 0)=true:=by simpa using he
  rw[if_pos he];refine ac_ ?_ (by(try simp only[go_sem,he']);try exact evd);try refine aa_ ?_
  exact ae_
 subst he;refine ab_ ?_;generalize MC_ x=I at *;rw[if_neg (by simp)];by_cases h2k:x.kind=2
 case pos=>
  have e2:(x.kind==2)=true:=by simp[h2k]
  have hm:mask x=⟨x.kind,x.blk,kI_,jk_,pI_,gR_,0,0⟩:=by unfold mask;rw[if_pos h2k]
  rw[hm]at k2;try refine aa_ ?_
  refine ac_ ?_ (by(try simp only[go_sem,e2]);try exact evd);try refine aa_ ?_
  refine iW_ k2 ⟨Wk.refl _,Wk.agg (gS_ rfl rfl eJ_ eK_ eL_ rfl rfl rfl),trivial⟩ ⟨fX_ x,(fj_ _).2 ⟨trivial,⟨trivial,trivial⟩,trivial⟩,trivial⟩ ?_;cases I
  ·try refine aa_ ?_
   refine Ri_ ?_
   exact ae_
  ·try refine aa_ ?_
   refine Rh_ ?_
   exact ae_
 have n2:(x.kind==2)=false:=by simp[h2k]
 by_cases h3k:x.kind=3
 case pos=>
  have e3:(x.kind==3)=true:=by simp[h3k]
  have hm:mask x=⟨x.kind,cF_,x.att,jk_,pI_,gR_,0,0⟩:=by unfold mask;rw[if_neg h2k];rw[if_pos h3k]
  rw[hm]at k2;try refine aa_ ?_
  refine ab_ ?_ (by(try simp only[go_sem,n2]);try exact evd);try refine aa_ ?_
  refine ac_ ?_ (by(try simp only[go_sem,e3]);try exact evd);try refine aa_ ?_
  refine iW_ k2 ⟨Wk.refl _,Wk.agg (gS_ rfl rfl (WkC.refl _) eK_ eL_ rfl rfl rfl),trivial⟩ ⟨fX_ x,(fj_ _).2 ⟨aM_ _ _,⟨trivial,trivial⟩,trivial⟩,trivial⟩ ?_;cases I
  ·try refine aa_ ?_
   refine Ri_ ?_
   exact ae_
  ·try refine aa_ ?_
   refine Rh_ ?_
   exact ae_
 have n3:(x.kind==3)=false:=by simp[h3k]
 by_cases h4k:x.kind=4
 case pos=>
  have e4:(x.kind==4)=true:=by simp[h4k]
  have hm:mask x=⟨x.kind,cF_,kI_,x.slg,pI_,gR_,0,0⟩:=by unfold mask;rw[if_neg h2k];rw[if_neg h3k];rw[if_pos h4k]
  rw[hm]at k2;try refine aa_ ?_
  refine ab_ ?_ (by(try simp only[go_sem,n2]);try exact evd);try refine aa_ ?_
  refine ab_ ?_ (by(try simp only[go_sem,n3]);try exact evd);try refine aa_ ?_
  refine ac_ ?_ (by(try simp only[go_sem,e4]);try exact evd);try refine aa_ ?_
  refine iW_ k2 ⟨Wk.refl _,Wk.agg (gS_ rfl rfl eJ_ (WkC.refl _) eL_ rfl rfl rfl),trivial⟩ ⟨fX_ x,(fj_ _).2 ⟨trivial,⟨aM_ _ _,aM_ _ _⟩,trivial⟩,trivial⟩ ?_;cases I
  ·try refine aa_ ?_
   refine Ri_ ?_
   exact ae_
  ·try refine aa_ ?_
   refine Rh_ ?_
   exact ae_
 have n4:(x.kind==4)=false:=by simp[h4k]
 by_cases h5k:x.kind=5
 case pos=>
  have e5:(x.kind==5)=true:=by simp[h5k]
  have hm:mask x=⟨x.kind,cF_,kI_,jk_,x.tab,gR_,0,0⟩:=by unfold mask;rw[if_neg h2k];rw[if_neg h3k];rw[if_neg h4k];rw[if_pos h5k]
  rw[hm]at k2;try refine aa_ ?_
  refine ab_ ?_ (by(try simp only[go_sem,n2]);try exact evd);try refine aa_ ?_
  refine ab_ ?_ (by(try simp only[go_sem,n3]);try exact evd);try refine aa_ ?_
  refine ab_ ?_ (by(try simp only[go_sem,n4]);try exact evd);try refine aa_ ?_
  refine ac_ ?_ (by(try simp only[go_sem,e5]);try exact evd);try refine aa_ ?_
  refine iW_ k2 ⟨Wk.refl _,Wk.agg (gS_ rfl rfl eJ_ eK_ (WkC.refl _) rfl rfl rfl),trivial⟩ ⟨fX_ x,(fj_ _).2 ⟨trivial,⟨trivial,trivial⟩,aM_ _ _⟩,trivial⟩ ?_;cases I
  ·try refine aa_ ?_
   refine Ri_ ?_
   exact ae_
  ·try refine aa_ ?_
   refine Rh_ ?_
   exact ae_
 have n5:(x.kind==5)=false:=by simp[h5k]
 by_cases h6k:x.kind=6
 case pos=>
  have e6:(x.kind==6)=true:=by simp[h6k]
  have hm:mask x=⟨x.kind,cF_,kI_,jk_,pI_,x.vdt,0,0⟩:=by unfold mask;rw[if_neg h2k];rw[if_neg h3k];rw[if_neg h4k];rw[if_neg h5k];rw[if_pos h6k]
  rw[hm]at k2;try refine aa_ ?_
  refine ab_ ?_ (by(try simp only[go_sem,n2]);try exact evd);try refine aa_ ?_
  refine ab_ ?_ (by(try simp only[go_sem,n3]);try exact evd);try refine aa_ ?_
  refine ab_ ?_ (by(try simp only[go_sem,n4]);try exact evd);try refine aa_ ?_
  refine ab_ ?_ (by(try simp only[go_sem,n5]);try exact evd);try refine aa_ ?_
  refine ac_ ?_ (by(try simp only[go_sem,e6]);try exact evd);try refine aa_ ?_
  refine iW_ k2 ⟨Wk.refl _,Wk.agg (gS_ rfl rfl eJ_ eK_ eL_ rfl rfl rfl),trivial⟩ ⟨fX_ x,(fj_ _).2 ⟨trivial,⟨trivial,trivial⟩,trivial⟩,trivial⟩ ?_;cases I
  ·try refine aa_ ?_
   refine Ri_ ?_
   exact ae_
  ·try refine aa_ ?_
   refine Rh_ ?_
   exact ae_
 have n6:(x.kind==6)=false:=by simp[h6k]
 by_cases h8k:x.kind=8
 case pos=>
  have e8:(x.kind==8)=true:=by simp[h8k]
  have hm:mask x=⟨x.kind,cF_,kI_,jk_,pI_,gR_,x.write,x.keep⟩:=by unfold mask;rw[if_neg h2k];rw[if_neg h3k];rw[if_neg h4k];rw[if_neg h5k];rw[if_neg h6k];rw[if_pos h8k]
  rw[hm]at k2;try refine aa_ ?_
  refine ab_ ?_ (by(try simp only[go_sem,n2]);try exact evd);try refine aa_ ?_
  refine ab_ ?_ (by(try simp only[go_sem,n3]);try exact evd);try refine aa_ ?_
  refine ab_ ?_ (by(try simp only[go_sem,n4]);try exact evd);try refine aa_ ?_
  refine ab_ ?_ (by(try simp only[go_sem,n5]);try exact evd);try refine aa_ ?_
  refine ab_ ?_ (by(try simp only[go_sem,n6]);try exact evd);try refine aa_ ?_
  refine ac_ ?_ (by(try simp only[go_sem,e8]);try exact evd);try refine aa_ ?_
  refine iW_ k2 ⟨Wk.refl _,Wk.agg (gS_ rfl rfl eJ_ eK_ eL_ rfl rfl rfl),trivial⟩ ⟨fX_ x,(fj_ _).2 ⟨trivial,⟨trivial,trivial⟩,trivial⟩,trivial⟩ ?_;cases I
  ·try refine aa_ ?_
   refine Ri_ ?_
   exact ae_
  ·try refine aa_ ?_
   refine Rh_ ?_
   exact ae_
 have n8:(x.kind==8)=false:=by simp[h8k]
 have hm:mask x=⟨x.kind,cF_,kI_,jk_,pI_,gR_,0,0⟩:=by unfold mask;rw[if_neg h2k];rw[if_neg h3k];rw[if_neg h4k];rw[if_neg h5k];rw[if_neg h6k];rw[if_neg h8k]
 rw[hm]at k2;try refine aa_ ?_
 refine ab_ ?_ (by(try simp only[go_sem,n2]);try exact evd);try refine aa_ ?_
 refine ab_ ?_ (by(try simp only[go_sem,n3]);try exact evd);try refine aa_ ?_
 refine ab_ ?_ (by(try simp only[go_sem,n4]);try exact evd);try refine aa_ ?_
 refine ab_ ?_ (by(try simp only[go_sem,n5]);try exact evd);try refine aa_ ?_
 refine ab_ ?_ (by(try simp only[go_sem,n6]);try exact evd);try refine aa_ ?_
 refine ab_ ?_ (by(try simp only[go_sem,n8]);try exact evd);try refine aa_ ?_
 refine iW_ k2 ⟨Wk.refl _,Wk.agg (gS_ rfl rfl eJ_ eK_ eL_ rfl rfl rfl),trivial⟩ ⟨fX_ x,(fj_ _).2 ⟨trivial,⟨trivial,trivial⟩,trivial⟩,trivial⟩ ?_;cases I
 ·try refine aa_ ?_
  refine Ri_ ?_
  exact ae_
 ·try refine aa_ ?_
  refine Rh_ ?_
  exact ae_
end Go.Proofs.YtkgimpdgncakjaaGreat
