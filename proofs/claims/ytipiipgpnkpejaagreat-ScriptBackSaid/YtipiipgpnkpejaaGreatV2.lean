/-
 My texts Ga, Gb, Gc, Gd, Ge, Gf, Gg, Gh, Gi, Gj, Gk, Gl, Gm, joined.
-/
import Derived.Test.YtipiipgpnkpejaaGreatV1
import Derived.Test.YtipiipgpnkpejaaGreatW5
import Derived.Test.YtipiipgpnkpejaaGreatW3
namespace Go.Proofs.YtipiipgpnkpejaaGreat
open Go Go.FH Go.RowKit
set_option linter.unusedVariables false
set_option linter.unusedSimpArgs false
structure OpV where
 kind:Int
 blk:Blk
 att:Int×Rt×Cp×List Int
 slg:Sv
 tab:Tv
 vdt:Vdt
 write:Int
 keep:Int
def opL(x:OpV):SOp:=⟨x.kind,x.blk,dT_ x.att,dP_ x.slg,fo_ x.tab,x.vdt,x.write,x.keep⟩
def opZ:OpV:=⟨0,bj_,dj_,cV_,cP_,bL_,0,0⟩
theorem MX_(x:OpV):(opL x).kind=x.kind:=rfl
theorem Pd_(x:OpV):(opL x).blk=x.blk:=rfl
theorem Pc_(x:OpV):(opL x).att=dT_ x.att:=rfl
theorem Pf_(x:OpV):(opL x).slg=dP_ x.slg:=rfl
theorem Pg_(x:OpV):(opL x).tab=fo_ x.tab:=rfl
theorem Ph_(x:OpV):(opL x).vdt=x.vdt:=rfl
theorem Kl_(x:OpV):(opL x).write=x.write:=rfl
theorem MW_(x:OpV):(opL x).keep=x.keep:=rfl
theorem MV_(x:OpV):(opL x).good=true:=rfl
theorem QS_(x:OpV):(opL x).Pure:=⟨aL_ _ _,⟨qs_ _,qs_ _⟩,aL_ _ _⟩
theorem dz_(x:OpV):PuL (aI_ (opL x)):=(cm_ _).2 (QS_ x)
theorem Pe_(x:OpV)(ρ:Nat→Nat):(opL x).map (ren ρ)=opL x:=by simp only[opL,SOp.map,DF_,Fu_,FG_]
theorem QR_(x:OpV)(σ:St)(zs:List Nat):(opL x).map (fz σ zs)=opL x:=by simp only[opL,SOp.map,HS_,IB_,IH_]
theorem NU_(x:Sv):(dP_ x).fst=gQ_ x.1:=rfl
theorem NV_(x:Sv):(dP_ x).snd=gQ_ x.2:=rfl
theorem Jc_(x:Int×Rt×Cp×List Int):(dT_ x).vals=.sl 1 false (aq_ .i64 x.2.2.2):=rfl
theorem Lc_(x:Tv):(fo_ x).bals=.sl 1 false (aq_ .u64 x.2):=rfl
theorem PW_(x:Tv):(fo_ x).cp=x.1:=rfl
attribute [go_sem] MX_ Pd_ Pc_ Pf_ Pg_ Ph_ Kl_ MW_ MV_ Pe_ QR_ NU_ NV_ Jc_ Lc_ PW_
theorem tu_(n:Int):PC Tryz.prog 104 [.int .i64 n] (.bool (decide (0≤n∧n≤32768))):=by
 refine PC.fact 5 ub_ (by simp) ⟨trivial,trivial⟩ trivial ?_;unfold lS_;refine bd ?_;by_cases h:0≤n
 ·have e:decide (0≤n)=true:=by simpa using h
  repeat(first|refine aa_ ?_|simp only[go_sem,e])
  refine⟨_,(by first|rfl|exact evd),.inl ?_⟩;refine evg ?_;try simp[h]
 ·have e:decide (0≤n)=false:=by simpa using h
  repeat(first|refine aa_ ?_|simp only[go_sem,e])
  refine⟨_,(by first|rfl|exact evd),.inl ?_⟩;refine evg ?_;try simp[h]
theorem QM_{α:Type}(l:List α):((l.length:Int)==0)=decide (l=[]):=by cases l<;>simp<;>omega
theorem He_(a:Int×Rt×Cp×List Int):PC Tryz.prog 105 [.agg (aX_ (dT_ a))] (.bool (decide (a=dj_))):=by
 refine PC.fact 5 lh_ (by simp) ⟨Bj_ a,trivial⟩ trivial ?_;unfold fO_;refine bd ?_;obtain⟨s,r,c,l⟩:=a;have e4:=QM_ l;by_cases h1:s=0
 ·subst h1
  by_cases h2:r=rt0
  ·have e2:decide (r=rt0)=true:=by simpa using h2
   by_cases h3:c=⟨0,rt0⟩
   ·have e3:decide (c=⟨0,rt0⟩)=true:=by simpa using h3
    repeat(first|refine aa_ ?_|simp only[go_sem,e2,e3,e4,dT_])
    refine⟨_,(by first|rfl|exact evd),.inl ?_⟩;refine evg ?_;simp[dj_,cp0,h2,h3]
   ·have e3:decide (c=⟨0,rt0⟩)=false:=by simpa using h3
    repeat(first|refine aa_ ?_|simp only[go_sem,e2,e3,e4,dT_])
    refine⟨_,(by first|rfl|exact evd),.inl ?_⟩;refine evg ?_;simp[dj_,cp0,h2,h3]
  ·have e2:decide (r=rt0)=false:=by simpa using h2
   repeat(first|refine aa_ ?_|simp only[go_sem,e2,e4,dT_])
   refine⟨_,(by first|rfl|exact evd),.inl ?_⟩;refine evg ?_;simp[dj_,h2]
 ·have e1:(s==0)=false:=by simpa using h1
  repeat(first|refine aa_ ?_|simp only[go_sem,e1,e4,dT_])
  refine⟨_,(by first|rfl|exact evd),.inl ?_⟩;refine evg ?_;simp[dj_,h1]
theorem wn_(a:Cv):PC Tryz.prog 106 [.agg (bC_ (gQ_ a))] (.bool (decide (a=fP_))):=by
 refine PC.fact 5 sm_ (by simp) ⟨(ib_ _).2 (qs_ a),trivial⟩ trivial ?_;unfold kA_;refine bd ?_;obtain⟨s,t,r,l⟩:=a;have e4:=QM_ l;by_cases h1:s=0
 ·subst h1
  by_cases h2:t=0
  ·subst h2
   by_cases h3:r=rt0
   ·have e3:decide (r=rt0)=true:=by simpa using h3
    repeat(first|refine aa_ ?_|simp only[go_sem,e3,e4,gQ_])
    refine⟨_,(by first|rfl|exact evd),.inl ?_⟩;refine evg ?_;simp[fP_,h3]
   ·have e3:decide (r=rt0)=false:=by simpa using h3
    repeat(first|refine aa_ ?_|simp only[go_sem,e3,e4,gQ_])
    refine⟨_,(by first|rfl|exact evd),.inl ?_⟩;refine evg ?_;simp[fP_,h3]
  ·have e2:(t==0)=false:=by simpa using h2
   repeat(first|refine aa_ ?_|simp only[go_sem,e2,e4,gQ_])
   refine⟨_,(by first|rfl|exact evd),.inl ?_⟩;refine evg ?_;simp[fP_,h2]
 ·have e1:(s==0)=false:=by simpa using h1
  repeat(first|refine aa_ ?_|simp only[go_sem,e1,e4,gQ_])
  refine⟨_,(by first|rfl|exact evd),.inl ?_⟩;refine evg ?_;simp[fP_,h1]
def prs(fs:List (Int×Bool)):List (List AV):=fs.map fun f=>[.int .i64 f.1,.bool f.2]
theorem GY_(fs:List (Int×Bool)):(prs fs).length=fs.length:=by simp[prs]
theorem MA_{fs:List (Int×Bool)}{i:Nat}(h:i<fs.length):(prs fs).getD i []=[.int .i64 fs[i].1,.bool fs[i].2]:=by
 simp[prs,h]
theorem Lx_(fs:List (Int×Bool)):dx_ (prs fs):=by
 induction fs with
 |nil=>trivial
 |cons f fs ih=>exact⟨⟨trivial,trivial,trivial⟩,ih⟩
theorem KA_(ρ:Nat→Nat)(fs:List (Int×Bool)):cj_ ρ (prs fs)=prs fs:=(Lx_ fs).ren ρ
theorem Ms_(σ:St)(zs:List Nat)(fs:List (Int×Bool)):eL_ σ zs (prs fs)=prs fs:=(Lx_ fs).fz σ zs
attribute [go_sem] GY_ KA_ Ms_
def okF(k:Int)(fs:List (Int×Bool))(i:Nat):Bool:=if h:i<fs.length then ((fs[i].1==k) || fs[i].2)&&okF k fs (i+1)else true
termination_by fs.length-i
theorem wo_{k:Int}{fs:List (Int×Bool)}{i:Nat}(h:i<fs.length):okF k fs i=(((fs[i].1==k) || fs[i].2)&&okF k fs (i+1)):=by rw[okF,dif_pos h]
theorem Ij_{k:Int}{fs:List (Int×Bool)}{i:Nat}(h:¬i<fs.length):okF k fs i=true:=by rw[okF,dif_neg h]
def IQ_(x:OpV):List (Int×Bool):=
 [(2,decide (x.blk=bj_)),(3,decide (x.att=dj_)),(4,decide (x.slg.1=fP_)&&decide (x.slg.2=fP_)),(5,decide (x.tab.1=cp0)&&decide (x.tab.2=[])),(6,decide (x.vdt=bL_)),(8,(x.write==0)&&(x.keep==0))]
def ud_(x:OpV):Bool:=okF x.kind (IQ_ x) 0
set_option maxHeartbeats 4000000 in
theorem JX_(x:OpV):PC Tryz.prog 60 [.agg (aI_ (opL x))] (.bool (ud_ x)):=by
 refine PC.fact 6 yA_ (by simp) ⟨dz_ x,trivial⟩ trivial ?_;unfold oS_;refine bd ?_;have k1:=He_ x.att;have k2:=wn_ x.slg.1;have k3:=wn_ x.slg.2;have e5:=QM_ x.tab.2;have hz:ud_ x=okF x.kind (IQ_ x) 0:=rfl;unfold IQ_ at hz;have z0:bj_=⟨⟨⟨0,rt0⟩,⟨0,rt0⟩⟩,0,rt0,rt0,rt0,wd0,wd0,⟨0,rt0⟩,⟨0,rt0⟩,false⟩:=rfl;rw[z0]at hz;generalize hB1:decide (x.blk=⟨⟨⟨0,rt0⟩,⟨0,rt0⟩⟩,0,rt0,rt0,rt0,wd0,wd0,⟨0,rt0⟩,⟨0,rt0⟩,false⟩)=B1 at *;generalize hB2:decide (x.att=dj_)=B2 at *;generalize hB3:decide (x.slg.1=fP_)=B3 at *;generalize hB4:decide (x.slg.2=fP_)=B4 at *;generalize hB6:decide (x.tab.2=[])=B6 at *;rw[show cp0=⟨0,rt0⟩from rfl,show bL_=⟨0,0,rt0⟩from rfl]at hz;generalize hB5:decide (x.tab.1=⟨0,rt0⟩)=B5 at *;generalize hB7:decide (x.vdt=⟨0,0,rt0⟩)=B7 at *;generalize hB8:(x.write==0)=B8 at *;generalize hB9:(x.keep==0)=B9 at *;rw[hz];generalize hf:[((2:Int),B1),(3,B2),(4,B3&&B4),(5,B5&&B6),(6,B7),(8,B8&&B9)]=fs;have hlen:fs.length=6:=by rw[←hf];rfl
 have hp:[[.int .i64 2,.bool B1],[.int .i64 3,.bool B2],[.int .i64 4,.bool (B3&&B4)],[.int .i64 5,.bool (B5&&B6)],[.int .i64 6,.bool B7],[.int .i64 8,.bool (B8&&B9)]]=prs fs:=by rw[←hf];rfl
 clear hz;cases B3<;>cases B5<;>cases B8<;>simp only[Bool.false_and,Bool.true_and]at hp <;>
 (
  repeat(first|refine aa_ ?_|simp only[go_sem,hB1,hB5,hB7,hB8,hB9,e5,hp])
  refine ay_ (k1) ?_;repeat(first|refine aa_ ?_|simp only[go_sem,hB1,hB5,hB7,hB8,hB9,e5,hp])
  refine ay_ (k2) ?_;repeat(first|refine aa_ ?_|simp only[go_sem,hB1,hB5,hB7,hB8,hB9,e5,hp])
  try refine ay_ (k3) ?_
  repeat(first|refine aa_ ?_|simp only[go_sem,hB1,hB5,hB7,hB8,hB9,e5,hp])
  refine bF_ (fun i:Nat=>⟨6,[.dead,.ptr 0 0,.bool false,.dead,.dead,.dead],[(56,.int .i64 i),(55,.int .i64 6),(54,.sl 2 true (prs fs))]⟩) (fun _=>[.var (aI_ (opL x))]) (fun i=>6-i)
   (fun i=>i≤6∧okF x.kind fs i=okF x.kind fs 0) 0 ⟨by omega,rfl⟩ ?_ ?_
  ·refine GC.mkT [] [0] (by simp) rfl (by simp) (by simp) evd evd evd
  rintro i ⟨i1,i2⟩;try dsimp only
  try refine aa_ ?_
  refine au_ evd (fun h=>?_) (fun h=>?_)
  ·have hi:i<6:=by simp at h;omega
   have hg:=MA_ (fs:=fs) (i:=i) (by omega);have hw:=ag_ hi (by omega);rw[wo_ (by omega)]at i2;by_cases hk:fs[i].1=x.kind
   ·have hk1:(fs[i].1 != x.kind)=false:=by simp[hk]
    have hk2:(fs[i].1==x.kind)=true:=by simp[hk]
    rw[hk2]at i2;repeat(first|refine aa_ ?_|simp only[go_sem,hg,hk1,hw,hlen])
    refine ab_ ?_;repeat(first|refine aa_ ?_|simp only[go_sem,hg,hk1,hw,hlen])
    exact⟨i+1,⟨by omega,by simpa using i2⟩,by omega,by refine GC.mkT [] [0] (by simp) rfl (by simp) (by simp) evd evd evd⟩
   ·have hk1:(fs[i].1 != x.kind)=true:=by simp[hk]
    have hk2:(fs[i].1==x.kind)=false:=by simp[hk]
    rw[hk2]at i2;repeat(first|refine aa_ ?_|simp only[go_sem,hg,hk1,hw,hlen])
    cases hb:fs[i].2
    ·rw[hb,Bool.false_or,Bool.false_and]at i2;rw[←i2];refine ac_ ?_ (by(try simp only[go_sem,hb]);try exact evd);try refine aa_ ?_
     exact ah_
    ·refine ab_ ?_ (by(try simp only[go_sem,hb]);try exact evd);repeat(first|refine aa_ ?_|simp only[go_sem,hg,hk1,hw,hlen])
     exact⟨i+1,⟨by omega,by simpa[hb]using i2⟩,by omega,by refine GC.mkT [] [0] (by simp) rfl (by simp) (by simp) evd evd evd⟩
  ·have hi:i=6:=by simp at h;omega
   subst hi;rw[←i2,Ij_ (by omega)];try refine aa_ ?_
   exact ah_
 )
structure je_(x:OpV):Prop where
 att:x.att.2.2.2.length≤140737488355328
 fst:x.slg.1.2.2.2.length≤140737488355328
 snd:x.slg.2.2.2.2.length≤140737488355328
 tab:x.tab.2.length≤140737488355328
def CC_(a b:Int×Rt×Cp×List Int):Bool:=decide (a.1=b.1∧a.2.1=b.2.1∧a.2.2.1=b.2.2.1∧a.2.2.2=b.2.2.2)
def sJ_(a b:Cv):Bool:=decide (a.1=b.1∧a.2.1=b.2.1∧a.2.2.1=b.2.2.1∧a.2.2.2=b.2.2.2)
def CN_(a b:Tv):Bool:=decide (a.1=b.1∧a.2=b.2)
def no_(x y:OpV):Bool:=(x.kind==y.kind)&&(decide (x.blk=y.blk)&&(CC_ x.att y.att&&((sJ_ x.slg.1 y.slg.1&&sJ_ x.slg.2 y.slg.2)&&(CN_ x.tab y.tab&&(decide (x.vdt=y.vdt)&&((x.write==y.write)&&(x.keep==y.keep)))))))
theorem Fo_(x:OpV):no_ x x=true:=by simp[no_,CC_,sJ_,CN_]
set_option maxHeartbeats 4000000 in
theorem Iz_(x y:OpV)(hx:je_ x)(hy:je_ y):PC Tryz.prog 62 [.agg (aI_ (opL x)),.agg (aI_ (opL y))] (.bool (no_ x y)):=by
 refine PC.fact 5 yv_ (by simp) ⟨dz_ x,dz_ y,trivial⟩ trivial ?_;unfold oN_ no_;refine bd ?_;have k1:PC Tryz.prog 48 [.agg (aX_ (dT_ x.att)),.agg (aX_ (dT_ y.att))] (.bool (CC_ x.att y.att)):=NF_ (dT_ x.att) (dT_ y.att) _ _ false false rfl rfl hx.att hy.att;have k2:PC Tryz.prog 51 [.agg (bI_ (dP_ x.slg)),.agg (bI_ (dP_ y.slg))] (.bool (sJ_ x.slg.1 y.slg.1&&sJ_ x.slg.2 y.slg.2)):=NG_ (dP_ x.slg) (dP_ y.slg) _ _ _ _ false false false false rfl rfl rfl rfl hx.fst hx.snd hy.fst hy.snd;have k3:PC Tryz.prog 54 [.agg (aS_ (fo_ x.tab)),.agg (aS_ (fo_ y.tab))] (.bool (CN_ x.tab y.tab)):=NH_ (fo_ x.tab) (fo_ y.tab) _ _ false false rfl rfl hx.tab hy.tab;generalize h1:(x.kind==y.kind)=B1 at *;generalize h2:decide (x.blk=y.blk)=B2 at *;generalize CC_ x.att y.att=B3 at *;generalize (sJ_ x.slg.1 y.slg.1&&sJ_ x.slg.2 y.slg.2)=B4 at *;generalize CN_ x.tab y.tab=B5 at *;generalize h6:decide (x.vdt=y.vdt)=B6 at *;generalize h7:(x.write==y.write)=B7 at *;generalize h8:(x.keep==y.keep)=B8 at *;cases B1
 ·repeat(first|refine aa_ ?_|simp only[go_sem,h1])
  exact ah_
 cases B2
 ·repeat(first|refine aa_ ?_|simp only[go_sem,h1,h2])
  exact ah_
 repeat(first|refine aa_ ?_|simp only[go_sem,h1,h2])
 refine ae_ k1 ?_;cases B3
 ·repeat(first|refine aa_ ?_|simp only[go_sem,h1,h2])
  exact ah_
 repeat(first|refine aa_ ?_|simp only[go_sem,h1,h2])
 refine ae_ k2 ?_;cases B4
 ·repeat(first|refine aa_ ?_|simp only[go_sem,h1,h2])
  exact ah_
 repeat(first|refine aa_ ?_|simp only[go_sem,h1,h2])
 refine ae_ k3 ?_;cases B5
 ·repeat(first|refine aa_ ?_|simp only[go_sem,h1,h2,h6])
  exact ah_
 cases B6
 ·repeat(first|refine aa_ ?_|simp only[go_sem,h1,h2,h6])
  exact ah_
 cases B7
 ·repeat(first|refine aa_ ?_|simp only[go_sem,h1,h2,h6,h7])
  exact ah_
 ·repeat(first|refine aa_ ?_|simp only[go_sem,h1,h2,h6,h7,h8])
  exact ah_
structure OpU(x:OpV):Prop where
 blk:hZ_ x.blk
 slot:U64 x.att.1
 ep:U64 x.att.2.2.1.ep
 att:x.att.2.2.2.length≤140737488355328
 fst:kc_ (gQ_ x.slg.1) x.slg.1.2.2.2 false
 snd:kc_ (gQ_ x.slg.2) x.slg.2.2.2.2 false
 tab:xu_ (fo_ x.tab) x.tab.2 false
 tag:U64 x.vdt.tag
theorem OpU.len{x:OpV}(h:OpU x):je_ x:=⟨h.att,h.fst.len,h.snd.len,h.tab.len⟩
def ki_(x:OpV):Bool:=!(decide (0≤x.write∧x.write≤32768)&&decide (0≤x.keep∧x.keep≤32768))
def fld(x:OpV):List UInt8×Int:=
 if x.kind=2 then (GJ_ x.blk,0)
 else if x.kind=3 then (if bt_ x.att.2.2.2 1024=0 then Dz_ (dT_ x.att) x.att.2.2.2 else [],bt_ x.att.2.2.2 1024)
 else if x.kind=4 then (if ha_ x.slg.1.2.2.2 x.slg.2.2.2.2=0 then ry_ (dP_ x.slg) x.slg.1.2.2.2 x.slg.2.2.2.2 else [],ha_ x.slg.1.2.2.2 x.slg.2.2.2.2)
 else if x.kind=5 then (if 1024<x.tab.2.length then []else rE_ (fo_ x.tab) x.tab.2,if 1024<x.tab.2.length then 3 else 0)
 else if x.kind=6 then (if mg_ x.vdt then []else FN_ x.vdt,if mg_ x.vdt then 3 else 0)
 else if x.kind=8 then (if ki_ x then ([],3)else (aJ_ x.write.toNat++aJ_ x.keep.toNat,0))
 else ([],0)
set_option maxHeartbeats 4000000 in
theorem ts_(x:OpV)(hx:OpU x):PC Tryz.prog 59 [.agg (aI_ (opL x))] (.tup [.sl 1 false (bts (fld x).1),.int .i64 (fld x).2]):=by
 refine PC.fact 4 vH_ (by simp) ⟨dz_ x,trivial⟩ ⟨bO_ _,trivial,trivial⟩ ?_;unfold mB_ fld;refine bd ?_;by_cases h2:x.kind=2
 ·rw[if_pos h2];have e2:(x.kind==2)=true:=by simp[h2]
  try refine aa_ ?_
  refine ac_ ?_ (by(try simp only[go_sem,e2]);try exact evd);try refine aa_ ?_
  refine RV_ (Ns_ x.blk hx.blk) ?_
  exact ah_
 rw[if_neg h2];have n2:(x.kind==2)=false:=by simp[h2]
 by_cases h3:x.kind=3
 ·rw[if_pos h3];have e3:(x.kind==3)=true:=by simp[h3]
  have k3:=Nr_ (dT_ x.att) x.att.2.2.2 false rfl hx.att hx.slot hx.ep;try refine aa_ ?_
  refine ab_ ?_ (by(try simp only[go_sem,n2]);try exact evd);try refine aa_ ?_
  refine ac_ ?_ (by(try simp only[go_sem,e3]);try exact evd);try refine aa_ ?_
  refine RV_ k3 ?_
  exact ah_
 rw[if_neg h3];have n3:(x.kind==3)=false:=by simp[h3]
 by_cases h4:x.kind=4
 ·rw[if_pos h4];have e4:(x.kind==4)=true:=by simp[h4]
  have k4:=Nt_ (dP_ x.slg) x.slg.1.2.2.2 x.slg.2.2.2.2 false false hx.fst hx.snd;try refine aa_ ?_
  refine ab_ ?_ (by(try simp only[go_sem,n2]);try exact evd);try refine aa_ ?_
  refine ab_ ?_ (by(try simp only[go_sem,n3]);try exact evd);try refine aa_ ?_
  refine ac_ ?_ (by(try simp only[go_sem,e4]);try exact evd);try refine aa_ ?_
  refine RV_ k4 ?_
  exact ah_
 rw[if_neg h4];have n4:(x.kind==4)=false:=by simp[h4]
 by_cases h5:x.kind=5
 ·rw[if_pos h5];have e5:(x.kind==5)=true:=by simp[h5]
  have k5:=Nu_ (fo_ x.tab) x.tab.2 false hx.tab;try refine aa_ ?_
  refine ab_ ?_ (by(try simp only[go_sem,n2]);try exact evd);try refine aa_ ?_
  refine ab_ ?_ (by(try simp only[go_sem,n3]);try exact evd);try refine aa_ ?_
  refine ab_ ?_ (by(try simp only[go_sem,n4]);try exact evd);try refine aa_ ?_
  refine ac_ ?_ (by(try simp only[go_sem,e5]);try exact evd);try refine aa_ ?_
  refine RV_ k5 ?_
  exact ah_
 rw[if_neg h5];have n5:(x.kind==5)=false:=by simp[h5]
 by_cases h6:x.kind=6
 ·rw[if_pos h6];have e6:(x.kind==6)=true:=by simp[h6]
  have k6:=Nv_ x.vdt hx.tag;try refine aa_ ?_
  refine ab_ ?_ (by(try simp only[go_sem,n2]);try exact evd);try refine aa_ ?_
  refine ab_ ?_ (by(try simp only[go_sem,n3]);try exact evd);try refine aa_ ?_
  refine ab_ ?_ (by(try simp only[go_sem,n4]);try exact evd);try refine aa_ ?_
  refine ab_ ?_ (by(try simp only[go_sem,n5]);try exact evd);try refine aa_ ?_
  refine ac_ ?_ (by(try simp only[go_sem,e6]);try exact evd);try refine aa_ ?_
  refine RV_ k6 ?_
  exact ah_
 rw[if_neg h6];have n6:(x.kind==6)=false:=by simp[h6]
 try refine aa_ ?_
 refine ab_ ?_ (by(try simp only[go_sem,n2]);try exact evd);try refine aa_ ?_
 refine ab_ ?_ (by(try simp only[go_sem,n3]);try exact evd);try refine aa_ ?_
 refine ab_ ?_ (by(try simp only[go_sem,n4]);try exact evd);try refine aa_ ?_
 refine ab_ ?_ (by(try simp only[go_sem,n5]);try exact evd);try refine aa_ ?_
 refine ab_ ?_ (by(try simp only[go_sem,n6]);try exact evd);try refine aa_ ?_
 by_cases h8:x.kind=8
 ·rw [if_pos h8]
  have e8:(x.kind==8)=true:=by simp[h8]
  refine ac_ ?_ (by(try simp only[go_sem,e8]);try exact evd);have s1:=tu_ x.write;have s2:=tu_ x.keep;by_cases hw:0≤x.write∧x.write≤32768
  ·rw[decide_eq_true hw]at s1
   by_cases hk:0≤x.keep∧x.keep≤32768
   ·rw[decide_eq_true hk]at s2;have hb:ki_ x=false:=by simp[ki_,hw,hk]
    have w1:IntKind.u64.wrap x.write=x.write:=aH_ (by omega) (by omega);have w2:IntKind.u64.wrap x.keep=x.keep:=aH_ (by omega) (by omega);have q1:=bH_ (n:=x.write.toNat) (by omega);have q2:=bH_ (n:=x.keep.toNat) (by omega);have p1:=(cd_ x.write (by omega) (by omega)).nil (by omega);have p2:=(cd_ x.keep (by omega) (by omega)).own (aJ_ x.write.toNat) (by omega);rw[hb];simp only[Bool.false_eq_true,if_false];repeat(first|refine aa_ ?_|simp only[go_sem,w1,w2])
    refine ae_ s1 ?_;repeat(first|refine aa_ ?_|simp only[go_sem,w1,w2])
    refine ae_ s2 ?_;repeat(first|refine aa_ ?_|simp only[go_sem,w1,w2])
    refine ab_ ?_;repeat(first|refine aa_ ?_|simp only[go_sem,w1,w2])
    refine aQ_ [] (p1) (by simp) evd (bd_.mk' (by simp) (by simp) evd) ?_;refine evg ?_;repeat(first|refine aa_ ?_|simp only[go_sem,w1,w2])
    refine aQ_ [1] (p2) (by simp) evd (bd_.mk' (by simp) (by simp) evd) ?_;refine evg ?_;try refine aa_ ?_
    exact ah_
   ·rw[decide_eq_false hk]at s2;have hb:ki_ x=true:=by simp[ki_,hk]
    rw[hb];simp only[if_true];try refine aa_ ?_
    refine RV_ s1 ?_
    refine RV_ s2 ?_
    refine Rf_ ?_
    refine⟨_,rfl,.inr ⟨.tup [.sl 0 true [],.int .i64 3],evd,⟨trivial,trivial,trivial⟩,Wk.tup ⟨Wk.empty _ _ _,Wk.refl _,trivial⟩⟩⟩
  ·rw[decide_eq_false hw]at s1;have hb:ki_ x=true:=by simp[ki_,hw]
   rw[hb];simp only[if_true];try refine aa_ ?_
   refine RV_ s1 ?_
   refine Rf_ ?_
   refine⟨_,rfl,.inr ⟨.tup [.sl 0 true [],.int .i64 3],evd,⟨trivial,trivial,trivial⟩,Wk.tup ⟨Wk.empty _ _ _,Wk.refl _,trivial⟩⟩⟩
 ·rw[if_neg h8];have n8:(x.kind==8)=false:=by simp[h8]
  refine ab_ ?_ (by(try simp only[go_sem,n8]);try exact evd);try refine aa_ ?_
  refine⟨_,rfl,.inr ⟨.tup [.sl 0 true [],.int .i64 0],evd,⟨trivial,trivial,trivial⟩,Wk.tup ⟨Wk.empty _ _ _,Wk.refl _,trivial⟩⟩⟩
set_option maxHeartbeats 4000000 in
theorem tv_(x:OpV)(hx:OpU x):PC Tryz.prog 61 [.agg (aI_ (opL x))] (.tup [.sl 1 false (bts (fld x).1),.int .i64 (fld x).2]):=by
 refine PC.fact 4 Ch_ (by simp) ⟨dz_ x,trivial⟩ ⟨bO_ _,trivial,trivial⟩ ?_;unfold qp_ fld;refine bd ?_;by_cases h2:x.kind=2
 ·rw[if_pos h2];have e2:(x.kind==2)=true:=by simp[h2]
  try refine aa_ ?_
  refine ac_ ?_ (by(try simp only[go_sem,e2]);try exact evd);try refine aa_ ?_
  refine RV_ (NP_ x.blk hx.blk) ?_
  exact ah_
 rw[if_neg h2];have n2:(x.kind==2)=false:=by simp[h2]
 by_cases h3:x.kind=3
 ·rw[if_pos h3];have e3:(x.kind==3)=true:=by simp[h3]
  have k3:=NO_ (dT_ x.att) x.att.2.2.2 false rfl hx.att hx.slot hx.ep;try refine aa_ ?_
  refine ab_ ?_ (by(try simp only[go_sem,n2]);try exact evd);try refine aa_ ?_
  refine ac_ ?_ (by(try simp only[go_sem,e3]);try exact evd);try refine aa_ ?_
  refine RV_ k3 ?_
  exact ah_
 rw[if_neg h3];have n3:(x.kind==3)=false:=by simp[h3]
 by_cases h4:x.kind=4
 ·rw[if_pos h4];have e4:(x.kind==4)=true:=by simp[h4]
  have k4:=Fs_ (dP_ x.slg) x.slg.1.2.2.2 x.slg.2.2.2.2 false false hx.fst hx.snd;try refine aa_ ?_
  refine ab_ ?_ (by(try simp only[go_sem,n2]);try exact evd);try refine aa_ ?_
  refine ab_ ?_ (by(try simp only[go_sem,n3]);try exact evd);try refine aa_ ?_
  refine ac_ ?_ (by(try simp only[go_sem,e4]);try exact evd);try refine aa_ ?_
  refine RV_ k4 ?_
  exact ah_
 rw[if_neg h4];have n4:(x.kind==4)=false:=by simp[h4]
 by_cases h5:x.kind=5
 ·rw[if_pos h5];have e5:(x.kind==5)=true:=by simp[h5]
  have k5:=NQ_ (fo_ x.tab) x.tab.2 false hx.tab;try refine aa_ ?_
  refine ab_ ?_ (by(try simp only[go_sem,n2]);try exact evd);try refine aa_ ?_
  refine ab_ ?_ (by(try simp only[go_sem,n3]);try exact evd);try refine aa_ ?_
  refine ab_ ?_ (by(try simp only[go_sem,n4]);try exact evd);try refine aa_ ?_
  refine ac_ ?_ (by(try simp only[go_sem,e5]);try exact evd);try refine aa_ ?_
  refine RV_ k5 ?_
  exact ah_
 rw[if_neg h5];have n5:(x.kind==5)=false:=by simp[h5]
 by_cases h6:x.kind=6
 ·rw[if_pos h6];have e6:(x.kind==6)=true:=by simp[h6]
  have k6:=NR_ x.vdt hx.tag;try refine aa_ ?_
  refine ab_ ?_ (by(try simp only[go_sem,n2]);try exact evd);try refine aa_ ?_
  refine ab_ ?_ (by(try simp only[go_sem,n3]);try exact evd);try refine aa_ ?_
  refine ab_ ?_ (by(try simp only[go_sem,n4]);try exact evd);try refine aa_ ?_
  refine ab_ ?_ (by(try simp only[go_sem,n5]);try exact evd);try refine aa_ ?_
  refine ac_ ?_ (by(try simp only[go_sem,e6]);try exact evd);try refine aa_ ?_
  refine RV_ k6 ?_
  exact ah_
 rw[if_neg h6];have n6:(x.kind==6)=false:=by simp[h6]
 try refine aa_ ?_
 refine ab_ ?_ (by(try simp only[go_sem,n2]);try exact evd);try refine aa_ ?_
 refine ab_ ?_ (by(try simp only[go_sem,n3]);try exact evd);try refine aa_ ?_
 refine ab_ ?_ (by(try simp only[go_sem,n4]);try exact evd);try refine aa_ ?_
 refine ab_ ?_ (by(try simp only[go_sem,n5]);try exact evd);try refine aa_ ?_
 refine ab_ ?_ (by(try simp only[go_sem,n6]);try exact evd);try refine aa_ ?_
 by_cases h8:x.kind=8
 ·rw[if_pos h8]
  have e8:(x.kind==8)=true:=by simp[h8]
  refine ac_ ?_ (by(try simp only[go_sem,e8]);try exact evd);by_cases a1:x.write<0
  ·have d1:decide (x.write<0)=true:=by simpa using a1
   have hb:ki_ x=true:=by simp[ki_];omega
   rw[hb];simp only[if_true];repeat(first|refine aa_ ?_|simp only[go_sem,d1])
   refine Rf_ ?_
   refine⟨_,rfl,.inr ⟨.tup [.sl 0 true [],.int .i64 3],evd,⟨trivial,trivial,trivial⟩,Wk.tup ⟨Wk.empty _ _ _,Wk.refl _,trivial⟩⟩⟩
  have d1:decide (x.write<0)=false:=by simpa using a1
  by_cases a2:32768<x.write
  ·have d2:decide (32768<x.write)=true:=by simpa using a2
   have hb:ki_ x=true:=by simp[ki_];omega
   rw[hb];simp only[if_true];repeat(first|refine aa_ ?_|simp only[go_sem,d1,d2])
   refine Rf_ ?_
   refine⟨_,rfl,.inr ⟨.tup [.sl 0 true [],.int .i64 3],evd,⟨trivial,trivial,trivial⟩,Wk.tup ⟨Wk.empty _ _ _,Wk.refl _,trivial⟩⟩⟩
  have d2:decide (32768<x.write)=false:=by simpa using a2
  by_cases a3:x.keep<0
  ·have d3:decide (x.keep<0)=true:=by simpa using a3
   have hb:ki_ x=true:=by simp[ki_];omega
   rw[hb];simp only[if_true];repeat(first|refine aa_ ?_|simp only[go_sem,d1,d2,d3])
   refine Rf_ ?_
   refine⟨_,rfl,.inr ⟨.tup [.sl 0 true [],.int .i64 3],evd,⟨trivial,trivial,trivial⟩,Wk.tup ⟨Wk.empty _ _ _,Wk.refl _,trivial⟩⟩⟩
  have d3:decide (x.keep<0)=false:=by simpa using a3
  by_cases a4:32768<x.keep
  ·have d4:decide (32768<x.keep)=true:=by simpa using a4
   have hb:ki_ x=true:=by simp[ki_];omega
   rw[hb];simp only[if_true];repeat(first|refine aa_ ?_|simp only[go_sem,d1,d2,d3,d4])
   refine Rf_ ?_
   refine⟨_,rfl,.inr ⟨.tup [.sl 0 true [],.int .i64 3],evd,⟨trivial,trivial,trivial⟩,Wk.tup ⟨Wk.empty _ _ _,Wk.refl _,trivial⟩⟩⟩
  have d4:decide (32768<x.keep)=false:=by simpa using a4
  have hb:ki_ x=false:=by simp[ki_];omega
  have w1:IntKind.u64.wrap x.write=x.write:=aH_ (by omega) (by omega);have w2:IntKind.u64.wrap x.keep=x.keep:=aH_ (by omega) (by omega);have q1:=bH_ (n:=x.write.toNat) (by omega);have q2:=bH_ (n:=x.keep.toNat) (by omega);have p1:=(bY_ x.write (by omega) (by omega)).nil (by omega);have p2:=(bY_ x.keep (by omega) (by omega)).own (aJ_ x.write.toNat) (by omega);rw[hb];simp only[Bool.false_eq_true,if_false];repeat(first|refine aa_ ?_|simp only[go_sem,d1,d2,d3,d4])
  refine ab_ ?_;repeat(first|refine aa_ ?_|simp only[go_sem,w1,w2])
  refine aQ_ [] (p1) (by simp) evd (bd_.mk' (by simp) (by simp) evd) ?_;refine evg ?_;repeat(first|refine aa_ ?_|simp only[go_sem,w1,w2])
  refine aQ_ [1] (p2) (by simp) evd (bd_.mk' (by simp) (by simp) evd) ?_;refine evg ?_;try refine aa_ ?_
  exact ah_
 ·rw[if_neg h8];have n8:(x.kind==8)=false:=by simp[h8]
  refine ab_ ?_ (by(try simp only[go_sem,n8]);try exact evd);try refine aa_ ?_
  refine⟨_,rfl,.inr ⟨.tup [.sl 0 true [],.int .i64 0],evd,⟨trivial,trivial,trivial⟩,Wk.tup ⟨Wk.empty _ _ _,Wk.refl _,trivial⟩⟩⟩
def vOp(x:OpV):Int:=if x.kind<1∨8<x.kind then 2 else if (fld x).2≠0 then (fld x).2 else if ud_ x then 0 else 2
theorem Cj_(x:OpV):ud_ x=(((((2:Int)==x.kind) || decide (x.blk=bj_)))&&((((3:Int)==x.kind) || decide (x.att=dj_))&&((((4:Int)==x.kind) || (decide (x.slg.1=fP_)&&decide (x.slg.2=fP_)))&&((((5:Int)==x.kind) || (decide (x.tab.1=cp0)&&decide (x.tab.2=[])))&&((((6:Int)==x.kind) || decide (x.vdt=bL_))&&(((8:Int)==x.kind) || ((x.write==0)&&(x.keep==0)))))))):=by
 unfold ud_ IQ_;rw[wo_ (by simp),wo_ (by simp),wo_ (by simp),wo_ (by simp),wo_ (by simp),wo_ (by simp),Ij_ (by simp)];simp
theorem pM_(a:Int×Rt×Cp×List Int):CC_ a dj_=decide (a=dj_):=by
 obtain⟨s,r,c,l⟩:=a;show decide (s=0∧r=rt0∧c=cp0∧l=[])=_
 rw[Bool.eq_iff_iff];simp[dj_]
theorem pN_(a:Cv):sJ_ a fP_=decide (a=fP_):=by
 obtain⟨s,r,c,l⟩:=a;show decide (s=0∧r=0∧c=rt0∧l=[])=_
 rw[Bool.eq_iff_iff];simp[fP_]
theorem pO_(a:Tv):CN_ a cP_=(decide (a.1=cp0)&&decide (a.2=[])):=by show decide (a.1=cp0∧a.2=[])=_;rw[Bool.eq_iff_iff];simp
theorem KI_(a:Int×Rt×Cp×List Int):CC_ a a=true:=by simp[CC_]
theorem KJ_(a:Cv):sJ_ a a=true:=by simp[sJ_]
theorem KM_(a:Tv):CN_ a a=true:=by simp[CN_]
def mask(x:OpV):OpV:=
 if x.kind=2 then ⟨x.kind,x.blk,dj_,cV_,cP_,bL_,0,0⟩
 else if x.kind=3 then ⟨x.kind,bj_,x.att,cV_,cP_,bL_,0,0⟩
 else if x.kind=4 then ⟨x.kind,bj_,dj_,x.slg,cP_,bL_,0,0⟩
 else if x.kind=5 then ⟨x.kind,bj_,dj_,cV_,x.tab,bL_,0,0⟩
 else if x.kind=6 then ⟨x.kind,bj_,dj_,cV_,cP_,x.vdt,0,0⟩
 else if x.kind=8 then ⟨x.kind,bj_,dj_,cV_,cP_,bL_,x.write,x.keep⟩
 else ⟨x.kind,bj_,dj_,cV_,cP_,bL_,0,0⟩
theorem gy_(x:OpV)(k:Int)(b:Blk)(a:Int×Rt×Cp×List Int)(s:Sv)(t:Tv)(v:Vdt)(w p:Int):no_ x ⟨k,b,a,s,t,v,w,p⟩=((x.kind==k)&&(decide (x.blk=b)&&(CC_ x.att a&&((sJ_ x.slg.1 s.1&&sJ_ x.slg.2 s.2)&&(CN_ x.tab t&&(decide (x.vdt=v)&&((x.write==w)&&(x.keep==p)))))))):=rfl
theorem Ak_(x:OpV):no_ x (mask x)=ud_ x:=by
 rw[Cj_,Bool.eq_iff_iff];unfold mask;split
 ·rename_i h;rw[gy_];simp[cV_,pM_,pN_,pO_,h]
 split
 ·rename_i h;rw[gy_];simp[cV_,pM_,pN_,pO_,KI_,h]
 split
 ·rename_i h;rw[gy_];simp[cV_,pM_,pN_,pO_,KJ_,h]
 split
 ·rename_i h;rw[gy_];simp[cV_,pM_,pN_,pO_,KM_,h]
 split
 ·rename_i h;rw[gy_];simp[cV_,pM_,pN_,pO_,h]
 split
 ·rename_i h;rw[gy_];simp[cV_,pM_,pN_,pO_,h]
 ·rename_i h2 h3 h4 h5 h6 h8;have n2:((2:Int)==x.kind)=false:=by simp;omega
  have n3:((3:Int)==x.kind)=false:=by simp;omega
  have n4:((4:Int)==x.kind)=false:=by simp;omega
  have n5:((5:Int)==x.kind)=false:=by simp;omega
  have n6:((6:Int)==x.kind)=false:=by simp;omega
  have n8:((8:Int)==x.kind)=false:=by simp;omega
  rw[gy_];simp[cV_,pM_,pN_,pO_,n2,n3,n4,n5,n6,n8]
theorem je_.mask{x:OpV}(h:je_ x):je_ (mask x):=by
 unfold Go.Proofs.YtipiipgpnkpejaaGreat.mask;(repeat' split)<;>exact⟨by first|exact h.att|simp[dj_],by first|exact h.fst|simp[cV_,fP_],by first|exact h.snd|simp[cV_,fP_],by first|exact h.tab|simp[cP_]⟩
theorem ch_{x y:SOp}(h1:x.kind=y.kind)(h2:x.blk=y.blk)(h3:WkC (aX_ x.att) (aX_ y.att))(h4:WkC (bI_ x.slg) (bI_ y.slg))(h5:WkC (aS_ x.tab) (aS_ y.tab))(h6:x.vdt=y.vdt)(h7:x.write=y.write)(h8:x.keep=y.keep):WkC (aI_ x) (aI_ y):=by
 obtain⟨a1,a2,a3,a4,a5,a6,a7,a8⟩:=x;obtain⟨b1,b2,b3,b4,b5,b6,b7,b8⟩:=y;simp only at h1 h2 h3 h4 h5 h6 h7 h8;subst h1 h2 h6 h7 h8;exact WkC.same _ ((WkC.refl _).app (h3.app (h4.app (h5.app ((WkC.refl _).app (WkC.refl _))))))
theorem bz_:WkC (aX_ cI_) (aX_ (dT_ dj_)):=WkC.same _ ((WkC.refl (rtc rt0)).app ((WkC.refl (cpC cp0)).app (WkC.one (Wk.empty 0 1 false) fun h=>h)))
theorem bA_:WkC (bI_ cz_) (bI_ (dP_ cV_)):=(uP_ 0 0 rt0 (Wk.empty 0 1 false) fun h=>h).app (uP_ 0 0 rt0 (Wk.empty 0 1 false) fun h=>h)
theorem bB_:WkC (aS_ ca_) (aS_ (fo_ cP_)):=(WkC.refl (cpC cp0)).app (WkC.one (Wk.empty 0 1 false) fun h=>h)
theorem hU_:WkC (aI_ dy_) (aI_ (opL opZ)):=ch_ rfl rfl bz_ bA_ bB_ rfl rfl rfl
set_option maxHeartbeats 4000000 in
theorem xq_(x:OpV)(hx:OpU x):PC Tryz.prog 19 [.agg (aI_ (opL x))] (.int .i64 (vOp x)):=by
 refine PC.fact 5 qS_ (by simp) ⟨dz_ x,trivial⟩ trivial ?_;unfold jt_ vOp;refine bd ?_;have k1:=ts_ x hx;have k2:=JX_ x;by_cases h1:x.kind<1
 ·have d1:decide (x.kind<1)=true:=by simpa using h1
  rw[if_pos (.inl h1)];repeat(first|refine aa_ ?_|simp only[go_sem,d1])
  refine Rf_ ?_
  exact ah_
 have d1:decide (x.kind<1)=false:=by simpa using h1
 by_cases h2:8<x.kind
 ·have d2:decide (8<x.kind)=true:=by simpa using h2
  rw[if_pos (.inr h2)];repeat(first|refine aa_ ?_|simp only[go_sem,d1,d2])
  refine Rf_ ?_
  exact ah_
 have d2:decide (8<x.kind)=false:=by simpa using h2
 rw[if_neg (by omega)];repeat(first|refine aa_ ?_|simp only[go_sem,d1,d2])
 refine ab_ ?_;generalize fld x=F at *;obtain⟨f,e⟩:=F;dsimp only at k1 ⊢;try refine aa_ ?_
 refine RV_ k1 ?_
 by_cases he:e=0
 ·subst he
  refine ab_ ?_;generalize ud_ x=I at *;try refine aa_ ?_
  refine ae_ k2 ?_;cases I
  ·try refine aa_ ?_
   refine Rf_ ?_
   exact ah_
  ·try refine aa_ ?_
   refine Re_ ?_
   exact ah_
 ·have he':(e != 0)=true:=by simpa using he
  rw[if_pos he];refine ac_ ?_ (by(try simp only[go_sem,he']);try exact evd);try refine aa_ ?_
  exact ah_
set_option maxHeartbeats 8000000 in
theorem ns_(x:OpV)(hx:OpU x):PC Tryz.prog 20 [.agg (aI_ (opL x))] (.int .i64 (vOp x)):=by
 refine PC.fact 6 qP_ (by simp) ⟨dz_ x,trivial⟩ trivial ?_;unfold jr_ vOp;refine bd ?_;have k1:=tv_ x hx;have k2:=Iz_ x (mask x) hx.len hx.len.mask;rw[Ak_]at k2;by_cases h1:x.kind<1
 ·have d1:decide (x.kind<1)=true:=by simpa using h1
  rw[if_pos (.inl h1)];repeat(first|refine aa_ ?_|simp only[go_sem,d1])
  refine Rf_ ?_
  exact ah_
 have d1:decide (x.kind<1)=false:=by simpa using h1
 by_cases h2:8<x.kind
 ·have d2:decide (8<x.kind)=true:=by simpa using h2
  rw[if_pos (.inr h2)];repeat(first|refine aa_ ?_|simp only[go_sem,d1,d2])
  refine Rf_ ?_
  exact ah_
 have d2:decide (8<x.kind)=false:=by simpa using h2
 rw[if_neg (by omega)];repeat(first|refine aa_ ?_|simp only[go_sem,d1,d2])
 refine ab_ ?_;generalize fld x=F at *;obtain⟨f,e⟩:=F;dsimp only at k1 ⊢;try refine aa_ ?_
 refine RV_ k1 ?_
 by_cases he:e=0
 case neg=>
  have he':(e != 0)=true:=by simpa using he
  rw[if_pos he];refine ac_ ?_ (by(try simp only[go_sem,he']);try exact evd);try refine aa_ ?_
  exact ah_
 subst he;refine ab_ ?_;generalize ud_ x=I at *;rw[if_neg (by simp)];by_cases h2k:x.kind=2
 case pos=>
  have e2:(x.kind==2)=true:=by simp[h2k]
  have hm:mask x=⟨x.kind,x.blk,dj_,cV_,cP_,bL_,0,0⟩:=by unfold mask;rw[if_pos h2k]
  rw[hm]at k2;try refine aa_ ?_
  refine ac_ ?_ (by(try simp only[go_sem,e2]);try exact evd);try refine aa_ ?_
  refine jY_ k2 ⟨Wk.refl _,Wk.agg (ch_ rfl rfl bz_ bA_ bB_ rfl rfl rfl),trivial⟩ ⟨dz_ x,(cm_ _).2 ⟨trivial,⟨trivial,trivial⟩,trivial⟩,trivial⟩ ?_;cases I
  ·try refine aa_ ?_
   refine Rf_ ?_
   exact ah_
  ·try refine aa_ ?_
   refine Re_ ?_
   exact ah_
 have n2:(x.kind==2)=false:=by simp[h2k]
 by_cases h3k:x.kind=3
 case pos=>
  have e3:(x.kind==3)=true:=by simp[h3k]
  have hm:mask x=⟨x.kind,bj_,x.att,cV_,cP_,bL_,0,0⟩:=by unfold mask;rw[if_neg h2k];rw[if_pos h3k]
  rw[hm]at k2;try refine aa_ ?_
  refine ab_ ?_ (by(try simp only[go_sem,n2]);try exact evd);try refine aa_ ?_
  refine ac_ ?_ (by(try simp only[go_sem,e3]);try exact evd);try refine aa_ ?_
  refine jY_ k2 ⟨Wk.refl _,Wk.agg (ch_ rfl rfl (WkC.refl _) bA_ bB_ rfl rfl rfl),trivial⟩ ⟨dz_ x,(cm_ _).2 ⟨aL_ _ _,⟨trivial,trivial⟩,trivial⟩,trivial⟩ ?_;cases I
  ·try refine aa_ ?_
   refine Rf_ ?_
   exact ah_
  ·try refine aa_ ?_
   refine Re_ ?_
   exact ah_
 have n3:(x.kind==3)=false:=by simp[h3k]
 by_cases h4k:x.kind=4
 case pos=>
  have e4:(x.kind==4)=true:=by simp[h4k]
  have hm:mask x=⟨x.kind,bj_,dj_,x.slg,cP_,bL_,0,0⟩:=by unfold mask;rw[if_neg h2k];rw[if_neg h3k];rw[if_pos h4k]
  rw[hm]at k2;try refine aa_ ?_
  refine ab_ ?_ (by(try simp only[go_sem,n2]);try exact evd);try refine aa_ ?_
  refine ab_ ?_ (by(try simp only[go_sem,n3]);try exact evd);try refine aa_ ?_
  refine ac_ ?_ (by(try simp only[go_sem,e4]);try exact evd);try refine aa_ ?_
  refine jY_ k2 ⟨Wk.refl _,Wk.agg (ch_ rfl rfl bz_ (WkC.refl _) bB_ rfl rfl rfl),trivial⟩ ⟨dz_ x,(cm_ _).2 ⟨trivial,⟨aL_ _ _,aL_ _ _⟩,trivial⟩,trivial⟩ ?_;cases I
  ·try refine aa_ ?_
   refine Rf_ ?_
   exact ah_
  ·try refine aa_ ?_
   refine Re_ ?_
   exact ah_
 have n4:(x.kind==4)=false:=by simp[h4k]
 by_cases h5k:x.kind=5
 case pos=>
  have e5:(x.kind==5)=true:=by simp[h5k]
  have hm:mask x=⟨x.kind,bj_,dj_,cV_,x.tab,bL_,0,0⟩:=by unfold mask;rw[if_neg h2k];rw[if_neg h3k];rw[if_neg h4k];rw[if_pos h5k]
  rw[hm]at k2;try refine aa_ ?_
  refine ab_ ?_ (by(try simp only[go_sem,n2]);try exact evd);try refine aa_ ?_
  refine ab_ ?_ (by(try simp only[go_sem,n3]);try exact evd);try refine aa_ ?_
  refine ab_ ?_ (by(try simp only[go_sem,n4]);try exact evd);try refine aa_ ?_
  refine ac_ ?_ (by(try simp only[go_sem,e5]);try exact evd);try refine aa_ ?_
  refine jY_ k2 ⟨Wk.refl _,Wk.agg (ch_ rfl rfl bz_ bA_ (WkC.refl _) rfl rfl rfl),trivial⟩ ⟨dz_ x,(cm_ _).2 ⟨trivial,⟨trivial,trivial⟩,aL_ _ _⟩,trivial⟩ ?_;cases I
  ·try refine aa_ ?_
   refine Rf_ ?_
   exact ah_
  ·try refine aa_ ?_
   refine Re_ ?_
   exact ah_
 have n5:(x.kind==5)=false:=by simp[h5k]
 by_cases h6k:x.kind=6
 case pos=>
  have e6:(x.kind==6)=true:=by simp[h6k]
  have hm:mask x=⟨x.kind,bj_,dj_,cV_,cP_,x.vdt,0,0⟩:=by unfold mask;rw[if_neg h2k];rw[if_neg h3k];rw[if_neg h4k];rw[if_neg h5k];rw[if_pos h6k]
  rw[hm]at k2;try refine aa_ ?_
  refine ab_ ?_ (by(try simp only[go_sem,n2]);try exact evd);try refine aa_ ?_
  refine ab_ ?_ (by(try simp only[go_sem,n3]);try exact evd);try refine aa_ ?_
  refine ab_ ?_ (by(try simp only[go_sem,n4]);try exact evd);try refine aa_ ?_
  refine ab_ ?_ (by(try simp only[go_sem,n5]);try exact evd);try refine aa_ ?_
  refine ac_ ?_ (by(try simp only[go_sem,e6]);try exact evd);try refine aa_ ?_
  refine jY_ k2 ⟨Wk.refl _,Wk.agg (ch_ rfl rfl bz_ bA_ bB_ rfl rfl rfl),trivial⟩ ⟨dz_ x,(cm_ _).2 ⟨trivial,⟨trivial,trivial⟩,trivial⟩,trivial⟩ ?_;cases I
  ·try refine aa_ ?_
   refine Rf_ ?_
   exact ah_
  ·try refine aa_ ?_
   refine Re_ ?_
   exact ah_
 have n6:(x.kind==6)=false:=by simp[h6k]
 by_cases h8k:x.kind=8
 case pos=>
  have e8:(x.kind==8)=true:=by simp[h8k]
  have hm:mask x=⟨x.kind,bj_,dj_,cV_,cP_,bL_,x.write,x.keep⟩:=by unfold mask;rw[if_neg h2k];rw[if_neg h3k];rw[if_neg h4k];rw[if_neg h5k];rw[if_neg h6k];rw[if_pos h8k]
  rw[hm]at k2;try refine aa_ ?_
  refine ab_ ?_ (by(try simp only[go_sem,n2]);try exact evd);try refine aa_ ?_
  refine ab_ ?_ (by(try simp only[go_sem,n3]);try exact evd);try refine aa_ ?_
  refine ab_ ?_ (by(try simp only[go_sem,n4]);try exact evd);try refine aa_ ?_
  refine ab_ ?_ (by(try simp only[go_sem,n5]);try exact evd);try refine aa_ ?_
  refine ab_ ?_ (by(try simp only[go_sem,n6]);try exact evd);try refine aa_ ?_
  refine ac_ ?_ (by(try simp only[go_sem,e8]);try exact evd);try refine aa_ ?_
  refine jY_ k2 ⟨Wk.refl _,Wk.agg (ch_ rfl rfl bz_ bA_ bB_ rfl rfl rfl),trivial⟩ ⟨dz_ x,(cm_ _).2 ⟨trivial,⟨trivial,trivial⟩,trivial⟩,trivial⟩ ?_;cases I
  ·try refine aa_ ?_
   refine Rf_ ?_
   exact ah_
  ·try refine aa_ ?_
   refine Re_ ?_
   exact ah_
 have n8:(x.kind==8)=false:=by simp[h8k]
 have hm:mask x=⟨x.kind,bj_,dj_,cV_,cP_,bL_,0,0⟩:=by unfold mask;rw[if_neg h2k];rw[if_neg h3k];rw[if_neg h4k];rw[if_neg h5k];rw[if_neg h6k];rw[if_neg h8k]
 rw[hm]at k2;try refine aa_ ?_
 refine ab_ ?_ (by(try simp only[go_sem,n2]);try exact evd);try refine aa_ ?_
 refine ab_ ?_ (by(try simp only[go_sem,n3]);try exact evd);try refine aa_ ?_
 refine ab_ ?_ (by(try simp only[go_sem,n4]);try exact evd);try refine aa_ ?_
 refine ab_ ?_ (by(try simp only[go_sem,n5]);try exact evd);try refine aa_ ?_
 refine ab_ ?_ (by(try simp only[go_sem,n6]);try exact evd);try refine aa_ ?_
 refine ab_ ?_ (by(try simp only[go_sem,n8]);try exact evd);try refine aa_ ?_
 refine jY_ k2 ⟨Wk.refl _,Wk.agg (ch_ rfl rfl bz_ bA_ bB_ rfl rfl rfl),trivial⟩ ⟨dz_ x,(cm_ _).2 ⟨trivial,⟨trivial,trivial⟩,trivial⟩,trivial⟩ ?_;cases I
 ·try refine aa_ ?_
  refine Rf_ ?_
  exact ah_
 ·try refine aa_ ?_
  refine Re_ ?_
  exact ah_
def ops(l:List OpV):List (List AV):=l.map fun x=>aI_ (opL x)
theorem GX_(l:List OpV):(ops l).length=l.length:=by simp[ops]
theorem vT_{l:List OpV}{i:Nat}(h:i<l.length):(ops l).getD i []=aI_ (opL l[i]):=by simp[ops,h]
theorem hj_(l:List OpV):dx_ (ops l):=by
 induction l with
 |nil=>trivial
 |cons x l ih=>exact⟨dz_ x,ih⟩
theorem AG_(ρ:Nat→Nat)(l:List OpV):cj_ ρ (ops l)=ops l:=(hj_ l).ren ρ
theorem Mr_(σ:St)(zs:List Nat)(l:List OpV):eL_ σ zs (ops l)=ops l:=(hj_ l).fz σ zs
theorem Na_(l:List OpV)(x:OpV):ops l++[aI_ (opL x)]=ops (l++[x]):=by simp[ops]
attribute [go_sem] GX_ AG_ Mr_ Na_
def hn_(x:OpV):List UInt8:=aJ_ x.kind.toNat++(fld x).1
def cC_:List OpV→List UInt8×Int
 | []=>([],0)
 |x::l=>if vOp x≠0 then ([],vOp x)else (hn_ x++(cC_ l).1,(cC_ l).2)
def fj_(l:List OpV):List UInt8×Int:=
 if 4096<l.length then ([],11)else if (cC_ l).2≠0 then ([],(cC_ l).2)else if 1048576<(cC_ l).1.length then ([],11)else ((cC_ l).1,0)
theorem HX_{l:List OpV}{i:Nat}(h:i<l.length):cC_ (l.drop i)=if vOp l[i]≠0 then ([],vOp l[i])else (hn_ l[i]++(cC_ (l.drop (i+1))).1,(cC_ (l.drop (i+1))).2):=by
 rw[List.drop_eq_getElem_cons h];rfl
theorem zV_{l:List OpV}{i:Nat}(h:l.length≤i):cC_ (l.drop i)=([],0):=by rw[List.drop_eq_nil_of_le h];rfl
theorem OQ_{x:Blk}(u:hZ_ x):(GJ_ x).length≤1000:=by
 have r1:=x.root.2;have r2:=x.parent.2;have r3:=x.payload.2;have r4:=(bb_ x.diff).2;have r5:=(bb_ x.pdiff).2;have q1:=u.slot.len;have q2:=dh_ u.just;have q3:=dh_ u.fin;have q4:=dh_ u.j;have q5:=dh_ u.f;have q6:(nT_ x.timely).length≤1:=by cases x.timely<;>simp[nT_]
 simp only[GJ_,List.length_append];omega
theorem GF_{x:OpV}(u:OpU x):(fld x).1.length≤30000:=by
 unfold fld;split
 ·have:=OQ_ u.blk;simp only;omega
 split
 ·simp only
  split
  ·rename_i he;have q1:=u.slot.len;have q2:=dh_ u.ep;have q3:=uF_ he;have q4:=x.att.2.1.2;simp only[Dz_,dT_,List.length_append];omega
  ·simp
 split
 ·simp only
  split
  ·rename_i he
   have e1:bt_ x.slg.1.2.2.2 1024=0:=by
    unfold ha_ at he;split at he
    ·assumption
    ·contradiction
   have e2:bt_ x.slg.2.2.2.2 1024=0:=by
    unfold ha_ at he;rwa [if_pos e1]at he
   have q1:=iA_ u.fst e1;have q2:=iA_ u.snd e2;simp only[ry_,dP_,List.length_append];omega
  ·simp
 split
 ·simp only
  split
  ·simp
  ·have q1:=dh_ u.tab.ep;have q2:=bH_ (n:=x.tab.2.length) (by omega);have q3:=uG_ u.tab.all;simp only[rE_,List.length_append];omega
 split
 ·simp only
  split
  ·simp
  ·rename_i hv;have q1:=u.tag.len;have q2:=bH_ (n:=x.vdt.kind.toNat) (by unfold mg_ at hv;omega);have q3:=x.vdt.latest.2;simp only[FN_,List.length_append];omega
 split
 ·split
  ·simp
  ·rename_i hb;have hb:ki_ x=false:=by simpa using hb
   simp[ki_]at hb;have q1:=bH_ (n:=x.write.toNat) (by omega);have q2:=bH_ (n:=x.keep.toNat) (by omega);simp only[List.length_append];omega
 ·simp
theorem nu_{x:OpV}(h:vOp x=0):1≤x.kind∧x.kind≤8:=by
 unfold vOp at h;split at h
 ·contradiction
 ·omega
set_option maxHeartbeats 4000000 in
theorem Fd_(l:List OpV)(hu:∀x∈l,OpU x)(hl:l.length≤140737488355328):
 PC Tryz.prog 23 [.sl 446 false (ops l)] (.tup [.sl 1 false (bts (fj_ l).1),.int .i64 (fj_ l).2]):=by
 refine PC.fact 10 tY_ (by simp) ⟨hj_ l,trivial⟩ ⟨bO_ _,trivial,trivial⟩ ?_;unfold lP_ fj_;refine bd ?_;by_cases h0:4096<l.length
 ·have d0:decide ((4096:Int)<(l.length:Int))=true:=by rw[decide_eq_true_eq];omega
  rw[if_pos h0];repeat(first|refine aa_ ?_|simp only[go_sem,d0])
  refine Rf_ ?_
  refine⟨_,rfl,.inr ⟨.tup [.sl 0 true [],.int .i64 11],evd,⟨trivial,trivial,trivial⟩,Wk.tup ⟨Wk.empty _ _ _,Wk.refl _,trivial⟩⟩⟩
 have d0:decide ((4096:Int)<(l.length:Int))=false:=by rw[decide_eq_false_iff_not];omega
 rw[if_neg h0];repeat(first|refine aa_ ?_|simp only[go_sem,d0])
 refine Re_ ?_
 refine bF_ (fun x:Bool×List UInt8×Nat=>⟨10,[.dead,.dead,.sl 0 true [],.int .i64 0,if x.1 then .hs 1 0 0 x.2.1.length else .sl 0 true [],.dead,.dead,.dead,.dead,.dead],[(15,.int .i64 x.2.2),(14,.int .i64 l.length),(13,.sl 446 false (ops l))]⟩)
  (fun x=>if x.1 then [.vec 1 (bts x.2.1)]else []) (fun x=>l.length-x.2.2)
  (fun x=>x.2.2≤l.length∧x.2.1.length≤40000*x.2.2∧(x.1=false→x.2.1=[])∧(cC_ (l.drop x.2.2)).2=(cC_ l).2∧((cC_ l).2=0→(cC_ l).1=x.2.1++(cC_ (l.drop x.2.2)).1)) (false,[],0) ⟨by simp,by simp,by simp,rfl,fun _=>rfl⟩ ?_ ?_
 ·refine GC.mkT [] [] (by simp) rfl (by simp) (by simp) evd evd evd
 rintro⟨st,bs,i⟩ ⟨i1,i2,i3,i4,i5⟩;dsimp only at i1 i2 i3 i4 i5 ⊢;by_cases hi:i<l.length
 ·have hg:=vT_ hi
  have hw:=ag_ hi (by omega);have hd:decide ((i:Int)<(l.length:Int))=true:=by rw[decide_eq_true_eq];omega
  have ux:OpU l[i]:=hu _ (List.getElem_mem hi);have k1:=xq_ l[i] ux;have k2:=ts_ l[i] ux;rw[HX_ hi]at i4 i5;by_cases hv:vOp l[i]=0
  ·rw[hv]at k1
   simp only[hv,ne_eq,not_true_eq_false,if_false]at i4 i5;have hk:=nu_ hv;have hf:=GF_ ux;have hq:=bH_ (n:=l[i].kind.toNat) (by omega);have hwk:IntKind.u64.wrap l[i].kind=l[i].kind:=aH_ (by omega) (by omega);have ho:hn_ l[i]=aJ_ l[i].kind.toNat++(fld l[i]).1:=rfl;have hol:(hn_ l[i]).length=(aJ_ l[i].kind.toNat).length+(fld l[i]).1.length:=by rw[ho,List.length_append]
   generalize hn_ l[i]=O at *;generalize fld l[i]=F at *;obtain⟨f,e⟩:=F;dsimp only at k2 hf ho hol;cases st
   ·obtain rfl:=i3 rfl;have p1:=(cd_ l[i].kind (by omega) (by omega)).nil (by omega);repeat(first|refine aa_ ?_|simp only[go_sem,hg,hd])
    refine ac_ ?_;repeat(first|refine aa_ ?_|simp only[go_sem,hg,hd])
    refine RV_ k1 ?_
    refine ab_ ?_;repeat(first|refine aa_ ?_|simp only[go_sem,hg])
    refine ae_ k2 ?_;repeat(first|refine aa_ ?_|simp only[go_sem,hg,hwk])
    refine am_ [] (p1) evd (aj_.mk' (by simp) evd) ?_;refine evg ?_;repeat(first|refine aa_ ?_|simp only[go_sem,hw])
    refine⟨(true,O,i+1),⟨hi,by dsimp only;omega,by simp,i4,fun h=>by rw[i5 h];simp⟩,by dsimp only;omega,?_⟩;rw[ho];refine GC.mkT [] [2] (by simp) rfl (by simp) (by simp) evd evd evd
   ·have p1:=(cd_ l[i].kind (by omega) (by omega)).own bs (by omega);repeat(first|refine aa_ ?_|simp only[go_sem,hg,hd])
    refine ac_ ?_;repeat(first|refine aa_ ?_|simp only[go_sem,hg,hd])
    refine RV_ k1 ?_
    refine ab_ ?_;repeat(first|refine aa_ ?_|simp only[go_sem,hg])
    refine ae_ k2 ?_;repeat(first|refine aa_ ?_|simp only[go_sem,hg,hwk])
    refine am_ [0] (p1) evd (aj_.mk' (by simp) evd) ?_;refine evg ?_;repeat(first|refine aa_ ?_|simp only[go_sem,hw])
    refine⟨(true,bs++O,i+1),⟨hi,by dsimp only;rw[List.length_append];omega,by simp,i4,fun h=>by rw[i5 h];simp⟩,by dsimp only;omega,?_⟩;rw[ho,←List.append_assoc];refine GC.mkT [] [3] (by simp) rfl (by simp) (by simp) evd evd evd
  ·have hv':(vOp l[i] != 0)=true:=by simpa using hv
   simp only[hv,ne_eq,not_false_eq_true,if_true]at i4 i5;rw[←i4,if_pos hv];cases st
   ·repeat(first|refine aa_ ?_|simp only[go_sem,hg,hd])
    refine ac_ ?_;repeat(first|refine aa_ ?_|simp only[go_sem,hg,hd])
    refine RV_ k1 ?_
    refine ac_ ?_ (by(try simp only[go_sem,hv']);try exact evd);try refine aa_ ?_
    refine⟨_,rfl,.inr ⟨.tup [.sl 0 true [],.int .i64 (vOp l[i])],evd,⟨trivial,trivial,trivial⟩,Wk.tup ⟨Wk.empty _ _ _,Wk.refl _,trivial⟩⟩⟩
   ·repeat(first|refine aa_ ?_|simp only[go_sem,hg,hd])
    refine ac_ ?_;repeat(first|refine aa_ ?_|simp only[go_sem,hg,hd])
    refine RV_ k1 ?_
    refine ac_ ?_ (by(try simp only[go_sem,hv']);try exact evd);try refine aa_ ?_
    refine⟨_,rfl,.inr ⟨.tup [.sl 0 true [],.int .i64 (vOp l[i])],evd,⟨trivial,trivial,trivial⟩,Wk.tup ⟨Wk.empty _ _ _,Wk.refl _,trivial⟩⟩⟩
 ·have hd:decide ((i:Int)<(l.length:Int))=false:=by rw[decide_eq_false_iff_not];omega
  rw[zV_ (by omega)]at i4 i5;have i5:=i5 i4.symm;rw[List.append_nil]at i5;rw[if_neg (by rw[←i4];simp),i5];cases st
  ·obtain rfl:=i3 rfl;repeat(first|refine aa_ ?_|simp only[go_sem,hd])
   refine Re_ ?_
   refine Re_ ?_
   refine⟨_,rfl,.inr ⟨.tup [.sl 0 true [],.int .i64 0],evd,⟨trivial,trivial,trivial⟩,Wk.tup ⟨Wk.empty _ _ _,Wk.refl _,trivial⟩⟩⟩
  ·by_cases hb:1048576<bs.length
   ·have db:decide ((1048576:Int)<(bs.length:Int))=true:=by rw[decide_eq_true_eq];omega
    rw[if_pos hb];repeat(first|refine aa_ ?_|simp only[go_sem,hd])
    refine Re_ ?_
    refine ac_ ?_ (by(try simp only[go_sem,db]);try exact evd);try refine aa_ ?_
    refine⟨_,rfl,.inr ⟨.tup [.sl 0 true [],.int .i64 11],evd,⟨trivial,trivial,trivial⟩,Wk.tup ⟨Wk.empty _ _ _,Wk.refl _,trivial⟩⟩⟩
   ·have db:decide ((1048576:Int)<(bs.length:Int))=false:=by rw[decide_eq_false_iff_not];omega
    rw[if_neg hb];repeat(first|refine aa_ ?_|simp only[go_sem,hd])
    refine Re_ ?_
    refine ab_ ?_ (by(try simp only[go_sem,db]);try exact evd);try refine aa_ ?_
    exact ah_
set_option maxHeartbeats 4000000 in
theorem Fr_(l:List OpV)(hu:∀x∈l,OpU x)(hl:l.length≤140737488355328):
 PC Tryz.prog 24 [.sl 446 false (ops l)] (.tup [.sl 1 false (bts (fj_ l).1),.int .i64 (fj_ l).2]):=by
 refine PC.fact 9 sd_ (by simp) ⟨hj_ l,trivial⟩ ⟨bO_ _,trivial,trivial⟩ ?_;unfold ks_ fj_;refine bd ?_;by_cases h0:4096<l.length
 ·have d0:decide ((4096:Int)<(l.length:Int))=true:=by rw[decide_eq_true_eq];omega
  rw[if_pos h0];repeat(first|refine aa_ ?_|simp only[go_sem,d0])
  refine Rf_ ?_
  refine⟨_,rfl,.inr ⟨.tup [.sl 0 true [],.int .i64 11],evd,⟨trivial,trivial,trivial⟩,Wk.tup ⟨Wk.empty _ _ _,Wk.refl _,trivial⟩⟩⟩
 have d0:decide ((4096:Int)<(l.length:Int))=false:=by rw[decide_eq_false_iff_not];omega
 rw[if_neg h0];repeat(first|refine aa_ ?_|simp only[go_sem,d0])
 refine Re_ ?_
 refine bF_ (fun x:Bool×List UInt8×Nat=>⟨9,[.sl 446 false (ops l),.dead,.sl 0 true [],.int .i64 0,if x.1 then .hs 1 0 0 x.2.1.length else .sl 0 true [],.int .i64 x.2.2,.dead,.dead,.dead],[]⟩)
  (fun x=>if x.1 then [.vec 1 (bts x.2.1)]else []) (fun x=>l.length-x.2.2)
  (fun x=>x.2.2≤l.length∧x.2.1.length≤40000*x.2.2∧(x.1=false→x.2.1=[])∧(cC_ (l.drop x.2.2)).2=(cC_ l).2∧((cC_ l).2=0→(cC_ l).1=x.2.1++(cC_ (l.drop x.2.2)).1)) (false,[],0) ⟨by simp,by simp,by simp,rfl,fun _=>rfl⟩ ?_ ?_
 ·exact Sn_ [] []
 rintro⟨st,bs,i⟩ ⟨i1,i2,i3,i4,i5⟩;dsimp only at i1 i2 i3 i4 i5 ⊢;by_cases hi:i<l.length
 ·have hg:=vT_ hi
  have hw:=ag_ hi (by omega);have hd:decide ((i:Int)<(l.length:Int))=true:=by rw[decide_eq_true_eq];omega
  have ux:OpU l[i]:=hu _ (List.getElem_mem hi);have k1:=ns_ l[i] ux;have k2:=tv_ l[i] ux;rw[HX_ hi]at i4 i5;by_cases hv:vOp l[i]=0
  ·rw[hv]at k1
   simp only[hv,ne_eq,not_true_eq_false,if_false]at i4 i5;have hk:=nu_ hv;have hf:=GF_ ux;have hq:=bH_ (n:=l[i].kind.toNat) (by omega);have hwk:IntKind.u64.wrap l[i].kind=l[i].kind:=aH_ (by omega) (by omega);have ho:hn_ l[i]=aJ_ l[i].kind.toNat++(fld l[i]).1:=rfl;have hol:(hn_ l[i]).length=(aJ_ l[i].kind.toNat).length+(fld l[i]).1.length:=by rw[ho,List.length_append]
   generalize hn_ l[i]=O at *;generalize fld l[i]=F at *;obtain⟨f,e⟩:=F;dsimp only at k2 hf ho hol;cases st
   ·obtain rfl:=i3 rfl;have p1:=(bY_ l[i].kind (by omega) (by omega)).nil (by omega);repeat(first|refine aa_ ?_|simp only[go_sem,hg,hd])
    refine ac_ ?_;repeat(first|refine aa_ ?_|simp only[go_sem,hg,hd])
    refine RV_ k1 ?_
    refine ab_ ?_;repeat(first|refine aa_ ?_|simp only[go_sem,hg])
    refine ae_ k2 ?_;repeat(first|refine aa_ ?_|simp only[go_sem,hg,hwk])
    refine am_ [] (p1) evd (aj_.mk' (by simp) evd) ?_;refine evg ?_;repeat(first|refine aa_ ?_|simp only[go_sem,hw])
    refine⟨(true,O,i+1),⟨hi,by dsimp only;omega,by simp,i4,fun h=>by rw[i5 h];simp⟩,by dsimp only;omega,?_⟩;rw[ho];exact Sn_ [] [1]
   ·have p1:=(bY_ l[i].kind (by omega) (by omega)).own bs (by omega);repeat(first|refine aa_ ?_|simp only[go_sem,hg,hd])
    refine ac_ ?_;repeat(first|refine aa_ ?_|simp only[go_sem,hg,hd])
    refine RV_ k1 ?_
    refine ab_ ?_;repeat(first|refine aa_ ?_|simp only[go_sem,hg])
    refine ae_ k2 ?_;repeat(first|refine aa_ ?_|simp only[go_sem,hg,hwk])
    refine am_ [0] (p1) evd (aj_.mk' (by simp) evd) ?_;refine evg ?_;repeat(first|refine aa_ ?_|simp only[go_sem,hw])
    refine⟨(true,bs++O,i+1),⟨hi,by dsimp only;rw[List.length_append];omega,by simp,i4,fun h=>by rw[i5 h];simp⟩,by dsimp only;omega,?_⟩;rw[ho,←List.append_assoc];exact Sn_ [] [2]
  ·have hv':(vOp l[i] != 0)=true:=by simpa using hv
   simp only[hv,ne_eq,not_false_eq_true,if_true]at i4 i5;rw[←i4,if_pos hv];cases st
   ·repeat(first|refine aa_ ?_|simp only[go_sem,hg,hd])
    refine ac_ ?_;repeat(first|refine aa_ ?_|simp only[go_sem,hg,hd])
    refine RV_ k1 ?_
    refine ac_ ?_ (by(try simp only[go_sem,hv']);try exact evd);try refine aa_ ?_
    refine⟨_,rfl,.inr ⟨.tup [.sl 0 true [],.int .i64 (vOp l[i])],evd,⟨trivial,trivial,trivial⟩,Wk.tup ⟨Wk.empty _ _ _,Wk.refl _,trivial⟩⟩⟩
   ·repeat(first|refine aa_ ?_|simp only[go_sem,hg,hd])
    refine ac_ ?_;repeat(first|refine aa_ ?_|simp only[go_sem,hg,hd])
    refine RV_ k1 ?_
    refine ac_ ?_ (by(try simp only[go_sem,hv']);try exact evd);try refine aa_ ?_
    refine⟨_,rfl,.inr ⟨.tup [.sl 0 true [],.int .i64 (vOp l[i])],evd,⟨trivial,trivial,trivial⟩,Wk.tup ⟨Wk.empty _ _ _,Wk.refl _,trivial⟩⟩⟩
 ·have hd:decide ((i:Int)<(l.length:Int))=false:=by rw[decide_eq_false_iff_not];omega
  rw[zV_ (by omega)]at i4 i5;have i5:=i5 i4.symm;rw[List.append_nil]at i5;rw[if_neg (by rw[←i4];simp),i5];cases st
  ·obtain rfl:=i3 rfl;repeat(first|refine aa_ ?_|simp only[go_sem,hd])
   refine Re_ ?_
   refine Re_ ?_
   refine⟨_,rfl,.inr ⟨.tup [.sl 0 true [],.int .i64 0],evd,⟨trivial,trivial,trivial⟩,Wk.tup ⟨Wk.empty _ _ _,Wk.refl _,trivial⟩⟩⟩
  ·by_cases hb:1048576<bs.length
   ·have db:decide ((1048576:Int)<(bs.length:Int))=true:=by rw[decide_eq_true_eq];omega
    rw[if_pos hb];repeat(first|refine aa_ ?_|simp only[go_sem,hd])
    refine Re_ ?_
    refine ac_ ?_ (by(try simp only[go_sem,db]);try exact evd);try refine aa_ ?_
    refine⟨_,rfl,.inr ⟨.tup [.sl 0 true [],.int .i64 11],evd,⟨trivial,trivial,trivial⟩,Wk.tup ⟨Wk.empty _ _ _,Wk.refl _,trivial⟩⟩⟩
   ·have db:decide ((1048576:Int)<(bs.length:Int))=false:=by rw[decide_eq_false_iff_not];omega
    rw[if_neg hb];repeat(first|refine aa_ ?_|simp only[go_sem,hd])
    refine Re_ ?_
    refine ab_ ?_ (by(try simp only[go_sem,db]);try exact evd);try refine aa_ ?_
    exact ah_
theorem kQ_(bs:List UInt8)(cl:Bool)(e:Int):ar_ Tryz.prog 125 [.ptr 0 0] [rdr cl bs e] (.sl 1 cl (bts bs)) [rdr cl bs e]:=by
 refine ar_.fact 3 qH_ (by simp) ?_ (by simp);unfold jl_;refine bd ?_;try refine aa_ ?_
 exact Sg_ [] [0]
def tkl(bs:List UInt8)(k:Nat)(e:Int):List UInt8:=if e=0 then bs.drop k else bs
theorem fy_(bs:List UInt8)(cl:Bool)(e:Int)(k:Nat)(hk:k≤bs.length):ar_ Tryz.prog 126 [.ptr 0 0,.int .i64 (k:Int),.int .i64 e] [rdr cl bs 0] (.tup []) [rdr cl (tkl bs k e) e]:=by
 refine ar_.fact 3 jw_ (by simp) ?_ (by simp);unfold fH_ tkl;refine bd ?_;try refine aa_ ?_
 refine Re_ ?_
 by_cases he:e=0
 ·subst he;have e3:List.take (bs.length-k) (List.drop k bs)=List.drop k bs:=List.take_of_length_le (by simp);rw[if_pos rfl];refine ab_ ?_;repeat(first|refine aa_ ?_|simp only[go_sem,e3])
  exact Sg_ [] [0]
 ·have he':(e != 0)=true:=by simpa using he
  rw[if_neg he];refine ac_ ?_ (by(try simp only[go_sem,he']);try exact evd);try refine aa_ ?_
  refine am_ [0] (hV_ bs cl 0 e) evd (aj_.mk' (by simp) evd) ?_;refine evg ?_;try refine aa_ ?_
  exact Sg_ [] [0]
theorem Ol_(bs:List UInt8)(cl:Bool)(e:Int)(he:e≠0):ar_ Tryz.prog 126 [.ptr 0 0,.int .i64 0,.int .i64 0] [rdr cl bs e] (.tup []) [rdr cl bs e]:=by
 refine ar_.fact 3 jw_ (by simp) ?_ (by simp);unfold fH_;refine bd ?_;have he':(e != 0)=true:=by simpa using he
 try refine aa_ ?_
 refine ac_ ?_ (by(try simp only[go_sem,he']);try exact evd);try refine aa_ ?_
 exact Sg_ [] [0]
def rOp(b:List UInt8):OpV×List UInt8×Int:=
 let k:=ap_ b 0 8
 let b1:=k.2.1
 if k.2.2≠0 then (opZ,b1,k.2.2)
 else if k.1=0 then (⟨0,bj_,dj_,cV_,cP_,bL_,0,0⟩,b1,2)
 else if k.1=2 then (⟨2,(dec bj_ b1.length (ho_ b1 0)).1,dj_,cV_,cP_,bL_,0,0⟩,tkl b1 (dec bj_ b1.length (ho_ b1 0)).2.1.toNat (dec bj_ b1.length (ho_ b1 0)).2.2,(dec bj_ b1.length (ho_ b1 0)).2.2)
 else if k.1=3 then (⟨3,bj_,(iE_ b1.length (iT_ b1 0)).1,cV_,cP_,bL_,0,0⟩,tkl b1 (iE_ b1.length (iT_ b1 0)).2.1.toNat (iE_ b1.length (iT_ b1 0)).2.2,(iE_ b1.length (iT_ b1 0)).2.2)
 else if k.1=4 then (⟨4,bj_,dj_,(hH_ b1.length (hp_ b1 0)).1,cP_,bL_,0,0⟩,tkl b1 (hH_ b1.length (hp_ b1 0)).2.1.toNat (hH_ b1.length (hp_ b1 0)).2.2,(hH_ b1.length (hp_ b1 0)).2.2)
 else if k.1=5 then (⟨5,bj_,dj_,cV_,(dec cP_ b1.length (gb_ b1 0)).1,bL_,0,0⟩,tkl b1 (dec cP_ b1.length (gb_ b1 0)).2.1.toNat (dec cP_ b1.length (gb_ b1 0)).2.2,(dec cP_ b1.length (gb_ b1 0)).2.2)
 else if k.1=6 then (⟨6,bj_,dj_,cV_,cP_,(jO_ b1.length (ka_ b1 0)).1,0,0⟩,tkl b1 (jO_ b1.length (ka_ b1 0)).2.1.toNat (jO_ b1.length (ka_ b1 0)).2.2,(jO_ b1.length (ka_ b1 0)).2.2)
 else if k.1=8 then (⟨8,bj_,dj_,cV_,cP_,bL_,(ap_ b1 0 32768).1,(ap_ (ap_ b1 0 32768).2.1 (ap_ b1 0 32768).2.2 32768).1⟩,(ap_ (ap_ b1 0 32768).2.1 (ap_ b1 0 32768).2.2 32768).2.1,(ap_ (ap_ b1 0 32768).2.1 (ap_ b1 0 32768).2.2 32768).2.2)
 else (⟨k.1,bj_,dj_,cV_,cP_,bL_,0,0⟩,b1,0)
theorem lw_{x:SOp}{y:OpV}(e:Int)(h:WkC (aI_ x) (aI_ (opL y))):Wk (.tup [.agg (aI_ x),.int .i64 e]) (.tup [.agg (aI_ (opL y)),.int .i64 e]):=Wk.tup ⟨Wk.agg h,Wk.refl _,trivial⟩
theorem RO_(bs:List UInt8)(e:Int):tkl bs 0 e=bs:=by simp[tkl]
attribute [go_sem] RO_
theorem qA_{α:Type}(z:α)(n:Nat)(x:α×List UInt8×Int):∃k:Nat,k≤n∧(dec z n x).2.1=(k:Int):=by
 unfold dec;(repeat' split)<;>first|exact⟨0,by omega,rfl⟩|exact⟨n-x.2.1.length,by omega,rfl⟩
theorem zQ_(n:Nat)(x:(Int×Rt×Cp×List Int)×List UInt8×Int):∃k:Nat,k≤n∧(iE_ n x).2.1=(k:Int):=by
 unfold iE_;(repeat' split)<;>first|exact⟨0,by omega,rfl⟩|exact⟨n-x.2.1.length,by omega,rfl⟩
theorem zR_(n:Nat)(x:Sv×List UInt8×Int):∃k:Nat,k≤n∧(hH_ n x).2.1=(k:Int):=by
 unfold hH_;(repeat' split)<;>first|exact⟨0,by omega,rfl⟩|exact⟨n-x.2.1.length,by omega,rfl⟩
theorem zS_(n:Nat)(x:Vdt×List UInt8×Int):∃k:Nat,k≤n∧(jO_ n x).2.1=(k:Int):=by
 unfold jO_;(repeat' split)<;>first|exact⟨0,by omega,rfl⟩|exact⟨n-x.2.1.length,by omega,rfl⟩
set_option maxRecDepth 100000 in
set_option maxHeartbeats 8000000 in
theorem Nz_(b:List UInt8)(hb:b.length≤140737488355328):
 ar_ Tryz.prog 110 [.ptr 0 0] [rdr false b 0] (.tup [.agg (aI_ (opL (rOp b).1)),.int .i64 (rOp b).2.2]) [rdr false (rOp b).2.1 (rOp b).2.2]:=by
 refine ar_.fact 8 py_ (by simp) ?_ (by simp);unfold iy_;refine bd ?_;have c1:=eP_ b false 0 8 hb;have l1:=bX_ b 0 8;have n1:=bK_ b 0 8;have m1:=cO_ b 0 8 (by omega);have hR:rOp b=rOp b:=rfl;conv at hR=>rhs;rw[rOp]
 rcases h1:ap_ b 0 8 with⟨k,b1,e1⟩
 rw[h1]at c1 l1 n1 m1 hR;dsimp only at c1 l1 n1 m1 hR;have hwk:IntKind.i64.wrap k=k:=ai_ (by omega) (by omega);try refine aa_ ?_
 refine am_ [0] (c1) evd (aj_.mk' (by simp) evd) ?_;refine evg ?_;repeat(first|refine aa_ ?_|simp only[go_sem,hwk])
 refine am_ [0] (dU_ b1 false e1) evd (aj_.mk' (by simp) evd) ?_;refine evg ?_;try refine aa_ ?_
 by_cases he:e1=0
 case neg=>
  have he':(e1 != 0)=true:=by simpa using he
  rw[if_pos he]at hR;rw[hR];dsimp only;refine ac_ ?_ (by(try simp only[go_sem,he']);try exact evd);try refine aa_ ?_
  refine gk_ [] [0] _ (by simp) (by first|rfl|exact evd) (by simp) rfl (by simp) (by simp) evd evd (lw_ (x:=dy_) e1 hU_)
 subst he;rw[if_neg (by simp)]at hR;refine Re_ ?_
 by_cases k0:k=0
 case pos=>
  subst k0;rw[if_pos rfl]at hR;rw[hR];dsimp only;refine Rf_ ?_
  refine am_ [0] (fy_ b1 false 2 0 (by omega)) evd (aj_.mk' (by simp) evd) ?_;refine evg ?_;try refine aa_ ?_
  refine iD_ [0] (dU_ b1 false 2) evd (aj_.mk' (by simp) evd) ?_;refine evg ?_;try refine aa_ ?_
  refine gk_ [] [0] _ (by simp) (by first|rfl|exact evd) (by simp) rfl (by simp) (by simp) evd evd (lw_ (x:=⟨0,bj_,cI_,cz_,ca_,bL_,0,0⟩) 2 (ch_ rfl rfl bz_ bA_ bB_ rfl rfl rfl))
 rw[if_neg k0]at hR;have n0:(k==0)=false:=by simp[k0]
 refine ab_ ?_ (by(try simp only[go_sem,n0]);try exact evd);try refine aa_ ?_
 by_cases k2:k=2
 case pos=>
  subst k2;rw[if_pos rfl]at hR;refine ac_ ?_;have cd:=Nm_ b1 (by omega);obtain⟨u,hu1,hu2⟩:∃u:Nat,u≤b1.length∧(dec bj_ b1.length (ho_ b1 0)).2.1=(u:Int):=qA_ _ _ _
  generalize dec bj_ b1.length (ho_ b1 0)=D at *;obtain⟨v,u',e⟩:=D;dsimp only at cd hu2 hR;subst hu2;rw[Int.toNat_natCast]at hR;rw[hR];dsimp only;try refine aa_ ?_
  refine am_ [0] (kQ_ b1 false 0) evd (aj_.mk' (by simp) evd) ?_;refine evg ?_;try refine aa_ ?_
  refine RV_ cd ?_
  refine am_ [0] (fy_ b1 false e u hu1) evd (aj_.mk' (by simp) evd) ?_;refine evg ?_;try refine aa_ ?_
  refine iD_ [0] (dU_ (tkl b1 u e) false e) evd (aj_.mk' (by simp) evd) ?_;refine evg ?_;try refine aa_ ?_
  refine gk_ [] [0] _ (by simp) (by first|rfl|exact evd) (by simp) rfl (by simp) (by simp) evd evd (lw_ (x:=⟨2,v,cI_,cz_,ca_,bL_,0,0⟩) e (ch_ rfl rfl bz_ bA_ bB_ rfl rfl rfl))
 rw[if_neg k2]at hR;have n2:(k==2)=false:=by simp[k2]
 refine ab_ ?_ (by(try simp only[go_sem,n2]);try exact evd);try refine aa_ ?_
 by_cases k3:k=3
 case pos=>
  subst k3;rw[if_pos rfl]at hR;refine ac_ ?_;have cd:=Nl_ b1 (by omega);obtain⟨u,hu1,hu2⟩:∃u:Nat,u≤b1.length∧(iE_ b1.length (iT_ b1 0)).2.1=(u:Int):=zQ_ _ _
  generalize iE_ b1.length (iT_ b1 0)=D at *;obtain⟨v,u',e⟩:=D;dsimp only at cd hu2 hR;subst hu2;rw[Int.toNat_natCast]at hR;rw[hR];dsimp only;try refine aa_ ?_
  refine am_ [0] (kQ_ b1 false 0) evd (aj_.mk' (by simp) evd) ?_;refine evg ?_;try refine aa_ ?_
  refine RV_ cd ?_
  refine am_ [0] (fy_ b1 false e u hu1) evd (aj_.mk' (by simp) evd) ?_;refine evg ?_;try refine aa_ ?_
  refine iD_ [0] (dU_ (tkl b1 u e) false e) evd (aj_.mk' (by simp) evd) ?_;refine evg ?_;try refine aa_ ?_
  refine gk_ [] [0] _ (by simp) (by first|rfl|exact evd) (by simp) rfl (by simp) (by simp) evd evd (lw_ (x:=⟨3,bj_,dT_ v,cz_,ca_,bL_,0,0⟩) e (ch_ rfl rfl (WkC.refl _) bA_ bB_ rfl rfl rfl))
 rw[if_neg k3]at hR;have n3:(k==3)=false:=by simp[k3]
 refine ab_ ?_ (by(try simp only[go_sem,n3]);try exact evd);try refine aa_ ?_
 by_cases k4:k=4
 case pos=>
  subst k4;rw[if_pos rfl]at hR;refine ac_ ?_;have cd:=Nn_ b1 (by omega);obtain⟨u,hu1,hu2⟩:∃u:Nat,u≤b1.length∧(hH_ b1.length (hp_ b1 0)).2.1=(u:Int):=zR_ _ _
  generalize hH_ b1.length (hp_ b1 0)=D at *;obtain⟨v,u',e⟩:=D;dsimp only at cd hu2 hR;subst hu2;rw[Int.toNat_natCast]at hR;rw[hR];dsimp only;try refine aa_ ?_
  refine am_ [0] (kQ_ b1 false 0) evd (aj_.mk' (by simp) evd) ?_;refine evg ?_;try refine aa_ ?_
  refine RV_ cd ?_
  refine am_ [0] (fy_ b1 false e u hu1) evd (aj_.mk' (by simp) evd) ?_;refine evg ?_;try refine aa_ ?_
  refine iD_ [0] (dU_ (tkl b1 u e) false e) evd (aj_.mk' (by simp) evd) ?_;refine evg ?_;try refine aa_ ?_
  refine gk_ [] [0] _ (by simp) (by first|rfl|exact evd) (by simp) rfl (by simp) (by simp) evd evd (lw_ (x:=⟨4,bj_,cI_,dP_ v,ca_,bL_,0,0⟩) e (ch_ rfl rfl bz_ (WkC.refl _) bB_ rfl rfl rfl))
 rw[if_neg k4]at hR;have n4:(k==4)=false:=by simp[k4]
 refine ab_ ?_ (by(try simp only[go_sem,n4]);try exact evd);try refine aa_ ?_
 by_cases k5:k=5
 case pos=>
  subst k5;rw[if_pos rfl]at hR;refine ac_ ?_;have cd:=No_ b1 (by omega);obtain⟨u,hu1,hu2⟩:∃u:Nat,u≤b1.length∧(dec cP_ b1.length (gb_ b1 0)).2.1=(u:Int):=qA_ _ _ _
  generalize dec cP_ b1.length (gb_ b1 0)=D at *;obtain⟨v,u',e⟩:=D;dsimp only at cd hu2 hR;subst hu2;rw[Int.toNat_natCast]at hR;rw[hR];dsimp only;try refine aa_ ?_
  refine am_ [0] (kQ_ b1 false 0) evd (aj_.mk' (by simp) evd) ?_;refine evg ?_;try refine aa_ ?_
  refine RV_ cd ?_
  refine am_ [0] (fy_ b1 false e u hu1) evd (aj_.mk' (by simp) evd) ?_;refine evg ?_;try refine aa_ ?_
  refine iD_ [0] (dU_ (tkl b1 u e) false e) evd (aj_.mk' (by simp) evd) ?_;refine evg ?_;try refine aa_ ?_
  refine gk_ [] [0] _ (by simp) (by first|rfl|exact evd) (by simp) rfl (by simp) (by simp) evd evd (lw_ (x:=⟨5,bj_,cI_,cz_,fo_ v,bL_,0,0⟩) e (ch_ rfl rfl bz_ bA_ (WkC.refl _) rfl rfl rfl))
 rw[if_neg k5]at hR;have n5:(k==5)=false:=by simp[k5]
 refine ab_ ?_ (by(try simp only[go_sem,n5]);try exact evd);try refine aa_ ?_
 by_cases k6:k=6
 case pos=>
  subst k6;rw[if_pos rfl]at hR;refine ac_ ?_;have cd:=Np_ b1 (by omega);obtain⟨u,hu1,hu2⟩:∃u:Nat,u≤b1.length∧(jO_ b1.length (ka_ b1 0)).2.1=(u:Int):=zS_ _ _
  generalize jO_ b1.length (ka_ b1 0)=D at *;obtain⟨v,u',e⟩:=D;dsimp only at cd hu2 hR;subst hu2;rw[Int.toNat_natCast]at hR;rw[hR];dsimp only;try refine aa_ ?_
  refine am_ [0] (kQ_ b1 false 0) evd (aj_.mk' (by simp) evd) ?_;refine evg ?_;try refine aa_ ?_
  refine RV_ cd ?_
  refine am_ [0] (fy_ b1 false e u hu1) evd (aj_.mk' (by simp) evd) ?_;refine evg ?_;try refine aa_ ?_
  refine iD_ [0] (dU_ (tkl b1 u e) false e) evd (aj_.mk' (by simp) evd) ?_;refine evg ?_;try refine aa_ ?_
  refine gk_ [] [0] _ (by simp) (by first|rfl|exact evd) (by simp) rfl (by simp) (by simp) evd evd (lw_ (x:=⟨6,bj_,cI_,cz_,ca_,v,0,0⟩) e (ch_ rfl rfl bz_ bA_ bB_ rfl rfl rfl))
 rw[if_neg k6]at hR;have n6:(k==6)=false:=by simp[k6]
 refine ab_ ?_ (by(try simp only[go_sem,n6]);try exact evd);try refine aa_ ?_
 by_cases k8:k=8
 case pos=>
  subst k8;rw[if_pos rfl]at hR;refine ac_ ?_;have c2:=eP_ b1 false 0 32768 (by omega);have l2:=bX_ b1 0 32768;have p2:=bK_ b1 0 32768;have m2:=cO_ b1 0 32768 (by omega);rcases h2:ap_ b1 0 32768 with⟨w,b2,e2⟩
  rw[h2]at c2 l2 p2 m2 hR;dsimp only at c2 l2 p2 m2 hR;have c3:=eP_ b2 false e2 32768 (by omega);have p3:=bK_ b2 e2 32768;have m3:=cO_ b2 e2 32768 (by omega);rcases h3:ap_ b2 e2 32768 with⟨p,b3,e3⟩
  rw[h3]at c3 p3 m3 hR;dsimp only at c3 p3 m3 hR;rw[hR];dsimp only;have w2:IntKind.i64.wrap w=w:=ai_ (by omega) (by omega);have w3:IntKind.i64.wrap p=p:=ai_ (by omega) (by omega)
  have ct:ar_ Tryz.prog 126 [.ptr 0 0,.int .i64 0,.int .i64 0] [rdr false b3 e3] (.tup []) [rdr false b3 e3]:=by
   by_cases hz:e3=0
   ·subst hz;exact fy_ b3 false 0 0 (by omega)
   ·exact Ol_ b3 false e3 hz
  try refine aa_ ?_
  refine am_ [0] (c2) evd (aj_.mk' (by simp) evd) ?_;refine evg ?_;repeat(first|refine aa_ ?_|simp only[go_sem,w2])
  refine am_ [0] (c3) evd (aj_.mk' (by simp) evd) ?_;refine evg ?_;repeat(first|refine aa_ ?_|simp only[go_sem,w2,w3])
  refine am_ [0] (ct) evd (aj_.mk' (by simp) evd) ?_;refine evg ?_;try refine aa_ ?_
  refine iD_ [0] (dU_ b3 false e3) evd (aj_.mk' (by simp) evd) ?_;refine evg ?_;try refine aa_ ?_
  refine gk_ [] [0] _ (by simp) (by first|rfl|exact evd) (by simp) rfl (by simp) (by simp) evd evd (lw_ (x:=⟨8,bj_,cI_,cz_,ca_,bL_,w,p⟩) e3 (ch_ rfl rfl bz_ bA_ bB_ rfl rfl rfl))
 rw[if_neg k8]at hR;rw[hR];dsimp only;have n8:(k==8)=false:=by simp[k8]
 refine ab_ ?_ (by(try simp only[go_sem,n8]);try exact evd);try refine aa_ ?_
 refine am_ [0] (fy_ b1 false 0 0 (by omega)) evd (aj_.mk' (by simp) evd) ?_;refine evg ?_;try refine aa_ ?_
 refine iD_ [0] (dU_ b1 false 0) evd (aj_.mk' (by simp) evd) ?_;refine evg ?_;try refine aa_ ?_
 refine gk_ [] [0] _ (by simp) (by first|rfl|exact evd) (by simp) rfl (by simp) (by simp) evd evd (lw_ (x:=⟨k,bj_,cI_,cz_,ca_,bL_,0,0⟩) 0 (ch_ rfl rfl bz_ bA_ bB_ rfl rfl rfl))
theorem jf_:PuL (aI_ dy_):=(cm_ _).2 ⟨trivial,⟨trivial,trivial⟩,trivial⟩
def nOp(b:List UInt8):OpV×Int×Int:=if (rOp b).2.2≠0 then (opZ,0,(rOp b).2.2)else ((rOp b).1,((b.length-(rOp b).2.1.length:Nat):Int),0)
theorem dR_{x:SOp}{y:OpV}(n e:Int)(h:WkC (aI_ x) (aI_ (opL y))):Wk (.tup [.agg (aI_ x),.int .i64 n,.int .i64 e]) (.tup [.agg (aI_ (opL y)),.int .i64 n,.int .i64 e]):=Wk.tup ⟨Wk.agg h,Wk.refl _,Wk.refl _,trivial⟩
theorem hQ_{b:List UInt8}{x:OpV}{l:List UInt8}{e:Int}(h:rOp b=(x,l,e))(he:e≠0):nOp b=(opZ,0,e):=by simp[nOp,h,he]
theorem nc_{b:List UInt8}{x:OpV}{l:List UInt8}(h:rOp b=(x,l,0)):nOp b=(x,((b.length-l.length:Nat):Int),0):=by simp[nOp,h]
set_option maxRecDepth 100000 in
set_option maxHeartbeats 8000000 in
theorem MR_(b:List UInt8)(hb:b.length≤140737488355328):
 PC Tryz.prog 111 [.sl 1 false (bts b)] (.tup [.agg (aI_ (opL (nOp b).1)),.int .i64 (nOp b).2.1,.int .i64 (nOp b).2.2]):=by
 refine PC.fact 10 Eg_ (by simp) ⟨bO_ b,trivial⟩ ⟨dz_ _,trivial,trivial,trivial⟩ ?_;unfold tb_;refine bd ?_;have c1:=cl_ b b false 0 8 (List.suffix_refl _) hb;have s1:=bx_ b 0 8;have n1:=bK_ b 0 8;have m1:=cO_ b 0 8 (by omega);have hR:rOp b=rOp b:=rfl;conv at hR=>rhs;rw[rOp]
 rcases h1:ap_ b 0 8 with⟨k,b1,e1⟩
 rw[h1]at c1 s1 n1 m1 hR;dsimp only at c1 s1 n1 m1 hR;have hwk:IntKind.i64.wrap k=k:=ai_ (by omega) (by omega);have hlen:b1.length≤b.length:=s1.length_le;obtain⟨a,ha⟩:∃a:Nat,b.length-b1.length=a:=⟨_,rfl⟩
 have hdr:List.drop a b=b1:=by
  obtain⟨p,rfl⟩:=s1;rw[←ha,pD_,List.drop_left]
 have htk:List.take (b.length-a) b1=b1:=List.take_of_length_le (by omega);have ha2:(a:Int)≤(b.length:Int):=by omega
 simp only[sro,Nat.sub_self]at c1;rw[ha]at c1;try refine aa_ ?_
 refine am_ [1] (c1) evd (aj_.mk' (by simp) evd) ?_;refine evg ?_;repeat(first|refine aa_ ?_|simp only[go_sem,hwk])
 by_cases he:e1=0
 case neg=>
  have he':(e1 != 0)=true:=by simpa using he
  rw[if_pos he]at hR;rw[hQ_ hR he];refine ac_ ?_ (by(try simp only[go_sem,he']);try exact evd);try refine aa_ ?_
  refine⟨_,(by first|rfl|exact evd),.inr ⟨.tup [.agg (aI_ dy_),.int .i64 0,.int .i64 e1],evd,⟨jf_,trivial,trivial,trivial⟩,dR_ 0 e1 hU_⟩⟩
 subst he;rw[if_neg (by simp)]at hR;refine Re_ ?_
 by_cases k0:k=0
 case pos=>
  subst k0;rw[if_pos rfl]at hR;rw[hQ_ hR (by decide)];refine Rf_ ?_
  refine Rf_ ?_
  refine⟨_,(by first|rfl|exact evd),.inr ⟨.tup [.agg (aI_ dy_),.int .i64 0,.int .i64 2],evd,⟨jf_,trivial,trivial,trivial⟩,dR_ 0 2 hU_⟩⟩
 rw[if_neg k0]at hR;have n0:(k==0)=false:=by simp[k0]
 refine ab_ ?_ (by(try simp only[go_sem,n0]);try exact evd);try refine aa_ ?_
 by_cases k2:k=2
 case pos=>
  subst k2;rw[if_pos rfl]at hR;refine ac_ ?_;have cd:=NJ_ b1 (by omega);obtain⟨u,hu1,hu2⟩:∃u:Nat,u≤b1.length∧(dec bj_ b1.length (ho_ b1 0)).2.1=(u:Int):=qA_ _ _ _
  generalize dec bj_ b1.length (ho_ b1 0)=D at *;obtain⟨v,u',e⟩:=D;dsimp only at cd hu2 hR;subst hu2;rw[Int.toNat_natCast]at hR;repeat(first|refine aa_ ?_|simp only[go_sem,hdr,htk])
  refine RV_ cd ?_
  by_cases he2:e=0
  ·subst he2;rw[nc_ hR,tkl,if_pos rfl,show b.length-(List.drop u b1).length=a+u by rw[List.length_drop];omega];have hs:IntKind.i64.wrap ((a:Int)+(u:Int))=((a+u:Nat):Int):=by rw[ai_ (by omega) (by omega)];omega
   refine ab_ ?_;repeat(first|refine aa_ ?_|simp only[go_sem,hs])
   refine⟨_,(by first|rfl|exact evd),.inr ⟨.tup [.agg (aI_ ⟨2,v,cI_,cz_,ca_,bL_,0,0⟩),.int .i64 ((a+u:Nat):Int),.int .i64 0],evd,⟨(cm_ _).2 ⟨trivial,⟨trivial,trivial⟩,trivial⟩,trivial,trivial,trivial⟩,dR_ (x:=⟨2,v,cI_,cz_,ca_,bL_,0,0⟩) _ _ (ch_ rfl rfl bz_ bA_ bB_ rfl rfl rfl)⟩⟩
  ·have he2':(e != 0)=true:=by simpa using he2
   rw[hQ_ hR he2];refine ac_ ?_ (by(try simp only[go_sem,he2']);try exact evd);try refine aa_ ?_
   refine⟨_,(by first|rfl|exact evd),.inr ⟨.tup [.agg (aI_ dy_),.int .i64 0,.int .i64 e],evd,⟨jf_,trivial,trivial,trivial⟩,dR_ 0 e hU_⟩⟩
 rw[if_neg k2]at hR;have n2:(k==2)=false:=by simp[k2]
 refine ab_ ?_ (by(try simp only[go_sem,n2]);try exact evd);try refine aa_ ?_
 by_cases k3:k=3
 case pos=>
  subst k3;rw[if_pos rfl]at hR;refine ac_ ?_;have cd:=NI_ b1 (by omega);obtain⟨u,hu1,hu2⟩:∃u:Nat,u≤b1.length∧(iE_ b1.length (iT_ b1 0)).2.1=(u:Int):=zQ_ _ _
  generalize iE_ b1.length (iT_ b1 0)=D at *;obtain⟨v,u',e⟩:=D;dsimp only at cd hu2 hR;subst hu2;rw[Int.toNat_natCast]at hR;repeat(first|refine aa_ ?_|simp only[go_sem,hdr,htk])
  refine RV_ cd ?_
  by_cases he2:e=0
  ·subst he2;rw[nc_ hR,tkl,if_pos rfl,show b.length-(List.drop u b1).length=a+u by rw[List.length_drop];omega];have hs:IntKind.i64.wrap ((a:Int)+(u:Int))=((a+u:Nat):Int):=by rw[ai_ (by omega) (by omega)];omega
   refine ab_ ?_;repeat(first|refine aa_ ?_|simp only[go_sem,hs])
   refine⟨_,(by first|rfl|exact evd),.inr ⟨.tup [.agg (aI_ ⟨3,bj_,dT_ v,cz_,ca_,bL_,0,0⟩),.int .i64 ((a+u:Nat):Int),.int .i64 0],evd,⟨(cm_ _).2 ⟨aL_ _ _,⟨trivial,trivial⟩,trivial⟩,trivial,trivial,trivial⟩,dR_ (x:=⟨3,bj_,dT_ v,cz_,ca_,bL_,0,0⟩) _ _ (ch_ rfl rfl (WkC.refl _) bA_ bB_ rfl rfl rfl)⟩⟩
  ·have he2':(e != 0)=true:=by simpa using he2
   rw[hQ_ hR he2];refine ac_ ?_ (by(try simp only[go_sem,he2']);try exact evd);try refine aa_ ?_
   refine⟨_,(by first|rfl|exact evd),.inr ⟨.tup [.agg (aI_ dy_),.int .i64 0,.int .i64 e],evd,⟨jf_,trivial,trivial,trivial⟩,dR_ 0 e hU_⟩⟩
 rw[if_neg k3]at hR;have n3:(k==3)=false:=by simp[k3]
 refine ab_ ?_ (by(try simp only[go_sem,n3]);try exact evd);try refine aa_ ?_
 by_cases k4:k=4
 case pos=>
  subst k4;rw[if_pos rfl]at hR;refine ac_ ?_;have cd:=NK_ b1 (by omega);obtain⟨u,hu1,hu2⟩:∃u:Nat,u≤b1.length∧(hH_ b1.length (hp_ b1 0)).2.1=(u:Int):=zR_ _ _
  generalize hH_ b1.length (hp_ b1 0)=D at *;obtain⟨v,u',e⟩:=D;dsimp only at cd hu2 hR;subst hu2;rw[Int.toNat_natCast]at hR;repeat(first|refine aa_ ?_|simp only[go_sem,hdr,htk])
  refine RV_ cd ?_
  by_cases he2:e=0
  ·subst he2;rw[nc_ hR,tkl,if_pos rfl,show b.length-(List.drop u b1).length=a+u by rw[List.length_drop];omega];have hs:IntKind.i64.wrap ((a:Int)+(u:Int))=((a+u:Nat):Int):=by rw[ai_ (by omega) (by omega)];omega
   refine ab_ ?_;repeat(first|refine aa_ ?_|simp only[go_sem,hs])
   refine⟨_,(by first|rfl|exact evd),.inr ⟨.tup [.agg (aI_ ⟨4,bj_,cI_,dP_ v,ca_,bL_,0,0⟩),.int .i64 ((a+u:Nat):Int),.int .i64 0],evd,⟨(cm_ _).2 ⟨trivial,⟨aL_ _ _,aL_ _ _⟩,trivial⟩,trivial,trivial,trivial⟩,dR_ (x:=⟨4,bj_,cI_,dP_ v,ca_,bL_,0,0⟩) _ _ (ch_ rfl rfl bz_ (WkC.refl _) bB_ rfl rfl rfl)⟩⟩
  ·have he2':(e != 0)=true:=by simpa using he2
   rw[hQ_ hR he2];refine ac_ ?_ (by(try simp only[go_sem,he2']);try exact evd);try refine aa_ ?_
   refine⟨_,(by first|rfl|exact evd),.inr ⟨.tup [.agg (aI_ dy_),.int .i64 0,.int .i64 e],evd,⟨jf_,trivial,trivial,trivial⟩,dR_ 0 e hU_⟩⟩
 rw[if_neg k4]at hR;have n4:(k==4)=false:=by simp[k4]
 refine ab_ ?_ (by(try simp only[go_sem,n4]);try exact evd);try refine aa_ ?_
 by_cases k5:k=5
 case pos=>
  subst k5;rw[if_pos rfl]at hR;refine ac_ ?_;have cd:=NL_ b1 (by omega);obtain⟨u,hu1,hu2⟩:∃u:Nat,u≤b1.length∧(dec cP_ b1.length (gb_ b1 0)).2.1=(u:Int):=qA_ _ _ _
  generalize dec cP_ b1.length (gb_ b1 0)=D at *;obtain⟨v,u',e⟩:=D;dsimp only at cd hu2 hR;subst hu2;rw[Int.toNat_natCast]at hR;repeat(first|refine aa_ ?_|simp only[go_sem,hdr,htk])
  refine RV_ cd ?_
  by_cases he2:e=0
  ·subst he2;rw[nc_ hR,tkl,if_pos rfl,show b.length-(List.drop u b1).length=a+u by rw[List.length_drop];omega];have hs:IntKind.i64.wrap ((a:Int)+(u:Int))=((a+u:Nat):Int):=by rw[ai_ (by omega) (by omega)];omega
   refine ab_ ?_;repeat(first|refine aa_ ?_|simp only[go_sem,hs])
   refine⟨_,(by first|rfl|exact evd),.inr ⟨.tup [.agg (aI_ ⟨5,bj_,cI_,cz_,fo_ v,bL_,0,0⟩),.int .i64 ((a+u:Nat):Int),.int .i64 0],evd,⟨(cm_ _).2 ⟨trivial,⟨trivial,trivial⟩,aL_ _ _⟩,trivial,trivial,trivial⟩,dR_ (x:=⟨5,bj_,cI_,cz_,fo_ v,bL_,0,0⟩) _ _ (ch_ rfl rfl bz_ bA_ (WkC.refl _) rfl rfl rfl)⟩⟩
  ·have he2':(e != 0)=true:=by simpa using he2
   rw[hQ_ hR he2];refine ac_ ?_ (by(try simp only[go_sem,he2']);try exact evd);try refine aa_ ?_
   refine⟨_,(by first|rfl|exact evd),.inr ⟨.tup [.agg (aI_ dy_),.int .i64 0,.int .i64 e],evd,⟨jf_,trivial,trivial,trivial⟩,dR_ 0 e hU_⟩⟩
 rw[if_neg k5]at hR;have n5:(k==5)=false:=by simp[k5]
 refine ab_ ?_ (by(try simp only[go_sem,n5]);try exact evd);try refine aa_ ?_
 by_cases k6:k=6
 case pos=>
  subst k6;rw[if_pos rfl]at hR;refine ac_ ?_;have cd:=NM_ b1 (by omega);obtain⟨u,hu1,hu2⟩:∃u:Nat,u≤b1.length∧(jO_ b1.length (ka_ b1 0)).2.1=(u:Int):=zS_ _ _
  generalize jO_ b1.length (ka_ b1 0)=D at *;obtain⟨v,u',e⟩:=D;dsimp only at cd hu2 hR;subst hu2;rw[Int.toNat_natCast]at hR;repeat(first|refine aa_ ?_|simp only[go_sem,hdr,htk])
  refine RV_ cd ?_
  by_cases he2:e=0
  ·subst he2;rw[nc_ hR,tkl,if_pos rfl,show b.length-(List.drop u b1).length=a+u by rw[List.length_drop];omega];have hs:IntKind.i64.wrap ((a:Int)+(u:Int))=((a+u:Nat):Int):=by rw[ai_ (by omega) (by omega)];omega
   refine ab_ ?_;repeat(first|refine aa_ ?_|simp only[go_sem,hs])
   refine⟨_,(by first|rfl|exact evd),.inr ⟨.tup [.agg (aI_ ⟨6,bj_,cI_,cz_,ca_,v,0,0⟩),.int .i64 ((a+u:Nat):Int),.int .i64 0],evd,⟨(cm_ _).2 ⟨trivial,⟨trivial,trivial⟩,trivial⟩,trivial,trivial,trivial⟩,dR_ (x:=⟨6,bj_,cI_,cz_,ca_,v,0,0⟩) _ _ (ch_ rfl rfl bz_ bA_ bB_ rfl rfl rfl)⟩⟩
  ·have he2':(e != 0)=true:=by simpa using he2
   rw[hQ_ hR he2];refine ac_ ?_ (by(try simp only[go_sem,he2']);try exact evd);try refine aa_ ?_
   refine⟨_,(by first|rfl|exact evd),.inr ⟨.tup [.agg (aI_ dy_),.int .i64 0,.int .i64 e],evd,⟨jf_,trivial,trivial,trivial⟩,dR_ 0 e hU_⟩⟩
 rw[if_neg k6]at hR;have n6:(k==6)=false:=by simp[k6]
 refine ab_ ?_ (by(try simp only[go_sem,n6]);try exact evd);try refine aa_ ?_
 by_cases k8:k=8
 case pos=>
  subst k8;rw[if_pos rfl]at hR;refine ac_ ?_;have c2:=cl_ b b1 false 0 32768 s1 hb;have s2:=(bx_ b1 0 32768).trans s1;have p2:=bK_ b1 0 32768;have m2:=cO_ b1 0 32768 (by omega);have q2:=(bx_ b1 0 32768).length_le;rcases h2:ap_ b1 0 32768 with⟨w,b2,e2⟩
  rw[h2]at c2 s2 p2 m2 q2 hR;dsimp only at c2 s2 p2 m2 q2 hR;have c3:=cl_ b b2 false e2 32768 s2 hb;have p3:=bK_ b2 e2 32768;have m3:=cO_ b2 e2 32768 (by omega);have q3:=(bx_ b2 e2 32768).length_le;rcases h3:ap_ b2 e2 32768 with⟨p,b3,e3⟩
  rw[h3]at c3 p3 m3 q3 hR;dsimp only at c3 p3 m3 q3 hR;have w2:IntKind.i64.wrap w=w:=ai_ (by omega) (by omega);have w3:IntKind.i64.wrap p=p:=ai_ (by omega) (by omega);simp only[sro]at c2 c3;rw[ha]at c2;obtain⟨a2,ha2'⟩:∃a2:Nat,b.length-b2.length=a2:=⟨_,rfl⟩
  obtain⟨a3,ha3⟩:∃a3:Nat,b.length-b3.length=a3:=⟨_,rfl⟩
  rw[ha2']at c2 c3;rw[ha3]at c3;have hs1:IntKind.i64.wrap ((a3:Int)-(a:Int))=(a3:Int)-(a:Int):=ai_ (by omega) (by omega);have hs2:IntKind.i64.wrap ((a:Int)+((a3:Int)-(a:Int)))=(a3:Int):=by rw[ai_ (by omega) (by omega)];omega
  try refine aa_ ?_
  refine am_ [1] (c2) evd (aj_.mk' (by simp) evd) ?_;refine evg ?_;repeat(first|refine aa_ ?_|simp only[go_sem,w2])
  refine am_ [1] (c3) evd (aj_.mk' (by simp) evd) ?_;refine evg ?_;repeat(first|refine aa_ ?_|simp only[go_sem,w2,w3,hs1])
  by_cases he2:e3=0
  ·subst he2;rw[nc_ hR,ha3];refine ab_ ?_;repeat(first|refine aa_ ?_|simp only[go_sem,hs2])
   refine⟨_,(by first|rfl|exact evd),.inr ⟨.tup [.agg (aI_ ⟨8,bj_,cI_,cz_,ca_,bL_,w,p⟩),.int .i64 (a3:Int),.int .i64 0],evd,⟨(cm_ _).2 ⟨trivial,⟨trivial,trivial⟩,trivial⟩,trivial,trivial,trivial⟩,dR_ (x:=⟨8,bj_,cI_,cz_,ca_,bL_,w,p⟩) _ _ (ch_ rfl rfl bz_ bA_ bB_ rfl rfl rfl)⟩⟩
  ·have he2':(e3 != 0)=true:=by simpa using he2
   rw[hQ_ hR he2];refine ac_ ?_ (by(try simp only[go_sem,he2']);try exact evd);try refine aa_ ?_
   refine⟨_,(by first|rfl|exact evd),.inr ⟨.tup [.agg (aI_ dy_),.int .i64 0,.int .i64 e3],evd,⟨jf_,trivial,trivial,trivial⟩,dR_ 0 e3 hU_⟩⟩
 rw[if_neg k8]at hR;have n8:(k==8)=false:=by simp[k8]
 refine ab_ ?_ (by(try simp only[go_sem,n8]);try exact evd);rw[nc_ hR,ha];have hs:IntKind.i64.wrap ((a:Int)+0)=(a:Int):=by rw[ai_ (by omega) (by omega)];omega
 try refine aa_ ?_
 refine ab_ ?_;repeat(first|refine aa_ ?_|simp only[go_sem,hs])
 refine⟨_,(by first|rfl|exact evd),.inr ⟨.tup [.agg (aI_ ⟨k,bj_,cI_,cz_,ca_,bL_,0,0⟩),.int .i64 (a:Int),.int .i64 0],evd,⟨(cm_ _).2 ⟨trivial,⟨trivial,trivial⟩,trivial⟩,trivial,trivial,trivial⟩,dR_ (x:=⟨k,bj_,cI_,cz_,ca_,bL_,0,0⟩) _ _ (ch_ rfl rfl bz_ bA_ bB_ rfl rfl rfl)⟩⟩
theorem Pi_(x:OpV):ops [x]=[aI_ (opL x)]:=rfl
attribute [go_sem] Pi_
theorem Qb_(b:List UInt8)(k:Nat)(e:Int):tkl b k e <:+ b:=by
 unfold tkl;split
 ·exact List.drop_suffix _ _
 ·exact List.suffix_refl _
theorem Ir_(b:List UInt8):(rOp b).2.1 <:+ b:=by
 have h1:=bx_ b 0 8;have h2:=bx_ (ap_ b 0 8).2.1 0 32768;have h3:=bx_ (ap_ (ap_ b 0 8).2.1 0 32768).2.1 (ap_ (ap_ b 0 8).2.1 0 32768).2.2 32768;unfold rOp;dsimp only;(repeat' split)<;>first|exact h1|exact(Qb_ _ _ _).trans h1|exact h3.trans (h2.trans h1)
def db_(l:List OpV)(b:List UInt8):List OpV×List UInt8×Int:=
 if b=[]then (l,b,0)else if 4096≤l.length then (l,b,11)else if (rOp b).2.2≠0 then (l,b,(rOp b).2.2)else db_ (l++[(rOp b).1]) (rOp b).2.1
termination_by 4096-l.length
decreasing_by rw[List.length_append];simp only[List.length_cons,List.length_nil];omega
set_option maxRecDepth 100000 in
set_option maxHeartbeats 4000000 in
theorem ro_(b:List UInt8)(hb:b.length≤140737488355328):
 PC Tryz.prog 64 [.sl 1 false (bts b)] (.tup [.sl 446 false (ops (db_ [] b).1),.int .i64 ((b.length-(db_ [] b).2.1.length:Nat):Int),.int .i64 (db_ [] b).2.2]):=by
 refine PC.fact 8 ua_ (by simp) ⟨bO_ b,trivial⟩ ⟨hj_ _,trivial,trivial,trivial⟩ ?_;unfold lR_;refine bd ?_;generalize hR:db_ [] b=R;try refine aa_ ?_
 refine am_ [] (tq_ b) evd (aj_.mk' (by simp) evd) ?_;refine evg ?_;try refine aa_ ?_
 refine bF_ (fun x:Bool×List OpV×List UInt8=>⟨8,[.sl 1 false (bts b),.dead,if x.1 then .hs 446 1 0 x.2.1.length else .sl 0 true [],.int .i64 ((b.length-x.2.2.length:Nat):Int),.int .i64 0,.ptr 0 0,.dead,.dead],[]⟩)
  (fun x=>if x.1 then [rdr false x.2.2 0,.vec 446 (ops x.2.1)]else [rdr false x.2.2 0]) (fun x=>4096-x.2.1.length)
  (fun x=>x.2.1.length≤4096∧(x.1=false→x.2.1=[])∧x.2.2 <:+ b∧db_ x.2.1 x.2.2=R) (false,[],b) ⟨by simp,by simp,List.suffix_refl _,hR⟩ ?_ ?_
 ·simp only[Nat.sub_self];exact Sn_ [] [0]
 rintro⟨st,l,bs⟩ ⟨i1,i2,i3,i4⟩;dsimp only at i1 i2 i3 i4 ⊢;have hle:=i3.length_le;rw[db_]at i4;have cr:=sG_ bs false 0;by_cases h0:bs=[]
 ·subst h0
  rw[if_pos rfl]at i4;subst i4;dsimp only;cases st
  ·obtain rfl:=i2 rfl;try refine aa_ ?_
   refine am_ [0] (cr) evd (aj_.mk' (by simp) evd) ?_;refine evg ?_;try refine aa_ ?_
   refine Re_ ?_
   refine⟨_,(by first|rfl|exact evd),.inr ⟨.tup [.sl 0 true [],.int .i64 ((b.length:Nat):Int),.int .i64 0],evd,⟨trivial,trivial,trivial,trivial⟩,Wk.tup ⟨Wk.empty _ _ _,Wk.refl _,Wk.refl _,trivial⟩⟩⟩
  ·try refine aa_ ?_
   refine am_ [0] (cr) evd (aj_.mk' (by simp) evd) ?_;refine evg ?_;try refine aa_ ?_
   refine Re_ ?_
   exact ah_
 rw[if_neg h0]at i4;have hp:0<bs.length:=List.length_pos_iff.2 h0;have dp:decide (0<(bs.length:Int))=true:=by rw[decide_eq_true_eq];omega
 by_cases h1:4096≤l.length
 ·rw[if_pos h1]at i4
  subst i4;dsimp only;have e4:((l.length:Int)==4096)=true:=by rw[beq_iff_eq];omega
  cases st
  ·obtain rfl:=i2 rfl;simp at h1
  ·try refine aa_ ?_
   refine am_ [0] (cr) evd (aj_.mk' (by simp) evd) ?_;refine evg ?_;try refine aa_ ?_
   refine ac_ ?_ (by(try simp only[go_sem,dp]);try exact evd);try refine aa_ ?_
   refine ac_ ?_ (by(try simp only[go_sem,e4]);try exact evd);try refine aa_ ?_
   exact ah_
 rw[if_neg h1]at i4;have e4:((l.length:Int)==4096)=false:=by rw[beq_eq_false_iff_ne];omega
 have co:=Nz_ bs (by omega);have hs:=Ir_ bs;generalize rOp bs=X at *;obtain⟨x,b2,e⟩:=X;dsimp only at co hs i4;by_cases he:e=0
 ·subst he
  rw[if_neg (by simp)]at i4;have hl2:=hs.length_le;have cr2:=sG_ b2 false 0;have hw:IntKind.i64.wrap ((b.length:Int)-(b2.length:Int))=((b.length-b2.length:Nat):Int):=by rw[ai_ (by omega) (by omega)];omega
  cases st
  ·obtain rfl:=i2 rfl;try refine aa_ ?_
   refine am_ [0] (cr) evd (aj_.mk' (by simp) evd) ?_;refine evg ?_;try refine aa_ ?_
   refine ac_ ?_ (by(try simp only[go_sem,dp]);try exact evd);try refine aa_ ?_
   refine ab_ ?_ (by(try simp only[go_sem,e4]);try exact evd);try refine aa_ ?_
   refine am_ [0] (co) evd (aj_.mk' (by simp) evd) ?_;refine evg ?_;try refine aa_ ?_
   refine Re_ ?_
   refine am_ [0] (cr2) evd (aj_.mk' (by simp) evd) ?_;refine evg ?_;repeat(first|refine aa_ ?_|simp only[go_sem,hw])
   refine⟨(true,[]++[x],b2),⟨by simp,by simp,hs.trans i3,i4⟩,by simp only[List.length_append,List.length_cons,List.length_nil]at h1 ⊢;omega,?_⟩;exact Sn_ [] [0,2]
  ·try refine aa_ ?_
   refine am_ [0] (cr) evd (aj_.mk' (by simp) evd) ?_;refine evg ?_;try refine aa_ ?_
   refine ac_ ?_ (by(try simp only[go_sem,dp]);try exact evd);try refine aa_ ?_
   refine ab_ ?_ (by(try simp only[go_sem,e4]);try exact evd);try refine aa_ ?_
   refine am_ [0] (co) evd (aj_.mk' (by simp) evd) ?_;refine evg ?_;try refine aa_ ?_
   refine Re_ ?_
   refine am_ [0] (cr2) evd (aj_.mk' (by simp) evd) ?_;refine evg ?_;repeat(first|refine aa_ ?_|simp only[go_sem,hw])
   refine⟨(true,l++[x],b2),⟨by simp only[List.length_append,List.length_cons,List.length_nil];omega,by simp,hs.trans i3,i4⟩,by simp only[List.length_append,List.length_cons,List.length_nil];omega,?_⟩;exact Sn_ [] [0,3]
 ·have he':(e != 0)=true:=by simpa using he
  rw[if_pos he]at i4;subst i4;dsimp only;cases st
  ·obtain rfl:=i2 rfl;try refine aa_ ?_
   refine am_ [0] (cr) evd (aj_.mk' (by simp) evd) ?_;refine evg ?_;try refine aa_ ?_
   refine ac_ ?_ (by(try simp only[go_sem,dp]);try exact evd);try refine aa_ ?_
   refine ab_ ?_ (by(try simp only[go_sem,e4]);try exact evd);try refine aa_ ?_
   refine am_ [0] (co) evd (aj_.mk' (by simp) evd) ?_;refine evg ?_;try refine aa_ ?_
   refine ac_ ?_ (by(try simp only[go_sem,he']);try exact evd);try refine aa_ ?_
   refine⟨_,(by first|rfl|exact evd),.inr ⟨.tup [.sl 0 true [],.int .i64 ((b.length-bs.length:Nat):Int),.int .i64 e],evd,⟨trivial,trivial,trivial,trivial⟩,Wk.tup ⟨Wk.empty _ _ _,Wk.refl _,Wk.refl _,trivial⟩⟩⟩
  ·try refine aa_ ?_
   refine am_ [0] (cr) evd (aj_.mk' (by simp) evd) ?_;refine evg ?_;try refine aa_ ?_
   refine ac_ ?_ (by(try simp only[go_sem,dp]);try exact evd);try refine aa_ ?_
   refine ab_ ?_ (by(try simp only[go_sem,e4]);try exact evd);try refine aa_ ?_
   refine am_ [0] (co) evd (aj_.mk' (by simp) evd) ?_;refine evg ?_;try refine aa_ ?_
   refine ac_ ?_ (by(try simp only[go_sem,he']);try exact evd);try refine aa_ ?_
   exact ah_
theorem Md_{s b:List UInt8}(h:s <:+ b):List.drop (b.length-s.length) b=s:=by
 obtain⟨p,rfl⟩:=h;rw[pD_,List.drop_left]
def iB_(b:List UInt8):List OpV×Int×Int:=if 1048576<b.length then ([],0,11)else ((db_ [] b).1,((b.length-(db_ [] b).2.1.length:Nat):Int),(db_ [] b).2.2)
set_option maxRecDepth 100000 in
set_option maxHeartbeats 4000000 in
theorem rv_(b:List UInt8)(hb:b.length≤140737488355328):
 PC Tryz.prog 65 [.sl 1 false (bts b)] (.tup [.sl 446 false (ops (iB_ b).1),.int .i64 (iB_ b).2.1,.int .i64 (iB_ b).2.2]):=by
 refine PC.fact 10 yw_ (by simp) ⟨bO_ b,trivial⟩ ⟨hj_ _,trivial,trivial,trivial⟩ ?_;unfold oO_ iB_;refine bd ?_;by_cases hbig:1048576<b.length
 ·have db:decide ((1048576:Int)<(b.length:Int))=true:=by rw[decide_eq_true_eq];omega
  rw[if_pos hbig];try refine aa_ ?_
  refine ac_ ?_ (by(try simp only[go_sem,db]);try exact evd);try refine aa_ ?_
  refine⟨_,(by first|rfl|exact evd),.inr ⟨.tup [.sl 0 true [],.int .i64 0,.int .i64 11],evd,⟨trivial,trivial,trivial,trivial⟩,Wk.tup ⟨Wk.empty _ _ _,Wk.refl _,Wk.refl _,trivial⟩⟩⟩
 have db:decide ((1048576:Int)<(b.length:Int))=false:=by rw[decide_eq_false_iff_not];omega
 rw[if_neg hbig];generalize hR:db_ [] b=R;try refine aa_ ?_
 refine ab_ ?_ (by(try simp only[go_sem,db]);try exact evd);try refine aa_ ?_
 refine bF_ (fun x:Bool×List OpV×List UInt8=>⟨10,[.sl 1 false (bts b),.dead,.sl 0 true [],.int .i64 0,.int .i64 0,if x.1 then .hs 446 0 0 x.2.1.length else .sl 0 true [],.int .i64 ((b.length-x.2.2.length:Nat):Int),.dead,.dead,.dead],[]⟩)
  (fun x=>if x.1 then [.vec 446 (ops x.2.1)]else []) (fun x=>4096-x.2.1.length)
  (fun x=>x.2.1.length≤4096∧(x.1=false→x.2.1=[])∧x.2.2 <:+ b∧db_ x.2.1 x.2.2=R) (false,[],b) ⟨by simp,by simp,List.suffix_refl _,hR⟩ ?_ ?_
 ·simp only[Nat.sub_self];exact Sn_ [] []
 rintro⟨st,l,bs⟩ ⟨i1,i2,i3,i4⟩;dsimp only at i1 i2 i3 i4 ⊢;have hle:=i3.length_le;rw[db_]at i4;by_cases h0:bs=[]
 ·subst h0
  rw[if_pos rfl]at i4;subst i4;dsimp only;have dp:decide ((b.length:Int)<(b.length:Int))=false:=by simp
  cases st
  ·obtain rfl:=i2 rfl;try refine aa_ ?_
   refine ab_ ?_ (by(try simp only[go_sem,dp]);try exact evd);try refine aa_ ?_
   refine⟨_,(by first|rfl|exact evd),.inr ⟨.tup [.sl 0 true [],.int .i64 ((b.length:Nat):Int),.int .i64 0],evd,⟨trivial,trivial,trivial,trivial⟩,Wk.tup ⟨Wk.empty _ _ _,Wk.refl _,Wk.refl _,trivial⟩⟩⟩
  ·try refine aa_ ?_
   refine ab_ ?_ (by(try simp only[go_sem,dp]);try exact evd);try refine aa_ ?_
   exact ah_
 rw[if_neg h0]at i4;have hp:0<bs.length:=List.length_pos_iff.2 h0;have hdr:=Md_ i3;obtain⟨a,ha⟩:∃a:Nat,b.length-bs.length=a:=⟨_,rfl⟩
 rw[ha]at hdr;rw[ha];have htk:List.take (b.length-a) bs=bs:=List.take_of_length_le (by omega);have ha2:(a:Int)≤(b.length:Int):=by omega
 have dp:decide ((a:Int)<(b.length:Int))=true:=by rw[decide_eq_true_eq];omega
 by_cases h1:4096≤l.length
 ·rw[if_pos h1]at i4
  subst i4;dsimp only;have e4:((l.length:Int)==4096)=true:=by rw[beq_iff_eq];omega
  rw[ha];cases st
  ·obtain rfl:=i2 rfl;simp at h1
  ·try refine aa_ ?_
   refine ac_ ?_ (by(try simp only[go_sem,dp]);try exact evd);try refine aa_ ?_
   refine ac_ ?_ (by(try simp only[go_sem,e4]);try exact evd);try refine aa_ ?_
   exact ah_
 rw[if_neg h1]at i4;have e4:((l.length:Int)==4096)=false:=by rw[beq_eq_false_iff_ne];omega
 have co:=MR_ bs (by omega);have hs:=Ir_ bs;have hn:=@nc_ bs;have hn2:=@hQ_ bs;generalize rOp bs=X at *;obtain⟨x,b2,e⟩:=X;dsimp only at hs i4;by_cases he:e=0
 ·subst he
  rw[hn rfl]at co;rw[if_neg (by simp)]at i4;have hl2:=hs.length_le;dsimp only at co;obtain⟨u,hu⟩:∃u:Nat,bs.length-b2.length=u:=⟨_,rfl⟩
  rw[hu]at co;have hw:IntKind.i64.wrap ((a:Int)+(u:Int))=((b.length-b2.length:Nat):Int):=by rw[ai_ (by omega) (by omega)];omega
  cases st
  ·obtain rfl:=i2 rfl;try refine aa_ ?_
   refine ac_ ?_ (by(try simp only[go_sem,dp]);try exact evd);try refine aa_ ?_
   refine ab_ ?_ (by(try simp only[go_sem,e4]);try exact evd);repeat(first|refine aa_ ?_|simp only[go_sem,hdr,htk])
   refine RV_ co ?_
   refine ab_ ?_;repeat(first|refine aa_ ?_|simp only[go_sem,hw])
   refine⟨(true,[]++[x],b2),⟨by simp,by simp,hs.trans i3,i4⟩,by simp only[List.length_append,List.length_cons,List.length_nil]at h1 ⊢;omega,?_⟩;exact Sn_ [] [1]
  ·try refine aa_ ?_
   refine ac_ ?_ (by(try simp only[go_sem,dp]);try exact evd);try refine aa_ ?_
   refine ab_ ?_ (by(try simp only[go_sem,e4]);try exact evd);repeat(first|refine aa_ ?_|simp only[go_sem,hdr,htk])
   refine RV_ co ?_
   refine ab_ ?_;repeat(first|refine aa_ ?_|simp only[go_sem,hw])
   refine⟨(true,l++[x],b2),⟨by simp only[List.length_append,List.length_cons,List.length_nil];omega,by simp,hs.trans i3,i4⟩,by simp only[List.length_append,List.length_cons,List.length_nil];omega,?_⟩;exact Sn_ [] [2]
 ·have he':(e != 0)=true:=by simpa using he
  rw[hn2 rfl he]at co;dsimp only at co;rw[if_pos he]at i4;subst i4;dsimp only;rw[ha];cases st
  ·obtain rfl:=i2 rfl;try refine aa_ ?_
   refine ac_ ?_ (by(try simp only[go_sem,dp]);try exact evd);try refine aa_ ?_
   refine ab_ ?_ (by(try simp only[go_sem,e4]);try exact evd);repeat(first|refine aa_ ?_|simp only[go_sem,hdr,htk])
   refine RV_ co ?_
   refine ac_ ?_ (by(try simp only[go_sem,he']);try exact evd);try refine aa_ ?_
   refine⟨_,(by first|rfl|exact evd),.inr ⟨.tup [.sl 0 true [],.int .i64 (a:Int),.int .i64 e],evd,⟨trivial,trivial,trivial,trivial⟩,Wk.tup ⟨Wk.empty _ _ _,Wk.refl _,Wk.refl _,trivial⟩⟩⟩
  ·try refine aa_ ?_
   refine ac_ ?_ (by(try simp only[go_sem,dp]);try exact evd);try refine aa_ ?_
   refine ab_ ?_ (by(try simp only[go_sem,e4]);try exact evd);repeat(first|refine aa_ ?_|simp only[go_sem,hdr,htk])
   refine RV_ co ?_
   refine ac_ ?_ (by(try simp only[go_sem,he']);try exact evd);try refine aa_ ?_
   exact ah_
def qz_(b:List UInt8):List OpV×Int:=if (iB_ b).2.2≠0 then ([],(iB_ b).2.2)else ((iB_ b).1,0)
theorem Fq_(b:List UInt8)(hb:b.length≤140737488355328):
 PC Tryz.prog 66 [.sl 1 false (bts b)] (.tup [.sl 446 false (ops (qz_ b).1),.int .i64 (qz_ b).2]):=by
 refine PC.fact 7 sc_ (by simp) ⟨bO_ b,trivial⟩ ⟨hj_ _,trivial,trivial⟩ ?_;unfold kr_ qz_;refine bd ?_;have k:=rv_ b hb;generalize iB_ b=R at *;obtain⟨l,n,e⟩:=R;dsimp only at k ⊢;try refine aa_ ?_
 refine RV_ k ?_
 by_cases he:e=0
 ·subst he;rw[if_neg (by simp)];refine Re_ ?_
  exact ah_
 ·have he':(e != 0)=true:=by simpa using he
  rw[if_pos he];refine ac_ ?_ (by(try simp only[go_sem,he']);try exact evd);try refine aa_ ?_
  refine⟨_,(by first|rfl|exact evd),.inr ⟨.tup [.sl 0 true [],.int .i64 e],evd,⟨trivial,trivial,trivial⟩,Wk.tup ⟨Wk.empty _ _ _,Wk.refl _,trivial⟩⟩⟩
theorem wG_(b:List UInt8)(hb:b.length≤140737488355328):
 PC Tryz.prog 25 [.sl 1 false (bts b)] (.tup [.sl 446 false (ops (qz_ b).1),.int .i64 (qz_ b).2]):=by
 refine PC.fact 7 tX_ (by simp) ⟨bO_ b,trivial⟩ ⟨hj_ _,trivial,trivial⟩ ?_;unfold lO_ qz_ iB_;refine bd ?_;by_cases hbig:1048576<b.length
 ·have db:decide ((1048576:Int)<(b.length:Int))=true:=by rw[decide_eq_true_eq];omega
  simp only[if_pos hbig];try refine aa_ ?_
  refine ac_ ?_ (by(try simp only[go_sem,db]);try exact evd);try refine aa_ ?_
  refine⟨_,(by first|rfl|exact evd),.inr ⟨.tup [.sl 0 true [],.int .i64 11],evd,⟨trivial,trivial,trivial⟩,Wk.tup ⟨Wk.empty _ _ _,Wk.refl _,trivial⟩⟩⟩
 have db:decide ((1048576:Int)<(b.length:Int))=false:=by rw[decide_eq_false_iff_not];omega
 simp only[if_neg hbig];have k:=ro_ b hb;generalize db_ [] b=R at *;obtain⟨l,n,e⟩:=R;dsimp only at k ⊢;try refine aa_ ?_
 refine ab_ ?_ (by(try simp only[go_sem,db]);try exact evd);try refine aa_ ?_
 refine RV_ k ?_
 by_cases he:e=0
 ·subst he;rw[if_neg (by simp)];refine Re_ ?_
  exact ah_
 ·have he':(e != 0)=true:=by simpa using he
  rw[if_pos he];refine ac_ ?_ (by(try simp only[go_sem,he']);try exact evd);try refine aa_ ?_
  refine⟨_,(by first|rfl|exact evd),.inr ⟨.tup [.sl 0 true [],.int .i64 e],evd,⟨trivial,trivial,trivial⟩,Wk.tup ⟨Wk.empty _ _ _,Wk.refl _,trivial⟩⟩⟩
theorem Fz_(b:List UInt8)(hb:b.length≤140737488355328):
 PC Tryz.prog 28 [.sl 1 false (bts b)] (.tup [.sl 446 false (ops (iB_ b).1),.int .i64 (iB_ b).2.1]):=by
 refine PC.fact 7 yu_ (by simp) ⟨bO_ b,trivial⟩ ⟨hj_ _,trivial,trivial⟩ ?_;unfold oM_;refine bd ?_;have k:=rv_ b hb;generalize iB_ b=R at *;obtain⟨l,n,e⟩:=R;dsimp only at k ⊢;try refine aa_ ?_
 refine RV_ k ?_
 exact ah_
theorem Fk_(b:List UInt8)(hb:b.length≤140737488355328):
 PC Tryz.prog 26 [.sl 1 false (bts b)] (.tup [.sl 446 false (ops (iB_ b).1),.int .i64 (iB_ b).2.1]):=by
 refine PC.fact 4 tZ_ (by simp) ⟨bO_ b,trivial⟩ ⟨hj_ _,trivial,trivial⟩ ?_;unfold lQ_ iB_;refine bd ?_;by_cases hbig:1048576<b.length
 ·have db:decide ((1048576:Int)<(b.length:Int))=true:=by rw[decide_eq_true_eq];omega
  simp only[if_pos hbig];try refine aa_ ?_
  refine ac_ ?_ (by(try simp only[go_sem,db]);try exact evd);try refine aa_ ?_
  refine⟨_,(by first|rfl|exact evd),.inr ⟨.tup [.sl 0 true [],.int .i64 0],evd,⟨trivial,trivial,trivial⟩,Wk.tup ⟨Wk.empty _ _ _,Wk.refl _,trivial⟩⟩⟩
 have db:decide ((1048576:Int)<(b.length:Int))=false:=by rw[decide_eq_false_iff_not];omega
 simp only[if_neg hbig];have k:=ro_ b hb;generalize db_ [] b=R at *;obtain⟨l,n,e⟩:=R;dsimp only at k ⊢;try refine aa_ ?_
 refine ab_ ?_ (by(try simp only[go_sem,db]);try exact evd);try refine aa_ ?_
 refine RV_ k ?_
 exact ah_
theorem rt_(l:List OpV)(hl:l.length≤4096)(hu:∀x∈l,je_ x):PC Tryz.prog 27 [.sl 446 false (ops l),.sl 446 false (ops l)] (.bool true):=by
 refine PC.fact 6 vG_ (by simp) ⟨hj_ l,hj_ l,trivial⟩ trivial ?_;unfold my_;refine bd ?_;have e0:((l.length:Int) != (l.length:Int))=false:=by simp
 try refine aa_ ?_
 refine ab_ ?_ (by(try simp only[go_sem,e0]);try exact evd);try refine aa_ ?_
 refine bF_ (fun i:Nat=>⟨6,[.sl 446 false (ops l),.sl 446 false (ops l),.dead,.dead,.bool false,.int .i64 i],[]⟩) (fun _=>[]) (fun i=>l.length-i) (fun i=>i≤l.length) 0 (by omega) ?_ ?_
 ·exact Sn_ [] []
 intro i hi;try dsimp only
 try refine aa_ ?_
 refine au_ evd (fun h=>?_) (fun h=>?_)
 ·have h1:i<l.length:=by simpa using h
  have hg:=vT_ h1;have hw:=ag_ h1 (by omega);have k:=Iz_ l[i] l[i] (hu _ (List.getElem_mem h1)) (hu _ (List.getElem_mem h1));rw[Fo_]at k;repeat(first|refine aa_ ?_|simp only[go_sem,hg])
  refine ay_ (k) ?_;try refine aa_ ?_
  refine ab_ ?_;repeat(first|refine aa_ ?_|simp only[go_sem,hw])
  refine⟨i+1,h1,by omega,?_⟩;exact Sn_ [] []
 ·try refine aa_ ?_
  exact ah_
def WkE:List (List AV)→List (List AV)→Prop
 | [],[]=>True
 |x::xs,y::ys=>WkC x y∧WkE xs ys
 |_,_=>False
theorem WkE.length:∀ {xs ys:List (List AV)},WkE xs ys→xs.length=ys.length
 | [],[],_=>rfl
 |_::_,_::_,h=>by simp[WkE.length h.2]
 | [],_::_,h|_::_,[],h=>h.elim
theorem WkE.rle{E:Env}{e:Nat}:∀ {xs ys:List (List AV)} {us:List Value},WkE xs ys→RlE E e xs us→RlE E e ys us
 | [],[],_,_,h=>h
 |_::_,_::_,_,hw,⟨us,ws,q1,q2,q3,q4⟩=>⟨us,ws,q1,q2,hw.1.rlc q3,WkE.rle hw.2 q4⟩
 | [],_::_,_,h,_|_::_,[],_,h,_=>h.elim
theorem Wk.sl{e:Nat}{cl:Bool}{xs ys:List (List AV)}(h:WkE xs ys):Wk (.sl e cl xs) (.sl e false ys):=by
 rintro E u ⟨a,n,cap,rfl,h1,h2,h3,h4,h5,h6⟩;refine⟨a,n,cap,rfl,by rw[h1,h.length],h2,h3,(fun h=>Bool.noConfusion h),h5,h6.imp id ?_⟩;rintro⟨b,off,vs,g1,g2,g3,g4,g5⟩;exact⟨b,off,vs,g1,g2,g3,g4,h.rle g5⟩
def t1:OpV:=⟨1,bj_,dj_,cV_,cP_,bL_,0,0⟩
def t8:OpV:=⟨8,bj_,dj_,cV_,cP_,bL_,2,5⟩
theorem OL_:ud_ t1=true:=by rw[Cj_];simp[t1,cV_,cP_]
theorem OM_:ud_ t8=true:=by rw[Cj_];simp[t8,cV_,cP_]
theorem Ml_:fld t1=([],0):=by simp[fld,t1]
theorem Mm_:fld t8=([2,5],0):=by simp[fld,t8,ki_,cb_]
theorem Rh_:vOp t1=0:=by rw[vOp,Ml_,OL_];simp[t1]
theorem Ri_:vOp t8=0:=by rw[vOp,Mm_,OM_];simp[t8]
theorem Pa_:hn_ t1=[1]:=by rw[hn_,Ml_];simp[t1,cb_]
theorem Pb_:hn_ t8=[8,2,5]:=by rw[hn_,Mm_];simp[t8,cb_]
theorem Rz_:fj_ [t1,t8]=([1,8,2,5],0):=by simp[fj_,cC_,Rh_,Ri_,Pa_,Pb_]
theorem QT_:∀b,ap_ (1::b) 0 8=(1,b,0)→rOp (1::b)=(t1,b,0):=by
 intro b h;rw[rOp,h];simp[t1]
theorem QU_:rOp [8,2,5]=(t8,[],0):=by
 have h1:ap_ [8,2,5] 0 8=(8,[2,5],0):=by decide +kernel
 have h2:ap_ [2,5] 0 32768=(2,[5],0):=by decide +kernel
 have h3:ap_ [5] 0 32768=(5,[],0):=by decide +kernel
 rw[rOp];simp[h1,h2,h3,t8]
theorem Ry_:qz_ [1,8,2,5]=([t1,t8],0):=by
 have h1:=QT_ [8,2,5] (by decide +kernel)
 have h:db_ [] [1,8,2,5]=([t1,t8],[],0):=by
  rw[db_,if_neg (by simp),if_neg (by simp),h1,if_neg (by simp),db_,if_neg (by simp),if_neg (by simp),QU_,if_neg (by simp),db_,if_pos rfl];rfl
 simp[qz_,iB_,h]
theorem Qi_(k w p:Int):OpU ⟨k,bj_,dj_,cV_,cP_,bL_,w,p⟩:=by
 have u0:U64 0:=⟨by decide,by decide⟩;exact⟨⟨u0,u0,u0,u0,u0⟩,u0,u0,by simp[dj_],⟨u0,u0,rfl,by simp[cV_,fP_]⟩,⟨u0,u0,rfl,by simp[cV_,fP_]⟩,⟨u0,rfl,by simp[cP_],by simp[cP_]⟩,u0⟩
set_option maxRecDepth 100000 in
theorem dJ_:PC Tryz.prog 21 [] (.bool true):=by
 refine PC.fact 5 BT_ (by simp) trivial trivial ?_;unfold qc_;refine bd ?_;have c1:=Fd_ [t1,t8] (by intro x hx;simp only[List.mem_cons,List.not_mem_nil,or_false]at hx;rcases hx with rfl|rfl<;>exact Qi_ _ _ _) (by decide);have c2:=wG_ [1,8,2,5] (by decide);rw[Rz_]at c1;rw[Ry_]at c2;have hg:(ops [t1,t8]).getD 1 []=aI_ (opL t8):=rfl;have hk:(opL t8).keep=5:=rfl;have hl:(ops [t1,t8]).length=2:=rfl
 have hw:Wk (.sl 446 true [aI_ ⟨1,bj_,cI_,cz_,ca_,bL_,0,0⟩,aI_ ⟨8,bj_,cI_,cz_,ca_,bL_,2,5⟩]) (.sl 446 false (ops [t1,t8])):=
  Wk.sl ⟨ch_ rfl rfl bz_ bA_ bB_ rfl rfl rfl,ch_ rfl rfl bz_ bA_ bB_ rfl rfl rfl,trivial⟩
 have hq:(([1,8,2,5]:List UInt8)==[UInt8.ofNat 1,UInt8.ofNat 8,UInt8.ofNat 2,UInt8.ofNat 5])=true:=by decide
 have ht:ops [t1,t8]=ops [t1,t8]:=rfl;generalize hO:ops [t1,t8]=O at c1 c2 hg hl hw ht;have hp:(cj_ (rn [] 0) O)=O:=by rw[←hO,AG_]
 generalize opL t8=T at *;dsimp only at c1 c2;try refine aa_ ?_
 refine jY_ c1 ⟨hw,trivial⟩ ⟨⟨(cm_ _).2 ⟨trivial,⟨trivial,trivial⟩,trivial⟩,(cm_ _).2 ⟨trivial,⟨trivial,trivial⟩,trivial⟩,trivial⟩,trivial⟩ ?_;try refine aa_ ?_
 refine ae_ c2 ?_;repeat(first|refine aa_ ?_|simp only[go_sem,hl,hg,hk,hq])
 exact ah_
def RC_(x:OpV):Prop:=x.att.2.2.2.length≤100∧x.slg.1.2.2.2.length≤100∧x.slg.2.2.2.2.length≤100∧x.tab.2.length≤100
instance (x:OpV):Decidable (RC_ x):=inferInstanceAs (Decidable (_∧_∧_∧_))
theorem uv_(k w p:Int):je_ ⟨k,bj_,dj_,cV_,cP_,bL_,w,p⟩:=(Qi_ k w p).len
theorem Pq_(b:List UInt8):je_ (rOp b).1:=by
 have hA:=Ma_ (ap_ b 0 8).2.1;have hS:=Mb_ (ap_ b 0 8).2.1;have hT:=Mc_ (ap_ b 0 8).2.1;unfold rOp;dsimp only;(repeat' split)
 ·exact uv_ 0 0 0
 ·exact uv_ 0 0 0
 ·exact⟨by simp[dj_],by simp[cV_,fP_],by simp[cV_,fP_],by simp[cP_]⟩
 ·exact⟨by dsimp only;omega,by simp[cV_,fP_],by simp[cV_,fP_],by simp[cP_]⟩
 ·exact⟨by simp[dj_],by dsimp only;omega,by dsimp only;omega,by simp[cP_]⟩
 ·exact⟨by simp[dj_],by simp[cV_,fP_],by simp[cV_,fP_],by dsimp only;omega⟩
 ·exact⟨by simp[dj_],by simp[cV_,fP_],by simp[cV_,fP_],by simp[cP_]⟩
 ·exact uv_ 8 _ _
 ·exact uv_ _ 0 0
theorem zO_:∀ (k:Nat) (l:List OpV) (b:List UInt8),4096-l.length=k→l.length≤4096→(∀x∈l,je_ x)→(db_ l b).1.length≤4096∧∀x∈(db_ l b).1,je_ x
 | k, l, b, hk, hl, ha => by
   rw[db_];split
   ·exact⟨hl,ha⟩
   split
   ·exact⟨hl,ha⟩
   split
   ·exact⟨hl,ha⟩
   ·have hlen:(l++[(rOp b).1]).length=l.length+1:=by simp
    cases k with
    |zero=>omega
    | succ k =>
      refine zO_ k _ _ (by omega) (by omega) fun x hx=>?_
      rcases List.mem_append.1 hx with hx|hx
      ·exact ha x hx
      ·obtain rfl:x=(rOp b).1:=by simpa using hx
       exact Pq_ b
theorem vl_(b:List UInt8):(iB_ b).1.length≤4096∧∀x∈(iB_ b).1,je_ x:=by
 unfold iB_;split
 ·simp
 ·exact zO_ _ [] b rfl (by simp) (by simp)
theorem DS_(b:List UInt8):(qz_ b).1.length≤4096∧∀x∈(qz_ b).1,je_ x:=by
 unfold qz_;split
 ·simp
 ·exact vl_ b
set_option maxRecDepth 100000 in
set_option maxHeartbeats 4000000 in
theorem pc_ScriptDecodes(b:List UInt8)(hb:b.length≤maxLen):PC Tryz.prog 29 [.sl 1 false (bts b)] (.bool true):=by
 refine PC.fact 11 mJ_ (by simp) ⟨bO_ _,trivial⟩ trivial ?_;unfold gI_;refine bd ?_;by_cases h:2000<b.length
 ·have h':decide ((2000:Int)<(b.length:Int))=true:=by rw[decide_eq_true_eq];omega
  try refine aa_ ?_
  refine ac_ ?_ (by(try simp only[go_sem,h']);try exact evd);try refine aa_ ?_
  refine RV_ dJ_ ?_
  exact ah_
 have h':decide ((2000:Int)<(b.length:Int))=false:=by rw[decide_eq_false_iff_not];omega
 have c1:=wG_ b (by omega);have c2:=Fq_ b (by omega);have c3:=Fk_ b (by omega);have c4:=Fz_ b (by omega);have m1:=rt_ _ (DS_ b).1 (DS_ b).2;have m2:=rt_ _ (vl_ b).1 (vl_ b).2;generalize qz_ b=D at *;generalize iB_ b=E at *;obtain⟨l,e⟩:=D;obtain⟨p,n,f⟩:=E;dsimp only at c1 c2 c3 c4 m1 m2;try refine aa_ ?_
 refine ab_ ?_ (by(try simp only[go_sem,h']);try exact evd);try refine aa_ ?_
 refine RV_ c1 ?_
 refine RV_ c2 ?_
 refine RV_ c3 ?_
 refine RV_ c4 ?_
 refine RV_ m1 ?_
 refine RV_ m2 ?_
 refine RV_ dJ_ ?_
 exact ah_
end Go.Proofs.YtipiipgpnkpejaaGreat
