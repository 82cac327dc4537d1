/-
 My texts Ga, Gb, Gc, Gd, Ge, Gf, joined.
-/
import Derived.Test.YtipiipgpnkpejaaGreatV1
import Derived.Test.YtipiipgpnkpejaaGreatW5
import Derived.Test.YtipiipgpnkpejaaGreatW3
namespace Go.Proofs.YtipiipgpnkpejaaGreat
open Go Go.FH Go.RowKit
set_option linter.unusedVariables false
set_option linter.unusedSimpArgs false

structure OpV where
 kind:Int
 blk:Blk
 att:Int × Rt × Cp × List Int
 slg:Sv
 tab:Tv
 vdt:Vdt
 write:Int
 keep:Int
def opL (x:OpV):SOp:=⟨x.kind,x.blk,attL x.att,slgL x.slg,tabL x.tab,x.vdt,x.write,x.keep⟩
theorem Do_ (x:OpV):(opL x).kind=x.kind:=rfl
theorem DU_ (x:OpV):(opL x).blk=x.blk:=rfl
theorem EC_ (x:OpV):(opL x).att=attL x.att:=rfl
theorem EQ_ (x:OpV):(opL x).slg=slgL x.slg:=rfl
theorem EK_ (x:OpV):(opL x).tab=tabL x.tab:=rfl
theorem Ee_ (x:OpV):(opL x).vdt=x.vdt:=rfl
theorem yF_ (x:OpV):(opL x).write=x.write:=rfl
theorem AZ_ (x:OpV):(opL x).keep=x.keep:=rfl
theorem Dp_ (x:OpV):(opL x).good=true:=rfl
theorem Fb_ (x:OpV):(opL x).Pure:=⟨aw_ _ _,⟨mU_ _,mU_ _⟩,aw_ _ _⟩
theorem cG_ (x:OpV):PuL (sOpC (opL x)):=(cA_ _).2 (Fb_ x)
theorem Dy_ (x:OpV) (ρ:Nat→Nat):(opL x).map (ren ρ)=opL x:=by simp only[opL,SOp.map,vS_,vb_,vv_]
theorem Fy_ (x:OpV) (σ:St) (zs:List Nat):(opL x).map (fz σ zs)=opL x:=by simp only[opL,SOp.map,ya_,xT_,xN_]
theorem Bu_ (x:Sv):(slgL x).fst=clmL x.1:=rfl
theorem CR_ (x:Sv):(slgL x).snd=clmL x.2:=rfl
theorem zi_ (x:Int × Rt × Cp × List Int):(attL x).vals=.sl 1 false (nums .i64 x.2.2.2):=rfl
theorem zL_ (x:Tv):(tabL x).bals=.sl 1 false (nums .u64 x.2):=rfl
theorem DI_ (x:Tv):(tabL x).cp=x.1:=rfl
attribute [go_sem] Do_ DU_ EC_ EQ_ EK_ Ee_ yF_ AZ_ Dp_ Dy_ Fy_ Bu_ CR_ zi_ zL_ DI_
def prs (fs:List (Int × Bool)):List (List AV):=fs.map fun f=>[.int .i64 f.1,.bool f.2]
theorem xB_ (fs:List (Int × Bool)):(prs fs).length=fs.length:=by simp[prs]
theorem AY_ (fs:List (Int × Bool)):PuLL (prs fs):=by
 induction fs with
 | nil=>trivial
 | cons f fs ih=>exact⟨⟨trivial,trivial,trivial⟩,ih⟩
theorem AF_ (ρ:Nat→Nat) (fs:List (Int × Bool)):renLL ρ (prs fs)=prs fs:=(AY_ fs).ren ρ
theorem Bp_ (σ:St) (zs:List Nat) (fs:List (Int × Bool)):fzLL σ zs (prs fs)=prs fs:=(AY_ fs).fz σ zs
attribute [go_sem] xB_ AF_ Bp_
def okF (k:Int) (fs:List (Int × Bool)) (i:Nat):Bool:=if h:i<fs.length then ((fs[i].1==k) || fs[i].2)&&okF k fs (i+1)else true
termination_by fs.length-i
theorem rM_ {k:Int}{fs:List (Int × Bool)}{i:Nat}(h:i<fs.length):okF k fs i=(((fs[i].1==k) || fs[i].2)&&okF k fs (i+1)):=by rw[okF,dif_pos h]
theorem EE_ {k:Int}{fs:List (Int × Bool)}{i:Nat}(h:¬ i<fs.length):okF k fs i=true:=by rw[okF,dif_neg h]
def zeros (x:OpV):List (Int × Bool):=
 [(2,decide (x.blk=blk0)),(3,decide (x.att=attZ)),(4,decide (x.slg.1=clmZ)&&decide (x.slg.2=clmZ)),(5,decide (x.tab.1=cp0)&&decide (x.tab.2=[])),(6,decide (x.vdt=vdt0)),(8,(x.write==0)&&(x.keep==0))]
def idle (x:OpV):Bool:=okF x.kind (zeros x) 0



structure OpLen (x:OpV):Prop where
 att:x.att.2.2.2.length≤140737488355328
 fst:x.slg.1.2.2.2.length≤140737488355328
 snd:x.slg.2.2.2.2.length≤140737488355328
 tab:x.tab.2.length≤140737488355328
def sAtt (a b:Int × Rt × Cp × List Int):Bool:=decide (a.1=b.1∧a.2.1=b.2.1∧a.2.2.1=b.2.2.1∧a.2.2.2=b.2.2.2)
def sClm (a b:Cv):Bool:=decide (a.1=b.1∧a.2.1=b.2.1∧a.2.2.1=b.2.2.1∧a.2.2.2=b.2.2.2)
def sTab (a b:Tv):Bool:=decide (a.1=b.1∧a.2=b.2)
def sameOp (x y:OpV):Bool:=(x.kind==y.kind)&&(decide (x.blk=y.blk)&&(sAtt x.att y.att&&((sClm x.slg.1 y.slg.1&&sClm x.slg.2 y.slg.2)&&(sTab x.tab y.tab&&(decide (x.vdt=y.vdt)&&((x.write==y.write)&&(x.keep==y.keep)))))))
set_option maxHeartbeats 4000000 in
theorem DK_ (x y:OpV) (hx:OpLen x) (hy:OpLen y):PC Tryz.prog 62 [.agg (sOpC (opL x)),.agg (sOpC (opL y))] (.bool (sameOp x y)):=by
 refine PC.fact 5 pP_ (by simp) ⟨cG_ x,cG_ y,trivial⟩ trivial ?_
 unfold iH_ sameOp;refine bd ?_
 have k1:PC Tryz.prog 48 [.agg (attC (attL x.att)),.agg (attC (attL y.att))] (.bool (sAtt x.att y.att)):=vH_ (attL x.att) (attL y.att) _ _ false false rfl rfl hx.att hy.att
 have k2:PC Tryz.prog 51 [.agg (slgC (slgL x.slg)),.agg (slgC (slgL y.slg))] (.bool (sClm x.slg.1 y.slg.1&&sClm x.slg.2 y.slg.2)):=ul_ (slgL x.slg) (slgL y.slg) _ _ _ _ false false false false rfl rfl rfl rfl hx.fst hx.snd hy.fst hy.snd
 have k3:PC Tryz.prog 54 [.agg (tabC (tabL x.tab)),.agg (tabC (tabL y.tab))] (.bool (sTab x.tab y.tab)):=uT_ (tabL x.tab) (tabL y.tab) _ _ false false rfl rfl hx.tab hy.tab
 generalize h1:(x.kind==y.kind)=B1 at *
 generalize h2:decide (x.blk=y.blk)=B2 at *
 generalize sAtt x.att y.att=B3 at *
 generalize (sClm x.slg.1 y.slg.1&&sClm x.slg.2 y.slg.2)=B4 at *
 generalize sTab x.tab y.tab=B5 at *
 generalize h6:decide (x.vdt=y.vdt)=B6 at *
 generalize h7:(x.write==y.write)=B7 at *
 generalize h8:(x.keep==y.keep)=B8 at *
 cases B1
 · repeat(first | refine aa_ ?_ | simp only[go_sem,h1])
   exact fin0
 cases B2
 · repeat(first | refine aa_ ?_ | simp only[go_sem,h1,h2])
   exact fin0
 repeat(first | refine aa_ ?_ | simp only[go_sem,h1,h2])
 refine pcall k1 ?_
 cases B3
 · repeat(first | refine aa_ ?_ | simp only[go_sem,h1,h2])
   exact fin0
 repeat(first | refine aa_ ?_ | simp only[go_sem,h1,h2])
 refine pcall k2 ?_
 cases B4
 · repeat(first | refine aa_ ?_ | simp only[go_sem,h1,h2])
   exact fin0
 repeat(first | refine aa_ ?_ | simp only[go_sem,h1,h2])
 refine pcall k3 ?_
 cases B5
 · repeat(first | refine aa_ ?_ | simp only[go_sem,h1,h2,h6])
   exact fin0
 cases B6
 · repeat(first | refine aa_ ?_ | simp only[go_sem,h1,h2,h6])
   exact fin0
 cases B7
 · repeat(first | refine aa_ ?_ | simp only[go_sem,h1,h2,h6,h7])
   exact fin0
 · repeat(first | refine aa_ ?_ | simp only[go_sem,h1,h2,h6,h7,h8])
   exact fin0

structure OpU (x:OpV):Prop where
 blk:BlkU x.blk
 slot:U64 x.att.1
 ep:U64 x.att.2.2.1.ep
 att:x.att.2.2.2.length≤140737488355328
 fst:ClmU (clmL x.slg.1) x.slg.1.2.2.2 false
 snd:ClmU (clmL x.slg.2) x.slg.2.2.2.2 false
 tab:TabU (tabL x.tab) x.tab.2 false
 tag:U64 x.vdt.tag
theorem OpU.len {x:OpV}(h:OpU x):OpLen x:=⟨h.att,h.fst.len,h.snd.len,h.tab.len⟩
def bad8 (x:OpV):Bool:=!(decide (0≤x.write∧x.write≤32768)&&decide (0≤x.keep∧x.keep≤32768))
def fld (x:OpV):List UInt8 × Int:=
 if x.kind=2 then (kenc x.blk,0)
 else if x.kind=3 then (if vErr x.att.2.2.2 1024=0 then aenc (attL x.att) x.att.2.2.2 else [],vErr x.att.2.2.2 1024)
 else if x.kind=4 then (if slErr x.slg.1.2.2.2 x.slg.2.2.2.2=0 then slenc (slgL x.slg) x.slg.1.2.2.2 x.slg.2.2.2.2 else [],slErr x.slg.1.2.2.2 x.slg.2.2.2.2)
 else if x.kind=5 then (if 1024<x.tab.2.length then []else tenc (tabL x.tab) x.tab.2,if 1024<x.tab.2.length then 3 else 0)
 else if x.kind=6 then (if vBad x.vdt then []else venc x.vdt,if vBad x.vdt then 3 else 0)
 else if x.kind=8 then (if bad8 x then ([],3)else (uenc x.write.toNat++uenc x.keep.toNat,0))
 else ([],0)


set_option maxHeartbeats 4000000 in
theorem vN_ (x:OpV) (hx:OpU x):PC Tryz.prog 61 [.agg (sOpC (opL x))] (.tup [.sl 1 false (bts (fld x).1),.int .i64 (fld x).2]):=by
 refine PC.fact 4 ta_ (by simp) ⟨cG_ x,trivial⟩ ⟨bG_ _,trivial,trivial⟩ ?_
 unfold kh_ fld;refine bd ?_
 by_cases h2:x.kind=2
 · rw[if_pos h2]
   have e2:(x.kind==2)=true:=by simp[h2]
   try refine aa_ ?_
   refine ac_ ?_ (by(try simp only[go_sem,e2]);try exact evd)
   try refine aa_ ?_
   refine pcall (vq_ x.blk hx.blk) ?_
   try refine aa_ ?_
   exact fin0
 rw[if_neg h2]
 have n2:(x.kind==2)=false:=by simp[h2]
 by_cases h3:x.kind=3
 · rw[if_pos h3]
   have e3:(x.kind==3)=true:=by simp[h3]
   have k3:=uZ_ (attL x.att) x.att.2.2.2 false rfl hx.att hx.slot hx.ep
   try refine aa_ ?_
   refine ab_ ?_ (by(try simp only[go_sem,n2]);try exact evd)
   try refine aa_ ?_
   refine ac_ ?_ (by(try simp only[go_sem,e3]);try exact evd)
   try refine aa_ ?_
   refine pcall k3 ?_
   try refine aa_ ?_
   exact fin0
 rw[if_neg h3]
 have n3:(x.kind==3)=false:=by simp[h3]
 by_cases h4:x.kind=4
 · rw[if_pos h4]
   have e4:(x.kind==4)=true:=by simp[h4]
   have k4:=nN_ (slgL x.slg) x.slg.1.2.2.2 x.slg.2.2.2.2 false false hx.fst hx.snd
   try refine aa_ ?_
   refine ab_ ?_ (by(try simp only[go_sem,n2]);try exact evd)
   try refine aa_ ?_
   refine ab_ ?_ (by(try simp only[go_sem,n3]);try exact evd)
   try refine aa_ ?_
   refine ac_ ?_ (by(try simp only[go_sem,e4]);try exact evd)
   try refine aa_ ?_
   refine pcall k4 ?_
   try refine aa_ ?_
   exact fin0
 rw[if_neg h4]
 have n4:(x.kind==4)=false:=by simp[h4]
 by_cases h5:x.kind=5
 · rw[if_pos h5]
   have e5:(x.kind==5)=true:=by simp[h5]
   have k5:=vi_ (tabL x.tab) x.tab.2 false hx.tab
   try refine aa_ ?_
   refine ab_ ?_ (by(try simp only[go_sem,n2]);try exact evd)
   try refine aa_ ?_
   refine ab_ ?_ (by(try simp only[go_sem,n3]);try exact evd)
   try refine aa_ ?_
   refine ab_ ?_ (by(try simp only[go_sem,n4]);try exact evd)
   try refine aa_ ?_
   refine ac_ ?_ (by(try simp only[go_sem,e5]);try exact evd)
   try refine aa_ ?_
   refine pcall k5 ?_
   try refine aa_ ?_
   exact fin0
 rw[if_neg h5]
 have n5:(x.kind==5)=false:=by simp[h5]
 by_cases h6:x.kind=6
 · rw[if_pos h6]
   have e6:(x.kind==6)=true:=by simp[h6]
   have k6:=CP_ x.vdt hx.tag
   try refine aa_ ?_
   refine ab_ ?_ (by(try simp only[go_sem,n2]);try exact evd)
   try refine aa_ ?_
   refine ab_ ?_ (by(try simp only[go_sem,n3]);try exact evd)
   try refine aa_ ?_
   refine ab_ ?_ (by(try simp only[go_sem,n4]);try exact evd)
   try refine aa_ ?_
   refine ab_ ?_ (by(try simp only[go_sem,n5]);try exact evd)
   try refine aa_ ?_
   refine ac_ ?_ (by(try simp only[go_sem,e6]);try exact evd)
   try refine aa_ ?_
   refine pcall k6 ?_
   try refine aa_ ?_
   exact fin0
 rw[if_neg h6]
 have n6:(x.kind==6)=false:=by simp[h6]
 try refine aa_ ?_
 refine ab_ ?_ (by(try simp only[go_sem,n2]);try exact evd)
 try refine aa_ ?_
 refine ab_ ?_ (by(try simp only[go_sem,n3]);try exact evd)
 try refine aa_ ?_
 refine ab_ ?_ (by(try simp only[go_sem,n4]);try exact evd)
 try refine aa_ ?_
 refine ab_ ?_ (by(try simp only[go_sem,n5]);try exact evd)
 try refine aa_ ?_
 refine ab_ ?_ (by(try simp only[go_sem,n6]);try exact evd)
 try refine aa_ ?_
 by_cases h8:x.kind=8
 · rw[if_pos h8]
   have e8:(x.kind==8)=true:=by simp[h8]
   refine ac_ ?_ (by(try simp only[go_sem,e8]);try exact evd)
   by_cases a1:x.write<0
   · have d1:decide (x.write<0)=true:=by simpa using a1
     have hb:bad8 x=true:=by simp[bad8];omega
     rw[hb]
     simp only[if_true]
     repeat(first | refine aa_ ?_ | simp only[go_sem,d1])
     refine ac_ ?_
     try refine aa_ ?_
     refine⟨_,rfl,.inr ⟨.tup [.sl 0 true [],.int .i64 3],evd,⟨trivial,trivial,trivial⟩,Wk.tup ⟨Wk.empty _ _ _,Wk.refl _,trivial⟩⟩⟩
   have d1:decide (x.write<0)=false:=by simpa using a1
   by_cases a2:32768<x.write
   · have d2:decide (32768<x.write)=true:=by simpa using a2
     have hb:bad8 x=true:=by simp[bad8];omega
     rw[hb]
     simp only[if_true]
     repeat(first | refine aa_ ?_ | simp only[go_sem,d1,d2])
     refine ac_ ?_
     try refine aa_ ?_
     refine⟨_,rfl,.inr ⟨.tup [.sl 0 true [],.int .i64 3],evd,⟨trivial,trivial,trivial⟩,Wk.tup ⟨Wk.empty _ _ _,Wk.refl _,trivial⟩⟩⟩
   have d2:decide (32768<x.write)=false:=by simpa using a2
   by_cases a3:x.keep<0
   · have d3:decide (x.keep<0)=true:=by simpa using a3
     have hb:bad8 x=true:=by simp[bad8];omega
     rw[hb]
     simp only[if_true]
     repeat(first | refine aa_ ?_ | simp only[go_sem,d1,d2,d3])
     refine ac_ ?_
     try refine aa_ ?_
     refine⟨_,rfl,.inr ⟨.tup [.sl 0 true [],.int .i64 3],evd,⟨trivial,trivial,trivial⟩,Wk.tup ⟨Wk.empty _ _ _,Wk.refl _,trivial⟩⟩⟩
   have d3:decide (x.keep<0)=false:=by simpa using a3
   by_cases a4:32768<x.keep
   · have d4:decide (32768<x.keep)=true:=by simpa using a4
     have hb:bad8 x=true:=by simp[bad8];omega
     rw[hb]
     simp only[if_true]
     repeat(first | refine aa_ ?_ | simp only[go_sem,d1,d2,d3,d4])
     refine ac_ ?_
     try refine aa_ ?_
     refine⟨_,rfl,.inr ⟨.tup [.sl 0 true [],.int .i64 3],evd,⟨trivial,trivial,trivial⟩,Wk.tup ⟨Wk.empty _ _ _,Wk.refl _,trivial⟩⟩⟩
   have d4:decide (32768<x.keep)=false:=by simpa using a4
   have hb:bad8 x=false:=by simp[bad8];omega
   have w1:IntKind.u64.wrap x.write=x.write:=aB_ (by omega) (by omega)
   have w2:IntKind.u64.wrap x.keep=x.keep:=aB_ (by omega) (by omega)
   have q1:=bE_ (n:=x.write.toNat) (by omega)
   have q2:=bE_ (n:=x.keep.toNat) (by omega)
   have p1:=(bc_ x.write (by omega) (by omega)).nil (by omega)
   have p2:=(bc_ x.keep (by omega) (by omega)).own (uenc x.write.toNat) (by omega)
   rw[hb]
   simp only[Bool.false_eq_true,if_false]
   repeat(first | refine aa_ ?_ | simp only[go_sem,d1,d2,d3,d4])
   refine ab_ ?_
   repeat(first | refine aa_ ?_ | simp only[go_sem,w1,w2])
   refine dcalls [] (p1) (by simp) evd (PickS.mk' (by simp) (by simp) evd) ?_;refine evg ?_
   repeat(first | refine aa_ ?_ | simp only[go_sem,w1,w2])
   refine dcalls [1] (p2) (by simp) evd (PickS.mk' (by simp) (by simp) evd) ?_;refine evg ?_
   try refine aa_ ?_
   exact fin0
 · rw[if_neg h8]
   have n8:(x.kind==8)=false:=by simp[h8]
   refine ab_ ?_ (by(try simp only[go_sem,n8]);try exact evd)
   try refine aa_ ?_
   refine⟨_,rfl,.inr ⟨.tup [.sl 0 true [],.int .i64 0],evd,⟨trivial,trivial,trivial⟩,Wk.tup ⟨Wk.empty _ _ _,Wk.refl _,trivial⟩⟩⟩

def vOp (x:OpV):Int:=if x.kind<1∨8<x.kind then 2 else if (fld x).2≠0 then (fld x).2 else if idle x then 0 else 2
theorem DP_ (x:OpV):idle x=(((((2:Int)==x.kind) || decide (x.blk=blk0)))&&((((3:Int)==x.kind) || decide (x.att=attZ))&&((((4:Int)==x.kind) || (decide (x.slg.1=clmZ)&&decide (x.slg.2=clmZ)))&&((((5:Int)==x.kind) || (decide (x.tab.1=cp0)&&decide (x.tab.2=[])))&&((((6:Int)==x.kind) || decide (x.vdt=vdt0))&&(((8:Int)==x.kind) || ((x.write==0)&&(x.keep==0)))))))):=by
 unfold idle zeros
 rw[rM_ (by simp),rM_ (by simp),rM_ (by simp),rM_ (by simp),rM_ (by simp),rM_ (by simp),EE_ (by simp)]
 simp
theorem jx_ (a:Int × Rt × Cp × List Int):sAtt a attZ=decide (a=attZ):=by
 obtain⟨s,r,c,l⟩:=a
 show decide (s=0∧r=rt0∧c=cp0∧l=[])=_
 rw[Bool.eq_iff_iff]
 simp[attZ]
theorem jv_ (a:Cv):sClm a clmZ=decide (a=clmZ):=by
 obtain⟨s,r,c,l⟩:=a
 show decide (s=0∧r=0∧c=rt0∧l=[])=_
 rw[Bool.eq_iff_iff]
 simp[clmZ]
theorem jE_ (a:Tv):sTab a tabZ=(decide (a.1=cp0)&&decide (a.2=[])):=by show decide (a.1=cp0∧a.2=[])=_;rw[Bool.eq_iff_iff];simp
theorem yy_ (a:Int × Rt × Cp × List Int):sAtt a a=true:=by simp[sAtt]
theorem Ao_ (a:Cv):sClm a a=true:=by simp[sClm]
theorem AB_ (a:Tv):sTab a a=true:=by simp[sTab]
def mask (x:OpV):OpV:=
 if x.kind=2 then ⟨x.kind,x.blk,attZ,slgZ,tabZ,vdt0,0,0⟩
 else if x.kind=3 then ⟨x.kind,blk0,x.att,slgZ,tabZ,vdt0,0,0⟩
 else if x.kind=4 then ⟨x.kind,blk0,attZ,x.slg,tabZ,vdt0,0,0⟩
 else if x.kind=5 then ⟨x.kind,blk0,attZ,slgZ,x.tab,vdt0,0,0⟩
 else if x.kind=6 then ⟨x.kind,blk0,attZ,slgZ,tabZ,x.vdt,0,0⟩
 else if x.kind=8 then ⟨x.kind,blk0,attZ,slgZ,tabZ,vdt0,x.write,x.keep⟩
 else ⟨x.kind,blk0,attZ,slgZ,tabZ,vdt0,0,0⟩
theorem du_ (x:OpV) (k:Int) (b:Blk) (a:Int × Rt × Cp × List Int) (s:Sv) (t:Tv) (v:Vdt) (w p:Int):sameOp x ⟨k,b,a,s,t,v,w,p⟩=((x.kind==k)&&(decide (x.blk=b)&&(sAtt x.att a&&((sClm x.slg.1 s.1&&sClm x.slg.2 s.2)&&(sTab x.tab t&&(decide (x.vdt=v)&&((x.write==w)&&(x.keep==p)))))))):=rfl
theorem Ay_ (x:OpV):sameOp x (mask x)=idle x:=by
 rw[DP_,Bool.eq_iff_iff]
 unfold mask
 split
 · rename_i h;rw[du_];simp[slgZ,jx_,jv_,jE_,h]
 split
 · rename_i h;rw[du_];simp[slgZ,jx_,jv_,jE_,yy_,h]
 split
 · rename_i h;rw[du_];simp[slgZ,jx_,jv_,jE_,Ao_,h]
 split
 · rename_i h;rw[du_];simp[slgZ,jx_,jv_,jE_,AB_,h]
 split
 · rename_i h;rw[du_];simp[slgZ,jx_,jv_,jE_,h]
 split
 · rename_i h;rw[du_];simp[slgZ,jx_,jv_,jE_,h]
 · rename_i h2 h3 h4 h5 h6 h8
   have n2:((2:Int)==x.kind)=false:=by simp;omega
   have n3:((3:Int)==x.kind)=false:=by simp;omega
   have n4:((4:Int)==x.kind)=false:=by simp;omega
   have n5:((5:Int)==x.kind)=false:=by simp;omega
   have n6:((6:Int)==x.kind)=false:=by simp;omega
   have n8:((8:Int)==x.kind)=false:=by simp;omega
   rw[du_];simp[slgZ,jx_,jv_,jE_,n2,n3,n4,n5,n6,n8]
theorem OpLen.mask {x:OpV}(h:OpLen x):OpLen (mask x):=by
 unfold Go.Proofs.YtipiipgpnkpejaaGreat.mask
 (repeat' split)<;>exact⟨by first | exact h.att | simp[attZ],by first | exact h.fst | simp[slgZ,clmZ],by first | exact h.snd | simp[slgZ,clmZ],by first | exact h.tab | simp[tabZ]⟩

theorem dq_ {x y:SOp}(h1:x.kind=y.kind) (h2:x.blk=y.blk) (h3:WkC (attC x.att) (attC y.att)) (h4:WkC (slgC x.slg) (slgC y.slg)) (h5:WkC (tabC x.tab) (tabC y.tab)) (h6:x.vdt=y.vdt) (h7:x.write=y.write) (h8:x.keep=y.keep):WkC (sOpC x) (sOpC y):=by
 obtain⟨a1,a2,a3,a4,a5,a6,a7,a8⟩:=x
 obtain⟨b1,b2,b3,b4,b5,b6,b7,b8⟩:=y
 simp only at h1 h2 h3 h4 h5 h6 h7 h8
 subst h1 h2 h6 h7 h8
 exact WkC.same _ ((WkC.refl _).app (h3.app (h4.app (h5.app ((WkC.refl _).app (WkC.refl _))))))
theorem ci_:WkC (attC att0) (attC (attL attZ)):=WkC.same _ ((WkC.refl (rtc rt0)).app ((WkC.refl (cpC cp0)).app (WkC.one (Wk.empty 0 1 false) fun h=>h)))
theorem cm_:WkC (slgC slg0) (slgC (slgL slgZ)):=(mR_ 0 0 rt0 (Wk.empty 0 1 false) fun h=>h).app (mR_ 0 0 rt0 (Wk.empty 0 1 false) fun h=>h)
theorem cl_:WkC (tabC tab0) (tabC (tabL tabZ)):=(WkC.refl (cpC cp0)).app (WkC.one (Wk.empty 0 1 false) fun h=>h)
set_option maxHeartbeats 8000000 in
theorem vC_ (x:OpV) (hx:OpU x):PC Tryz.prog 20 [.agg (sOpC (opL x))] (.int .i64 (vOp x)):=by
 refine PC.fact 6 kB_ (by simp) ⟨cG_ x,trivial⟩ trivial ?_
 unfold fk_ vOp;refine bd ?_
 have k1:=vN_ x hx
 have k2:=DK_ x (mask x) hx.len hx.len.mask
 rw[Ay_]at k2
 by_cases h1:x.kind<1
 · have d1:decide (x.kind<1)=true:=by simpa using h1
   rw[if_pos (.inl h1)]
   repeat(first | refine aa_ ?_ | simp only[go_sem,d1])
   refine ac_ ?_
   try refine aa_ ?_
   exact fin0
 have d1:decide (x.kind<1)=false:=by simpa using h1
 by_cases h2:8<x.kind
 · have d2:decide (8<x.kind)=true:=by simpa using h2
   rw[if_pos (.inr h2)]
   repeat(first | refine aa_ ?_ | simp only[go_sem,d1,d2])
   refine ac_ ?_
   try refine aa_ ?_
   exact fin0
 have d2:decide (8<x.kind)=false:=by simpa using h2
 rw[if_neg (by omega)]
 repeat(first | refine aa_ ?_ | simp only[go_sem,d1,d2])
 refine ab_ ?_
 generalize fld x=F at *
 obtain⟨f,e⟩:=F
 dsimp only at k1 ⊢
 try refine aa_ ?_
 refine pcall k1 ?_
 try refine aa_ ?_
 by_cases he:e=0
 case neg=>
   have he':(e != 0)=true:=by simpa using he
   rw[if_pos he]
   refine ac_ ?_ (by(try simp only[go_sem,he']);try exact evd)
   try refine aa_ ?_
   exact fin0
 subst he
 refine ab_ ?_
 generalize idle x=I at *
 rw[if_neg (by simp)]
 by_cases h2k:x.kind=2
 case pos=>
   have e2:(x.kind==2)=true:=by simp[h2k]
   have hm:mask x=⟨x.kind,x.blk,attZ,slgZ,tabZ,vdt0,0,0⟩:=by unfold mask;rw[if_pos h2k]
   rw[hm]at k2
   try refine aa_ ?_
   refine ac_ ?_ (by(try simp only[go_sem,e2]);try exact evd)
   try refine aa_ ?_
   refine pcallw k2 ⟨Wk.refl _,Wk.agg (dq_ rfl rfl ci_ cm_ cl_ rfl rfl rfl),trivial⟩ ⟨cG_ x,(cA_ _).2 ⟨trivial,⟨trivial,trivial⟩,trivial⟩,trivial⟩ ?_
   cases I
   · try refine aa_ ?_
     refine ac_ ?_
     try refine aa_ ?_
     exact fin0
   · try refine aa_ ?_
     refine ab_ ?_
     try refine aa_ ?_
     exact fin0
 have n2:(x.kind==2)=false:=by simp[h2k]
 by_cases h3k:x.kind=3
 case pos=>
   have e3:(x.kind==3)=true:=by simp[h3k]
   have hm:mask x=⟨x.kind,blk0,x.att,slgZ,tabZ,vdt0,0,0⟩:=by unfold mask;rw[if_neg h2k];rw[if_pos h3k]
   rw[hm]at k2
   try refine aa_ ?_
   refine ab_ ?_ (by(try simp only[go_sem,n2]);try exact evd)
   try refine aa_ ?_
   refine ac_ ?_ (by(try simp only[go_sem,e3]);try exact evd)
   try refine aa_ ?_
   refine pcallw k2 ⟨Wk.refl _,Wk.agg (dq_ rfl rfl (WkC.refl _) cm_ cl_ rfl rfl rfl),trivial⟩ ⟨cG_ x,(cA_ _).2 ⟨aw_ _ _,⟨trivial,trivial⟩,trivial⟩,trivial⟩ ?_
   cases I
   · try refine aa_ ?_
     refine ac_ ?_
     try refine aa_ ?_
     exact fin0
   · try refine aa_ ?_
     refine ab_ ?_
     try refine aa_ ?_
     exact fin0
 have n3:(x.kind==3)=false:=by simp[h3k]
 by_cases h4k:x.kind=4
 case pos=>
   have e4:(x.kind==4)=true:=by simp[h4k]
   have hm:mask x=⟨x.kind,blk0,attZ,x.slg,tabZ,vdt0,0,0⟩:=by unfold mask;rw[if_neg h2k];rw[if_neg h3k];rw[if_pos h4k]
   rw[hm]at k2
   try refine aa_ ?_
   refine ab_ ?_ (by(try simp only[go_sem,n2]);try exact evd)
   try refine aa_ ?_
   refine ab_ ?_ (by(try simp only[go_sem,n3]);try exact evd)
   try refine aa_ ?_
   refine ac_ ?_ (by(try simp only[go_sem,e4]);try exact evd)
   try refine aa_ ?_
   refine pcallw k2 ⟨Wk.refl _,Wk.agg (dq_ rfl rfl ci_ (WkC.refl _) cl_ rfl rfl rfl),trivial⟩ ⟨cG_ x,(cA_ _).2 ⟨trivial,⟨aw_ _ _,aw_ _ _⟩,trivial⟩,trivial⟩ ?_
   cases I
   · try refine aa_ ?_
     refine ac_ ?_
     try refine aa_ ?_
     exact fin0
   · try refine aa_ ?_
     refine ab_ ?_
     try refine aa_ ?_
     exact fin0
 have n4:(x.kind==4)=false:=by simp[h4k]
 by_cases h5k:x.kind=5
 case pos=>
   have e5:(x.kind==5)=true:=by simp[h5k]
   have hm:mask x=⟨x.kind,blk0,attZ,slgZ,x.tab,vdt0,0,0⟩:=by unfold mask;rw[if_neg h2k];rw[if_neg h3k];rw[if_neg h4k];rw[if_pos h5k]
   rw[hm]at k2
   try refine aa_ ?_
   refine ab_ ?_ (by(try simp only[go_sem,n2]);try exact evd)
   try refine aa_ ?_
   refine ab_ ?_ (by(try simp only[go_sem,n3]);try exact evd)
   try refine aa_ ?_
   refine ab_ ?_ (by(try simp only[go_sem,n4]);try exact evd)
   try refine aa_ ?_
   refine ac_ ?_ (by(try simp only[go_sem,e5]);try exact evd)
   try refine aa_ ?_
   refine pcallw k2 ⟨Wk.refl _,Wk.agg (dq_ rfl rfl ci_ cm_ (WkC.refl _) rfl rfl rfl),trivial⟩ ⟨cG_ x,(cA_ _).2 ⟨trivial,⟨trivial,trivial⟩,aw_ _ _⟩,trivial⟩ ?_
   cases I
   · try refine aa_ ?_
     refine ac_ ?_
     try refine aa_ ?_
     exact fin0
   · try refine aa_ ?_
     refine ab_ ?_
     try refine aa_ ?_
     exact fin0
 have n5:(x.kind==5)=false:=by simp[h5k]
 by_cases h6k:x.kind=6
 case pos=>
   have e6:(x.kind==6)=true:=by simp[h6k]
   have hm:mask x=⟨x.kind,blk0,attZ,slgZ,tabZ,x.vdt,0,0⟩:=by unfold mask;rw[if_neg h2k];rw[if_neg h3k];rw[if_neg h4k];rw[if_neg h5k];rw[if_pos h6k]
   rw[hm]at k2
   try refine aa_ ?_
   refine ab_ ?_ (by(try simp only[go_sem,n2]);try exact evd)
   try refine aa_ ?_
   refine ab_ ?_ (by(try simp only[go_sem,n3]);try exact evd)
   try refine aa_ ?_
   refine ab_ ?_ (by(try simp only[go_sem,n4]);try exact evd)
   try refine aa_ ?_
   refine ab_ ?_ (by(try simp only[go_sem,n5]);try exact evd)
   try refine aa_ ?_
   refine ac_ ?_ (by(try simp only[go_sem,e6]);try exact evd)
   try refine aa_ ?_
   refine pcallw k2 ⟨Wk.refl _,Wk.agg (dq_ rfl rfl ci_ cm_ cl_ rfl rfl rfl),trivial⟩ ⟨cG_ x,(cA_ _).2 ⟨trivial,⟨trivial,trivial⟩,trivial⟩,trivial⟩ ?_
   cases I
   · try refine aa_ ?_
     refine ac_ ?_
     try refine aa_ ?_
     exact fin0
   · try refine aa_ ?_
     refine ab_ ?_
     try refine aa_ ?_
     exact fin0
 have n6:(x.kind==6)=false:=by simp[h6k]
 by_cases h8k:x.kind=8
 case pos=>
   have e8:(x.kind==8)=true:=by simp[h8k]
   have hm:mask x=⟨x.kind,blk0,attZ,slgZ,tabZ,vdt0,x.write,x.keep⟩:=by unfold mask;rw[if_neg h2k];rw[if_neg h3k];rw[if_neg h4k];rw[if_neg h5k];rw[if_neg h6k];rw[if_pos h8k]
   rw[hm]at k2
   try refine aa_ ?_
   refine ab_ ?_ (by(try simp only[go_sem,n2]);try exact evd)
   try refine aa_ ?_
   refine ab_ ?_ (by(try simp only[go_sem,n3]);try exact evd)
   try refine aa_ ?_
   refine ab_ ?_ (by(try simp only[go_sem,n4]);try exact evd)
   try refine aa_ ?_
   refine ab_ ?_ (by(try simp only[go_sem,n5]);try exact evd)
   try refine aa_ ?_
   refine ab_ ?_ (by(try simp only[go_sem,n6]);try exact evd)
   try refine aa_ ?_
   refine ac_ ?_ (by(try simp only[go_sem,e8]);try exact evd)
   try refine aa_ ?_
   refine pcallw k2 ⟨Wk.refl _,Wk.agg (dq_ rfl rfl ci_ cm_ cl_ rfl rfl rfl),trivial⟩ ⟨cG_ x,(cA_ _).2 ⟨trivial,⟨trivial,trivial⟩,trivial⟩,trivial⟩ ?_
   cases I
   · try refine aa_ ?_
     refine ac_ ?_
     try refine aa_ ?_
     exact fin0
   · try refine aa_ ?_
     refine ab_ ?_
     try refine aa_ ?_
     exact fin0
 have n8:(x.kind==8)=false:=by simp[h8k]
 have hm:mask x=⟨x.kind,blk0,attZ,slgZ,tabZ,vdt0,0,0⟩:=by unfold mask;rw[if_neg h2k];rw[if_neg h3k];rw[if_neg h4k];rw[if_neg h5k];rw[if_neg h6k];rw[if_neg h8k]
 rw[hm]at k2
 try refine aa_ ?_
 refine ab_ ?_ (by(try simp only[go_sem,n2]);try exact evd)
 try refine aa_ ?_
 refine ab_ ?_ (by(try simp only[go_sem,n3]);try exact evd)
 try refine aa_ ?_
 refine ab_ ?_ (by(try simp only[go_sem,n4]);try exact evd)
 try refine aa_ ?_
 refine ab_ ?_ (by(try simp only[go_sem,n5]);try exact evd)
 try refine aa_ ?_
 refine ab_ ?_ (by(try simp only[go_sem,n6]);try exact evd)
 try refine aa_ ?_
 refine ab_ ?_ (by(try simp only[go_sem,n8]);try exact evd)
 try refine aa_ ?_
 refine pcallw k2 ⟨Wk.refl _,Wk.agg (dq_ rfl rfl ci_ cm_ cl_ rfl rfl rfl),trivial⟩ ⟨cG_ x,(cA_ _).2 ⟨trivial,⟨trivial,trivial⟩,trivial⟩,trivial⟩ ?_
 cases I
 · try refine aa_ ?_
   refine ac_ ?_
   try refine aa_ ?_
   exact fin0
 · try refine aa_ ?_
   refine ab_ ?_
   try refine aa_ ?_
   exact fin0

def ops (l:List OpV):List (List AV):=l.map fun x=>sOpC (opL x)
theorem wL_ (l:List OpV):(ops l).length=l.length:=by simp[ops]
theorem Cx_ (l:List OpV):PuLL (ops l):=by
 induction l with
 | nil=>trivial
 | cons x l ih=>exact⟨cG_ x,ih⟩
theorem zR_ (ρ:Nat→Nat) (l:List OpV):renLL ρ (ops l)=ops l:=(Cx_ l).ren ρ
theorem Dl_ (σ:St) (zs:List Nat) (l:List OpV):fzLL σ zs (ops l)=ops l:=(Cx_ l).fz σ zs
theorem Di_ (l:List OpV) (x:OpV):ops l++[sOpC (opL x)]=ops (l++[x]):=by simp[ops]
attribute [go_sem] wL_ zR_ Dl_ Di_
theorem yp_ {x:Blk}(u:BlkU x):(kenc x).length≤1000:=by
 have r1:=x.root.2
 have r2:=x.parent.2
 have r3:=x.payload.2
 have r4:=(wbytes x.diff).2
 have r5:=(wbytes x.pdiff).2
 have q1:=u.slot.len
 have q2:=cs_ u.just
 have q3:=cs_ u.fin
 have q4:=cs_ u.j
 have q5:=cs_ u.f
 have q6:(benc x.timely).length≤1:=by cases x.timely<;>simp[benc]
 simp only[kenc,List.length_append];omega
theorem wS_ {x:OpV}(u:OpU x):(fld x).1.length≤30000:=by
 unfold fld
 split
 · have:=yp_ u.blk
   simp only;omega
 split
 · simp only
   split
   · rename_i he
     have q1:=u.slot.len
     have q2:=cs_ u.ep
     have q3:=mY_ he
     have q4:=x.att.2.1.2
     simp only[aenc,attL,List.length_append];omega
   · simp
 split
 · simp only
   split
   · rename_i he
     have e1:vErr x.slg.1.2.2.2 1024=0:=by
       unfold slErr at he
       split at he
       · assumption
       · contradiction
     have e2:vErr x.slg.2.2.2.2 1024=0:=by
       unfold slErr at he
       rwa [if_pos e1]at he
     have q1:=hL_ u.fst e1
     have q2:=hL_ u.snd e2
     simp only[slenc,slgL,List.length_append];omega
   · simp
 split
 · simp only
   split
   · simp
   · have q1:=cs_ u.tab.ep
     have q2:=bE_ (n:=x.tab.2.length) (by omega)
     have q3:=sN_ u.tab.all
     simp only[tenc,List.length_append];omega
 split
 · simp only
   split
   · simp
   · rename_i hv
     have q1:=u.tag.len
     have q2:=bE_ (n:=x.vdt.kind.toNat) (by unfold vBad at hv;omega)
     have q3:=x.vdt.latest.2
     simp only[venc,List.length_append];omega
 split
 · split
   · simp
   · rename_i hb
     have hb:bad8 x=false:=by simpa using hb
     simp[bad8]at hb
     have q1:=bE_ (n:=x.write.toNat) (by omega)
     have q2:=bE_ (n:=x.keep.toNat) (by omega)
     simp only[List.length_append];omega
 · simp
end Go.Proofs.YtipiipgpnkpejaaGreat
