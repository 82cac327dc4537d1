/-
 My texts Ga, Gc, Ge, Gf, Gh, joined.
-/
import Derived.Test.YtnjdpnfglgcjcaaGreatV1
import Derived.Test.YtnjdpnfglgcjcaaGreatW5
import Derived.Test.YtnjdpnfglgcjcaaGreatW3
set_option linter.unusedVariables false
set_option linter.unusedSimpArgs false
set_option maxRecDepth 8000
set_option maxHeartbeats 4000000
namespace Go.Proofs.YtnjdpnfglgcjcaaGreat
open Go Go.FH Go.RowKit
structure OpV where
 kind:Int
 blk:Blk
 att:Int×Rt×Cp×List Int
 slg:Sv
 tab:Tv
 vdt:Vdt
 write:Int
 keep:Int
def opL(x:OpV):SOp:=⟨x.kind,x.blk,rj x.att,uC x.slg,sm x.tab,x.vdt,x.write,x.keep⟩
theorem abS(x:OpV):(opL x).kind=x.kind:=rfl
theorem ad9(x:OpV):(opL x).blk=x.blk:=rfl
theorem ad8(x:OpV):(opL x).att=rj x.att:=rfl
theorem aeb(x:OpV):(opL x).slg=uC x.slg:=rfl
theorem aec(x:OpV):(opL x).tab=sm x.tab:=rfl
theorem aed(x:OpV):(opL x).vdt=x.vdt:=rfl
theorem YL(x:OpV):(opL x).write=x.write:=rfl
theorem abR(x:OpV):(opL x).keep=x.keep:=rfl
theorem abQ(x:OpV):(opL x).good=true:=rfl
theorem agp(x:OpV):(opL x).Pure:=⟨bE _ _,⟨VM _,VM _⟩,bE _ _⟩
theorem jt(x:OpV):PuL (dj (opL x)):=(jd _).2 (agp x)
theorem aea(x:OpV)(ρ:Nat->Nat):(opL x).map (ren ρ)=opL x:=by simp only[opL,SOp.map,QE,SP,S7]
theorem ago(x:OpV)(σ:St)(zs:List Nat):(opL x).map (fz σ zs)=opL x:=by simp only[opL,SOp.map,VI,W1,Xb]
theorem acD(x:Sv):(uC x).fst=zD x.1:=rfl
theorem acE(x:Sv):(uC x).snd=zD x.2:=rfl
theorem XB(x:Int×Rt×Cp×List Int):(rj x).vals=.sl 1 false (aH .i64 x.2.2.2):=rfl
theorem ZW(x:Tv):(sm x).bals=.sl 1 false (aH .u64 x.2):=rfl
theorem ae9(x:Tv):(sm x).cp=x.1:=rfl
attribute [go_sem] abS ad9 ad8 aeb aec aed YL abR abQ aea ago acD acE XB ZW ae9
def okF(k:Int)(fs:List (Int×Bool))(i:Nat):Bool:=if h:i<fs.length then ((fs[i].1==k) || fs[i].2)&&okF k fs (i+1)else true
termination_by fs.length-i
def afF(x:OpV):List (Int×Bool):=
 [(2,decide (x.blk=cw)),(3,decide (x.att=oX)),(4,decide (x.slg.1=Hg)&&decide (x.slg.2=Hg)),(5,decide (x.tab.1=cp0)&&decide (x.tab.2=[])),(6,decide (x.vdt=lZ)),(8,(x.write==0)&&(x.keep==0))]
def abq(x:OpV):Bool:=okF x.kind (afF x) 0
structure LY(x:OpV):Prop where
 att:x.att.2.2.2.length<=140737488355328
 fst:x.slg.1.2.2.2.length<=140737488355328
 snd:x.slg.2.2.2.2.length<=140737488355328
 tab:x.tab.2.length<=140737488355328
structure OpU(x:OpV):Prop where
 blk:NQ x.blk
 slot:U64 x.att.1
 ep:U64 x.att.2.2.1.ep
 att:x.att.2.2.2.length<=140737488355328
 fst:Dj (zD x.slg.1) x.slg.1.2.2.2 false
 snd:Dj (zD x.slg.2) x.slg.2.2.2.2 false
 tab:GR (sm x.tab) x.tab.2 false
 tag:U64 x.vdt.tag
theorem OpU.len{x:OpV}(h:OpU x):LY x:=⟨h.att,h.fst.len,h.snd.len,h.tab.len⟩
def GW(x:OpV):Bool:=!(decide (0<=x.write/\x.write<=32768)&&decide (0<=x.keep/\x.keep<=32768))
def fld(x:OpV):List UInt8×Int:=
 if x.kind=2 then (i9 x.blk,0)
 else if x.kind=3 then (if cE x.att.2.2.2 1024=0 then oW (rj x.att) x.att.2.2.2 else [],cE x.att.2.2.2 1024)
 else if x.kind=4 then (if SO x.slg.1.2.2.2 x.slg.2.2.2.2=0 then afy (uC x.slg) x.slg.1.2.2.2 x.slg.2.2.2.2 else [],SO x.slg.1.2.2.2 x.slg.2.2.2.2)
 else if x.kind=5 then (if 1024<x.tab.2.length then []else oK (sm x.tab) x.tab.2,if 1024<x.tab.2.length then 3 else 0)
 else if x.kind=6 then (if To x.vdt then []else aho x.vdt,if To x.vdt then 3 else 0)
 else if x.kind=8 then (if GW x then ([],3)else (bF x.write.toNat++bF x.keep.toNat,0))
 else ([],0)
def vOp(x:OpV):Int:=if x.kind<1\/8<x.kind then 2 else if (fld x).2≠0 then (fld x).2 else if abq x then 0 else 2
def ops(l:List OpV):List (List AV):=l.map fun x=>dj (opL x)
theorem UE(l:List OpV):(ops l).length=l.length:=by simp[ops]
theorem aao(l:List OpV):fy (ops l):=by
 induction l with
 |nil=>trivial
 |cons x l ih=>exact⟨jt x,ih⟩
theorem Zm(ρ:Nat->Nat)(l:List OpV):bH ρ (ops l)=ops l:=(aao l).ren ρ
theorem abe(σ:St)(zs:List Nat)(l:List OpV):dh σ zs (ops l)=ops l:=(aao l).fz σ zs
theorem abV(l:List OpV)(x:OpV):ops l++[dj (opL x)]=ops (l++[x]):=by simp[ops]
attribute [go_sem] UE Zm abe abV
theorem VY{x:Blk}(u:NQ x):(i9 x).length<=1000:=by
 have r1:=x.root.2;have r2:=x.parent.2;have r3:=x.payload.2;have r4:=(bT x.diff).2;have r5:=(bT x.pdiff).2;have q1:=u.slot.len;have q2:=eK u.just;have q3:=eK u.fin;have q4:=eK u.j;have q5:=eK u.f;have q6:(fW x.timely).length<=1:=by cases x.timely<;>simp[fW]
 simp only[i9,E4];omega
theorem NH(bs:List UInt8)(cl:Bool)(e:Int):ay Tryz.prog 287 [.ptr 0 0] [rdr cl bs e] (.sl 1 cl (bts bs)) [rdr cl bs e]:=by
 refine ay.fact 3 BK (by simp) ?_ (by simp);unfold qm;refine bd ?_;refine gon ?_;exact ahY [] [0]
def tkl(bs:List UInt8)(k:Nat)(e:Int):List UInt8:=if e=0 then bs.drop k else bs
theorem EJ(bs:List UInt8)(cl:Bool)(e:Int)(k:Nat)(hk:k<=bs.length):ay Tryz.prog 285 [.ptr 0 0,.int .i64 (k:Int),.int .i64 e] [rdr cl bs 0] (.tup []) [rdr cl (tkl bs k e) e]:=by
 refine ay.fact 3 qB (by simp) ?_ (by simp);unfold kv tkl;refine bd ?_;refine bk ?_;by_cases he:e=0
 ·subst he;have e3:List.take (bs.length-k) (List.drop k bs)=List.drop k bs:=aiw (by simp);rw[Fy rfl];refine aB ?_;refine ah e3 ?_;exact ahY [] [0]
 ·have he':(e != 0)=true:=by simpa using he
  rw[Fw he];refine ax ?_ (by(try simp only[go_sem,he']);try exact evd);refine gon ?_;refine aG [0] (iJ bs cl 0 e) evd (aq.mk' (by simp) evd) ?_;refine evg ?_;refine gon ?_;exact ahY [] [0]
theorem acZ(bs:List UInt8)(e:Int):tkl bs 0 e=bs:=by simp[tkl]
attribute [go_sem] acZ
end Go.Proofs.YtnjdpnfglgcjcaaGreat
