/-
 My texts Ga, Gb, Gc, Gd, Ge, joined.
-/
import Derived.Test.YtkgimpdgncakjaaV1
import Derived.Test.YtkgimpdgncakjaaW5
import Derived.Test.YtkgimpdgncakjaaW3
namespace Go.Proofs.Ytkgimpdgncakjaa
open Go Go.FH Go.RowKit
set_option linter.unusedVariables false
set_option linter.unusedSimpArgs false
structure OpV where
 kind:Int
 blk:Blk
 att:Int×Rt×Cp×List Int
 slg:Sv
 tab:Tv
 vdt:Vdt
 write:Int
 keep:Int
theorem Bg_(x:Sv):(pB_ x).fst=ks_ x.1:=rfl
theorem Bi_(x:Sv):(pB_ x).snd=ks_ x.2:=rfl
theorem xk_(x:Int×Rt×Cp×List Int):(rd_ x).vals=.sl 1 false (au_ .i64 x.2.2.2):=rfl
theorem yT_(x:Tv):(ox_ x).bals=.sl 1 false (au_ .u64 x.2):=rfl
theorem Dl_(x:Tv):(ox_ x).cp=x.1:=rfl
attribute [go_sem] Bg_ Bi_ xk_ yT_ Dl_
def okF(k:Int)(fs:List (Int×Bool))(i:Nat):Bool:=if h:i<fs.length then ((fs[i].1==k) || fs[i].2)&&okF k fs (i+1)else true
termination_by fs.length-i
def FT_(x:OpV):List (Int×Bool):=
 [(2,decide (x.blk=eW_)),(3,decide (x.att=Ge_)),(4,decide (x.slg.1=ET_)&&decide (x.slg.2=ET_)),(5,decide (x.tab.1=cp0)&&decide (x.tab.2=[])),(6,decide (x.vdt=Dw_)),(8,(x.write==0)&&(x.keep==0))]
def Gv_(x:OpV):Bool:=okF x.kind (FT_ x) 0
structure EN_(x:OpV):Prop where
 att:x.att.2.2.2.length≤140737488355328
 fst:x.slg.1.2.2.2.length≤140737488355328
 snd:x.slg.2.2.2.2.length≤140737488355328
 tab:x.tab.2.length≤140737488355328
structure OpU(x:OpV):Prop where
 blk:DR_ x.blk
 slot:U64 x.att.1
 ep:U64 x.att.2.2.1.ep
 att:x.att.2.2.2.length≤140737488355328
 fst:sD_ (ks_ x.slg.1) x.slg.1.2.2.2 false
 snd:sD_ (ks_ x.slg.2) x.slg.2.2.2.2 false
 tab:uD_ (ox_ x.tab) x.tab.2 false
 tag:U64 x.vdt.tag
theorem OpU.len{x:OpV}(h:OpU x):EN_ x:=⟨h.att,h.fst.len,h.snd.len,h.tab.len⟩
def Gf_(x:OpV):Bool:=!(decide (0≤x.write∧x.write≤32768)&&decide (0≤x.keep∧x.keep≤32768))
def fld(x:OpV):List UInt8×Int:=
 if x.kind=2 then (Gw_ x.blk,0)
 else if x.kind=3 then (if fV_ x.att.2.2.2 1024=0 then Gd_ (rd_ x.att) x.att.2.2.2 else [],fV_ x.att.2.2.2 1024)
 else if x.kind=4 then (if DK_ x.slg.1.2.2.2 x.slg.2.2.2.2=0 then Fw_ (pB_ x.slg) x.slg.1.2.2.2 x.slg.2.2.2.2 else [],DK_ x.slg.1.2.2.2 x.slg.2.2.2.2)
 else if x.kind=5 then (if 1024<x.tab.2.length then []else GE_ (ox_ x.tab) x.tab.2,if 1024<x.tab.2.length then 3 else 0)
 else if x.kind=6 then (if EE_ x.vdt then []else GG_ x.vdt,if EE_ x.vdt then 3 else 0)
 else if x.kind=8 then (if Gf_ x then ([],3)else (fY_ x.write.toNat++fY_ x.keep.toNat,0))
 else ([],0)
def vOp(x:OpV):Int:=if x.kind<1∨8<x.kind then 2 else if (fld x).2≠0 then (fld x).2 else if Gv_ x then 0 else 2
end Go.Proofs.Ytkgimpdgncakjaa
