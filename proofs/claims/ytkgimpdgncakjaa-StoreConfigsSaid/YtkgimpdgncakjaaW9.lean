/-
 My texts Ej, Ek, El, Em, joined.
-/
import Derived.Test.YtkgimpdgncakjaaW8
import Derived.Test.YtkgimpdgncakjaaW3
namespace Go.Proofs.Ytkgimpdgncakjaa
open Go Go.FH Go.RowKit
set_option linter.unusedVariables false
set_option linter.unusedSimpArgs false
theorem uK_(pul:Pul)(slot:Int)(root parent payload:Rt)(diff pdiff:Wd)(just fin:Cp)(timely:Bool):
 cc_ pul++.int .u64 slot::(rtc root++(rtc parent++(rtc payload++(wdc diff++(wdc pdiff++(cpC just++bj_ ⟨fin,.bool timely⟩))))))=aw_ ⟨pul,slot,root,parent,payload,diff,pdiff,just,fin,timely⟩:=rfl
attribute [go_sem] uK_
def WkC:List AV→List AV→Prop
 | [],[]=>True
 |c::cs,d::ds=>Wk c d∧(c.cell=true→d.cell=true)∧WkC cs ds
 |_,_=>False
theorem WkC.refl:∀cs:List AV,WkC cs cs
 | []=>trivial
 |c::cs=>⟨Wk.refl c,fun h=>h,WkC.refl cs⟩
theorem WkC.app:∀ {a b c d:List AV},WkC a b→WkC c d→WkC (a++c) (b++d)
 | [],[],_,_,_,h=>h
 |_::_,_::_,_,_,h1,h2=>⟨h1.1,h1.2.1,WkC.app h1.2.2 h2⟩
 | [],_::_,_,_,h,_|_::_,[],_,_,h,_=>h.elim
theorem WkC.rlc{E:Env}:∀ {cs ds:List AV} {us:List Value},WkC cs ds→RlC E cs us→RlC E ds us
 | [],[],_,_,h=>h
 |_::_,_::_,_,hw,⟨u,us,e,h1,h2,h3⟩=>⟨u,us,e,hw.2.1 h1,hw.1 _ _ h2,WkC.rlc hw.2.2 h3⟩
 | [],_::_,_,h,_|_::_,[],_,h,_=>h.elim
theorem Wk.agg{cs ds:List AV}(h:WkC cs ds):Wk (.agg cs) (.agg ds):=fun _ _ ⟨vs,e,hr⟩=>⟨vs,e,h.rlc hr⟩
theorem uJ_(s:Int)(r:Rt)(c:Cp)(v:AV):.int .u64 s::(rtc r++bj_ ⟨c,v⟩)=bg_ ⟨s,r,c,v⟩:=rfl
attribute [go_sem] uJ_
theorem vV_(ρ:Nat→Nat)(x:List AV)(xs:List (List AV)):bi_ ρ (x::xs)=bh_ ρ x::bi_ ρ xs:=rfl
attribute [go_sem] vV_
def rd_(x:Int×Rt×Cp×List Int):Att:=⟨x.1,x.2.1,x.2.2.1,.sl 1 false (au_ .i64 x.2.2.2)⟩
def Ge_:Int×Rt×Cp×List Int:=(0,rt0,cp0,[])
theorem WkC.cons{c d:AV}{cs ds:List AV}(h:Wk c d)(hc:c.cell=true→d.cell=true)(h2:WkC cs ds):WkC (c::cs) (d::ds):=⟨h,hc,h2⟩
theorem WkC.same(c:AV){cs ds:List AV}(h2:WkC cs ds):WkC (c::cs) (c::ds):=.cons (Wk.refl c) (fun h=>h) h2
theorem WkC.one{c d:AV}(h:Wk c d)(hc:c.cell=true→d.cell=true):WkC [c] [d]:=.cons h hc trivial
abbrev Cv:=Int×Int×Rt×List Int
def ks_(x:Cv):Clm:=⟨x.1,x.2.1,x.2.2.1,.sl 1 false (au_ .i64 x.2.2.2)⟩
theorem sR_(x:Cv)(ρ:Nat→Nat):(ks_ x).map (ren ρ)=ks_ x:=by simp only[ks_,Clm.map,ren,bx_]
theorem wo_(x:Cv)(σ:St)(zs:List Nat):(ks_ x).map (fz σ zs)=ks_ x:=by simp only[ks_,Clm.map,fz,cf_]
theorem xB_(x:Cv):(ks_ x).good=true:=rfl
theorem xC_(x:Cv):(ks_ x).vals=.sl 1 false (au_ .i64 x.2.2.2):=rfl
attribute [go_sem] sR_ wo_ xB_ xC_
def ET_:Cv:=(0,0,rt0,[])
abbrev Sv:=Cv×Cv
def pB_(x:Sv):Slg:=⟨ks_ x.1,ks_ x.2⟩
abbrev Tv:=Cp×List Int
def ox_(x:Tv):Tab:=⟨x.1,.sl 1 false (au_ .u64 x.2)⟩
end Go.Proofs.Ytkgimpdgncakjaa
