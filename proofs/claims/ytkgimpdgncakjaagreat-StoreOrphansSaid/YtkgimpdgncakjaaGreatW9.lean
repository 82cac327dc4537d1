/-
 My texts Ej, Ek, El, Em, joined.
-/
import Derived.Test.YtkgimpdgncakjaaGreatW8
import Derived.Test.YtkgimpdgncakjaaGreatW3
namespace Go.Proofs.YtkgimpdgncakjaaGreat
open Go Go.FH Go.RowKit
set_option linter.unusedVariables false
set_option linter.unusedSimpArgs false
abbrev rr(n:Int):bd_:=.var [.ptr 0 0,.int .i64 n]
theorem FI_(pul:Pul)(slot:Int)(root parent payload:Rt)(diff pdiff:Wd)(just fin:Cp)(timely:Bool):
 da_ pul++.int .u64 slot::(rtc root++(rtc parent++(rtc payload++(wdc diff++(wdc pdiff++(cpC just++bb_ ⟨fin,.bool timely⟩))))))=al_ ⟨pul,slot,root,parent,payload,diff,pdiff,just,fin,timely⟩:=rfl
attribute [go_sem] FI_
def WkC:List AV→List AV→Prop
 | [],[]=>True
 |c::cs,d::ds=>Wk c d∧(c.cell=true→d.cell=true)∧WkC cs ds
 |_,_=>False
theorem WkC.refl:∀cs:List AV,WkC cs cs
 | []=>trivial
 |c::cs=>⟨Wk.refl c,fun h=>h,WkC.refl cs⟩
theorem WkC.app:∀ {a b c d:List AV},WkC a b→WkC c d→WkC (a++c) (b++d)
 | [],[],_,_,_,h=>h
 |_::_,_::_,_,_,h1,h2=>⟨h1.1,h1.2.1,WkC.app h1.2.2 h2⟩
 | [],_::_,_,_,h,_|_::_,[],_,_,h,_=>h.elim
theorem WkC.rlc{E:Env}:∀ {cs ds:List AV} {us:List Value},WkC cs ds→RlC E cs us→RlC E ds us
 | [],[],_,_,h=>h
 |_::_,_::_,_,hw,⟨u,us,e,h1,h2,h3⟩=>⟨u,us,e,hw.2.1 h1,hw.1 _ _ h2,WkC.rlc hw.2.2 h3⟩
 | [],_::_,_,h,_|_::_,[],_,h,_=>h.elim
theorem Wk.agg{cs ds:List AV}(h:WkC cs ds):Wk (.agg cs) (.agg ds):=fun _ _ ⟨vs,e,hr⟩=>⟨vs,e,h.rlc hr⟩
theorem FF_(s:Int)(r:Rt)(c:Cp)(v:AV):.int .u64 s::(rtc r++bb_ ⟨c,v⟩)=bi_ ⟨s,r,c,v⟩:=rfl
attribute [go_sem] FF_
theorem Ho_(ρ:Nat→Nat)(x:List AV)(xs:List (List AV)):cb_ ρ (x::xs)=cd_ ρ x::cb_ ρ xs:=rfl
attribute [go_sem] Ho_
def lQ_(x:Int×Rt×Cp×List Int):Att:=⟨x.1,x.2.1,x.2.2.1,.sl 1 false (aq_ .i64 x.2.2.2)⟩
def kA_:Int×Rt×Cp×List Int:=(0,rt0,cp0,[])
theorem WkC.cons{c d:AV}{cs ds:List AV}(h:Wk c d)(hc:c.cell=true→d.cell=true)(h2:WkC cs ds):WkC (c::cs) (d::ds):=⟨h,hc,h2⟩
theorem WkC.same(c:AV){cs ds:List AV}(h2:WkC cs ds):WkC (c::cs) (c::ds):=.cons (Wk.refl c) (fun h=>h) h2
theorem WkC.one{c d:AV}(h:Wk c d)(hc:c.cell=true→d.cell=true):WkC [c] [d]:=.cons h hc trivial
abbrev Cv:=Int×Int×Rt×List Int
def pb_(x:Cv):Clm:=⟨x.1,x.2.1,x.2.2.1,.sl 1 false (aq_ .i64 x.2.2.2)⟩
theorem Dj_(x:Cv)(ρ:Nat→Nat):(pb_ x).map (ren ρ)=pb_ x:=by simp only[pb_,Clm.map,ren,cw_]
theorem HM_(x:Cv)(σ:St)(zs:List Nat):(pb_ x).map (fz σ zs)=pb_ x:=by simp only[pb_,Clm.map,fz,dl_]
theorem Js_(x:Cv):(pb_ x).good=true:=rfl
theorem Jt_(x:Cv):(pb_ x).vals=.sl 1 false (aq_ .i64 x.2.2.2):=rfl
theorem HN_(x:Cv):(pb_ x).Pure:=aN_ _ _
attribute [go_sem] Dj_ HM_ Js_ Jt_
def uG_:Cv:=(0,0,rt0,[])
abbrev Sv:=Cv×Cv
def lJ_(x:Sv):Slg:=⟨pb_ x.1,pb_ x.2⟩
def ja_:Sv:=(uG_,uG_)
theorem II_(s t:Int)(r:Rt){v v':AV}(h:Wk v v')(hc:v.cell=true→v'.cell=true):WkC (bO_ ⟨s,t,r,v⟩) (bO_ ⟨s,t,r,v'⟩):=
 WkC.same _ (WkC.same _ ((WkC.refl (rtc r)).app (WkC.one h hc)))
abbrev Tv:=Cp×List Int
def kR_(x:Tv):Tab:=⟨x.1,.sl 1 false (aq_ .u64 x.2)⟩
def pE_:Tv:=(cp0,[])
end Go.Proofs.YtkgimpdgncakjaaGreat
