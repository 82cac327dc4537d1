/-
 My texts Ej, Ek, El, Em, joined.
-/
import Derived.Test.YtkgimpdgncakjaaGreatW8
import Derived.Test.YtkgimpdgncakjaaGreatW3
namespace Go.Proofs.YtkgimpdgncakjaaGreat
open Go Go.FH Go.RowKit
set_option linter.unusedVariables false
set_option linter.unusedSimpArgs false
theorem Fx_(pul:Pul)(slot:Int)(root parent payload:Rt)(diff pdiff:Wd)(just fin:Cp)(timely:Bool):
 dh_ pul++.int .u64 slot::(rtc root++(rtc parent++(rtc payload++(wdc diff++(wdc pdiff++(cpC just++aY_ ⟨fin,.bool timely⟩))))))=ap_ ⟨pul,slot,root,parent,payload,diff,pdiff,just,fin,timely⟩:=rfl
attribute [go_sem] Fx_
def WkC:List AV→List AV→Prop
 | [],[]=>True
 |c::cs,d::ds=>Wk c d∧(c.cell=true→d.cell=true)∧WkC cs ds
 |_,_=>False
theorem WkC.refl:∀cs:List AV,WkC cs cs
 | []=>trivial
 |c::cs=>⟨Wk.refl c,fun h=>h,WkC.refl cs⟩
theorem WkC.app:∀ {a b c d:List AV},WkC a b→WkC c d→WkC (a++c) (b++d)
 | [],[],_,_,_,h=>h
 |_::_,_::_,_,_,h1,h2=>⟨h1.1,h1.2.1,WkC.app h1.2.2 h2⟩
 | [],_::_,_,_,h,_|_::_,[],_,_,h,_=>h.elim
theorem WkC.rlc{E:Env}:∀ {cs ds:List AV} {us:List Value},WkC cs ds→RlC E cs us→RlC E ds us
 | [],[],_,_,h=>h
 |_::_,_::_,_,hw,⟨u,us,e,h1,h2,h3⟩=>⟨u,us,e,hw.2.1 h1,hw.1 _ _ h2,WkC.rlc hw.2.2 h3⟩
 | [],_::_,_,h,_|_::_,[],_,h,_=>h.elim
theorem Wk.agg{cs ds:List AV}(h:WkC cs ds):Wk (.agg cs) (.agg ds):=fun _ _ ⟨vs,e,hr⟩=>⟨vs,e,h.rlc hr⟩
theorem Ft_(s:Int)(r:Rt)(c:Cp)(v:AV):.int .u64 s::(rtc r++aY_ ⟨c,v⟩)=bl_ ⟨s,r,c,v⟩:=rfl
attribute [go_sem] Ft_
theorem Ha_(ρ:Nat→Nat)(x:List AV)(xs:List (List AV)):cg_ ρ (x::xs)=ci_ ρ x::cg_ ρ xs:=rfl
attribute [go_sem] Ha_
def lU_(x:Int×Rt×Cp×List Int):Att:=⟨x.1,x.2.1,x.2.2.1,.sl 1 false (aq_ .i64 x.2.2.2)⟩
def kI_:Int×Rt×Cp×List Int:=(0,rt0,cp0,[])
theorem WkC.cons{c d:AV}{cs ds:List AV}(h:Wk c d)(hc:c.cell=true→d.cell=true)(h2:WkC cs ds):WkC (c::cs) (d::ds):=⟨h,hc,h2⟩
theorem WkC.same(c:AV){cs ds:List AV}(h2:WkC cs ds):WkC (c::cs) (c::ds):=.cons (Wk.refl c) (fun h=>h) h2
theorem WkC.one{c d:AV}(h:Wk c d)(hc:c.cell=true→d.cell=true):WkC [c] [d]:=.cons h hc trivial
abbrev Cv:=Int×Int×Rt×List Int
def ph_(x:Cv):Clm:=⟨x.1,x.2.1,x.2.2.1,.sl 1 false (aq_ .i64 x.2.2.2)⟩
theorem De_(x:Cv)(ρ:Nat→Nat):(ph_ x).map (ren ρ)=ph_ x:=by simp only[ph_,Clm.map,ren,cC_]
theorem HB_(x:Cv)(σ:St)(zs:List Nat):(ph_ x).map (fz σ zs)=ph_ x:=by simp only[ph_,Clm.map,fz,ds_]
theorem Jo_(x:Cv):(ph_ x).good=true:=rfl
theorem Jp_(x:Cv):(ph_ x).vals=.sl 1 false (aq_ .i64 x.2.2.2):=rfl
theorem HC_(x:Cv):(ph_ x).Pure:=aM_ _ _
attribute [go_sem] De_ HB_ Jo_ Jp_
def uE_:Cv:=(0,0,rt0,[])
abbrev Sv:=Cv×Cv
def lN_(x:Sv):Slg:=⟨ph_ x.1,ph_ x.2⟩
def jk_:Sv:=(uE_,uE_)
theorem IE_(s t:Int)(r:Rt){v v':AV}(h:Wk v v')(hc:v.cell=true→v'.cell=true):WkC (bQ_ ⟨s,t,r,v⟩) (bQ_ ⟨s,t,r,v'⟩):=
 WkC.same _ (WkC.same _ ((WkC.refl (rtc r)).app (WkC.one h hc)))
abbrev Tv:=Cp×List Int
def kZ_(x:Tv):Tab:=⟨x.1,.sl 1 false (aq_ .u64 x.2)⟩
def pI_:Tv:=(cp0,[])
end Go.Proofs.YtkgimpdgncakjaaGreat
