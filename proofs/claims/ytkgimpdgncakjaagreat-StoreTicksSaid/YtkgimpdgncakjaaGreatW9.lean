/-
 My texts Ej, Ek, El, Em, joined.
-/
import Derived.Test.YtkgimpdgncakjaaGreatW8
import Derived.Test.YtkgimpdgncakjaaGreatW3
namespace Go.Proofs.YtkgimpdgncakjaaGreat
open Go Go.FH Go.RowKit
set_option linter.unusedVariables false
set_option linter.unusedSimpArgs false
def lsl(ls:List (List Int)):List (List AV):=ls.map fun l=>[.sl 1 false (aq_ .i64 l)]
theorem Ka_(ls:List (List Int)):dh_ (lsl ls):=by
 rw[hQ_];intro x hx;obtain⟨l,_,rfl⟩:=List.mem_map.1 hx;exact⟨aM_ _ _,trivial⟩
theorem IX_(ρ:Nat→Nat)(ls:List (List Int)):bH_ ρ (lsl ls)=lsl ls:=(Ka_ ls).ren ρ
theorem KV_(σ:St)(zs:List Nat)(ls:List (List Int)):dZ_ σ zs (lsl ls)=lsl ls:=(Ka_ ls).fz σ zs
theorem EX_(ls:List (List Int)):(lsl ls).length=ls.length:=by simp[lsl]
attribute [go_sem] IX_ KV_ EX_
theorem DZ_(pul:Pul)(slot:Int)(root parent payload:Rt)(diff pdiff:Wd)(just fin:Cp)(timely:Bool):
 cg_ pul++.int .u64 slot::(rtc root++(rtc parent++(rtc payload++(wdc diff++(wdc pdiff++(cpC just++aT_ ⟨fin,.bool timely⟩))))))=ap_ ⟨pul,slot,root,parent,payload,diff,pdiff,just,fin,timely⟩:=rfl
attribute [go_sem] DZ_
def WkC:List AV→List AV→Prop
 | [],[]=>True
 |c::cs,d::ds=>Wk c d∧(c.cell=true→d.cell=true)∧WkC cs ds
 |_,_=>False
theorem WkC.refl:∀cs:List AV,WkC cs cs
 | []=>trivial
 |c::cs=>⟨Wk.refl c,fun h=>h,WkC.refl cs⟩
theorem WkC.app:∀ {a b c d:List AV},WkC a b→WkC c d→WkC (a++c) (b++d)
 | [],[],_,_,_,h=>h
 |_::_,_::_,_,_,h1,h2=>⟨h1.1,h1.2.1,WkC.app h1.2.2 h2⟩
 | [],_::_,_,_,h,_|_::_,[],_,_,h,_=>h.elim
theorem WkC.rlc{E:Env}:∀ {cs ds:List AV} {us:List Value},WkC cs ds→RlC E cs us→RlC E ds us
 | [],[],_,_,h=>h
 |_::_,_::_,_,hw,⟨u,us,e,h1,h2,h3⟩=>⟨u,us,e,hw.2.1 h1,hw.1 _ _ h2,WkC.rlc hw.2.2 h3⟩
 | [],_::_,_,h,_|_::_,[],_,h,_=>h.elim
theorem Wk.agg{cs ds:List AV}(h:WkC cs ds):Wk (.agg cs) (.agg ds):=fun _ _ ⟨vs,e,hr⟩=>⟨vs,e,h.rlc hr⟩
theorem DW_(s:Int)(r:Rt)(c:Cp)(v:AV):.int .u64 s::(rtc r++aT_ ⟨c,v⟩)=aY_ ⟨s,r,c,v⟩:=rfl
attribute [go_sem] DW_
theorem Nq_:lsl []=[]:=rfl
theorem Lp_(l:List Int)(ls:List (List Int)):lsl (l::ls)=[.sl 1 false (aq_ .i64 l)]::lsl ls:=rfl
theorem FC_(ρ:Nat→Nat)(x:List AV)(xs:List (List AV)):bH_ ρ (x::xs)=bS_ ρ x::bH_ ρ xs:=rfl
attribute [go_sem] Nq_ Lp_ FC_
def ll_(x:Int×Rt×Cp×List Int):Att:=⟨x.1,x.2.1,x.2.2.1,.sl 1 false (aq_ .i64 x.2.2.2)⟩
def kb_:Int×Rt×Cp×List Int:=(0,rt0,cp0,[])
theorem WkC.cons{c d:AV}{cs ds:List AV}(h:Wk c d)(hc:c.cell=true→d.cell=true)(h2:WkC cs ds):WkC (c::cs) (d::ds):=⟨h,hc,h2⟩
theorem WkC.same(c:AV){cs ds:List AV}(h2:WkC cs ds):WkC (c::cs) (c::ds):=.cons (Wk.refl c) (fun h=>h) h2
theorem WkC.one{c d:AV}(h:Wk c d)(hc:c.cell=true→d.cell=true):WkC [c] [d]:=.cons h hc trivial
abbrev Cv:=Int×Int×Rt×List Int
def ok_(x:Cv):Clm:=⟨x.1,x.2.1,x.2.2.1,.sl 1 false (aq_ .i64 x.2.2.2)⟩
theorem BA_(x:Cv)(ρ:Nat→Nat):(ok_ x).map (ren ρ)=ok_ x:=by simp only[ok_,Clm.map,ren,ck_]
theorem Gc_(x:Cv)(σ:St)(zs:List Nat):(ok_ x).map (fz σ zs)=ok_ x:=by simp only[ok_,Clm.map,fz,cZ_]
theorem HK_(x:Cv):(ok_ x).good=true:=rfl
theorem HL_(x:Cv):(ok_ x).vals=.sl 1 false (aq_ .i64 x.2.2.2):=rfl
theorem Gd_(x:Cv):(ok_ x).Pure:=aM_ _ _
attribute [go_sem] BA_ Gc_ HK_ HL_
def tz_:Cv:=(0,0,rt0,[])
abbrev Sv:=Cv×Cv
def lf_(x:Sv):Slg:=⟨ok_ x.1,ok_ x.2⟩
def iF_:Sv:=(tz_,tz_)
theorem Ha_(s t:Int)(r:Rt){v v':AV}(h:Wk v v')(hc:v.cell=true→v'.cell=true):WkC (bz_ ⟨s,t,r,v⟩) (bz_ ⟨s,t,r,v'⟩):=
 WkC.same _ (WkC.same _ ((WkC.refl (rtc r)).app (WkC.one h hc)))
abbrev Tv:=Cp×List Int
def ku_(x:Tv):Tab:=⟨x.1,.sl 1 false (aq_ .u64 x.2)⟩
def oO_:Tv:=(cp0,[])
end Go.Proofs.YtkgimpdgncakjaaGreat
