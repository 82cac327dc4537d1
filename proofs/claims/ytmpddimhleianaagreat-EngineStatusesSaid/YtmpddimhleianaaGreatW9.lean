/- Joined. -/
import Derived.Test.YtmpddimhleianaaGreatW8
import Derived.Test.YtmpddimhleianaaGreatW3
set_option linter.unusedVariables false
set_option linter.unusedSimpArgs false
set_option maxRecDepth 8000
set_option maxHeartbeats 4000000
namespace Go.Proofs.YtmpddimhleianaaGreat
open Go Go.FH Go.RowKit
theorem G5(pul:Pul)(slot:Int)(root parent payload:Rt)(diff pdiff:Wd)(just fin:Cp)(timely:Bool):
 dB pul++.int .u64 slot::(rtc root++(rtc parent++(rtc payload++(wdc diff++(wdc pdiff++(cpC just++ar ⟨fin,.bool timely⟩))))))=aO ⟨pul,slot,root,parent,payload,diff,pdiff,just,fin,timely⟩:=rfl
attribute [go_sem] G5
def WkC:List AV->List AV->Prop
 | [],[]=>True
 |c::cs,d::ds=>Wk c d/\(c.cell=true->d.cell=true)/\WkC cs ds
 |_,_=>False
theorem WkC.refl:∀cs:List AV,WkC cs cs
 | []=>trivial
 |c::cs=>⟨Wk.refl c,fun h=>h,WkC.refl cs⟩
theorem WkC.app:∀ {a b c d:List AV},WkC a b->WkC c d->WkC (a++c) (b++d)
 | [],[],_,_,_,h=>h
 |_::_,_::_,_,_,h1,h2=>⟨h1.1,h1.2.1,WkC.app h1.2.2 h2⟩
 | [],_::_,_,_,h,_|_::_,[],_,_,h,_=>h.elim
theorem WkC.rlc{E:Env}:∀ {cs ds:List AV} {us:List Value},WkC cs ds->RlC E cs us->RlC E ds us
 | [],[],_,_,h=>h
 |_::_,_::_,_,hw,⟨u,us,e,h1,h2,h3⟩=>⟨u,us,e,hw.2.1 h1,hw.1 _ _ h2,WkC.rlc hw.2.2 h3⟩
 | [],_::_,_,h,_|_::_,[],_,h,_=>h.elim
theorem Wk.agg{cs ds:List AV}(h:WkC cs ds):Wk (.agg cs) (.agg ds):=fun _ _ ⟨vs,e,hr⟩=>⟨vs,e,h.rlc hr⟩
theorem rW{fr:Fr}{σ:St}{rs:List gN}{r r0:AV}{l:List AV}(hl:dH fr σ rs=some l:=by first|rfl|exact evd)(hv:fz σ (List.range σ.length) (gk l)=r0:=by(try simp only[go_sem,Nat.reduceAdd,Nat.reduceSub,Nat.reduceMul,Nat.reduceLT,Nat.reduceLeDiff,Nat.reduceEqDiff,reduceIte,Int.reduceToNat,Int.reduceLT,Int.reduceLE,Int.reduceEq,Int.reduceNeg,reduceCtorEq,Int.reduceBEq,Int.reduceBNe]);try rfl)(hp:Pu r0:=by exact puA)(hw:Wk r0 r:=by repeat'(first|exact Wk.refl _|exact Wk.empty _ _ _|exact Wk.open_ _ _ _|refine Wk.tup ?_|refine Wk.agg ?_|exact trivial|(intro h;first|exact h|rfl)|constructor)):∃l,dH fr σ rs=some l/\(fz σ (List.range σ.length) (gk l)=r\/∃r0,fz σ (List.range σ.length) (gk l)=r0/\Pu r0/\Wk r0 r):=⟨l,hl,.inr ⟨r0,hv,hp,hw⟩⟩
theorem G4(s:Int)(r:Rt)(c:Cp)(v:AV):.int .u64 s::(rtc r++ar ⟨c,v⟩)=cy ⟨s,r,c,v⟩:=rfl
attribute [go_sem] G4
theorem Hy(ρ:Nat->Nat)(x:List AV)(xs:List (List AV)):bH ρ (x::xs)=bZ ρ x::bH ρ xs:=rfl
attribute [go_sem] Hy
def rj(x:Int×Rt×Cp×List Int):Att:=⟨x.1,x.2.1,x.2.2.1,.sl 1 false (aH .i64 x.2.2.2)⟩
def oX:Int×Rt×Cp×List Int:=(0,rt0,cp0,[])
theorem WkC.cons{c d:AV}{cs ds:List AV}(h:Wk c d)(hc:c.cell=true->d.cell=true)(h2:WkC cs ds):WkC (c::cs) (d::ds):=⟨h,hc,h2⟩
theorem WkC.same(c:AV){cs ds:List AV}(h2:WkC cs ds):WkC (c::cs) (c::ds):=.cons (Wk.refl c) (fun h=>h) h2
theorem WkC.one{c d:AV}(h:Wk c d)(hc:c.cell=true->d.cell=true):WkC [c] [d]:=.cons h hc trivial
theorem adl(x:Int×Rt×Cp×List Int):Pu (.agg (cy (rj x))):=(fB _).2 (bE _ _)
abbrev Cv:=Int×Int×Rt×List Int
def ahc(x:Cv):Clm:=⟨x.1,x.2.1,x.2.2.1,.sl 1 false (aH .i64 x.2.2.2)⟩
theorem BS(x:Cv)(ρ:Nat->Nat):(ahc x).map (ren ρ)=ahc x:=by simp only[ahc,Clm.map,ren,dG]
theorem EZ(x:Cv)(σ:St)(zs:List Nat):(ahc x).map (fz σ zs)=ahc x:=by simp only[ahc,Clm.map,fz,dM]
theorem gg(x:Cv):(ahc x).good=true:=rfl
theorem gP(x:Cv):(ahc x).vals=.sl 1 false (aH .i64 x.2.2.2):=rfl
theorem zL(x:Cv):(ahc x).Pure:=bE _ _
attribute [go_sem] BS EZ gg gP
def oV:Cv:=(0,0,rt0,[])
abbrev Sv:=Cv×Cv
def nO(x:Sv):Slg:=⟨ahc x.1,ahc x.2⟩
def mB:Sv:=(oV,oV)
theorem FR(s t:Int)(r:Rt){v v':AV}(h:Wk v v')(hc:v.cell=true->v'.cell=true):WkC (du ⟨s,t,r,v⟩) (du ⟨s,t,r,v'⟩):=
 WkC.same _ (WkC.same _ ((WkC.refl (rtc r)).app (WkC.one h hc)))
abbrev Tv:=Cp×List Int
def EU(x:Tv):Tab:=⟨x.1,.sl 1 false (aH .u64 x.2)⟩
def j4:Tv:=(cp0,[])
end Go.Proofs.YtmpddimhleianaaGreat
