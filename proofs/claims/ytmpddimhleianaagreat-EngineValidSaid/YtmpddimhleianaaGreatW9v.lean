/- Joined. -/
import Derived.Test.YtmpddimhleianaaGreatW8v
import Derived.Test.YtmpddimhleianaaGreatW3v
set_option linter.unusedVariables false
set_option linter.unusedSimpArgs false
set_option maxRecDepth 8000
set_option maxHeartbeats 4000000
namespace Go.Proofs.YtmpddimhleianaaGreat
open Go Go.FH Go.RowKit
theorem LL(pul:Pul)(slot:Int)(root parent payload:Rt)(diff pdiff:Wd)(just fin:Cp)(timely:Bool):
 gc pul++.int .u64 slot::(rtc root++(rtc parent++(rtc payload++(wdc diff++(wdc pdiff++(cpC just++bE ⟨fin,.bool timely⟩))))))=au ⟨pul,slot,root,parent,payload,diff,pdiff,just,fin,timely⟩:=rfl
attribute [go_sem] LL
def WkC:List AV->List AV->Prop
 | [],[]=>True
 |c::cs,d::ds=>Wk c d/\(c.cell=true->d.cell=true)/\WkC cs ds
 |_,_=>False
theorem WkC.refl:∀cs:List AV,WkC cs cs
 | []=>trivial
 |c::cs=>⟨Wk.refl c,fun h=>h,WkC.refl cs⟩
theorem WkC.app:∀ {a b c d:List AV},WkC a b->WkC c d->WkC (a++c) (b++d)
 | [],[],_,_,_,h=>h
 |_::_,_::_,_,_,h1,h2=>⟨h1.1,h1.2.1,WkC.app h1.2.2 h2⟩
 | [],_::_,_,_,h,_|_::_,[],_,_,h,_=>h.elim
theorem WkC.rlc{E:Env}:∀ {cs ds:List AV} {us:List Value},WkC cs ds->RlC E cs us->RlC E ds us
 | [],[],_,_,h=>h
 |_::_,_::_,_,hw,⟨u,us,e,h1,h2,h3⟩=>⟨u,us,e,hw.2.1 h1,hw.1 _ _ h2,WkC.rlc hw.2.2 h3⟩
 | [],_::_,_,h,_|_::_,[],_,h,_=>h.elim
theorem Wk.agg{cs ds:List AV}(h:WkC cs ds):Wk (.agg cs) (.agg ds):=fun _ _ ⟨vs,e,hr⟩=>⟨vs,e,h.rlc hr⟩
theorem TE{fr:Fr}{σ:St}{rs:List fS}{r r0:AV}{l:List AV}(hl:dy fr σ rs=some l:=by first|rfl|exact evd)(hv:fz σ (List.range σ.length) (fJ l)=r0:=by(try simp only[go_sem,Nat.reduceAdd,Nat.reduceSub,Nat.reduceMul,Nat.reduceLT,Nat.reduceLeDiff,Nat.reduceEqDiff,reduceIte,Int.reduceToNat,Int.reduceLT,Int.reduceLE,Int.reduceEq,Int.reduceNeg,reduceCtorEq,Int.reduceBEq,Int.reduceBNe]);try rfl)(hp:Pu r0:=by exact puA)(hw:Wk r0 r:=by repeat'(first|exact Wk.refl _|exact Wk.empty _ _ _|exact Wk.open_ _ _ _|refine Wk.tup ?_|refine Wk.agg ?_|exact trivial|(intro h;first|exact h|rfl)|constructor)):∃l,dy fr σ rs=some l/\(fz σ (List.range σ.length) (fJ l)=r\/∃r0,fz σ (List.range σ.length) (fJ l)=r0/\Pu r0/\Wk r0 r):=⟨l,hl,.inr ⟨r0,hv,hp,hw⟩⟩
theorem LJ(s:Int)(r:Rt)(c:Cp)(v:AV):.int .u64 s::(rtc r++bE ⟨c,v⟩)=cK ⟨s,r,c,v⟩:=rfl
attribute [go_sem] LJ
theorem Nt(ρ:Nat->Nat)(x:List AV)(xs:List (List AV)):dm ρ (x::xs)=dN ρ x::dm ρ xs:=rfl
attribute [go_sem] Nt
def mG(x:Int×Rt×Cp×List Int):Att:=⟨x.1,x.2.1,x.2.2.1,.sl 1 false (ah .i64 x.2.2.2)⟩
def o7:Int×Rt×Cp×List Int:=(0,rt0,cp0,[])
theorem WkC.cons{c d:AV}{cs ds:List AV}(h:Wk c d)(hc:c.cell=true->d.cell=true)(h2:WkC cs ds):WkC (c::cs) (d::ds):=⟨h,hc,h2⟩
theorem WkC.same(c:AV){cs ds:List AV}(h2:WkC cs ds):WkC (c::cs) (c::ds):=.cons (Wk.refl c) (fun h=>h) h2
theorem WkC.one{c d:AV}(h:Wk c d)(hc:c.cell=true->d.cell=true):WkC [c] [d]:=.cons h hc trivial
theorem WB(x:Int×Rt×Cp×List Int):Pu (.agg (cK (mG x))):=(gI _).2 (aY _ _)
abbrev Cv:=Int×Int×Rt×List Int
def pF(x:Cv):Clm:=⟨x.1,x.2.1,x.2.2.1,.sl 1 false (ah .i64 x.2.2.2)⟩
theorem Jp(x:Cv)(ρ:Nat->Nat):(pF x).map (ren ρ)=pF x:=by simp only[pF,Clm.map,ren,fp]
theorem Oa(x:Cv)(σ:St)(zs:List Nat):(pF x).map (fz σ zs)=pF x:=by simp only[pF,Clm.map,fz,gN]
theorem PV(x:Cv):(pF x).good=true:=rfl
theorem PW(x:Cv):(pF x).vals=.sl 1 false (ah .i64 x.2.2.2):=rfl
theorem Ht(x:Cv):(pF x).Pure:=aY _ _
attribute [go_sem] Jp Oa PV PW
def rm:Cv:=(0,0,rt0,[])
abbrev Sv:=Cv×Cv
def qa(x:Sv):Slg:=⟨pF x.1,pF x.2⟩
def rv:Sv:=(rm,rm)
theorem Pg(s t:Int)(r:Rt){v v':AV}(h:Wk v v')(hc:v.cell=true->v'.cell=true):WkC (dB ⟨s,t,r,v⟩) (dB ⟨s,t,r,v'⟩):=
 WkC.same _ (WkC.same _ ((WkC.refl (rtc r)).app (WkC.one h hc)))
abbrev Tv:=Cp×List Int
def pq(x:Tv):Tab:=⟨x.1,.sl 1 false (ah .u64 x.2)⟩
def Dp:Tv:=(cp0,[])
end Go.Proofs.YtmpddimhleianaaGreat
