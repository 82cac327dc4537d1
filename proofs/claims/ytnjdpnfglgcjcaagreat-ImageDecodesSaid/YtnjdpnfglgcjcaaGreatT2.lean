/-
 My texts Qd, Qe, joined.
-/
import Derived.Test.YtnjdpnfglgcjcaaGreatT1
import Derived.Test.YtnjdpnfglgcjcaaGreatW3
import Derived.Test.YtnjdpnfglgcjcaaGreatChecked
import Derived.KernelRfl
import Derived.Test.YtnjdpnfglgcjcaaGreatV7
set_option linter.unusedVariables false
set_option linter.unusedSimpArgs false
set_option maxRecDepth 8000
set_option maxHeartbeats 4000000
namespace Go.Proofs.YtnjdpnfglgcjcaaGreat
open Go Go.FH Go.RowKit
structure LZ where
 xs:List (List AV)
 pu:fy xs
theorem LZ.ren(c:LZ)(ρ:Nat->Nat):bH ρ c.xs=c.xs:=fy.ren ρ c.pu
theorem LZ.fz(c:LZ)(σ:St)(zs:List Nat):dh σ zs c.xs=c.xs:=fy.fz σ zs c.pu
theorem Nj(ρ:Nat->Nat):∀ (a b:List (List AV)),bH ρ (a++b)=bH ρ a++bH ρ b
 | [],_=>rfl
 |x::a,b=>by simp only[aiT,bH,Nj ρ a b]
theorem Rf(σ:St)(zs:List Nat):∀ (a b:List (List AV)),dh σ zs (a++b)=dh σ zs a++dh σ zs b
 | [],_=>rfl
 |x::a,b=>by simp only[aiT,dh,Rf σ zs a b]
attribute [go_sem] LZ.ren LZ.fz Nj Rf
theorem Vw{α:Type}(f:α->List AV)(l:List α)(z:List (List AV)):List.take l.length (rows f l++z)=rows f l:=by
 rw[ajs (by simp)];exact aiw (by simp)
attribute [go_sem] Vw
def RP(s:ap)(c:Cp):Int×Bool:=if aj s.nodes c.rt<0\/(nod s.nodes (aj s.nodes c.rt).toNat).status=2 then (-1,false)
 else (aj s.nodes c.rt,decide ((dk c.ep s.cfg.spe).2=0)&&decide ((nod s.nodes (aj s.nodes c.rt).toNat).blk.slot<=(dk c.ep s.cfg.spe).1))
def agj(s:ap)(a b:Cp):Bool:=(RP s b).2&&((RP s a).2&&(eh s.nodes (RP s b).1 (RP s a).1&&(decide (b.ep<=a.ep)&&(decide (a.ep<=(kJ s.now s.cfg.spe).1)&&(dW (fun i=>decide ((tab s.tabs i).cp=a)) s.tabs.length).isSome))))
end Go.Proofs.YtnjdpnfglgcjcaaGreat
