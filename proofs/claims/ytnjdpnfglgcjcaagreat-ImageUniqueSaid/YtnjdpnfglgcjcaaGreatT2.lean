/- Joined. -/
import Derived.Test.YtnjdpnfglgcjcaaGreatT1
import Derived.Test.YtnjdpnfglgcjcaaGreatW3
import Derived.Test.YtnjdpnfglgcjcaaGreatChecked
import Derived.KernelRfl
set_option linter.unusedVariables false
set_option linter.unusedSimpArgs false
set_option maxRecDepth 8000
set_option maxHeartbeats 4000000
namespace Go.Proofs.YtnjdpnfglgcjcaaGreat
open Go Go.FH Go.RowKit
structure LZ where
 xs:List (List AV)
 pu:fy xs
theorem LZ.fz(c:LZ)(σ:St)(zs:List Nat):dh σ zs c.xs=c.xs:=fy.fz σ zs c.pu
theorem Nj(ρ:Nat->Nat):∀ (a b:List (List AV)),bH ρ (a++b)=bH ρ a++bH ρ b
 | [],_=>rfl
 |x::a,b=>by simp only[amI,bH,Nj ρ a b]
theorem Rf(σ:St)(zs:List Nat):∀ (a b:List (List AV)),dh σ zs (a++b)=dh σ zs a++dh σ zs b
 | [],_=>rfl
 |x::a,b=>by simp only[amI,dh,Rf σ zs a b]
attribute [go_sem] LZ.fz Nj Rf
end Go.Proofs.YtnjdpnfglgcjcaaGreat
