/- Joined. -/
import Derived.Test.YtnjdpnfglgcjcaaGreatT2
import Derived.Test.YtnjdpnfglgcjcaaGreatV7
set_option linter.unusedVariables false
set_option linter.unusedSimpArgs false
set_option maxRecDepth 8000
set_option maxHeartbeats 4000000
namespace Go.FH
open Go Go.RowKit
theorem CY{e p now:Int}(he:0<=e)(hp:1<=p)(hp2:p<=64)(hn:0<=now)(hn2:now<18446744073709551616)(h:e<=IntKind.u64.wrap (Int.tdiv now p)):(dk e p).2=0:=by
 have hd:Int.tdiv now p=now / p:=ajC hn;have h0:0<=now / p:=akD hn (by omega);have h1:now / p<=now:=akS _ hn;rw[hd,aN h0 (by omega)]at h;have hb:vy p=true:=by simp[vy];omega
 unfold dk;rw[al7 hb];unfold Ip;have hd2:Int.tdiv 18446744073709551615 p=18446744073709551615 / p:=ajC (by decide);have hq0:0<=18446744073709551615 / p:=akD (by decide) (by omega);have hq1:18446744073709551615 / p<=18446744073709551615:=akS _ (by decide);have hle:now / p<=18446744073709551615 / p:=Int.ediv_le_ediv (by omega) (by omega);rw[hd2,aN hq0 (by omega),al5 (by omega)]
end Go.FH
namespace Go.Proofs.YtnjdpnfglgcjcaaGreat
open Go Go.FH Go.RowKit
theorem bP.spe{s:ap}{i:Nat}(h:bP s i):1<=s.cfg.spe/\s.cfg.spe<=64:=⟨h.cfg.s1,by have:=h.cfg.s4;omega⟩
attribute [go_sem] Nat.le_add_right
end Go.Proofs.YtnjdpnfglgcjcaaGreat
