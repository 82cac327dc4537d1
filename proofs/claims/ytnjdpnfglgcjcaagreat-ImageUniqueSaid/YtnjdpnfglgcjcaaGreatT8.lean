/- Joined. -/
import Derived.Test.YtnjdpnfglgcjcaaGreatT7
import Derived.Test.YtnjdpnfglgcjcaaGreatU4
set_option linter.unusedVariables false
set_option linter.unusedSimpArgs false
set_option maxRecDepth 8000
set_option maxHeartbeats 4000000
namespace Go.Proofs.YtnjdpnfglgcjcaaGreat
open Go Go.FH Go.RowKit
def tk(c:cU):ap:=⟨c,List.replicate c.bals.length dL,[],⟨0,c.gen⟩,⟨0,c.gen⟩,[],[],[⟨adM c.gen,-1,1⟩],1,rt0,[⟨⟨0,c.gen⟩,c.bals⟩]⟩
end Go.Proofs.YtnjdpnfglgcjcaaGreat
