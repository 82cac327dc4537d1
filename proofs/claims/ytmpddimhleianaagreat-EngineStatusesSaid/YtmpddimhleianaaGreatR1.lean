/- Joined. -/
import Derived.Test.YtmpddimhleianaaGreatW3
import Derived.Test.YtmpddimhleianaaGreatChecked
import Derived.KernelRfl
set_option maxRecDepth 100000
set_option maxHeartbeats 200000
namespace Go.Proofs.YtmpddimhleianaaGreat
open Go Go.FH
def nN:ab:=nfO (P:=Tryz.prog) 84
theorem yf:aJ Tryz.prog 84=some (77,[.tmp 2],nN):=by kernel_rfl
def bU:ab:=nfO (P:=Tryz.prog) 106
theorem KE:aJ Tryz.prog 106=some (103,[.cell 4 true 150,.tmp 5,.tmp 6],bU):=by kernel_rfl
end Go.Proofs.YtmpddimhleianaaGreat
