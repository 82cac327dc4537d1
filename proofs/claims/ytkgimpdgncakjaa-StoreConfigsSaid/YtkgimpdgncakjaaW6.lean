/-
 My texts Kk, Kl, joined.
-/
import Derived.Test.YtkgimpdgncakjaaW3
import Derived.Test.YtkgimpdgncakjaaChecked
import Derived.KernelRfl
namespace Go.Proofs.Ytkgimpdgncakjaa
open Go Go.FH
set_option maxRecDepth 100000
set_option maxHeartbeats 200000
def lH_:ah_:=nfO (P:=Try.prog) 7
theorem tb_:aK_ Try.prog 7=some (126,[.cell 2 true 150,.tmp 3],lH_):=by kernel_rfl
def hN_:ah_:=nfO (P:=Try.prog) 15
theorem nl_:aK_ Try.prog 15=some (15,[.tmp 6],hN_):=by kernel_rfl
def jp_:ah_:=nfO (P:=Try.prog) 9
theorem pl_:aK_ Try.prog 9=some (67,[.cell 2 true 45],jp_):=by kernel_rfl
def qk_:ah_:=nfO (P:=Try.prog) 25
theorem xJ_:aK_ Try.prog 25=some (23,[.tmp 4],qk_):=by kernel_rfl
end Go.Proofs.Ytkgimpdgncakjaa
