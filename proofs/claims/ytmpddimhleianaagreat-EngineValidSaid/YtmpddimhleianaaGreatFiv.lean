/-
 Engines restored from states: walked.
-/
import Derived.Test.YtmpddimhleianaaGreatE7v
import Derived.Test.YtmpddimhleianaaGreatO1v
set_option linter.unusedVariables false
set_option linter.unusedSimpArgs false
set_option maxRecDepth 8000
set_option maxHeartbeats 4000000
namespace Go.Proofs.YtmpddimhleianaaGreat
open Go Go.FH Go.RowKit
theorem W9(s:al)(h:CpA s)(c0:PC Tryz.prog 39 [.agg (aG s.a)] (.int .i64 0)):
 aJ Tryz.prog 38 [.agg (aG s.a)] [] (.tup [.ptr 0 0,.int .i64 0]) [.var (aG s.a++[.sl 0 true []])]:=by
 refine cZ 14 ?_;have c1:=sY s h;have hsp:∀a:List AV,spl a 0 (aG s.a)=aG s.a++a.drop 252:=fun a=>by simp[spl,iW]
 refine nx fun _=>?_
 exact abF [] [1]
theorem Fk(s:al)(e:Int)(he:¬e=0)(c0:PC Tryz.prog 39 [.agg (aG s.a)] (.int .i64 e)):
 PC Tryz.prog 38 [.agg (aG s.a)] (.tup [.nilp,.int .i64 e]):=by
 refine aQ 14 ?_;exact aw
end Go.Proofs.YtmpddimhleianaaGreat
