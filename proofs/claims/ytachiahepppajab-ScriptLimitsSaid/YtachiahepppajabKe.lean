/-
  Abstract forms of bodies, each with its fact. Printed by a program of mine.
-/
import Derived.Test.YtachiahepppajabMc
import Derived.Test.YtachiahepppajabChecked
import Derived.KernelRfl
namespace Go.Proofs.Ytachiahepppajab
open Go Go.FH

/-- law6.ScriptLimits -/
def c_law6_ScriptLimits : ACode := (.seq (.reg [⟨(some 2), .mv (.c (.bool false)), none⟩])
 (.seq (.reg [⟨(some 13), .mv (.t 0), none⟩,
  ⟨(some 14), .bin .and (.t 13) (.c (.int .i64 (1))), none⟩,
  ⟨(some 3), .mv (.t 14), none⟩])
 (.seq (.reg [⟨(some 15), .mv (.t 3), none⟩,
  ⟨(some 16), .bin .add (.c (.int .i64 (4096))) (.t 15), none⟩,
  ⟨(some 17), .mk 446 720 (sOpC sOp0) (.t 16) (.t 16), none⟩,
  ⟨(some 4), .mv (.t 17), none⟩])
 (.seq (.reg [⟨(some 18), .mv (.t 3), none⟩,
  ⟨(some 19), .bin .add (.c (.int .i64 (4096))) (.t 18), none⟩,
  ⟨(some 20), .mk 1 1 [(.int .u8 (0))] (.t 19) (.t 19), none⟩,
  ⟨(some 5), .mv (.t 20), none⟩])
 (.seq (.seq (.reg [⟨(some 6), .mv (.c (.int .i64 (0))), none⟩])
 (.block 0 (.loop (.seq (.seq (.reg [⟨(some 21), .mv (.t 6), none⟩,
  ⟨(some 22), .mv (.t 4), none⟩,
  ⟨(some 23), .len false (.t 22), none⟩,
  ⟨(some 24), .bin .lss (.t 21) (.t 23), none⟩])
 (.cond (.t 24)
   .skip
   (.exit 0)))
 (.seq (.block 1 (.reg [⟨(some 27), .mv (.t 4), none⟩,
  ⟨(some 28), .mv (.t 6), none⟩,
  ⟨(some 29), .mv (.t 5), none⟩,
  ⟨(some 30), .mv (.t 6), none⟩,
  ⟨(some 31), .idxS 446 (.t 27) (.t 28), none⟩,
  ⟨(some 32), .fldA 0 (.t 31), none⟩,
  ⟨none, .sto 1 (.t 32) (.c (.int .i64 (1))), none⟩,
  ⟨(some 33), .idxS 1 (.t 29) (.t 30), none⟩,
  ⟨none, .sto 1 (.t 33) (.c (.int .u8 (1))), none⟩]))
 (.reg [⟨(some 25), .mv (.t 6), none⟩,
  ⟨(some 26), .bin .add (.t 25) (.c (.int .i64 (1))), none⟩,
  ⟨(some 6), .mv (.t 26), none⟩]))))))
 (.seq (.reg [⟨(some 35), .mv (.t 4), none⟩,
  ⟨(some 36), .call (.c (.fn (.func 4) [])) [(.t 35)], none⟩,
  ⟨(some 34), .mv (.t 36), none⟩,
  ⟨(some 37), .ext 0 (.t 34), none⟩,
  ⟨(some 38), .ext 1 (.t 34), none⟩,
  ⟨(some 7), .mv (.t 37), none⟩,
  ⟨(some 8), .mv (.t 38), none⟩])
 (.seq (.reg [⟨(some 40), .mv (.t 5), none⟩,
  ⟨(some 41), .call (.c (.fn (.func 5) [])) [(.t 40)], none⟩,
  ⟨(some 39), .mv (.t 41), none⟩,
  ⟨(some 42), .ext 0 (.t 39), none⟩,
  ⟨(some 43), .ext 1 (.t 39), none⟩,
  ⟨(some 9), .mv (.t 42), none⟩,
  ⟨(some 10), .mv (.t 43), none⟩])
 (.seq (.reg [⟨(some 45), .mv (.t 5), none⟩,
  ⟨(some 46), .call (.c (.fn (.func 6) [])) [(.t 45)], none⟩,
  ⟨(some 44), .mv (.t 46), none⟩,
  ⟨(some 47), .ext 0 (.t 44), none⟩,
  ⟨(some 48), .ext 1 (.t 44), none⟩,
  ⟨(some 11), .mv (.t 47), none⟩,
  ⟨(some 12), .mv (.t 48), none⟩])
 (.seq (.seq (.reg [⟨(some 49), .mv (.t 12), none⟩,
  ⟨(some 50), .bin .neq (.t 49) (.c (.int .i64 (4096))), none⟩,
  ⟨(some 51), .mv (.t 50), none⟩,
  ⟨(some 52), .mv (.t 11), (some (51, false))⟩,
  ⟨(some 53), .len false (.t 52), (some (51, false))⟩,
  ⟨(some 54), .bin .neq (.t 53) (.c (.int .i64 (4096))), (some (51, false))⟩,
  ⟨(some 55), .pick (.t 51) (.c (.bool true)) (.t 54), none⟩])
 (.cond (.t 55)
   (.seq (.reg [⟨(some 2), .mv (.c (.bool false)), none⟩])
   .ret)
   .skip))
 (.seq (.seq (.reg [⟨(some 56), .mv (.t 3), none⟩,
  ⟨(some 57), .bin .eql (.t 56) (.c (.int .i64 (0))), none⟩])
 (.cond (.t 57)
   (.seq (.reg [⟨(some 58), .mv (.t 8), none⟩,
    ⟨(some 59), .bin .eql (.t 58) (.c (.int .i64 (0))), none⟩,
    ⟨(some 60), .mv (.t 59), none⟩,
    ⟨(some 61), .mv (.t 7), (some (60, true))⟩,
    ⟨(some 62), .b2s (.t 61), (some (60, true))⟩,
    ⟨(some 63), .mv (.t 5), (some (60, true))⟩,
    ⟨(some 64), .b2s (.t 63), (some (60, true))⟩,
    ⟨(some 65), .eqv 1 false (.t 62) (.t 64), (some (60, true))⟩,
    ⟨(some 66), .pick (.t 60) (.t 65) (.c (.bool false)), none⟩,
    ⟨(some 67), .mv (.t 66), none⟩,
    ⟨(some 68), .mv (.t 10), (some (67, true))⟩,
    ⟨(some 69), .bin .eql (.t 68) (.c (.int .i64 (0))), (some (67, true))⟩,
    ⟨(some 70), .pick (.t 67) (.t 69) (.c (.bool false)), none⟩,
    ⟨(some 71), .mv (.t 70), none⟩,
    ⟨(some 72), .mv (.t 9), (some (71, true))⟩,
    ⟨(some 73), .len false (.t 72), (some (71, true))⟩,
    ⟨(some 74), .bin .eql (.t 73) (.c (.int .i64 (4096))), (some (71, true))⟩,
    ⟨(some 75), .pick (.t 71) (.t 74) (.c (.bool false)), none⟩,
    ⟨(some 76), .mv (.t 75), none⟩,
    ⟨(some 77), .call (.c (.fn (.func 7) [])) [], (some (76, true))⟩,
    ⟨(some 78), .pick (.t 76) (.t 77) (.c (.bool false)), none⟩,
    ⟨(some 2), .mv (.t 78), none⟩])
   .ret)
   .skip))
 (.seq (.reg [⟨(some 79), .mv (.t 8), none⟩,
  ⟨(some 80), .bin .eql (.t 79) (.c (.int .i64 (11))), none⟩,
  ⟨(some 81), .mv (.t 80), none⟩,
  ⟨(some 82), .mv (.t 7), (some (81, true))⟩,
  ⟨(some 83), .len false (.t 82), (some (81, true))⟩,
  ⟨(some 84), .bin .eql (.t 83) (.c (.int .i64 (0))), (some (81, true))⟩,
  ⟨(some 85), .pick (.t 81) (.t 84) (.c (.bool false)), none⟩,
  ⟨(some 86), .mv (.t 85), none⟩,
  ⟨(some 87), .mv (.t 10), (some (86, true))⟩,
  ⟨(some 88), .bin .eql (.t 87) (.c (.int .i64 (11))), (some (86, true))⟩,
  ⟨(some 89), .pick (.t 86) (.t 88) (.c (.bool false)), none⟩,
  ⟨(some 90), .mv (.t 89), none⟩,
  ⟨(some 91), .mv (.t 9), (some (90, true))⟩,
  ⟨(some 92), .len false (.t 91), (some (90, true))⟩,
  ⟨(some 93), .bin .eql (.t 92) (.c (.int .i64 (0))), (some (90, true))⟩,
  ⟨(some 94), .pick (.t 90) (.t 93) (.c (.bool false)), none⟩,
  ⟨(some 95), .mv (.t 94), none⟩,
  ⟨(some 96), .call (.c (.fn (.func 7) [])) [], (some (95, true))⟩,
  ⟨(some 97), .pick (.t 95) (.t 96) (.c (.bool false)), none⟩,
  ⟨(some 2), .mv (.t 97), none⟩])
 .ret)))))))))))
theorem f_law6_ScriptLimits : aFun Try.prog 3 = some (98, [.tmp 2], c_law6_ScriptLimits) := by kernel_rfl
end Go.Proofs.Ytachiahepppajab
