/-
  My texts Ka, Kb, Kc, joined.
-/
import Derived.Test.YtachiahepppajaaMc
import Derived.Test.YtachiahepppajaaChecked
import Derived.KernelRfl
namespace Go.Proofs.Ytachiahepppajaa
open Go Go.FH

/-- law4.CodecSums -/
def c_law4_CodecSums : ACode := (.seq (.reg [⟨(some 2), .mv (.c (.bool false)), none⟩])
 (.seq (.seq (.reg [⟨(some 3), .mv (.t 0), none⟩,
  ⟨(some 4), .len false (.t 3), none⟩,
  ⟨(some 5), .bin .gtr (.t 4) (.c (.int .i64 (3000))), none⟩])
 (.cond (.t 5)
   (.seq (.reg [⟨(some 6), .call (.c (.fn (.func 17) [])) [], none⟩,
    ⟨(some 2), .mv (.t 6), none⟩])
   .ret)
   .skip))
 (.seq (.reg [⟨(some 7), .mv (.t 0), none⟩,
  ⟨(some 8), .call (.c (.fn (.func 18) [])) [(.t 7)], none⟩,
  ⟨(some 9), .mv (.t 0), none⟩,
  ⟨(some 10), .call (.c (.fn (.func 19) [])) [(.t 9)], none⟩,
  ⟨(some 11), .bin .eql (.t 8) (.t 10), none⟩,
  ⟨(some 12), .mv (.t 11), none⟩,
  ⟨(some 13), .call (.c (.fn (.func 17) [])) [], (some (12, true))⟩,
  ⟨(some 14), .pick (.t 12) (.t 13) (.c (.bool false)), none⟩,
  ⟨(some 2), .mv (.t 14), none⟩])
 .ret)))
theorem f_law4_CodecSums : aFun Try.prog 3 = some (15, [.tmp 2], c_law4_CodecSums) := by kernel_rfl
/-- law4.CodecSumsDiffer -/
def c_law4_CodecSumsDiffer : ACode := (.seq (.reg [⟨(some 6), .mv (.c (.bool false)), none⟩])
 (.seq (.seq (.reg [⟨(some 10), .mv (.t 0), none⟩,
  ⟨(some 11), .len false (.t 10), none⟩,
  ⟨(some 12), .bin .eql (.t 11) (.c (.int .i64 (0))), none⟩,
  ⟨(some 13), .mv (.t 12), none⟩,
  ⟨(some 14), .mv (.t 0), (some (13, false))⟩,
  ⟨(some 15), .len false (.t 14), (some (13, false))⟩,
  ⟨(some 16), .bin .gtr (.t 15) (.c (.int .i64 (3000))), (some (13, false))⟩,
  ⟨(some 17), .pick (.t 13) (.c (.bool true)) (.t 16), none⟩])
 (.cond (.t 17)
   (.seq (.reg [⟨(some 18), .call (.c (.fn (.func 17) [])) [], none⟩,
    ⟨(some 6), .mv (.t 18), none⟩])
   .ret)
   .skip))
 (.seq (.reg [⟨(some 19), .mv (.t 1), none⟩,
  ⟨(some 20), .bin .and (.t 19) (.c (.int .i64 (16777215))), none⟩,
  ⟨(some 21), .mv (.t 0), none⟩,
  ⟨(some 22), .len false (.t 21), none⟩,
  ⟨(some 23), .bin .rem (.t 20) (.t 22), none⟩,
  ⟨(some 7), .mv (.t 23), none⟩])
 (.seq (.reg [⟨(some 24), .mv (.t 0), none⟩,
  ⟨(some 25), .app 1 1 (.c (.sl 0 true [])) (.t 24), none⟩,
  ⟨(some 8), .mv (.t 25), none⟩])
 (.seq (.reg [⟨(some 26), .mv (.t 8), none⟩,
  ⟨(some 27), .mv (.t 7), none⟩,
  ⟨(some 28), .mv (.t 8), none⟩,
  ⟨(some 29), .mv (.t 7), none⟩,
  ⟨(some 30), .idxS 1 (.t 28) (.t 29), none⟩,
  ⟨(some 31), .ld false 1 (.t 30), none⟩,
  ⟨(some 32), .mv (.t 2), none⟩,
  ⟨(some 33), .bin .or (.t 32) (.c (.int .u8 (1))), none⟩,
  ⟨(some 34), .bin .xor (.t 31) (.t 33), none⟩,
  ⟨(some 35), .idxS 1 (.t 26) (.t 27), none⟩,
  ⟨none, .sto 1 (.t 35) (.t 34), none⟩])
 (.seq (.seq (.reg [⟨(some 36), .mv (.t 8), none⟩,
  ⟨(some 37), .call (.c (.fn (.func 18) [])) [(.t 36)], none⟩,
  ⟨(some 38), .mv (.t 0), none⟩,
  ⟨(some 39), .call (.c (.fn (.func 18) [])) [(.t 38)], none⟩,
  ⟨(some 40), .bin .eql (.t 37) (.t 39), none⟩])
 (.cond (.t 40)
   (.seq (.reg [⟨(some 6), .mv (.c (.bool false)), none⟩])
   .ret)
   .skip))
 (.seq (.seq (.dreg [(⟨(some 41), .mv (.t 7), none⟩, 0),
  (⟨(some 42), .bin .add (.t 41) (.c (.int .i64 (1))), none⟩, 1),
  (⟨(some 43), .mv (.t 0), none⟩, 0),
  (⟨(some 44), .len false (.t 43), none⟩, 4),
  (⟨(some 45), .bin .lss (.t 42) (.t 44), none⟩, 15),
  (⟨(some 46), .mv (.t 45), none⟩, 31),
  (⟨(some 47), .mv (.t 0), (some (46, true))⟩, 63),
  (⟨(some 48), .mv (.t 7), (some (46, true))⟩, 63),
  (⟨(some 49), .idxS 1 (.t 47) (.t 48), (some (46, true))⟩, 255),
  (⟨(some 50), .ld false 1 (.t 49), (some (46, true))⟩, 511),
  (⟨(some 51), .mv (.t 0), (some (46, true))⟩, 63),
  (⟨(some 52), .mv (.t 7), (some (46, true))⟩, 63),
  (⟨(some 53), .bin .add (.t 52) (.c (.int .i64 (1))), (some (46, true))⟩, 2111),
  (⟨(some 54), .idxS 1 (.t 51) (.t 53), (some (46, true))⟩, 7231),
  (⟨(some 55), .ld false 1 (.t 54), (some (46, true))⟩, 15423),
  (⟨(some 56), .bin .neq (.t 50) (.t 55), (some (46, true))⟩, 32767),
  (⟨(some 57), .pick (.t 46) (.t 56) (.c (.bool false)), none⟩, 65535)])
 (.cond (.t 57)
   (.seq (.reg [⟨(some 58), .mv (.t 0), none⟩,
    ⟨(some 59), .app 1 1 (.c (.sl 0 true [])) (.t 58), none⟩,
    ⟨(some 9), .mv (.t 59), none⟩])
   (.seq (.dreg [(⟨(some 60), .mv (.t 9), none⟩, 0),
    (⟨(some 61), .mv (.t 7), none⟩, 0),
    (⟨(some 62), .mv (.t 9), none⟩, 0),
    (⟨(some 63), .mv (.t 7), none⟩, 0),
    (⟨(some 64), .bin .add (.t 63) (.c (.int .i64 (1))), none⟩, 8),
    (⟨(some 65), .mv (.t 9), none⟩, 0),
    (⟨(some 66), .mv (.t 7), none⟩, 0),
    (⟨(some 67), .bin .add (.t 66) (.c (.int .i64 (1))), none⟩, 64),
    (⟨(some 68), .idxS 1 (.t 65) (.t 67), none⟩, 224),
    (⟨(some 69), .ld false 1 (.t 68), none⟩, 480),
    (⟨(some 70), .mv (.t 9), none⟩, 0),
    (⟨(some 71), .mv (.t 7), none⟩, 0),
    (⟨(some 72), .idxS 1 (.t 70) (.t 71), none⟩, 3072),
    (⟨(some 73), .ld false 1 (.t 72), none⟩, 7168),
    (⟨(some 74), .idxS 1 (.t 60) (.t 61), none⟩, 16355),
    (⟨none, .sto 1 (.t 74) (.t 69), none⟩, 32739),
    (⟨(some 75), .idxS 1 (.t 62) (.t 64), none⟩, 65535),
    (⟨none, .sto 1 (.t 75) (.t 73), none⟩, 131071)])
   (.seq (.reg [⟨(some 76), .mv (.t 9), none⟩,
    ⟨(some 77), .call (.c (.fn (.func 18) [])) [(.t 76)], none⟩,
    ⟨(some 78), .mv (.t 0), none⟩,
    ⟨(some 79), .call (.c (.fn (.func 18) [])) [(.t 78)], none⟩,
    ⟨(some 80), .bin .eql (.t 77) (.t 79), none⟩])
   (.cond (.t 80)
     (.seq (.reg [⟨(some 6), .mv (.c (.bool false)), none⟩])
     .ret)
     .skip))))
   .skip))
 (.seq (.reg [⟨(some 81), .call (.c (.fn (.func 17) [])) [], none⟩,
  ⟨(some 6), .mv (.t 81), none⟩])
 .ret))))))))
theorem f_law4_CodecSumsDiffer : aFun Try.prog 4 = some (82, [.tmp 6], c_law4_CodecSumsDiffer) := by kernel_rfl
/-- law4.CodecAppends -/
def c_law4_CodecAppends : ACode := (.seq (.reg [⟨(some 9), .box 32 (.t 3), none⟩,
  ⟨(some 10), .box 4 (.t 4), none⟩,
  ⟨(some 12), .mv (.c (.bool false)), none⟩])
 (.seq (.seq (.reg [⟨(some 14), .mv (.t 0), none⟩,
  ⟨(some 15), .len false (.t 14), none⟩,
  ⟨(some 16), .bin .gtr (.t 15) (.c (.int .i64 (1000))), none⟩,
  ⟨(some 17), .mv (.t 16), none⟩,
  ⟨(some 18), .mv (.t 5), (some (17, false))⟩,
  ⟨(some 19), .len false (.t 18), (some (17, false))⟩,
  ⟨(some 20), .bin .gtr (.t 19) (.c (.int .i64 (1000))), (some (17, false))⟩,
  ⟨(some 21), .pick (.t 17) (.c (.bool true)) (.t 20), none⟩])
 (.cond (.t 21)
   (.seq (.reg [⟨(some 22), .call (.c (.fn (.func 17) [])) [], none⟩,
    ⟨(some 12), .mv (.t 22), none⟩])
   .ret)
   .skip))
 (.seq (.reg [⟨(some 23), .mv (.t 1), none⟩,
  ⟨(some 24), .ld true 32 (.t 9), none⟩,
  ⟨(some 25), .bld (cpC cp0) [(0, 1, (.t 23)), (1, 32, (.t 24))], none⟩,
  ⟨(some 13), .new (cpC cp0), none⟩,
  ⟨none, .sto 33 (.t 13) (.t 25), none⟩])
 (.seq (.dreg [(⟨(some 26), .mv (.t 0), none⟩, 0),
  (⟨(some 27), .mv (.t 1), none⟩, 0),
  (⟨(some 28), .call (.c (.fn (.func 20) [])) [(.t 26), (.t 27)], none⟩, 3),
  (⟨(some 29), .b2s (.t 28), none⟩, 7),
  (⟨(some 30), .mv (.t 0), none⟩, 0),
  (⟨(some 31), .app 1 1 (.c (.sl 0 true [])) (.t 30), none⟩, 23),
  (⟨(some 32), .mv (.t 1), none⟩, 0),
  (⟨(some 33), .call (.c (.fn (.func 21) [])) [(.t 31), (.t 32)], none⟩, 119),
  (⟨(some 34), .b2s (.t 33), none⟩, 247),
  (⟨(some 35), .eqv 1 false (.t 29) (.t 34), none⟩, 511),
  (⟨(some 36), .mv (.t 35), none⟩, 1023),
  (⟨(some 37), .mv (.t 0), (some (36, true))⟩, 2047),
  (⟨(some 38), .mv (.t 2), (some (36, true))⟩, 2047),
  (⟨(some 39), .call (.c (.fn (.func 22) [])) [(.t 37), (.t 38)], (some (36, true))⟩, 8191),
  (⟨(some 40), .b2s (.t 39), (some (36, true))⟩, 16383),
  (⟨(some 41), .mv (.t 0), (some (36, true))⟩, 2047),
  (⟨(some 42), .app 1 1 (.c (.sl 0 true [])) (.t 41), (some (36, true))⟩, 49151),
  (⟨(some 43), .mv (.t 2), (some (36, true))⟩, 2047),
  (⟨(some 44), .call (.c (.fn (.func 23) [])) [(.t 42), (.t 43)], (some (36, true))⟩, 245759),
  (⟨(some 45), .b2s (.t 44), (some (36, true))⟩, 507903),
  (⟨(some 46), .eqv 1 false (.t 40) (.t 45), (some (36, true))⟩, 1048575),
  (⟨(some 47), .pick (.t 36) (.t 46) (.c (.bool false)), none⟩, 2097151),
  (⟨(some 48), .mv (.t 47), none⟩, 4194303),
  (⟨(some 49), .mv (.t 0), (some (48, true))⟩, 8388607),
  (⟨(some 50), .ld true 32 (.t 9), (some (48, true))⟩, 8388607),
  (⟨(some 51), .call (.c (.fn (.func 24) [])) [(.t 49), (.t 50)], (some (48, true))⟩, 33554431),
  (⟨(some 52), .b2s (.t 51), (some (48, true))⟩, 67108863),
  (⟨(some 53), .mv (.t 0), (some (48, true))⟩, 8388607),
  (⟨(some 54), .app 1 1 (.c (.sl 0 true [])) (.t 53), (some (48, true))⟩, 201326591),
  (⟨(some 55), .ld true 32 (.t 9), (some (48, true))⟩, 8388607),
  (⟨(some 56), .call (.c (.fn (.func 25) [])) [(.t 54), (.t 55)], (some (48, true))⟩, 1006632959),
  (⟨(some 57), .b2s (.t 56), (some (48, true))⟩, 2080374783),
  (⟨(some 58), .eqv 1 false (.t 52) (.t 57), (some (48, true))⟩, 4294967295),
  (⟨(some 59), .pick (.t 48) (.t 58) (.c (.bool false)), none⟩, 8589934591),
  (⟨(some 60), .mv (.t 59), none⟩, 17179869183),
  (⟨(some 61), .mv (.t 0), (some (60, true))⟩, 34359738367),
  (⟨(some 62), .ld true 4 (.t 10), (some (60, true))⟩, 34359738367),
  (⟨(some 63), .call (.c (.fn (.func 26) [])) [(.t 61), (.t 62)], (some (60, true))⟩, 137438953471),
  (⟨(some 64), .b2s (.t 63), (some (60, true))⟩, 274877906943),
  (⟨(some 65), .mv (.t 0), (some (60, true))⟩, 34359738367),
  (⟨(some 66), .app 1 1 (.c (.sl 0 true [])) (.t 65), (some (60, true))⟩, 824633720831),
  (⟨(some 67), .ld true 4 (.t 10), (some (60, true))⟩, 34359738367),
  (⟨(some 68), .call (.c (.fn (.func 27) [])) [(.t 66), (.t 67)], (some (60, true))⟩, 4123168604159),
  (⟨(some 69), .b2s (.t 68), (some (60, true))⟩, 8521215115263),
  (⟨(some 70), .eqv 1 false (.t 64) (.t 69), (some (60, true))⟩, 17592186044415),
  (⟨(some 71), .pick (.t 60) (.t 70) (.c (.bool false)), none⟩, 35184372088831),
  (⟨(some 72), .mv (.t 71), none⟩, 70368744177663),
  (⟨(some 73), .mv (.t 0), (some (72, true))⟩, 140737488355327),
  (⟨(some 74), .ld true 33 (.t 13), (some (72, true))⟩, 140737488355327),
  (⟨(some 75), .call (.c (.fn (.func 28) [])) [(.t 73), (.t 74)], (some (72, true))⟩, 562949953421311),
  (⟨(some 76), .b2s (.t 75), (some (72, true))⟩, 1125899906842623),
  (⟨(some 77), .mv (.t 0), (some (72, true))⟩, 140737488355327),
  (⟨(some 78), .app 1 1 (.c (.sl 0 true [])) (.t 77), (some (72, true))⟩, 3377699720527871),
  (⟨(some 79), .ld true 33 (.t 13), (some (72, true))⟩, 140737488355327),
  (⟨(some 80), .call (.c (.fn (.func 29) [])) [(.t 78), (.t 79)], (some (72, true))⟩, 16888498602639359),
  (⟨(some 81), .b2s (.t 80), (some (72, true))⟩, 34902897112121343),
  (⟨(some 82), .eqv 1 false (.t 76) (.t 81), (some (72, true))⟩, 72057594037927935),
  (⟨(some 83), .pick (.t 72) (.t 82) (.c (.bool false)), none⟩, 144115188075855871),
  (⟨(some 84), .mv (.t 83), none⟩, 288230376151711743),
  (⟨(some 85), .mv (.t 0), (some (84, true))⟩, 576460752303423487),
  (⟨(some 86), .mv (.t 5), (some (84, true))⟩, 576460752303423487),
  (⟨(some 87), .call (.c (.fn (.func 30) [])) [(.t 85), (.t 86)], (some (84, true))⟩, 2305843009213693951),
  (⟨(some 88), .b2s (.t 87), (some (84, true))⟩, 4611686018427387903),
  (⟨(some 89), .mv (.t 0), (some (84, true))⟩, 576460752303423487),
  (⟨(some 90), .app 1 1 (.c (.sl 0 true [])) (.t 89), (some (84, true))⟩, 13835058055282163711),
  (⟨(some 91), .mv (.t 5), (some (84, true))⟩, 576460752303423487),
  (⟨(some 92), .call (.c (.fn (.func 31) [])) [(.t 90), (.t 91)], (some (84, true))⟩, 69175290276410818559),
  (⟨(some 93), .b2s (.t 92), (some (84, true))⟩, 142962266571249025023),
  (⟨(some 94), .eqv 1 false (.t 88) (.t 93), (some (84, true))⟩, 295147905179352825855),
  (⟨(some 95), .pick (.t 84) (.t 94) (.c (.bool false)), none⟩, 590295810358705651711),
  (⟨(some 96), .mv (.t 95), none⟩, 1180591620717411303423),
  (⟨(some 97), .call (.c (.fn (.func 17) [])) [], (some (96, true))⟩, 2361183241434822606847),
  (⟨(some 98), .pick (.t 96) (.t 97) (.c (.bool false)), none⟩, 4722366482869645213695),
  (⟨(some 12), .mv (.t 98), none⟩, 9444732965739290427391)])
 .ret))))
theorem f_law4_CodecAppends : aFun Try.prog 5 = some (99, [.tmp 12], c_law4_CodecAppends) := by kernel_rfl
/-- law4.CodecSticky -/
def c_law4_CodecSticky : ACode := (.seq (.reg [⟨(some 4), .mv (.c (.bool false)), none⟩])
 (.seq (.seq (.reg [⟨(some 8), .mv (.t 0), none⟩,
  ⟨(some 9), .len false (.t 8), none⟩,
  ⟨(some 10), .bin .gtr (.t 9) (.c (.int .i64 (1000))), none⟩])
 (.cond (.t 10)
   (.seq (.reg [⟨(some 11), .call (.c (.fn (.func 17) [])) [], none⟩,
    ⟨(some 4), .mv (.t 11), none⟩])
   .ret)
   .skip))
 (.seq (.reg [⟨(some 12), .mv (.t 0), none⟩,
  ⟨(some 13), .call (.c (.fn (.func 32) [])) [(.t 12)], none⟩,
  ⟨(some 5), .mv (.t 13), none⟩])
 (.seq (.seq (.reg [⟨(some 14), .mv (.t 5), none⟩,
  ⟨(some 15), .eqv 2 false (.t 14) (.c .nilp), none⟩])
 (.cond (.t 15)
   (.seq (.reg [⟨(some 4), .mv (.c (.bool false)), none⟩])
   .ret)
   .skip))
 (.seq (.reg [⟨(some 16), .mv (.t 5), none⟩,
  ⟨(some 17), .nilc (.t 16), none⟩,
  ⟨(some 18), .fldA 0 (.t 17), none⟩,
  ⟨(some 19), .ld false 1 (.t 18), none⟩,
  ⟨(some 20), .call (.c (.fn (.func 33) [])) [(.t 19), (.c (.int .i64 (-1)))], none⟩])
 (.seq (.dreg [(⟨(some 21), .mv (.t 5), none⟩, 0),
  (⟨(some 22), .nilc (.t 21), none⟩, 1),
  (⟨(some 23), .fldA 0 (.t 22), none⟩, 3),
  (⟨(some 24), .ld false 1 (.t 23), none⟩, 7),
  (⟨(some 25), .call (.c (.fn (.func 34) [])) [(.t 24)], none⟩, 15),
  (⟨(some 26), .mv (.t 5), none⟩, 0),
  (⟨(some 27), .nilc (.t 26), none⟩, 32),
  (⟨(some 28), .fldA 0 (.t 27), none⟩, 96),
  (⟨(some 29), .ld false 1 (.t 28), none⟩, 224),
  (⟨(some 30), .call (.c (.fn (.func 35) [])) [(.t 29)], none⟩, 511),
  (⟨(some 6), .mv (.t 25), none⟩, 1023),
  (⟨(some 7), .mv (.t 30), none⟩, 2047)])
 (.seq (.seq (.reg [⟨(some 31), .mv (.t 6), none⟩,
  ⟨(some 32), .bin .eql (.t 31) (.c (.int .i64 (0))), none⟩,
  ⟨(some 33), .mv (.t 32), none⟩,
  ⟨(some 34), .mv (.t 7), (some (33, false))⟩,
  ⟨(some 35), .mv (.t 0), (some (33, false))⟩,
  ⟨(some 36), .len false (.t 35), (some (33, false))⟩,
  ⟨(some 37), .bin .neq (.t 34) (.t 36), (some (33, false))⟩,
  ⟨(some 38), .pick (.t 33) (.c (.bool true)) (.t 37), none⟩])
 (.cond (.t 38)
   (.seq (.reg [⟨(some 4), .mv (.c (.bool false)), none⟩])
   .ret)
   .skip))
 (.seq (.reg [⟨(some 39), .mv (.t 5), none⟩,
  ⟨(some 40), .nilc (.t 39), none⟩,
  ⟨(some 41), .fldA 0 (.t 40), none⟩,
  ⟨(some 42), .ld false 1 (.t 41), none⟩,
  ⟨(some 43), .call (.c (.fn (.func 36) [])) [(.t 42), (.c (.int .u64 (18446744073709551615)))], none⟩,
  ⟨(some 44), .bin .eql (.t 43) (.c (.int .u64 (0))), none⟩,
  ⟨(some 45), .mv (.t 44), none⟩,
  ⟨(some 46), .mv (.t 5), (some (45, true))⟩,
  ⟨(some 47), .nilc (.t 46), (some (45, true))⟩,
  ⟨(some 48), .fldA 0 (.t 47), (some (45, true))⟩,
  ⟨(some 49), .ld false 1 (.t 48), (some (45, true))⟩,
  ⟨(some 50), .call (.c (.fn (.func 37) [])) [(.t 49)], (some (45, true))⟩,
  ⟨(some 51), .un .not (.t 50), (some (45, true))⟩,
  ⟨(some 52), .pick (.t 45) (.t 51) (.c (.bool false)), none⟩,
  ⟨(some 53), .mv (.t 52), none⟩,
  ⟨(some 54), .mv (.t 5), (some (53, true))⟩,
  ⟨(some 55), .nilc (.t 54), (some (53, true))⟩,
  ⟨(some 56), .fldA 0 (.t 55), (some (53, true))⟩,
  ⟨(some 57), .ld false 1 (.t 56), (some (53, true))⟩,
  ⟨(some 58), .call (.c (.fn (.func 38) [])) [(.t 57)], (some (53, true))⟩,
  ⟨(some 59), .bld (rtc rt0) [], (some (53, true))⟩,
  ⟨(some 60), .eqa [(32, 1)] false (.t 58) (.t 59), (some (53, true))⟩,
  ⟨(some 61), .pick (.t 53) (.t 60) (.c (.bool false)), none⟩,
  ⟨(some 62), .mv (.t 61), none⟩,
  ⟨(some 63), .mv (.t 5), (some (62, true))⟩,
  ⟨(some 64), .nilc (.t 63), (some (62, true))⟩,
  ⟨(some 65), .fldA 0 (.t 64), (some (62, true))⟩,
  ⟨(some 66), .ld false 1 (.t 65), (some (62, true))⟩,
  ⟨(some 67), .call (.c (.fn (.func 39) [])) [(.t 66)], (some (62, true))⟩,
  ⟨(some 68), .bld (wdc wd0) [], (some (62, true))⟩,
  ⟨(some 69), .eqa [(4, 1)] false (.t 67) (.t 68), (some (62, true))⟩,
  ⟨(some 70), .pick (.t 62) (.t 69) (.c (.bool false)), none⟩,
  ⟨(some 71), .mv (.t 70), none⟩,
  ⟨(some 72), .mv (.t 5), (some (71, true))⟩,
  ⟨(some 73), .nilc (.t 72), (some (71, true))⟩,
  ⟨(some 74), .fldA 0 (.t 73), (some (71, true))⟩,
  ⟨(some 75), .ld false 1 (.t 74), (some (71, true))⟩,
  ⟨(some 76), .call (.c (.fn (.func 33) [])) [(.t 75), (.c (.int .i64 (1000)))], (some (71, true))⟩,
  ⟨(some 77), .len false (.t 76), (some (71, true))⟩,
  ⟨(some 78), .bin .eql (.t 77) (.c (.int .i64 (0))), (some (71, true))⟩,
  ⟨(some 79), .pick (.t 71) (.t 78) (.c (.bool false)), none⟩,
  ⟨(some 80), .mv (.t 79), none⟩,
  ⟨(some 81), .mv (.t 5), (some (80, true))⟩,
  ⟨(some 82), .nilc (.t 81), (some (80, true))⟩,
  ⟨(some 83), .fldA 0 (.t 82), (some (80, true))⟩,
  ⟨(some 84), .ld false 1 (.t 83), (some (80, true))⟩,
  ⟨(some 85), .call (.c (.fn (.func 40) [])) [(.t 84)], (some (80, true))⟩,
  ⟨(some 86), .bld (cpC cp0) [], (some (80, true))⟩,
  ⟨(some 87), .eqa [(33, 1)] false (.t 85) (.t 86), (some (80, true))⟩,
  ⟨(some 88), .pick (.t 80) (.t 87) (.c (.bool false)), none⟩,
  ⟨(some 89), .mv (.t 88), none⟩,
  ⟨(some 90), .mv (.t 5), (some (89, true))⟩,
  ⟨(some 91), .nilc (.t 90), (some (89, true))⟩,
  ⟨(some 92), .fldA 0 (.t 91), (some (89, true))⟩,
  ⟨(some 93), .ld false 1 (.t 92), (some (89, true))⟩,
  ⟨(some 94), .call (.c (.fn (.func 34) [])) [(.t 93)], (some (89, true))⟩,
  ⟨(some 95), .mv (.t 6), (some (89, true))⟩,
  ⟨(some 96), .bin .eql (.t 94) (.t 95), (some (89, true))⟩,
  ⟨(some 97), .pick (.t 89) (.t 96) (.c (.bool false)), none⟩,
  ⟨(some 98), .mv (.t 97), none⟩,
  ⟨(some 99), .mv (.t 5), (some (98, true))⟩,
  ⟨(some 100), .nilc (.t 99), (some (98, true))⟩,
  ⟨(some 101), .fldA 0 (.t 100), (some (98, true))⟩,
  ⟨(some 102), .ld false 1 (.t 101), (some (98, true))⟩,
  ⟨(some 103), .call (.c (.fn (.func 35) [])) [(.t 102)], (some (98, true))⟩,
  ⟨(some 104), .mv (.t 7), (some (98, true))⟩,
  ⟨(some 105), .bin .eql (.t 103) (.t 104), (some (98, true))⟩,
  ⟨(some 106), .pick (.t 98) (.t 105) (.c (.bool false)), none⟩,
  ⟨(some 107), .mv (.t 106), none⟩,
  ⟨(some 108), .mv (.t 5), (some (107, true))⟩,
  ⟨(some 109), .nilc (.t 108), (some (107, true))⟩,
  ⟨(some 110), .fldA 0 (.t 109), (some (107, true))⟩,
  ⟨(some 111), .ld false 1 (.t 110), (some (107, true))⟩,
  ⟨(some 112), .call (.c (.fn (.func 41) [])) [(.t 111)], (some (107, true))⟩,
  ⟨(some 113), .mv (.t 6), (some (107, true))⟩,
  ⟨(some 114), .bin .eql (.t 112) (.t 113), (some (107, true))⟩,
  ⟨(some 115), .pick (.t 107) (.t 114) (.c (.bool false)), none⟩,
  ⟨(some 116), .mv (.t 115), none⟩,
  ⟨(some 117), .call (.c (.fn (.func 17) [])) [], (some (116, true))⟩,
  ⟨(some 118), .pick (.t 116) (.t 117) (.c (.bool false)), none⟩,
  ⟨(some 4), .mv (.t 118), none⟩])
 .ret))))))))
theorem f_law4_CodecSticky : aFun Try.prog 6 = some (119, [.tmp 4], c_law4_CodecSticky) := by kernel_rfl
/-- law4.CodecBack -/
def c_law4_CodecBack : ACode := (.seq (.reg [⟨(some 8), .box 32 (.t 2), none⟩,
  ⟨(some 9), .box 4 (.t 3), none⟩,
  ⟨(some 12), .mv (.c (.bool false)), none⟩])
 (.seq (.seq (.reg [⟨(some 22), .mv (.t 4), none⟩,
  ⟨(some 23), .len false (.t 22), none⟩,
  ⟨(some 24), .bin .gtr (.t 23) (.c (.int .i64 (100))), none⟩,
  ⟨(some 25), .mv (.t 24), none⟩,
  ⟨(some 26), .mv (.t 5), (some (25, false))⟩,
  ⟨(some 27), .len false (.t 26), (some (25, false))⟩,
  ⟨(some 28), .bin .gtr (.t 27) (.c (.int .i64 (100))), (some (25, false))⟩,
  ⟨(some 29), .pick (.t 25) (.c (.bool true)) (.t 28), none⟩])
 (.cond (.t 29)
   (.seq (.reg [⟨(some 30), .call (.c (.fn (.func 17) [])) [], none⟩,
    ⟨(some 12), .mv (.t 30), none⟩])
   .ret)
   .skip))
 (.seq (.dreg [(⟨(some 31), .mv (.t 0), none⟩, 0),
  (⟨(some 32), .call (.c (.fn (.func 20) [])) [(.c (.sl 0 true [])), (.t 31)], none⟩, 1),
  (⟨(some 33), .mv (.t 1), none⟩, 0),
  (⟨(some 34), .call (.c (.fn (.func 22) [])) [(.t 32), (.t 33)], none⟩, 7),
  (⟨(some 35), .ld true 32 (.t 8), none⟩, 0),
  (⟨(some 36), .call (.c (.fn (.func 24) [])) [(.t 34), (.t 35)], none⟩, 31),
  (⟨(some 37), .ld true 4 (.t 9), none⟩, 0),
  (⟨(some 38), .call (.c (.fn (.func 26) [])) [(.t 36), (.t 37)], none⟩, 127),
  (⟨(some 39), .mv (.t 4), none⟩, 0),
  (⟨(some 40), .call (.c (.fn (.func 30) [])) [(.t 38), (.t 39)], none⟩, 511),
  (⟨(some 13), .mv (.t 40), none⟩, 1023)])
 (.seq (.seq (.reg [⟨(some 14), .mv (.c (.int .i64 (0))), none⟩])
 (.block 0 (.loop (.seq (.seq (.reg [⟨(some 41), .mv (.t 14), none⟩,
  ⟨(some 42), .mv (.t 13), none⟩,
  ⟨(some 43), .len false (.t 42), none⟩,
  ⟨(some 44), .bin .leq (.t 41) (.t 43), none⟩])
 (.cond (.t 44)
   .skip
   (.exit 0)))
 (.seq (.block 1 (.seq (.reg [⟨(some 47), .mv (.t 13), none⟩,
  ⟨(some 48), .mv (.t 14), none⟩,
  ⟨(some 49), .sli 1 (.t 47) none (some (.t 48)) none, none⟩,
  ⟨(some 50), .app 1 1 (.c (.sl 0 true [])) (.t 49), none⟩,
  ⟨(some 15), .mv (.t 50), none⟩])
 (.seq (.seq (.reg [⟨(some 51), .mv (.t 14), none⟩,
  ⟨(some 52), .mv (.t 13), none⟩,
  ⟨(some 53), .len false (.t 52), none⟩,
  ⟨(some 54), .bin .eql (.t 51) (.t 53), none⟩])
 (.cond (.t 54)
   (.reg [⟨(some 55), .mv (.t 15), none⟩,
    ⟨(some 56), .mv (.t 5), none⟩,
    ⟨(some 57), .app 1 1 (.t 55) (.t 56), none⟩,
    ⟨(some 15), .mv (.t 57), none⟩])
   .skip))
 (.seq (.reg [⟨(some 58), .mv (.t 15), none⟩,
  ⟨(some 59), .call (.c (.fn (.func 32) [])) [(.t 58)], none⟩,
  ⟨(some 16), .mv (.t 59), none⟩])
 (.seq (.seq (.reg [⟨(some 60), .mv (.t 16), none⟩,
  ⟨(some 61), .eqv 2 false (.t 60) (.c .nilp), none⟩])
 (.cond (.t 61)
   (.seq (.reg [⟨(some 12), .mv (.c (.bool false)), none⟩])
   .ret)
   .skip))
 (.seq (.dreg [(⟨(some 62), .mv (.t 16), none⟩, 0),
  (⟨(some 63), .nilc (.t 62), none⟩, 1),
  (⟨(some 64), .fldA 0 (.t 63), none⟩, 3),
  (⟨(some 65), .ld false 1 (.t 64), none⟩, 7),
  (⟨(some 66), .call (.c (.fn (.func 36) [])) [(.t 65), (.c (.int .u64 (18446744073709551615)))], none⟩, 15),
  (⟨(some 67), .mv (.t 16), none⟩, 0),
  (⟨(some 68), .nilc (.t 67), none⟩, 32),
  (⟨(some 69), .fldA 0 (.t 68), none⟩, 96),
  (⟨(some 70), .ld false 1 (.t 69), none⟩, 224),
  (⟨(some 71), .call (.c (.fn (.func 37) [])) [(.t 70)], none⟩, 511),
  (⟨(some 72), .mv (.t 16), none⟩, 0),
  (⟨(some 73), .nilc (.t 72), none⟩, 1024),
  (⟨(some 74), .fldA 0 (.t 73), none⟩, 3072),
  (⟨(some 75), .ld false 1 (.t 74), none⟩, 7168),
  (⟨(some 76), .call (.c (.fn (.func 38) [])) [(.t 75)], none⟩, 16383),
  (⟨(some 77), .mv (.t 16), none⟩, 0),
  (⟨(some 78), .nilc (.t 77), none⟩, 32768),
  (⟨(some 79), .fldA 0 (.t 78), none⟩, 98304),
  (⟨(some 80), .ld false 1 (.t 79), none⟩, 229376),
  (⟨(some 81), .call (.c (.fn (.func 39) [])) [(.t 80)], none⟩, 524287),
  (⟨(some 82), .mv (.t 16), none⟩, 0),
  (⟨(some 83), .nilc (.t 82), none⟩, 1048576),
  (⟨(some 84), .fldA 0 (.t 83), none⟩, 3145728),
  (⟨(some 85), .ld false 1 (.t 84), none⟩, 7340032),
  (⟨(some 86), .call (.c (.fn (.func 33) [])) [(.t 85), (.c (.int .i64 (100)))], none⟩, 16777215),
  (⟨(some 19), .new (rtc rt0), none⟩, 0),
  (⟨(some 20), .new (wdc wd0), none⟩, 0),
  (⟨(some 17), .mv (.t 66), none⟩, 134217727),
  (⟨(some 18), .mv (.t 71), none⟩, 268435455),
  (⟨none, .sto 32 (.t 19) (.t 76), none⟩, 536870911),
  (⟨none, .sto 4 (.t 20) (.t 81), none⟩, 1073741823),
  (⟨(some 21), .mv (.t 86), none⟩, 2147483647)])
 (.seq (.seq (.reg [⟨(some 87), .mv (.t 14), none⟩,
  ⟨(some 88), .mv (.t 13), none⟩,
  ⟨(some 89), .len false (.t 88), none⟩,
  ⟨(some 90), .bin .lss (.t 87) (.t 89), none⟩])
 (.cond (.t 90)
   (.seq (.seq (.reg [⟨(some 91), .mv (.t 16), none⟩,
    ⟨(some 92), .nilc (.t 91), none⟩,
    ⟨(some 93), .fldA 0 (.t 92), none⟩,
    ⟨(some 94), .ld false 1 (.t 93), none⟩,
    ⟨(some 95), .call (.c (.fn (.func 34) [])) [(.t 94)], none⟩,
    ⟨(some 96), .bin .neq (.t 95) (.c (.int .i64 (5))), none⟩])
   (.cond (.t 96)
     (.seq (.reg [⟨(some 12), .mv (.c (.bool false)), none⟩])
     .ret)
     .skip))
   (.exit 1))
   .skip))
 (.seq (.reg [⟨(some 97), .mv (.t 17), none⟩,
  ⟨(some 98), .mv (.t 0), none⟩,
  ⟨(some 99), .bin .neq (.t 97) (.t 98), none⟩,
  ⟨(some 100), .mv (.t 99), none⟩,
  ⟨(some 101), .mv (.t 18), (some (100, false))⟩,
  ⟨(some 102), .mv (.t 1), (some (100, false))⟩,
  ⟨(some 103), .eqv 0 true (.t 101) (.t 102), (some (100, false))⟩,
  ⟨(some 104), .pick (.t 100) (.c (.bool true)) (.t 103), none⟩,
  ⟨(some 105), .mv (.t 104), none⟩,
  ⟨(some 106), .ld true 32 (.t 19), (some (105, false))⟩,
  ⟨(some 107), .ld true 32 (.t 8), (some (105, false))⟩,
  ⟨(some 108), .eqa [(32, 1)] true (.t 106) (.t 107), (some (105, false))⟩,
  ⟨(some 109), .pick (.t 105) (.c (.bool true)) (.t 108), none⟩,
  ⟨(some 110), .mv (.t 109), none⟩,
  ⟨(some 111), .ld true 4 (.t 20), (some (110, false))⟩,
  ⟨(some 112), .ld true 4 (.t 9), (some (110, false))⟩,
  ⟨(some 113), .eqa [(4, 1)] true (.t 111) (.t 112), (some (110, false))⟩,
  ⟨(some 114), .pick (.t 110) (.c (.bool true)) (.t 113), none⟩,
  ⟨(some 115), .mv (.t 114), none⟩,
  ⟨(some 116), .mv (.t 21), (some (115, false))⟩,
  ⟨(some 117), .b2s (.t 116), (some (115, false))⟩,
  ⟨(some 118), .mv (.t 4), (some (115, false))⟩,
  ⟨(some 119), .b2s (.t 118), (some (115, false))⟩,
  ⟨(some 120), .eqv 1 true (.t 117) (.t 119), (some (115, false))⟩,
  ⟨(some 121), .pick (.t 115) (.c (.bool true)) (.t 120), none⟩,
  ⟨(some 122), .mv (.t 121), none⟩,
  ⟨(some 123), .mv (.t 16), (some (122, false))⟩,
  ⟨(some 124), .nilc (.t 123), (some (122, false))⟩,
  ⟨(some 125), .fldA 0 (.t 124), (some (122, false))⟩,
  ⟨(some 126), .ld false 1 (.t 125), (some (122, false))⟩,
  ⟨(some 127), .call (.c (.fn (.func 34) [])) [(.t 126)], (some (122, false))⟩,
  ⟨(some 128), .bin .neq (.t 127) (.c (.int .i64 (0))), (some (122, false))⟩,
  ⟨(some 129), .pick (.t 122) (.c (.bool true)) (.t 128), none⟩,
  ⟨(some 130), .mv (.t 129), none⟩,
  ⟨(some 131), .mv (.t 16), (some (130, false))⟩,
  ⟨(some 132), .nilc (.t 131), (some (130, false))⟩,
  ⟨(some 133), .fldA 0 (.t 132), (some (130, false))⟩,
  ⟨(some 134), .ld false 1 (.t 133), (some (130, false))⟩,
  ⟨(some 135), .call (.c (.fn (.func 35) [])) [(.t 134)], (some (130, false))⟩,
  ⟨(some 136), .mv (.t 5), (some (130, false))⟩,
  ⟨(some 137), .len false (.t 136), (some (130, false))⟩,
  ⟨(some 138), .bin .neq (.t 135) (.t 137), (some (130, false))⟩,
  ⟨(some 139), .pick (.t 130) (.c (.bool true)) (.t 138), none⟩])
 (.cond (.t 139)
   (.seq (.reg [⟨(some 12), .mv (.c (.bool false)), none⟩])
   .ret)
   .skip)))))))))
 (.reg [⟨(some 45), .mv (.t 14), none⟩,
  ⟨(some 46), .bin .add (.t 45) (.c (.int .i64 (1))), none⟩,
  ⟨(some 14), .mv (.t 46), none⟩]))))))
 (.seq (.reg [⟨(some 140), .call (.c (.fn (.func 17) [])) [], none⟩,
  ⟨(some 12), .mv (.t 140), none⟩])
 .ret)))))
theorem f_law4_CodecBack : aFun Try.prog 7 = some (141, [.tmp 12], c_law4_CodecBack) := by kernel_rfl
/-- law4.awake -/
def c_law4_awake : ACode := (.seq (.reg [⟨(some 0), .mv (.c (.bool false)), none⟩])
 (.seq (.reg [⟨(some 3), .call (.c (.fn (.func 20) [])) [(.c (.sl 0 true [])), (.c (.int .u64 (300)))], none⟩,
  ⟨(some 1), .mv (.t 3), none⟩])
 (.seq (.reg [⟨(some 4), .mv (.t 1), none⟩,
  ⟨(some 5), .call (.c (.fn (.func 32) [])) [(.t 4)], none⟩,
  ⟨(some 2), .mv (.t 5), none⟩])
 (.seq (.seq (.reg [⟨(some 6), .mv (.t 2), none⟩,
  ⟨(some 7), .eqv 2 false (.t 6) (.c .nilp), none⟩,
  ⟨(some 8), .mv (.t 7), none⟩,
  ⟨(some 9), .mv (.t 1), (some (8, false))⟩,
  ⟨(some 10), .b2s (.t 9), (some (8, false))⟩,
  ⟨(some 11), .bldS 1 2 [(.int .u8 (0))] [(0, (.c (.int .u8 (172)))), (1, (.c (.int .u8 (2))))], (some (8, false))⟩,
  ⟨(some 12), .b2s (.t 11), (some (8, false))⟩,
  ⟨(some 13), .eqv 1 true (.t 10) (.t 12), (some (8, false))⟩,
  ⟨(some 14), .pick (.t 8) (.c (.bool true)) (.t 13), none⟩])
 (.cond (.t 14)
   (.seq (.reg [⟨(some 0), .mv (.c (.bool false)), none⟩])
   .ret)
   .skip))
 (.seq (.reg [⟨(some 15), .mv (.t 2), none⟩,
  ⟨(some 16), .nilc (.t 15), none⟩,
  ⟨(some 17), .fldA 0 (.t 16), none⟩,
  ⟨(some 18), .ld false 1 (.t 17), none⟩,
  ⟨(some 19), .call (.c (.fn (.func 36) [])) [(.t 18), (.c (.int .u64 (1000)))], none⟩,
  ⟨(some 20), .bin .eql (.t 19) (.c (.int .u64 (300))), none⟩,
  ⟨(some 21), .mv (.t 20), none⟩,
  ⟨(some 22), .mv (.t 2), (some (21, true))⟩,
  ⟨(some 23), .nilc (.t 22), (some (21, true))⟩,
  ⟨(some 24), .fldA 0 (.t 23), (some (21, true))⟩,
  ⟨(some 25), .ld false 1 (.t 24), (some (21, true))⟩,
  ⟨(some 26), .call (.c (.fn (.func 41) [])) [(.t 25)], (some (21, true))⟩,
  ⟨(some 27), .bin .eql (.t 26) (.c (.int .i64 (0))), (some (21, true))⟩,
  ⟨(some 28), .pick (.t 21) (.t 27) (.c (.bool false)), none⟩,
  ⟨(some 29), .mv (.t 28), none⟩,
  ⟨(some 30), .call (.c (.fn (.func 18) [])) [(.c (.sl 0 true []))], (some (29, true))⟩,
  ⟨(some 31), .bin .eql (.t 30) (.c (.int .u64 (1))), (some (29, true))⟩,
  ⟨(some 32), .pick (.t 29) (.t 31) (.c (.bool false)), none⟩,
  ⟨(some 0), .mv (.t 32), none⟩])
 .ret)))))
theorem f_law4_awake : aFun Try.prog 17 = some (33, [.tmp 0], c_law4_awake) := by kernel_rfl
/-- codec.Checksum -/
def c_codec_Checksum : ACode := (.seq (.reg [⟨(some 2), .mv (.c (.int .u64 (0))), none⟩])
 (.seq (.reg [⟨(some 3), .mv (.c (.int .u64 (1))), none⟩,
  ⟨(some 4), .mv (.c (.int .u64 (0))), none⟩])
 (.seq (.seq (.reg [⟨(some 7), .mv (.t 0), none⟩,
  ⟨(some 8), .len false (.t 7), none⟩,
  ⟨(some 9), .mv (.c (.int .i64 (0))), none⟩])
 (.block 0 (.loop (.seq (.reg [⟨(some 10), .bin .lss (.t 9) (.t 8), none⟩])
 (.seq (.cond (.t 10)
   .skip
   (.exit 0))
 (.seq (.block 1 (.seq (.reg [⟨(some 11), .idxS 1 (.t 7) (.t 9), none⟩,
  ⟨(some 12), .ld false 1 (.t 11), none⟩,
  ⟨(some 6), .mv (.t 12), none⟩])
 (.seq (.reg [⟨(some 13), .mv (.t 3), none⟩,
  ⟨(some 14), .mv (.t 6), none⟩,
  ⟨(some 15), .cvt .u64 (.t 14), none⟩,
  ⟨(some 16), .bin .add (.t 13) (.t 15), none⟩,
  ⟨(some 17), .bin .add (.t 16) (.c (.int .u64 (1))), none⟩,
  ⟨(some 18), .bin .rem (.t 17) (.c (.int .u64 (4294967295))), none⟩,
  ⟨(some 3), .mv (.t 18), none⟩])
 (.reg [⟨(some 19), .mv (.t 4), none⟩,
  ⟨(some 20), .mv (.t 3), none⟩,
  ⟨(some 21), .bin .add (.t 19) (.t 20), none⟩,
  ⟨(some 22), .bin .rem (.t 21) (.c (.int .u64 (4294967295))), none⟩,
  ⟨(some 4), .mv (.t 22), none⟩]))))
 (.reg [⟨(some 23), .bin .add (.t 9) (.c (.int .i64 (1))), none⟩,
  ⟨(some 9), .mv (.t 23), none⟩])))))))
 (.seq (.reg [⟨(some 24), .mv (.t 4), none⟩,
  ⟨(some 25), .bin .shl (.t 24) (.c (.int .u64 (32))), none⟩,
  ⟨(some 26), .mv (.t 3), none⟩,
  ⟨(some 27), .bin .add (.t 25) (.t 26), none⟩,
  ⟨(some 2), .mv (.t 27), none⟩])
 .ret))))
theorem f_codec_Checksum : aFun Try.prog 18 = some (28, [.tmp 2], c_codec_Checksum) := by kernel_rfl
/-- ref4.Checksum -/
def c_ref4_Checksum : ACode := (.seq (.reg [⟨(some 2), .mv (.c (.int .u64 (0))), none⟩])
 (.seq (.reg [⟨(some 3), .mv (.c (.int .u64 (1))), none⟩,
  ⟨(some 4), .mv (.c (.int .u64 (0))), none⟩])
 (.seq (.seq (.reg [⟨(some 5), .mv (.c (.int .i64 (0))), none⟩])
 (.block 0 (.loop (.seq (.seq (.reg [⟨(some 6), .mv (.t 5), none⟩,
  ⟨(some 7), .mv (.t 0), none⟩,
  ⟨(some 8), .len false (.t 7), none⟩,
  ⟨(some 9), .bin .lss (.t 6) (.t 8), none⟩])
 (.cond (.t 9)
   .skip
   (.exit 0)))
 (.seq (.block 1 (.seq (.reg [⟨(some 12), .mv (.t 3), none⟩,
  ⟨(some 13), .mv (.t 0), none⟩,
  ⟨(some 14), .mv (.t 5), none⟩,
  ⟨(some 15), .idxS 1 (.t 13) (.t 14), none⟩,
  ⟨(some 16), .ld false 1 (.t 15), none⟩,
  ⟨(some 17), .cvt .u64 (.t 16), none⟩,
  ⟨(some 18), .bin .add (.t 12) (.t 17), none⟩,
  ⟨(some 19), .bin .add (.t 18) (.c (.int .u64 (1))), none⟩,
  ⟨(some 20), .bin .rem (.t 19) (.c (.int .u64 (4294967295))), none⟩,
  ⟨(some 3), .mv (.t 20), none⟩])
 (.reg [⟨(some 21), .mv (.t 4), none⟩,
  ⟨(some 22), .mv (.t 3), none⟩,
  ⟨(some 23), .bin .add (.t 21) (.t 22), none⟩,
  ⟨(some 24), .bin .rem (.t 23) (.c (.int .u64 (4294967295))), none⟩,
  ⟨(some 4), .mv (.t 24), none⟩])))
 (.reg [⟨(some 10), .mv (.t 5), none⟩,
  ⟨(some 11), .bin .add (.t 10) (.c (.int .i64 (1))), none⟩,
  ⟨(some 5), .mv (.t 11), none⟩]))))))
 (.seq (.reg [⟨(some 25), .mv (.t 4), none⟩,
  ⟨(some 26), .bin .shl (.t 25) (.c (.int .u64 (32))), none⟩,
  ⟨(some 27), .mv (.t 3), none⟩,
  ⟨(some 28), .bin .add (.t 26) (.t 27), none⟩,
  ⟨(some 2), .mv (.t 28), none⟩])
 .ret))))
theorem f_ref4_Checksum : aFun Try.prog 19 = some (29, [.tmp 2], c_ref4_Checksum) := by kernel_rfl
/-- codec.AppendUint -/
def c_codec_AppendUint : ACode := (.seq (.reg [⟨(some 4), .mv (.c (.sl 0 true [])), none⟩])
 (.seq (.reg [⟨(some 5), .mv (.t 0), none⟩,
  ⟨(some 6), .call (.c (.fn (.func 81) [])) [(.t 5)], none⟩,
  ⟨(some 7), .mv (.t 1), none⟩,
  ⟨(some 8), .call (.c (.fn (.func 80) [])) [(.t 6), (.t 7)], none⟩,
  ⟨(some 4), .mv (.t 8), none⟩])
 .ret))
theorem f_codec_AppendUint : aFun Try.prog 20 = some (9, [.tmp 4], c_codec_AppendUint) := by kernel_rfl
/-- ref4.Uint -/
def c_ref4_Uint : ACode := (.seq (.reg [⟨(some 4), .mv (.c (.sl 0 true [])), none⟩])
 (.seq (.block 0 (.loop (.seq (.seq (.reg [⟨(some 5), .mv (.t 1), none⟩,
  ⟨(some 6), .bin .gtr (.t 5) (.c (.int .u64 (127))), none⟩])
 (.cond (.t 6)
   .skip
   (.exit 0)))
 (.block 1 (.seq (.reg [⟨(some 7), .mv (.t 0), none⟩,
  ⟨(some 8), .mv (.t 1), none⟩,
  ⟨(some 9), .bin .and (.t 8) (.c (.int .u64 (127))), none⟩,
  ⟨(some 10), .cvt .u8 (.t 9), none⟩,
  ⟨(some 11), .bin .or (.t 10) (.c (.int .u8 (128))), none⟩,
  ⟨(some 12), .bldS 1 1 [(.int .u8 (0))] [(0, (.t 11))], none⟩,
  ⟨(some 13), .app 1 1 (.t 7) (.t 12), none⟩,
  ⟨(some 0), .mv (.t 13), none⟩])
 (.reg [⟨(some 14), .mv (.t 1), none⟩,
  ⟨(some 15), .bin .shr (.t 14) (.c (.int .u64 (7))), none⟩,
  ⟨(some 1), .mv (.t 15), none⟩]))))))
 (.seq (.reg [⟨(some 16), .mv (.t 0), none⟩,
  ⟨(some 17), .mv (.t 1), none⟩,
  ⟨(some 18), .cvt .u8 (.t 17), none⟩,
  ⟨(some 19), .bldS 1 1 [(.int .u8 (0))] [(0, (.t 18))], none⟩,
  ⟨(some 20), .app 1 1 (.t 16) (.t 19), none⟩,
  ⟨(some 4), .mv (.t 20), none⟩])
 .ret)))
theorem f_ref4_Uint : aFun Try.prog 21 = some (21, [.tmp 4], c_ref4_Uint) := by kernel_rfl
/-- codec.AppendBool -/
def c_codec_AppendBool : ACode := (.seq (.reg [⟨(some 4), .mv (.c (.sl 0 true [])), none⟩])
 (.seq (.reg [⟨(some 5), .mv (.t 0), none⟩,
  ⟨(some 6), .call (.c (.fn (.func 81) [])) [(.t 5)], none⟩,
  ⟨(some 7), .mv (.t 1), none⟩,
  ⟨(some 8), .call (.c (.fn (.func 82) [])) [(.t 6), (.t 7)], none⟩,
  ⟨(some 4), .mv (.t 8), none⟩])
 .ret))
theorem f_codec_AppendBool : aFun Try.prog 22 = some (9, [.tmp 4], c_codec_AppendBool) := by kernel_rfl
/-- ref4.Bool -/
def c_ref4_Bool : ACode := (.seq (.reg [⟨(some 4), .mv (.c (.sl 0 true [])), none⟩])
 (.seq (.seq (.reg [⟨(some 5), .mv (.t 1), none⟩])
 (.cond (.t 5)
   (.seq (.reg [⟨(some 6), .mv (.t 0), none⟩,
    ⟨(some 7), .bldS 1 1 [(.int .u8 (0))] [(0, (.c (.int .u8 (1))))], none⟩,
    ⟨(some 8), .app 1 1 (.t 6) (.t 7), none⟩,
    ⟨(some 4), .mv (.t 8), none⟩])
   .ret)
   .skip))
 (.seq (.reg [⟨(some 9), .mv (.t 0), none⟩,
  ⟨(some 10), .bldS 1 1 [(.int .u8 (0))] [(0, (.c (.int .u8 (0))))], none⟩,
  ⟨(some 11), .app 1 1 (.t 9) (.t 10), none⟩,
  ⟨(some 4), .mv (.t 11), none⟩])
 .ret)))
theorem f_ref4_Bool : aFun Try.prog 23 = some (12, [.tmp 4], c_ref4_Bool) := by kernel_rfl
/-- codec.AppendRoot -/
def c_codec_AppendRoot : ACode := (.seq (.reg [⟨(some 3), .box 32 (.t 1), none⟩,
  ⟨(some 4), .mv (.c (.sl 0 true [])), none⟩])
 (.seq (.dreg [(⟨(some 5), .mv (.t 0), none⟩, 0),
  (⟨(some 6), .call (.c (.fn (.func 81) [])) [(.t 5)], none⟩, 1),
  (⟨(some 7), .ld true 32 (.t 3), none⟩, 0),
  (⟨(some 8), .call (.c (.fn (.func 83) [])) [(.t 6), (.t 7)], none⟩, 7),
  (⟨(some 4), .mv (.t 8), none⟩, 15)])
 .ret))
theorem f_codec_AppendRoot : aFun Try.prog 24 = some (9, [.tmp 4], c_codec_AppendRoot) := by kernel_rfl
/-- ref4.Root -/
def c_ref4_Root : ACode := (.seq (.reg [⟨(some 3), .box 32 (.t 1), none⟩,
  ⟨(some 4), .mv (.c (.sl 0 true [])), none⟩])
 (.seq (.reg [⟨(some 5), .mv (.t 0), none⟩,
  ⟨(some 6), .sliA 1 32 (.t 3) none none, none⟩,
  ⟨(some 7), .app 1 1 (.t 5) (.t 6), none⟩,
  ⟨(some 4), .mv (.t 7), none⟩])
 .ret))
theorem f_ref4_Root : aFun Try.prog 25 = some (8, [.tmp 4], c_ref4_Root) := by kernel_rfl
/-- codec.AppendWide -/
def c_codec_AppendWide : ACode := (.seq (.reg [⟨(some 3), .box 4 (.t 1), none⟩,
  ⟨(some 4), .mv (.c (.sl 0 true [])), none⟩])
 (.seq (.dreg [(⟨(some 5), .mv (.t 0), none⟩, 0),
  (⟨(some 6), .call (.c (.fn (.func 81) [])) [(.t 5)], none⟩, 1),
  (⟨(some 7), .ld true 4 (.t 3), none⟩, 0),
  (⟨(some 8), .call (.c (.fn (.func 84) [])) [(.t 6), (.t 7)], none⟩, 7),
  (⟨(some 4), .mv (.t 8), none⟩, 15)])
 .ret))
theorem f_codec_AppendWide : aFun Try.prog 26 = some (9, [.tmp 4], c_codec_AppendWide) := by kernel_rfl
/-- ref4.Wide -/
def c_ref4_Wide : ACode := (.seq (.reg [⟨(some 3), .box 4 (.t 1), none⟩,
  ⟨(some 4), .mv (.c (.sl 0 true [])), none⟩])
 (.seq (.reg [⟨(some 6), .ld true 4 (.t 3), none⟩,
  ⟨(some 7), .call (.c (.fn (.func 85) [])) [(.t 6)], none⟩,
  ⟨(some 5), .new (rtc rt0), none⟩,
  ⟨none, .sto 32 (.t 5) (.t 7), none⟩])
 (.seq (.reg [⟨(some 8), .mv (.t 0), none⟩,
  ⟨(some 9), .sliA 1 32 (.t 5) none none, none⟩,
  ⟨(some 10), .app 1 1 (.t 8) (.t 9), none⟩,
  ⟨(some 4), .mv (.t 10), none⟩])
 .ret)))
theorem f_ref4_Wide : aFun Try.prog 27 = some (11, [.tmp 4], c_ref4_Wide) := by kernel_rfl
/-- codec.AppendCheckpoint -/
def c_codec_AppendCheckpoint : ACode := (.seq (.reg [⟨(some 3), .box 33 (.t 1), none⟩,
  ⟨(some 4), .mv (.c (.sl 0 true [])), none⟩])
 (.seq (.dreg [(⟨(some 5), .mv (.t 0), none⟩, 0),
  (⟨(some 6), .call (.c (.fn (.func 81) [])) [(.t 5)], none⟩, 1),
  (⟨(some 7), .ld true 33 (.t 3), none⟩, 0),
  (⟨(some 8), .call (.c (.fn (.func 86) [])) [(.t 6), (.t 7)], none⟩, 7),
  (⟨(some 4), .mv (.t 8), none⟩, 15)])
 .ret))
theorem f_codec_AppendCheckpoint : aFun Try.prog 28 = some (9, [.tmp 4], c_codec_AppendCheckpoint) := by kernel_rfl
/-- ref4.Checkpoint -/
def c_ref4_Checkpoint : ACode := (.seq (.reg [⟨(some 3), .box 33 (.t 1), none⟩,
  ⟨(some 4), .mv (.c (.sl 0 true [])), none⟩])
 (.seq (.dreg [(⟨(some 5), .mv (.t 0), none⟩, 0),
  (⟨(some 6), .fldA 0 (.t 3), none⟩, 0),
  (⟨(some 7), .ld false 1 (.t 6), none⟩, 2),
  (⟨(some 8), .call (.c (.fn (.func 21) [])) [(.t 5), (.t 7)], none⟩, 7),
  (⟨(some 9), .fldA 1 (.t 3), none⟩, 0),
  (⟨(some 10), .ld true 32 (.t 9), none⟩, 16),
  (⟨(some 11), .call (.c (.fn (.func 25) [])) [(.t 8), (.t 10)], none⟩, 63),
  (⟨(some 4), .mv (.t 11), none⟩, 127)])
 .ret))
theorem f_ref4_Checkpoint : aFun Try.prog 29 = some (12, [.tmp 4], c_ref4_Checkpoint) := by kernel_rfl
/-- codec.AppendBytes -/
def c_codec_AppendBytes : ACode := (.seq (.reg [⟨(some 4), .mv (.c (.sl 0 true [])), none⟩])
 (.seq (.reg [⟨(some 5), .mv (.t 0), none⟩,
  ⟨(some 6), .call (.c (.fn (.func 81) [])) [(.t 5)], none⟩,
  ⟨(some 7), .mv (.t 1), none⟩,
  ⟨(some 8), .call (.c (.fn (.func 87) [])) [(.t 6), (.t 7)], none⟩,
  ⟨(some 4), .mv (.t 8), none⟩])
 .ret))
theorem f_codec_AppendBytes : aFun Try.prog 30 = some (9, [.tmp 4], c_codec_AppendBytes) := by kernel_rfl
/-- ref4.Bytes -/
def c_ref4_Bytes : ACode := (.seq (.reg [⟨(some 4), .mv (.c (.sl 0 true [])), none⟩])
 (.seq (.reg [⟨(some 5), .mv (.t 0), none⟩,
  ⟨(some 6), .mv (.t 1), none⟩,
  ⟨(some 7), .len false (.t 6), none⟩,
  ⟨(some 8), .cvt .u64 (.t 7), none⟩,
  ⟨(some 9), .call (.c (.fn (.func 21) [])) [(.t 5), (.t 8)], none⟩,
  ⟨(some 10), .mv (.t 1), none⟩,
  ⟨(some 11), .app 1 1 (.t 9) (.t 10), none⟩,
  ⟨(some 4), .mv (.t 11), none⟩])
 .ret))
theorem f_ref4_Bytes : aFun Try.prog 31 = some (12, [.tmp 4], c_ref4_Bytes) := by kernel_rfl
/-- codec.NewReader -/
def c_codec_NewReader : ACode := (.seq (.reg [⟨(some 2), .mv (.c .nilp), none⟩])
 (.seq (.reg [⟨(some 3), .mv (.t 0), none⟩,
  ⟨(some 4), .call (.c (.fn (.func 89) [])) [(.t 3)], none⟩,
  ⟨(some 5), .call (.c (.fn (.func 88) [])) [(.t 4)], none⟩,
  ⟨(some 6), .bld [.nilp] [(0, 1, (.t 5))], none⟩,
  ⟨(some 7), .box 1 (.t 6), none⟩,
  ⟨(some 2), .mv (.t 7), none⟩])
 .ret))
theorem f_codec_NewReader : aFun Try.prog 32 = some (8, [.tmp 2], c_codec_NewReader) := by kernel_rfl
/-- (*raw.Reader).Bytes -/
def c_raw_Reader_Bytes : ACode := (.seq (.reg [⟨(some 4), .mv (.c (.sl 0 true [])), none⟩])
 (.seq (.reg [⟨(some 8), .mv (.t 0), none⟩,
  ⟨(some 9), .nilc (.t 8), none⟩,
  ⟨(some 10), .fldA 0 (.t 9), none⟩,
  ⟨(some 11), .ld false 1 (.t 10), none⟩,
  ⟨(some 5), .mv (.t 11), none⟩])
 (.seq (.reg [⟨(some 12), .mv (.t 0), none⟩,
  ⟨(some 13), .call (.c (.fn (.func 36) [])) [(.t 12), (.c (.int .u64 (18446744073709551615)))], none⟩,
  ⟨(some 6), .mv (.t 13), none⟩])
 (.seq (.block 0 (.seq (.reg [⟨(some 32), .mv (.t 0), none⟩,
  ⟨(some 33), .nilc (.t 32), none⟩,
  ⟨(some 34), .fldA 1 (.t 33), none⟩,
  ⟨(some 35), .ld false 1 (.t 34), none⟩,
  ⟨(some 36), .bin .neq (.t 35) (.c (.int .i64 (0))), none⟩,
  ⟨(some 31), .mv (.t 36), none⟩])
 (.cond (.t 31)
   .skip
   (.seq (.reg [⟨(some 38), .mv (.t 1), none⟩,
    ⟨(some 39), .bin .lss (.t 38) (.c (.int .i64 (0))), none⟩,
    ⟨(some 40), .mv (.t 39), none⟩,
    ⟨(some 41), .mv (.t 6), (some (40, false))⟩,
    ⟨(some 42), .mv (.t 1), (some (40, false))⟩,
    ⟨(some 43), .cvt .u64 (.t 42), (some (40, false))⟩,
    ⟨(some 44), .bin .gtr (.t 41) (.t 43), (some (40, false))⟩,
    ⟨(some 45), .pick (.t 40) (.c (.bool true)) (.t 44), none⟩,
    ⟨(some 37), .mv (.t 45), none⟩])
   (.cond (.t 37)
     (.reg [⟨(some 46), .mv (.t 0), none⟩,
      ⟨(some 47), .call (.c (.fn (.func 90) [])) [(.t 46), (.c (.int .i64 (3)))], none⟩])
     (.seq (.reg [⟨(some 49), .mv (.t 6), none⟩,
      ⟨(some 50), .mv (.t 0), none⟩,
      ⟨(some 51), .nilc (.t 50), none⟩,
      ⟨(some 52), .fldA 0 (.t 51), none⟩,
      ⟨(some 53), .ld false 1 (.t 52), none⟩,
      ⟨(some 54), .len false (.t 53), none⟩,
      ⟨(some 55), .cvt .u64 (.t 54), none⟩,
      ⟨(some 56), .bin .gtr (.t 49) (.t 55), none⟩,
      ⟨(some 48), .mv (.t 56), none⟩])
     (.cond (.t 48)
       (.reg [⟨(some 57), .mv (.t 0), none⟩,
        ⟨(some 58), .call (.c (.fn (.func 90) [])) [(.t 57), (.c (.int .i64 (5)))], none⟩])
       (.seq (.reg [⟨(some 14), .mv (.t 0), none⟩,
        ⟨(some 15), .nilc (.t 14), none⟩,
        ⟨(some 16), .fldA 0 (.t 15), none⟩,
        ⟨(some 17), .ld false 1 (.t 16), none⟩,
        ⟨(some 18), .mv (.t 6), none⟩,
        ⟨(some 19), .sli 1 (.t 17) none (some (.t 18)) none, none⟩,
        ⟨(some 20), .app 1 1 (.c (.sl 0 true [])) (.t 19), none⟩,
        ⟨(some 7), .mv (.t 20), none⟩])
       (.seq (.reg [⟨(some 21), .mv (.t 0), none⟩,
        ⟨(some 22), .mv (.t 0), none⟩,
        ⟨(some 23), .nilc (.t 22), none⟩,
        ⟨(some 24), .fldA 0 (.t 23), none⟩,
        ⟨(some 25), .ld false 1 (.t 24), none⟩,
        ⟨(some 26), .mv (.t 6), none⟩,
        ⟨(some 27), .sli 1 (.t 25) (some (.t 26)) none none, none⟩,
        ⟨(some 28), .nilc (.t 21), none⟩,
        ⟨(some 29), .fldA 0 (.t 28), none⟩,
        ⟨none, .sto 1 (.t 29) (.t 27), none⟩])
       (.seq (.reg [⟨(some 30), .mv (.t 7), none⟩,
        ⟨(some 4), .mv (.t 30), none⟩])
       .ret))))))))))
 (.seq (.reg [⟨(some 59), .mv (.t 0), none⟩,
  ⟨(some 60), .mv (.t 5), none⟩,
  ⟨(some 61), .nilc (.t 59), none⟩,
  ⟨(some 62), .fldA 0 (.t 61), none⟩,
  ⟨none, .sto 1 (.t 62) (.t 60), none⟩])
 (.seq (.reg [⟨(some 4), .mv (.c (.sl 0 true [])), none⟩])
 .ret))))))
theorem f_raw_Reader_Bytes : aFun Try.prog 33 = some (63, [.tmp 4], c_raw_Reader_Bytes) := by kernel_rfl
/-- (*raw.Reader).Err -/
def c_raw_Reader_Err : ACode := (.seq (.reg [⟨(some 2), .mv (.c (.int .i64 (0))), none⟩])
 (.seq (.reg [⟨(some 3), .mv (.t 0), none⟩,
  ⟨(some 4), .nilc (.t 3), none⟩,
  ⟨(some 5), .fldA 1 (.t 4), none⟩,
  ⟨(some 6), .ld false 1 (.t 5), none⟩,
  ⟨(some 2), .mv (.t 6), none⟩])
 .ret))
theorem f_raw_Reader_Err : aFun Try.prog 34 = some (7, [.tmp 2], c_raw_Reader_Err) := by kernel_rfl
/-- (*raw.Reader).Rest -/
def c_raw_Reader_Rest : ACode := (.seq (.reg [⟨(some 2), .mv (.c (.int .i64 (0))), none⟩])
 (.seq (.reg [⟨(some 3), .mv (.t 0), none⟩,
  ⟨(some 4), .nilc (.t 3), none⟩,
  ⟨(some 5), .fldA 0 (.t 4), none⟩,
  ⟨(some 6), .ld false 1 (.t 5), none⟩,
  ⟨(some 7), .len false (.t 6), none⟩,
  ⟨(some 2), .mv (.t 7), none⟩])
 .ret))
theorem f_raw_Reader_Rest : aFun Try.prog 35 = some (8, [.tmp 2], c_raw_Reader_Rest) := by kernel_rfl
/-- (*raw.Reader).Uint -/
def c_raw_Reader_Uint : ACode := (.seq (.reg [⟨(some 4), .mv (.c (.int .u64 (0))), none⟩])
 (.seq (.seq (.reg [⟨(some 8), .mv (.t 0), none⟩,
  ⟨(some 9), .nilc (.t 8), none⟩,
  ⟨(some 10), .fldA 1 (.t 9), none⟩,
  ⟨(some 11), .ld false 1 (.t 10), none⟩,
  ⟨(some 12), .bin .neq (.t 11) (.c (.int .i64 (0))), none⟩])
 (.cond (.t 12)
   (.seq (.reg [⟨(some 4), .mv (.c (.int .u64 (0))), none⟩])
   .ret)
   .skip))
 (.seq (.reg [⟨(some 14), .mv (.t 0), none⟩,
  ⟨(some 15), .call (.c (.fn (.func 91) [])) [(.t 14)], none⟩,
  ⟨(some 13), .mv (.t 15), none⟩,
  ⟨(some 16), .ext 0 (.t 13), none⟩,
  ⟨(some 17), .ext 1 (.t 13), none⟩,
  ⟨(some 18), .ext 2 (.t 13), none⟩,
  ⟨(some 5), .mv (.t 16), none⟩,
  ⟨(some 6), .mv (.t 17), none⟩,
  ⟨(some 7), .mv (.t 18), none⟩])
 (.seq (.seq (.reg [⟨(some 19), .mv (.t 7), none⟩,
  ⟨(some 20), .bin .eql (.t 19) (.c (.int .i64 (0))), none⟩,
  ⟨(some 21), .mv (.t 20), none⟩,
  ⟨(some 22), .mv (.t 5), (some (21, true))⟩,
  ⟨(some 23), .mv (.t 1), (some (21, true))⟩,
  ⟨(some 24), .bin .gtr (.t 22) (.t 23), (some (21, true))⟩,
  ⟨(some 25), .pick (.t 21) (.t 24) (.c (.bool false)), none⟩])
 (.cond (.t 25)
   (.reg [⟨(some 7), .mv (.c (.int .i64 (3))), none⟩])
   .skip))
 (.seq (.seq (.reg [⟨(some 26), .mv (.t 7), none⟩,
  ⟨(some 27), .bin .neq (.t 26) (.c (.int .i64 (0))), none⟩])
 (.cond (.t 27)
   (.seq (.reg [⟨(some 28), .mv (.t 0), none⟩,
    ⟨(some 29), .mv (.t 7), none⟩,
    ⟨(some 30), .call (.c (.fn (.func 90) [])) [(.t 28), (.t 29)], none⟩])
   (.seq (.reg [⟨(some 4), .mv (.c (.int .u64 (0))), none⟩])
   .ret))
   .skip))
 (.seq (.reg [⟨(some 31), .mv (.t 0), none⟩,
  ⟨(some 32), .mv (.t 0), none⟩,
  ⟨(some 33), .nilc (.t 32), none⟩,
  ⟨(some 34), .fldA 0 (.t 33), none⟩,
  ⟨(some 35), .ld false 1 (.t 34), none⟩,
  ⟨(some 36), .mv (.t 6), none⟩,
  ⟨(some 37), .sli 1 (.t 35) (some (.t 36)) none none, none⟩,
  ⟨(some 38), .nilc (.t 31), none⟩,
  ⟨(some 39), .fldA 0 (.t 38), none⟩,
  ⟨none, .sto 1 (.t 39) (.t 37), none⟩])
 (.seq (.reg [⟨(some 40), .mv (.t 5), none⟩,
  ⟨(some 4), .mv (.t 40), none⟩])
 .ret)))))))
theorem f_raw_Reader_Uint : aFun Try.prog 36 = some (41, [.tmp 4], c_raw_Reader_Uint) := by kernel_rfl
/-- (*raw.Reader).Bool -/
def c_raw_Reader_Bool : ACode := (.seq (.reg [⟨(some 2), .mv (.c (.bool false)), none⟩])
 (.seq (.seq (.reg [⟨(some 4), .mv (.t 0), none⟩,
  ⟨(some 5), .nilc (.t 4), none⟩,
  ⟨(some 6), .fldA 1 (.t 5), none⟩,
  ⟨(some 7), .ld false 1 (.t 6), none⟩,
  ⟨(some 8), .bin .neq (.t 7) (.c (.int .i64 (0))), none⟩])
 (.cond (.t 8)
   (.seq (.reg [⟨(some 2), .mv (.c (.bool false)), none⟩])
   .ret)
   .skip))
 (.seq (.seq (.reg [⟨(some 9), .mv (.t 0), none⟩,
  ⟨(some 10), .nilc (.t 9), none⟩,
  ⟨(some 11), .fldA 0 (.t 10), none⟩,
  ⟨(some 12), .ld false 1 (.t 11), none⟩,
  ⟨(some 13), .len false (.t 12), none⟩,
  ⟨(some 14), .bin .eql (.t 13) (.c (.int .i64 (0))), none⟩])
 (.cond (.t 14)
   (.seq (.reg [⟨(some 15), .mv (.t 0), none⟩,
    ⟨(some 16), .call (.c (.fn (.func 90) [])) [(.t 15), (.c (.int .i64 (5)))], none⟩])
   (.seq (.reg [⟨(some 2), .mv (.c (.bool false)), none⟩])
   .ret))
   .skip))
 (.seq (.seq (.reg [⟨(some 17), .mv (.t 0), none⟩,
  ⟨(some 18), .nilc (.t 17), none⟩,
  ⟨(some 19), .fldA 0 (.t 18), none⟩,
  ⟨(some 20), .ld false 1 (.t 19), none⟩,
  ⟨(some 21), .idxS 1 (.t 20) (.c (.int .i64 (0))), none⟩,
  ⟨(some 22), .ld false 1 (.t 21), none⟩,
  ⟨(some 23), .bin .gtr (.t 22) (.c (.int .u8 (1))), none⟩])
 (.cond (.t 23)
   (.seq (.reg [⟨(some 24), .mv (.t 0), none⟩,
    ⟨(some 25), .call (.c (.fn (.func 90) [])) [(.t 24), (.c (.int .i64 (2)))], none⟩])
   (.seq (.reg [⟨(some 2), .mv (.c (.bool false)), none⟩])
   .ret))
   .skip))
 (.seq (.reg [⟨(some 26), .mv (.t 0), none⟩,
  ⟨(some 27), .nilc (.t 26), none⟩,
  ⟨(some 28), .fldA 0 (.t 27), none⟩,
  ⟨(some 29), .ld false 1 (.t 28), none⟩,
  ⟨(some 30), .idxS 1 (.t 29) (.c (.int .i64 (0))), none⟩,
  ⟨(some 31), .ld false 1 (.t 30), none⟩,
  ⟨(some 32), .bin .eql (.t 31) (.c (.int .u8 (1))), none⟩,
  ⟨(some 3), .mv (.t 32), none⟩])
 (.seq (.reg [⟨(some 33), .mv (.t 0), none⟩,
  ⟨(some 34), .mv (.t 0), none⟩,
  ⟨(some 35), .nilc (.t 34), none⟩,
  ⟨(some 36), .fldA 0 (.t 35), none⟩,
  ⟨(some 37), .ld false 1 (.t 36), none⟩,
  ⟨(some 38), .sli 1 (.t 37) (some (.c (.int .i64 (1)))) none none, none⟩,
  ⟨(some 39), .nilc (.t 33), none⟩,
  ⟨(some 40), .fldA 0 (.t 39), none⟩,
  ⟨none, .sto 1 (.t 40) (.t 38), none⟩])
 (.seq (.reg [⟨(some 41), .mv (.t 3), none⟩,
  ⟨(some 2), .mv (.t 41), none⟩])
 .ret)))))))
theorem f_raw_Reader_Bool : aFun Try.prog 37 = some (42, [.tmp 2], c_raw_Reader_Bool) := by kernel_rfl
/-- (*raw.Reader).Root -/
def c_raw_Reader_Root : ACode := (.seq (.reg [⟨(some 2), .new (rtc rt0), none⟩])
 (.seq (.reg [⟨(some 3), .new (rtc rt0), none⟩])
 (.seq (.seq (.reg [⟨(some 4), .mv (.t 0), none⟩,
  ⟨(some 5), .nilc (.t 4), none⟩,
  ⟨(some 6), .fldA 1 (.t 5), none⟩,
  ⟨(some 7), .ld false 1 (.t 6), none⟩,
  ⟨(some 8), .bin .neq (.t 7) (.c (.int .i64 (0))), none⟩])
 (.cond (.t 8)
   (.seq (.reg [⟨(some 9), .ld true 32 (.t 3), none⟩,
    ⟨none, .sto 32 (.t 2) (.t 9), none⟩])
   .ret)
   .skip))
 (.seq (.seq (.reg [⟨(some 10), .mv (.t 0), none⟩,
  ⟨(some 11), .nilc (.t 10), none⟩,
  ⟨(some 12), .fldA 0 (.t 11), none⟩,
  ⟨(some 13), .ld false 1 (.t 12), none⟩,
  ⟨(some 14), .len false (.t 13), none⟩,
  ⟨(some 15), .bin .lss (.t 14) (.c (.int .i64 (32))), none⟩])
 (.cond (.t 15)
   (.seq (.reg [⟨(some 16), .mv (.t 0), none⟩,
    ⟨(some 17), .call (.c (.fn (.func 90) [])) [(.t 16), (.c (.int .i64 (5)))], none⟩])
   (.seq (.reg [⟨(some 18), .ld true 32 (.t 3), none⟩,
    ⟨none, .sto 32 (.t 2) (.t 18), none⟩])
   .ret))
   .skip))
 (.seq (.dreg [(⟨(some 19), .sliA 1 32 (.t 3) none none, none⟩, 0),
  (⟨(some 20), .mv (.t 0), none⟩, 0),
  (⟨(some 21), .nilc (.t 20), none⟩, 2),
  (⟨(some 22), .fldA 0 (.t 21), none⟩, 6),
  (⟨(some 23), .ld false 1 (.t 22), none⟩, 14),
  (⟨(some 24), .cpy 1 (.t 19) (.t 23), none⟩, 31)])
 (.seq (.reg [⟨(some 25), .mv (.t 0), none⟩,
  ⟨(some 26), .mv (.t 0), none⟩,
  ⟨(some 27), .nilc (.t 26), none⟩,
  ⟨(some 28), .fldA 0 (.t 27), none⟩,
  ⟨(some 29), .ld false 1 (.t 28), none⟩,
  ⟨(some 30), .sli 1 (.t 29) (some (.c (.int .i64 (32)))) none none, none⟩,
  ⟨(some 31), .nilc (.t 25), none⟩,
  ⟨(some 32), .fldA 0 (.t 31), none⟩,
  ⟨none, .sto 1 (.t 32) (.t 30), none⟩])
 (.seq (.reg [⟨(some 33), .ld true 32 (.t 3), none⟩,
  ⟨none, .sto 32 (.t 2) (.t 33), none⟩])
 .ret)))))))
theorem f_raw_Reader_Root : aFun Try.prog 38 = some (34, [.cell 2 true 32], c_raw_Reader_Root) := by kernel_rfl
/-- (*raw.Reader).Wide -/
def c_raw_Reader_Wide : ACode := (.seq (.reg [⟨(some 2), .new (wdc wd0), none⟩])
 (.seq (.reg [⟨(some 3), .mv (.t 0), none⟩,
  ⟨(some 4), .call (.c (.fn (.func 38) [])) [(.t 3)], none⟩,
  ⟨(some 5), .call (.c (.fn (.func 92) [])) [(.t 4)], none⟩,
  ⟨none, .sto 4 (.t 2) (.t 5), none⟩])
 .ret))
theorem f_raw_Reader_Wide : aFun Try.prog 39 = some (6, [.cell 2 true 4], c_raw_Reader_Wide) := by kernel_rfl
/-- (*raw.Reader).Checkpoint -/
def c_raw_Reader_Checkpoint : ACode := (.seq (.reg [⟨(some 2), .new (cpC cp0), none⟩])
 (.seq (.reg [⟨(some 5), .mv (.t 0), none⟩,
  ⟨(some 6), .nilc (.t 5), none⟩,
  ⟨(some 7), .fldA 0 (.t 6), none⟩,
  ⟨(some 8), .ld false 1 (.t 7), none⟩,
  ⟨(some 3), .mv (.t 8), none⟩])
 (.seq (.reg [⟨(some 9), .mv (.t 0), none⟩,
  ⟨(some 10), .call (.c (.fn (.func 36) [])) [(.t 9), (.c (.int .u64 (18446744073709551615)))], none⟩,
  ⟨(some 11), .bld (cpC cp0) [(0, 1, (.t 10))], none⟩,
  ⟨(some 4), .new (cpC cp0), none⟩,
  ⟨none, .sto 33 (.t 4) (.t 11), none⟩])
 (.seq (.reg [⟨(some 12), .mv (.t 0), none⟩,
  ⟨(some 13), .call (.c (.fn (.func 38) [])) [(.t 12)], none⟩,
  ⟨(some 14), .fldA 1 (.t 4), none⟩,
  ⟨none, .sto 32 (.t 14) (.t 13), none⟩])
 (.seq (.seq (.reg [⟨(some 15), .mv (.t 0), none⟩,
  ⟨(some 16), .nilc (.t 15), none⟩,
  ⟨(some 17), .fldA 1 (.t 16), none⟩,
  ⟨(some 18), .ld false 1 (.t 17), none⟩,
  ⟨(some 19), .bin .neq (.t 18) (.c (.int .i64 (0))), none⟩])
 (.cond (.t 19)
   (.seq (.reg [⟨(some 20), .mv (.t 0), none⟩,
    ⟨(some 21), .mv (.t 3), none⟩,
    ⟨(some 22), .nilc (.t 20), none⟩,
    ⟨(some 23), .fldA 0 (.t 22), none⟩,
    ⟨none, .sto 1 (.t 23) (.t 21), none⟩])
   (.seq (.reg [⟨(some 24), .bld (cpC cp0) [], none⟩,
    ⟨none, .sto 33 (.t 2) (.t 24), none⟩])
   .ret))
   .skip))
 (.seq (.reg [⟨(some 25), .ld true 33 (.t 4), none⟩,
  ⟨none, .sto 33 (.t 2) (.t 25), none⟩])
 .ret))))))
theorem f_raw_Reader_Checkpoint : aFun Try.prog 40 = some (26, [.cell 2 true 33], c_raw_Reader_Checkpoint) := by kernel_rfl
/-- (*raw.Reader).Close -/
def c_raw_Reader_Close : ACode := (.seq (.reg [⟨(some 2), .mv (.c (.int .i64 (0))), none⟩])
 (.seq (.seq (.reg [⟨(some 3), .mv (.t 0), none⟩,
  ⟨(some 4), .nilc (.t 3), none⟩,
  ⟨(some 5), .fldA 1 (.t 4), none⟩,
  ⟨(some 6), .ld false 1 (.t 5), none⟩,
  ⟨(some 7), .bin .eql (.t 6) (.c (.int .i64 (0))), none⟩,
  ⟨(some 8), .mv (.t 7), none⟩,
  ⟨(some 9), .mv (.t 0), (some (8, true))⟩,
  ⟨(some 10), .nilc (.t 9), (some (8, true))⟩,
  ⟨(some 11), .fldA 0 (.t 10), (some (8, true))⟩,
  ⟨(some 12), .ld false 1 (.t 11), (some (8, true))⟩,
  ⟨(some 13), .len false (.t 12), (some (8, true))⟩,
  ⟨(some 14), .bin .gtr (.t 13) (.c (.int .i64 (0))), (some (8, true))⟩,
  ⟨(some 15), .pick (.t 8) (.t 14) (.c (.bool false)), none⟩])
 (.cond (.t 15)
   (.seq (.reg [⟨(some 2), .mv (.c (.int .i64 (2))), none⟩])
   .ret)
   .skip))
 (.seq (.reg [⟨(some 16), .mv (.t 0), none⟩,
  ⟨(some 17), .nilc (.t 16), none⟩,
  ⟨(some 18), .fldA 1 (.t 17), none⟩,
  ⟨(some 19), .ld false 1 (.t 18), none⟩,
  ⟨(some 2), .mv (.t 19), none⟩])
 .ret)))
theorem f_raw_Reader_Close : aFun Try.prog 41 = some (20, [.tmp 2], c_raw_Reader_Close) := by kernel_rfl
/-- raw.Uint -/
def c_raw_Uint : ACode := (.seq (.reg [⟨(some 4), .mv (.c (.sl 0 true [])), none⟩])
 (.seq (.block 0 (.loop (.seq (.seq (.reg [⟨(some 5), .mv (.t 1), none⟩,
  ⟨(some 6), .bin .geq (.t 5) (.c (.int .u64 (128))), none⟩])
 (.cond (.t 6)
   .skip
   (.exit 0)))
 (.block 1 (.seq (.reg [⟨(some 7), .mv (.t 0), none⟩,
  ⟨(some 8), .mv (.t 1), none⟩,
  ⟨(some 9), .cvt .u8 (.t 8), none⟩,
  ⟨(some 10), .bin .or (.t 9) (.c (.int .u8 (128))), none⟩,
  ⟨(some 11), .bldS 1 1 [(.int .u8 (0))] [(0, (.t 10))], none⟩,
  ⟨(some 12), .app 1 1 (.t 7) (.t 11), none⟩,
  ⟨(some 0), .mv (.t 12), none⟩])
 (.reg [⟨(some 13), .mv (.t 1), none⟩,
  ⟨(some 14), .bin .shr (.t 13) (.c (.int .u64 (7))), none⟩,
  ⟨(some 1), .mv (.t 14), none⟩]))))))
 (.seq (.reg [⟨(some 15), .mv (.t 0), none⟩,
  ⟨(some 16), .mv (.t 1), none⟩,
  ⟨(some 17), .cvt .u8 (.t 16), none⟩,
  ⟨(some 18), .bldS 1 1 [(.int .u8 (0))] [(0, (.t 17))], none⟩,
  ⟨(some 19), .app 1 1 (.t 15) (.t 18), none⟩,
  ⟨(some 4), .mv (.t 19), none⟩])
 .ret)))
theorem f_raw_Uint : aFun Try.prog 80 = some (20, [.tmp 4], c_raw_Uint) := by kernel_rfl
/-- slices.Clip[[]byte,byte] -/
def c_slices_Clip_byte_byte : ACode := (.seq (.reg [⟨(some 2), .mv (.c (.sl 0 true [])), none⟩])
 (.seq (.reg [⟨(some 3), .mv (.t 0), none⟩,
  ⟨(some 4), .mv (.t 0), none⟩,
  ⟨(some 5), .len false (.t 4), none⟩,
  ⟨(some 6), .mv (.t 0), none⟩,
  ⟨(some 7), .len false (.t 6), none⟩,
  ⟨(some 8), .sli 1 (.t 3) none (some (.t 5)) (some (.t 7)), none⟩,
  ⟨(some 2), .mv (.t 8), none⟩])
 .ret))
theorem f_slices_Clip_byte_byte : aFun Try.prog 81 = some (9, [.tmp 2], c_slices_Clip_byte_byte) := by kernel_rfl
/-- raw.Bool -/
def c_raw_Bool : ACode := (.seq (.reg [⟨(some 4), .mv (.c (.sl 0 true [])), none⟩])
 (.seq (.seq (.reg [⟨(some 5), .mv (.t 1), none⟩])
 (.cond (.t 5)
   (.seq (.reg [⟨(some 6), .mv (.t 0), none⟩,
    ⟨(some 7), .bldS 1 1 [(.int .u8 (0))] [(0, (.c (.int .u8 (1))))], none⟩,
    ⟨(some 8), .app 1 1 (.t 6) (.t 7), none⟩,
    ⟨(some 4), .mv (.t 8), none⟩])
   .ret)
   .skip))
 (.seq (.reg [⟨(some 9), .mv (.t 0), none⟩,
  ⟨(some 10), .bldS 1 1 [(.int .u8 (0))] [(0, (.c (.int .u8 (0))))], none⟩,
  ⟨(some 11), .app 1 1 (.t 9) (.t 10), none⟩,
  ⟨(some 4), .mv (.t 11), none⟩])
 .ret)))
theorem f_raw_Bool : aFun Try.prog 82 = some (12, [.tmp 4], c_raw_Bool) := by kernel_rfl
/-- raw.Root -/
def c_raw_Root : ACode := (.seq (.reg [⟨(some 3), .box 32 (.t 1), none⟩,
  ⟨(some 4), .mv (.c (.sl 0 true [])), none⟩])
 (.seq (.reg [⟨(some 5), .mv (.t 0), none⟩,
  ⟨(some 6), .sliA 1 32 (.t 3) none none, none⟩,
  ⟨(some 7), .app 1 1 (.t 5) (.t 6), none⟩,
  ⟨(some 4), .mv (.t 7), none⟩])
 .ret))
theorem f_raw_Root : aFun Try.prog 83 = some (8, [.tmp 4], c_raw_Root) := by kernel_rfl
/-- raw.Wide -/
def c_raw_Wide : ACode := (.seq (.reg [⟨(some 3), .box 4 (.t 1), none⟩,
  ⟨(some 4), .mv (.c (.sl 0 true [])), none⟩])
 (.seq (.reg [⟨(some 6), .ld true 4 (.t 3), none⟩,
  ⟨(some 7), .call (.c (.fn (.func 117) [])) [(.t 6)], none⟩,
  ⟨(some 5), .new (rtc rt0), none⟩,
  ⟨none, .sto 32 (.t 5) (.t 7), none⟩])
 (.seq (.reg [⟨(some 8), .mv (.t 0), none⟩,
  ⟨(some 9), .sliA 1 32 (.t 5) none none, none⟩,
  ⟨(some 10), .app 1 1 (.t 8) (.t 9), none⟩,
  ⟨(some 4), .mv (.t 10), none⟩])
 .ret)))
theorem f_raw_Wide : aFun Try.prog 84 = some (11, [.tmp 4], c_raw_Wide) := by kernel_rfl
/-- ref1.ToBytes -/
def c_ref1_ToBytes : ACode := (.seq (.reg [⟨(some 1), .box 4 (.t 0), none⟩,
  ⟨(some 2), .new (rtc rt0), none⟩])
 (.seq (.reg [⟨(some 3), .new (rtc rt0), none⟩])
 (.seq (.seq (.reg [⟨(some 4), .mv (.c (.int .i64 (0))), none⟩])
 (.block 0 (.loop (.seq (.seq (.reg [⟨(some 5), .mv (.t 4), none⟩,
  ⟨(some 6), .bin .lss (.t 5) (.c (.int .i64 (32))), none⟩])
 (.cond (.t 6)
   .skip
   (.exit 0)))
 (.seq (.block 1 (.reg [⟨(some 9), .mv (.t 4), none⟩,
  ⟨(some 10), .bin .sub (.c (.int .i64 (31))) (.t 9), none⟩,
  ⟨(some 11), .mv (.t 4), none⟩,
  ⟨(some 12), .bin .quo (.t 11) (.c (.int .i64 (8))), none⟩,
  ⟨(some 13), .idxA 4 1 (.t 1) (.t 12), none⟩,
  ⟨(some 14), .ld false 1 (.t 13), none⟩,
  ⟨(some 15), .mv (.t 4), none⟩,
  ⟨(some 16), .bin .rem (.t 15) (.c (.int .i64 (8))), none⟩,
  ⟨(some 17), .bin .mul (.c (.int .i64 (8))) (.t 16), none⟩,
  ⟨(some 18), .cvt .u64 (.t 17), none⟩,
  ⟨(some 19), .bin .shr (.t 14) (.t 18), none⟩,
  ⟨(some 20), .cvt .u8 (.t 19), none⟩,
  ⟨(some 21), .idxA 32 1 (.t 3) (.t 10), none⟩,
  ⟨none, .sto 1 (.t 21) (.t 20), none⟩]))
 (.reg [⟨(some 7), .mv (.t 4), none⟩,
  ⟨(some 8), .bin .add (.t 7) (.c (.int .i64 (1))), none⟩,
  ⟨(some 4), .mv (.t 8), none⟩]))))))
 (.seq (.reg [⟨(some 22), .ld true 32 (.t 3), none⟩,
  ⟨none, .sto 32 (.t 2) (.t 22), none⟩])
 .ret))))
theorem f_ref1_ToBytes : aFun Try.prog 85 = some (23, [.cell 2 true 32], c_ref1_ToBytes) := by kernel_rfl
/-- raw.Checkpoint -/
def c_raw_Checkpoint : ACode := (.seq (.reg [⟨(some 3), .box 33 (.t 1), none⟩,
  ⟨(some 4), .mv (.c (.sl 0 true [])), none⟩])
 (.seq (.dreg [(⟨(some 5), .mv (.t 0), none⟩, 0),
  (⟨(some 6), .fldA 0 (.t 3), none⟩, 0),
  (⟨(some 7), .ld false 1 (.t 6), none⟩, 2),
  (⟨(some 8), .call (.c (.fn (.func 80) [])) [(.t 5), (.t 7)], none⟩, 7),
  (⟨(some 9), .fldA 1 (.t 3), none⟩, 0),
  (⟨(some 10), .ld true 32 (.t 9), none⟩, 16),
  (⟨(some 11), .call (.c (.fn (.func 83) [])) [(.t 8), (.t 10)], none⟩, 63),
  (⟨(some 4), .mv (.t 11), none⟩, 127)])
 .ret))
theorem f_raw_Checkpoint : aFun Try.prog 86 = some (12, [.tmp 4], c_raw_Checkpoint) := by kernel_rfl
/-- raw.Bytes -/
def c_raw_Bytes : ACode := (.seq (.reg [⟨(some 4), .mv (.c (.sl 0 true [])), none⟩])
 (.seq (.reg [⟨(some 5), .mv (.t 0), none⟩,
  ⟨(some 6), .mv (.t 1), none⟩,
  ⟨(some 7), .len false (.t 6), none⟩,
  ⟨(some 8), .cvt .u64 (.t 7), none⟩,
  ⟨(some 9), .call (.c (.fn (.func 80) [])) [(.t 5), (.t 8)], none⟩,
  ⟨(some 10), .mv (.t 1), none⟩,
  ⟨(some 11), .app 1 1 (.t 9) (.t 10), none⟩,
  ⟨(some 4), .mv (.t 11), none⟩])
 .ret))
theorem f_raw_Bytes : aFun Try.prog 87 = some (12, [.tmp 4], c_raw_Bytes) := by kernel_rfl
/-- raw.New -/
def c_raw_New : ACode := (.seq (.reg [⟨(some 2), .mv (.c .nilp), none⟩])
 (.seq (.reg [⟨(some 3), .mv (.t 0), none⟩,
  ⟨(some 4), .bld [(.sl 0 true []), (.int .i64 (0))] [(0, 1, (.t 3))], none⟩,
  ⟨(some 5), .box 2 (.t 4), none⟩,
  ⟨(some 2), .mv (.t 5), none⟩])
 .ret))
theorem f_raw_New : aFun Try.prog 88 = some (6, [.tmp 2], c_raw_New) := by kernel_rfl
/-- slices.Clone[[]byte,byte] -/
def c_slices_Clone_byte_byte : ACode := (.seq (.reg [⟨(some 2), .mv (.c (.sl 0 true [])), none⟩])
 (.seq (.seq (.reg [⟨(some 3), .mv (.t 0), none⟩,
  ⟨(some 4), .isn false (.t 3), none⟩])
 (.cond (.t 4)
   (.seq (.reg [⟨(some 2), .mv (.c (.sl 0 true [])), none⟩])
   .ret)
   .skip))
 (.seq (.reg [⟨(some 5), .bldS 1 0 [(.int .u8 (0))] [], none⟩,
  ⟨(some 6), .mv (.t 0), none⟩,
  ⟨(some 7), .app 1 1 (.t 5) (.t 6), none⟩,
  ⟨(some 2), .mv (.t 7), none⟩])
 .ret)))
theorem f_slices_Clone_byte_byte : aFun Try.prog 89 = some (8, [.tmp 2], c_slices_Clone_byte_byte) := by kernel_rfl
/-- (*raw.Reader).fail -/
def c_raw_Reader_fail : ACode := (.reg [⟨(some 4), .mv (.t 0), none⟩,
  ⟨(some 5), .mv (.t 1), none⟩,
  ⟨(some 6), .nilc (.t 4), none⟩,
  ⟨(some 7), .fldA 1 (.t 6), none⟩,
  ⟨none, .sto 1 (.t 7) (.t 5), none⟩])
theorem f_raw_Reader_fail : aFun Try.prog 90 = some (8, [], c_raw_Reader_fail) := by kernel_rfl
/-- (*raw.Reader).number -/
def c_raw_Reader_number : ACode := (.seq (.reg [⟨(some 2), .mv (.c (.int .u64 (0))), none⟩,
  ⟨(some 3), .mv (.c (.int .i64 (0))), none⟩,
  ⟨(some 4), .mv (.c (.int .i64 (0))), none⟩])
 (.seq (.reg [⟨(some 5), .mv (.c (.int .u64 (0))), none⟩])
 (.seq (.seq (.dreg [(⟨(some 8), .mv (.t 0), none⟩, 0),
  (⟨(some 9), .nilc (.t 8), none⟩, 1),
  (⟨(some 10), .fldA 0 (.t 9), none⟩, 3),
  (⟨(some 11), .ld false 1 (.t 10), none⟩, 7),
  (⟨(some 12), .mv (.t 0), none⟩, 0),
  (⟨(some 13), .nilc (.t 12), none⟩, 16),
  (⟨(some 14), .fldA 0 (.t 13), none⟩, 48),
  (⟨(some 15), .ld false 1 (.t 14), none⟩, 112),
  (⟨(some 16), .len false (.t 15), none⟩, 240),
  (⟨(some 17), .mn [(.t 16), (.c (.int .i64 (10)))], none⟩, 496),
  (⟨(some 18), .sli 1 (.t 11) none (some (.t 17)) none, none⟩, 1023),
  (⟨(some 19), .len false (.t 18), none⟩, 2047),
  (⟨(some 20), .mv (.c (.int .i64 (0))), none⟩, 0)])
 (.block 0 (.loop (.seq (.reg [⟨(some 21), .bin .lss (.t 20) (.t 19), none⟩])
 (.seq (.cond (.t 21)
   .skip
   (.exit 0))
 (.seq (.block 1 (.seq (.reg [⟨(some 22), .mv (.t 20), none⟩,
  ⟨(some 23), .idxS 1 (.t 18) (.t 20), none⟩,
  ⟨(some 24), .ld false 1 (.t 23), none⟩,
  ⟨(some 6), .mv (.t 22), none⟩,
  ⟨(some 7), .mv (.t 24), none⟩])
 (.seq (.seq (.reg [⟨(some 25), .mv (.t 6), none⟩,
  ⟨(some 26), .bin .eql (.t 25) (.c (.int .i64 (9))), none⟩,
  ⟨(some 27), .mv (.t 26), none⟩,
  ⟨(some 28), .mv (.t 7), (some (27, true))⟩,
  ⟨(some 29), .bin .gtr (.t 28) (.c (.int .u8 (1))), (some (27, true))⟩,
  ⟨(some 30), .pick (.t 27) (.t 29) (.c (.bool false)), none⟩])
 (.cond (.t 30)
   (.seq (.reg [⟨(some 2), .mv (.c (.int .u64 (0))), none⟩,
    ⟨(some 3), .mv (.c (.int .i64 (0))), none⟩,
    ⟨(some 4), .mv (.c (.int .i64 (2))), none⟩])
   .ret)
   .skip))
 (.seq (.reg [⟨(some 31), .mv (.t 5), none⟩,
  ⟨(some 32), .mv (.t 7), none⟩,
  ⟨(some 33), .bin .and (.t 32) (.c (.int .u8 (127))), none⟩,
  ⟨(some 34), .cvt .u64 (.t 33), none⟩,
  ⟨(some 35), .mv (.t 6), none⟩,
  ⟨(some 36), .bin .mul (.c (.int .i64 (7))) (.t 35), none⟩,
  ⟨(some 37), .bin .shl (.t 34) (.t 36), none⟩,
  ⟨(some 38), .bin .or (.t 31) (.t 37), none⟩,
  ⟨(some 5), .mv (.t 38), none⟩])
 (.seq (.reg [⟨(some 39), .mv (.t 7), none⟩,
  ⟨(some 40), .bin .lss (.t 39) (.c (.int .u8 (128))), none⟩])
 (.cond (.t 40)
   (.seq (.seq (.reg [⟨(some 41), .mv (.t 7), none⟩,
    ⟨(some 42), .bin .eql (.t 41) (.c (.int .u8 (0))), none⟩,
    ⟨(some 43), .mv (.t 42), none⟩,
    ⟨(some 44), .mv (.t 6), (some (43, true))⟩,
    ⟨(some 45), .bin .gtr (.t 44) (.c (.int .i64 (0))), (some (43, true))⟩,
    ⟨(some 46), .pick (.t 43) (.t 45) (.c (.bool false)), none⟩])
   (.cond (.t 46)
     (.seq (.reg [⟨(some 2), .mv (.c (.int .u64 (0))), none⟩,
      ⟨(some 3), .mv (.c (.int .i64 (0))), none⟩,
      ⟨(some 4), .mv (.c (.int .i64 (2))), none⟩])
     .ret)
     .skip))
   (.seq (.reg [⟨(some 47), .mv (.t 5), none⟩,
    ⟨(some 48), .mv (.t 6), none⟩,
    ⟨(some 49), .bin .add (.t 48) (.c (.int .i64 (1))), none⟩,
    ⟨(some 2), .mv (.t 47), none⟩,
    ⟨(some 3), .mv (.t 49), none⟩,
    ⟨(some 4), .mv (.c (.int .i64 (0))), none⟩])
   .ret))
   .skip))))))
 (.reg [⟨(some 50), .bin .add (.t 20) (.c (.int .i64 (1))), none⟩,
  ⟨(some 20), .mv (.t 50), none⟩])))))))
 (.seq (.reg [⟨(some 2), .mv (.c (.int .u64 (0))), none⟩,
  ⟨(some 3), .mv (.c (.int .i64 (0))), none⟩,
  ⟨(some 4), .mv (.c (.int .i64 (5))), none⟩])
 .ret))))
theorem f_raw_Reader_number : aFun Try.prog 91 = some (51, [.tmp 2, .tmp 3, .tmp 4], c_raw_Reader_number) := by kernel_rfl
/-- wide.FromBytes -/
def c_wide_FromBytes : ACode := (.seq (.reg [⟨(some 1), .box 32 (.t 0), none⟩,
  ⟨(some 2), .new (wdc wd0), none⟩])
 (.seq (.reg [⟨(some 3), .new (wdc wd0), none⟩])
 (.seq (.seq (.reg [⟨(some 5), .mv (.c (.int .i64 (0))), none⟩])
 (.block 0 (.loop (.seq (.reg [⟨(some 6), .bin .lss (.t 5) (.c (.int .i64 (32))), none⟩])
 (.seq (.cond (.t 6)
   .skip
   (.exit 0))
 (.seq (.block 1 (.seq (.reg [⟨(some 7), .mv (.t 5), none⟩,
  ⟨(some 4), .mv (.t 7), none⟩])
 (.dreg [(⟨(some 8), .mv (.t 4), none⟩, 0),
  (⟨(some 9), .bin .quo (.t 8) (.c (.int .i64 (8))), none⟩, 1),
  (⟨(some 10), .idxA 4 1 (.t 3) (.t 9), none⟩, 3),
  (⟨(some 11), .ld false 1 (.t 10), none⟩, 7),
  (⟨(some 12), .mv (.t 4), none⟩, 0),
  (⟨(some 13), .bin .sub (.c (.int .i64 (31))) (.t 12), none⟩, 16),
  (⟨(some 14), .idxA 32 1 (.t 1) (.t 13), none⟩, 48),
  (⟨(some 15), .ld false 1 (.t 14), none⟩, 112),
  (⟨(some 16), .cvt .u64 (.t 15), none⟩, 240),
  (⟨(some 17), .mv (.t 4), none⟩, 0),
  (⟨(some 18), .bin .rem (.t 17) (.c (.int .i64 (8))), none⟩, 512),
  (⟨(some 19), .bin .mul (.c (.int .i64 (8))) (.t 18), none⟩, 1536),
  (⟨(some 20), .bin .shl (.t 16) (.t 19), none⟩, 4080),
  (⟨(some 21), .bin .or (.t 11) (.t 20), none⟩, 8191),
  (⟨(some 22), .idxA 4 1 (.t 3) (.t 9), none⟩, 16383),
  (⟨none, .sto 1 (.t 22) (.t 21), none⟩, 32767)])))
 (.reg [⟨(some 23), .bin .add (.t 5) (.c (.int .i64 (1))), none⟩,
  ⟨(some 5), .mv (.t 23), none⟩])))))))
 (.seq (.reg [⟨(some 24), .ld true 4 (.t 3), none⟩,
  ⟨none, .sto 4 (.t 2) (.t 24), none⟩])
 .ret))))
theorem f_wide_FromBytes : aFun Try.prog 92 = some (25, [.cell 2 true 4], c_wide_FromBytes) := by kernel_rfl
/-- wide.ToBytes -/
def c_wide_ToBytes : ACode := (.seq (.reg [⟨(some 1), .box 4 (.t 0), none⟩,
  ⟨(some 2), .new (rtc rt0), none⟩])
 (.seq (.reg [⟨(some 3), .new (rtc rt0), none⟩])
 (.seq (.seq (.reg [⟨(some 5), .mv (.c (.int .i64 (0))), none⟩])
 (.block 0 (.loop (.seq (.reg [⟨(some 6), .bin .lss (.t 5) (.c (.int .i64 (32))), none⟩])
 (.seq (.cond (.t 6)
   .skip
   (.exit 0))
 (.seq (.block 1 (.seq (.reg [⟨(some 7), .mv (.t 5), none⟩,
  ⟨(some 4), .mv (.t 7), none⟩])
 (.reg [⟨(some 8), .mv (.t 4), none⟩,
  ⟨(some 9), .bin .sub (.c (.int .i64 (31))) (.t 8), none⟩,
  ⟨(some 10), .mv (.t 4), none⟩,
  ⟨(some 11), .bin .quo (.t 10) (.c (.int .i64 (8))), none⟩,
  ⟨(some 12), .idxA 4 1 (.t 1) (.t 11), none⟩,
  ⟨(some 13), .ld false 1 (.t 12), none⟩,
  ⟨(some 14), .mv (.t 4), none⟩,
  ⟨(some 15), .bin .rem (.t 14) (.c (.int .i64 (8))), none⟩,
  ⟨(some 16), .bin .mul (.c (.int .i64 (8))) (.t 15), none⟩,
  ⟨(some 17), .bin .shr (.t 13) (.t 16), none⟩,
  ⟨(some 18), .cvt .u8 (.t 17), none⟩,
  ⟨(some 19), .idxA 32 1 (.t 3) (.t 9), none⟩,
  ⟨none, .sto 1 (.t 19) (.t 18), none⟩])))
 (.reg [⟨(some 20), .bin .add (.t 5) (.c (.int .i64 (1))), none⟩,
  ⟨(some 5), .mv (.t 20), none⟩])))))))
 (.seq (.reg [⟨(some 21), .ld true 32 (.t 3), none⟩,
  ⟨none, .sto 32 (.t 2) (.t 21), none⟩])
 .ret))))
theorem f_wide_ToBytes : aFun Try.prog 117 = some (22, [.cell 2 true 32], c_wide_ToBytes) := by kernel_rfl
end Go.Proofs.Ytachiahepppajaa

namespace Go.Proofs.Ytachiahepppajaa
open Go Go.FH

/-- (*ref4.Reader).Uint -/
def c_ref4_Reader_Uint : ACode := (.seq (.reg [⟨(some 4), .mv (.c (.int .u64 (0))), none⟩])
 (.seq (.seq (.reg [⟨(some 7), .mv (.t 0), none⟩,
  ⟨(some 8), .nilc (.t 7), none⟩,
  ⟨(some 9), .fldA 2 (.t 8), none⟩,
  ⟨(some 10), .ld false 1 (.t 9), none⟩,
  ⟨(some 11), .bin .neq (.t 10) (.c (.int .i64 (0))), none⟩])
 (.cond (.t 11)
   (.seq (.reg [⟨(some 4), .mv (.c (.int .u64 (0))), none⟩])
   .ret)
   .skip))
 (.seq (.reg [⟨(some 13), .mv (.t 0), none⟩,
  ⟨(some 14), .call (.c (.fn (.func 120) [])) [(.t 13)], none⟩,
  ⟨(some 12), .mv (.t 14), none⟩,
  ⟨(some 15), .ext 0 (.t 12), none⟩,
  ⟨(some 16), .ext 1 (.t 12), none⟩,
  ⟨(some 5), .mv (.t 15), none⟩,
  ⟨(some 6), .mv (.t 16), none⟩])
 (.seq (.seq (.reg [⟨(some 17), .mv (.t 0), none⟩,
  ⟨(some 18), .nilc (.t 17), none⟩,
  ⟨(some 19), .fldA 2 (.t 18), none⟩,
  ⟨(some 20), .ld false 1 (.t 19), none⟩,
  ⟨(some 21), .bin .neq (.t 20) (.c (.int .i64 (0))), none⟩])
 (.cond (.t 21)
   (.seq (.reg [⟨(some 4), .mv (.c (.int .u64 (0))), none⟩])
   .ret)
   .skip))
 (.seq (.seq (.reg [⟨(some 22), .mv (.t 5), none⟩,
  ⟨(some 23), .mv (.t 1), none⟩,
  ⟨(some 24), .bin .gtr (.t 22) (.t 23), none⟩])
 (.cond (.t 24)
   (.seq (.reg [⟨(some 25), .mv (.t 0), none⟩,
    ⟨(some 26), .call (.c (.fn (.func 121) [])) [(.t 25), (.c (.int .i64 (3)))], none⟩])
   (.seq (.reg [⟨(some 4), .mv (.c (.int .u64 (0))), none⟩])
   .ret))
   .skip))
 (.seq (.reg [⟨(some 27), .mv (.t 0), none⟩,
  ⟨(some 28), .mv (.t 6), none⟩,
  ⟨(some 29), .nilc (.t 27), none⟩,
  ⟨(some 30), .fldA 1 (.t 29), none⟩,
  ⟨none, .sto 1 (.t 30) (.t 28), none⟩])
 (.seq (.reg [⟨(some 31), .mv (.t 5), none⟩,
  ⟨(some 4), .mv (.t 31), none⟩])
 .ret)))))))
theorem f_ref4_Reader_Uint : aFun Try.prog 105 = some (32, [.tmp 4], c_ref4_Reader_Uint) := by kernel_rfl
/-- (*ref4.Reader).Root -/
def c_ref4_Reader_Root : ACode := (.seq (.reg [⟨(some 2), .new (rtc rt0), none⟩])
 (.seq (.reg [⟨(some 3), .new (rtc rt0), none⟩])
 (.seq (.reg [⟨(some 6), .mv (.t 0), none⟩,
  ⟨(some 7), .call (.c (.fn (.func 122) [])) [(.t 6), (.c (.int .i64 (32)))], none⟩,
  ⟨(some 4), .mv (.t 7), none⟩])
 (.seq (.seq (.reg [⟨(some 5), .mv (.c (.int .i64 (0))), none⟩])
 (.block 0 (.loop (.seq (.seq (.reg [⟨(some 8), .mv (.t 5), none⟩,
  ⟨(some 9), .mv (.t 4), none⟩,
  ⟨(some 10), .len false (.t 9), none⟩,
  ⟨(some 11), .bin .lss (.t 8) (.t 10), none⟩])
 (.cond (.t 11)
   .skip
   (.exit 0)))
 (.seq (.block 1 (.reg [⟨(some 14), .mv (.t 5), none⟩,
  ⟨(some 15), .mv (.t 4), none⟩,
  ⟨(some 16), .mv (.t 5), none⟩,
  ⟨(some 17), .idxS 1 (.t 15) (.t 16), none⟩,
  ⟨(some 18), .ld false 1 (.t 17), none⟩,
  ⟨(some 19), .idxA 32 1 (.t 3) (.t 14), none⟩,
  ⟨none, .sto 1 (.t 19) (.t 18), none⟩]))
 (.reg [⟨(some 12), .mv (.t 5), none⟩,
  ⟨(some 13), .bin .add (.t 12) (.c (.int .i64 (1))), none⟩,
  ⟨(some 5), .mv (.t 13), none⟩]))))))
 (.seq (.reg [⟨(some 20), .ld true 32 (.t 3), none⟩,
  ⟨none, .sto 32 (.t 2) (.t 20), none⟩])
 .ret)))))
theorem f_ref4_Reader_Root : aFun Try.prog 106 = some (21, [.cell 2 true 32], c_ref4_Reader_Root) := by kernel_rfl
/-- (*ref4.Reader).Checkpoint -/
def c_ref4_Reader_Checkpoint : ACode := (.seq (.reg [⟨(some 2), .new (cpC cp0), none⟩])
 (.seq (.reg [⟨(some 5), .mv (.t 0), none⟩,
  ⟨(some 6), .nilc (.t 5), none⟩,
  ⟨(some 7), .fldA 1 (.t 6), none⟩,
  ⟨(some 8), .ld false 1 (.t 7), none⟩,
  ⟨(some 3), .mv (.t 8), none⟩])
 (.seq (.reg [⟨(some 9), .mv (.t 0), none⟩,
  ⟨(some 10), .call (.c (.fn (.func 105) [])) [(.t 9), (.c (.int .u64 (18446744073709551615)))], none⟩,
  ⟨(some 11), .mv (.t 0), none⟩,
  ⟨(some 12), .call (.c (.fn (.func 106) [])) [(.t 11)], none⟩,
  ⟨(some 13), .bld (cpC cp0) [(0, 1, (.t 10)), (1, 32, (.t 12))], none⟩,
  ⟨(some 4), .new (cpC cp0), none⟩,
  ⟨none, .sto 33 (.t 4) (.t 13), none⟩])
 (.seq (.seq (.reg [⟨(some 14), .mv (.t 0), none⟩,
  ⟨(some 15), .nilc (.t 14), none⟩,
  ⟨(some 16), .fldA 2 (.t 15), none⟩,
  ⟨(some 17), .ld false 1 (.t 16), none⟩,
  ⟨(some 18), .bin .neq (.t 17) (.c (.int .i64 (0))), none⟩])
 (.cond (.t 18)
   (.seq (.reg [⟨(some 19), .mv (.t 0), none⟩,
    ⟨(some 20), .mv (.t 3), none⟩,
    ⟨(some 21), .nilc (.t 19), none⟩,
    ⟨(some 22), .fldA 1 (.t 21), none⟩,
    ⟨none, .sto 1 (.t 22) (.t 20), none⟩])
   (.seq (.reg [⟨(some 23), .bld (cpC cp0) [], none⟩,
    ⟨none, .sto 33 (.t 2) (.t 23), none⟩])
   .ret))
   .skip))
 (.seq (.reg [⟨(some 24), .ld true 33 (.t 4), none⟩,
  ⟨none, .sto 33 (.t 2) (.t 24), none⟩])
 .ret)))))
theorem f_ref4_Reader_Checkpoint : aFun Try.prog 107 = some (25, [.cell 2 true 33], c_ref4_Reader_Checkpoint) := by kernel_rfl
/-- (*ref4.Reader).Wide -/
def c_ref4_Reader_Wide : ACode := (.seq (.reg [⟨(some 2), .new (wdc wd0), none⟩])
 (.seq (.reg [⟨(some 3), .mv (.t 0), none⟩,
  ⟨(some 4), .call (.c (.fn (.func 106) [])) [(.t 3)], none⟩,
  ⟨(some 5), .call (.c (.fn (.func 128) [])) [(.t 4)], none⟩,
  ⟨none, .sto 4 (.t 2) (.t 5), none⟩])
 .ret))
theorem f_ref4_Reader_Wide : aFun Try.prog 118 = some (6, [.cell 2 true 4], c_ref4_Reader_Wide) := by kernel_rfl
/-- (*ref4.Reader).Bool -/
def c_ref4_Reader_Bool : ACode := (.seq (.reg [⟨(some 2), .mv (.c (.bool false)), none⟩])
 (.seq (.reg [⟨(some 5), .mv (.t 0), none⟩,
  ⟨(some 6), .nilc (.t 5), none⟩,
  ⟨(some 7), .fldA 1 (.t 6), none⟩,
  ⟨(some 8), .ld false 1 (.t 7), none⟩,
  ⟨(some 3), .mv (.t 8), none⟩])
 (.seq (.reg [⟨(some 9), .mv (.t 0), none⟩,
  ⟨(some 10), .call (.c (.fn (.func 122) [])) [(.t 9), (.c (.int .i64 (1)))], none⟩,
  ⟨(some 4), .mv (.t 10), none⟩])
 (.seq (.seq (.reg [⟨(some 11), .mv (.t 0), none⟩,
  ⟨(some 12), .nilc (.t 11), none⟩,
  ⟨(some 13), .fldA 2 (.t 12), none⟩,
  ⟨(some 14), .ld false 1 (.t 13), none⟩,
  ⟨(some 15), .bin .neq (.t 14) (.c (.int .i64 (0))), none⟩])
 (.cond (.t 15)
   (.seq (.reg [⟨(some 2), .mv (.c (.bool false)), none⟩])
   .ret)
   .skip))
 (.seq (.seq (.reg [⟨(some 16), .mv (.t 4), none⟩,
  ⟨(some 17), .idxS 1 (.t 16) (.c (.int .i64 (0))), none⟩,
  ⟨(some 18), .ld false 1 (.t 17), none⟩,
  ⟨(some 19), .bin .gtr (.t 18) (.c (.int .u8 (1))), none⟩])
 (.cond (.t 19)
   (.seq (.reg [⟨(some 20), .mv (.t 0), none⟩,
    ⟨(some 21), .mv (.t 3), none⟩,
    ⟨(some 22), .nilc (.t 20), none⟩,
    ⟨(some 23), .fldA 1 (.t 22), none⟩,
    ⟨none, .sto 1 (.t 23) (.t 21), none⟩])
   (.seq (.reg [⟨(some 24), .mv (.t 0), none⟩,
    ⟨(some 25), .call (.c (.fn (.func 121) [])) [(.t 24), (.c (.int .i64 (2)))], none⟩])
   (.seq (.reg [⟨(some 2), .mv (.c (.bool false)), none⟩])
   .ret)))
   .skip))
 (.seq (.reg [⟨(some 26), .mv (.t 4), none⟩,
  ⟨(some 27), .idxS 1 (.t 26) (.c (.int .i64 (0))), none⟩,
  ⟨(some 28), .ld false 1 (.t 27), none⟩,
  ⟨(some 29), .bin .eql (.t 28) (.c (.int .u8 (1))), none⟩,
  ⟨(some 2), .mv (.t 29), none⟩])
 .ret))))))
theorem f_ref4_Reader_Bool : aFun Try.prog 119 = some (30, [.tmp 2], c_ref4_Reader_Bool) := by kernel_rfl
/-- (*ref4.Reader).raw -/
def c_ref4_Reader_raw : ACode := (.seq (.reg [⟨(some 2), .mv (.c (.int .u64 (0))), none⟩,
  ⟨(some 3), .mv (.c (.int .i64 (0))), none⟩])
 (.seq (.reg [⟨(some 4), .mv (.c (.int .u64 (0))), none⟩])
 (.seq (.seq (.reg [⟨(some 5), .mv (.c (.int .i64 (0))), none⟩])
 (.block 0 (.loop (.seq (.seq (.reg [⟨(some 7), .mv (.t 5), none⟩,
  ⟨(some 8), .bin .lss (.t 7) (.c (.int .i64 (10))), none⟩])
 (.cond (.t 8)
   .skip
   (.exit 0)))
 (.seq (.block 1 (.seq (.seq (.dreg [(⟨(some 11), .mv (.t 0), none⟩, 0),
  (⟨(some 12), .nilc (.t 11), none⟩, 1),
  (⟨(some 13), .fldA 1 (.t 12), none⟩, 3),
  (⟨(some 14), .ld false 1 (.t 13), none⟩, 7),
  (⟨(some 15), .mv (.t 5), none⟩, 0),
  (⟨(some 16), .bin .add (.t 14) (.t 15), none⟩, 31),
  (⟨(some 17), .mv (.t 0), none⟩, 0),
  (⟨(some 18), .nilc (.t 17), none⟩, 64),
  (⟨(some 19), .fldA 0 (.t 18), none⟩, 192),
  (⟨(some 20), .ld false 1 (.t 19), none⟩, 448),
  (⟨(some 21), .len false (.t 20), none⟩, 960),
  (⟨(some 22), .bin .geq (.t 16) (.t 21), none⟩, 2047)])
 (.cond (.t 22)
   (.seq (.reg [⟨(some 23), .mv (.t 0), none⟩,
    ⟨(some 24), .call (.c (.fn (.func 121) [])) [(.t 23), (.c (.int .i64 (5)))], none⟩])
   (.seq (.dreg [(⟨(some 25), .mv (.t 0), none⟩, 0),
    (⟨(some 26), .nilc (.t 25), none⟩, 1),
    (⟨(some 27), .fldA 1 (.t 26), none⟩, 3),
    (⟨(some 28), .ld false 1 (.t 27), none⟩, 7),
    (⟨(some 2), .mv (.c (.int .u64 (0))), none⟩, 0),
    (⟨(some 3), .mv (.t 28), none⟩, 31)])
   .ret))
   .skip))
 (.seq (.dreg [(⟨(some 29), .mv (.t 0), none⟩, 0),
  (⟨(some 30), .nilc (.t 29), none⟩, 1),
  (⟨(some 31), .fldA 0 (.t 30), none⟩, 3),
  (⟨(some 32), .ld false 1 (.t 31), none⟩, 7),
  (⟨(some 33), .mv (.t 0), none⟩, 0),
  (⟨(some 34), .nilc (.t 33), none⟩, 16),
  (⟨(some 35), .fldA 1 (.t 34), none⟩, 48),
  (⟨(some 36), .ld false 1 (.t 35), none⟩, 112),
  (⟨(some 37), .mv (.t 5), none⟩, 0),
  (⟨(some 38), .bin .add (.t 36) (.t 37), none⟩, 496),
  (⟨(some 39), .idxS 1 (.t 32) (.t 38), none⟩, 1023),
  (⟨(some 40), .ld false 1 (.t 39), none⟩, 2047),
  (⟨(some 6), .mv (.t 40), none⟩, 4095)])
 (.seq (.seq (.reg [⟨(some 41), .mv (.t 5), none⟩,
  ⟨(some 42), .bin .eql (.t 41) (.c (.int .i64 (9))), none⟩,
  ⟨(some 43), .mv (.t 42), none⟩,
  ⟨(some 44), .mv (.t 6), (some (43, true))⟩,
  ⟨(some 45), .bin .gtr (.t 44) (.c (.int .u8 (1))), (some (43, true))⟩,
  ⟨(some 46), .pick (.t 43) (.t 45) (.c (.bool false)), none⟩])
 (.cond (.t 46)
   (.seq (.reg [⟨(some 47), .mv (.t 0), none⟩,
    ⟨(some 48), .call (.c (.fn (.func 121) [])) [(.t 47), (.c (.int .i64 (2)))], none⟩])
   (.seq (.dreg [(⟨(some 49), .mv (.t 0), none⟩, 0),
    (⟨(some 50), .nilc (.t 49), none⟩, 1),
    (⟨(some 51), .fldA 1 (.t 50), none⟩, 3),
    (⟨(some 52), .ld false 1 (.t 51), none⟩, 7),
    (⟨(some 2), .mv (.c (.int .u64 (0))), none⟩, 0),
    (⟨(some 3), .mv (.t 52), none⟩, 31)])
   .ret))
   .skip))
 (.seq (.reg [⟨(some 53), .mv (.t 4), none⟩,
  ⟨(some 54), .mv (.t 6), none⟩,
  ⟨(some 55), .bin .and (.t 54) (.c (.int .u8 (127))), none⟩,
  ⟨(some 56), .cvt .u64 (.t 55), none⟩,
  ⟨(some 57), .mv (.t 5), none⟩,
  ⟨(some 58), .bin .mul (.c (.int .i64 (7))) (.t 57), none⟩,
  ⟨(some 59), .cvt .u64 (.t 58), none⟩,
  ⟨(some 60), .bin .shl (.t 56) (.t 59), none⟩,
  ⟨(some 61), .bin .or (.t 53) (.t 60), none⟩,
  ⟨(some 4), .mv (.t 61), none⟩])
 (.seq (.reg [⟨(some 62), .mv (.t 6), none⟩,
  ⟨(some 63), .bin .lss (.t 62) (.c (.int .u8 (128))), none⟩])
 (.cond (.t 63)
   (.seq (.seq (.reg [⟨(some 64), .mv (.t 6), none⟩,
    ⟨(some 65), .bin .eql (.t 64) (.c (.int .u8 (0))), none⟩,
    ⟨(some 66), .mv (.t 65), none⟩,
    ⟨(some 67), .mv (.t 5), (some (66, true))⟩,
    ⟨(some 68), .bin .gtr (.t 67) (.c (.int .i64 (0))), (some (66, true))⟩,
    ⟨(some 69), .pick (.t 66) (.t 68) (.c (.bool false)), none⟩])
   (.cond (.t 69)
     (.seq (.reg [⟨(some 70), .mv (.t 0), none⟩,
      ⟨(some 71), .call (.c (.fn (.func 121) [])) [(.t 70), (.c (.int .i64 (2)))], none⟩])
     (.seq (.dreg [(⟨(some 72), .mv (.t 0), none⟩, 0),
      (⟨(some 73), .nilc (.t 72), none⟩, 1),
      (⟨(some 74), .fldA 1 (.t 73), none⟩, 3),
      (⟨(some 75), .ld false 1 (.t 74), none⟩, 7),
      (⟨(some 2), .mv (.c (.int .u64 (0))), none⟩, 0),
      (⟨(some 3), .mv (.t 75), none⟩, 31)])
     .ret))
     .skip))
   (.seq (.dreg [(⟨(some 76), .mv (.t 4), none⟩, 0),
    (⟨(some 77), .mv (.t 0), none⟩, 0),
    (⟨(some 78), .nilc (.t 77), none⟩, 2),
    (⟨(some 79), .fldA 1 (.t 78), none⟩, 6),
    (⟨(some 80), .ld false 1 (.t 79), none⟩, 14),
    (⟨(some 81), .mv (.t 5), none⟩, 0),
    (⟨(some 82), .bin .add (.t 80) (.t 81), none⟩, 62),
    (⟨(some 83), .bin .add (.t 82) (.c (.int .i64 (1))), none⟩, 126),
    (⟨(some 2), .mv (.t 76), none⟩, 1),
    (⟨(some 3), .mv (.t 83), none⟩, 511)])
   .ret))
   .skip)))))))
 (.reg [⟨(some 9), .mv (.t 5), none⟩,
  ⟨(some 10), .bin .add (.t 9) (.c (.int .i64 (1))), none⟩,
  ⟨(some 5), .mv (.t 10), none⟩]))))))
 (.seq (.reg [⟨(some 84), .mv (.t 0), none⟩,
  ⟨(some 85), .call (.c (.fn (.func 121) [])) [(.t 84), (.c (.int .i64 (2)))], none⟩])
 (.seq (.dreg [(⟨(some 86), .mv (.t 0), none⟩, 0),
  (⟨(some 87), .nilc (.t 86), none⟩, 1),
  (⟨(some 88), .fldA 1 (.t 87), none⟩, 3),
  (⟨(some 89), .ld false 1 (.t 88), none⟩, 7),
  (⟨(some 2), .mv (.c (.int .u64 (0))), none⟩, 0),
  (⟨(some 3), .mv (.t 89), none⟩, 31)])
 .ret)))))
theorem f_ref4_Reader_raw : aFun Try.prog 120 = some (90, [.tmp 2, .tmp 3], c_ref4_Reader_raw) := by kernel_rfl
/-- (*ref4.Reader).fail -/
def c_ref4_Reader_fail : ACode := (.seq (.reg [⟨(some 4), .mv (.t 0), none⟩,
  ⟨(some 5), .nilc (.t 4), none⟩,
  ⟨(some 6), .fldA 2 (.t 5), none⟩,
  ⟨(some 7), .ld false 1 (.t 6), none⟩,
  ⟨(some 8), .bin .eql (.t 7) (.c (.int .i64 (0))), none⟩])
 (.cond (.t 8)
   (.reg [⟨(some 9), .mv (.t 0), none⟩,
    ⟨(some 10), .mv (.t 1), none⟩,
    ⟨(some 11), .nilc (.t 9), none⟩,
    ⟨(some 12), .fldA 2 (.t 11), none⟩,
    ⟨none, .sto 1 (.t 12) (.t 10), none⟩])
   .skip))
theorem f_ref4_Reader_fail : aFun Try.prog 121 = some (13, [], c_ref4_Reader_fail) := by kernel_rfl
/-- (*ref4.Reader).take -/
def c_ref4_Reader_take : ACode := (.seq (.reg [⟨(some 4), .mv (.c (.sl 0 true [])), none⟩])
 (.seq (.seq (.reg [⟨(some 6), .mv (.t 0), none⟩,
  ⟨(some 7), .nilc (.t 6), none⟩,
  ⟨(some 8), .fldA 2 (.t 7), none⟩,
  ⟨(some 9), .ld false 1 (.t 8), none⟩,
  ⟨(some 10), .bin .neq (.t 9) (.c (.int .i64 (0))), none⟩])
 (.cond (.t 10)
   (.seq (.reg [⟨(some 4), .mv (.c (.sl 0 true [])), none⟩])
   .ret)
   .skip))
 (.seq (.seq (.dreg [(⟨(some 11), .mv (.t 1), none⟩, 0),
  (⟨(some 12), .mv (.t 0), none⟩, 0),
  (⟨(some 13), .nilc (.t 12), none⟩, 2),
  (⟨(some 14), .fldA 0 (.t 13), none⟩, 6),
  (⟨(some 15), .ld false 1 (.t 14), none⟩, 14),
  (⟨(some 16), .len false (.t 15), none⟩, 30),
  (⟨(some 17), .mv (.t 0), none⟩, 0),
  (⟨(some 18), .nilc (.t 17), none⟩, 64),
  (⟨(some 19), .fldA 1 (.t 18), none⟩, 192),
  (⟨(some 20), .ld false 1 (.t 19), none⟩, 448),
  (⟨(some 21), .bin .sub (.t 16) (.t 20), none⟩, 1022),
  (⟨(some 22), .bin .gtr (.t 11) (.t 21), none⟩, 2047)])
 (.cond (.t 22)
   (.seq (.reg [⟨(some 23), .mv (.t 0), none⟩,
    ⟨(some 24), .call (.c (.fn (.func 121) [])) [(.t 23), (.c (.int .i64 (5)))], none⟩])
   (.seq (.reg [⟨(some 4), .mv (.c (.sl 0 true [])), none⟩])
   .ret))
   .skip))
 (.seq (.dreg [(⟨(some 25), .mv (.t 0), none⟩, 0),
  (⟨(some 26), .nilc (.t 25), none⟩, 1),
  (⟨(some 27), .fldA 0 (.t 26), none⟩, 3),
  (⟨(some 28), .ld false 1 (.t 27), none⟩, 7),
  (⟨(some 29), .mv (.t 0), none⟩, 0),
  (⟨(some 30), .nilc (.t 29), none⟩, 16),
  (⟨(some 31), .fldA 1 (.t 30), none⟩, 48),
  (⟨(some 32), .ld false 1 (.t 31), none⟩, 112),
  (⟨(some 33), .mv (.t 0), none⟩, 0),
  (⟨(some 34), .nilc (.t 33), none⟩, 256),
  (⟨(some 35), .fldA 1 (.t 34), none⟩, 768),
  (⟨(some 36), .ld false 1 (.t 35), none⟩, 1792),
  (⟨(some 37), .mv (.t 1), none⟩, 0),
  (⟨(some 38), .bin .add (.t 36) (.t 37), none⟩, 7936),
  (⟨(some 39), .sli 1 (.t 28) (some (.t 32)) (some (.t 38)) none, none⟩, 16383),
  (⟨(some 5), .mv (.t 39), none⟩, 32767)])
 (.seq (.reg [⟨(some 40), .mv (.t 0), none⟩,
  ⟨(some 41), .mv (.t 0), none⟩,
  ⟨(some 42), .nilc (.t 41), none⟩,
  ⟨(some 43), .fldA 1 (.t 42), none⟩,
  ⟨(some 44), .ld false 1 (.t 43), none⟩,
  ⟨(some 45), .mv (.t 1), none⟩,
  ⟨(some 46), .bin .add (.t 44) (.t 45), none⟩,
  ⟨(some 47), .nilc (.t 40), none⟩,
  ⟨(some 48), .fldA 1 (.t 47), none⟩,
  ⟨none, .sto 1 (.t 48) (.t 46), none⟩])
 (.seq (.reg [⟨(some 49), .mv (.t 5), none⟩,
  ⟨(some 4), .mv (.t 49), none⟩])
 .ret))))))
theorem f_ref4_Reader_take : aFun Try.prog 122 = some (50, [.tmp 4], c_ref4_Reader_take) := by kernel_rfl
/-- ref1.FromBytes -/
def c_ref1_FromBytes : ACode := (.seq (.reg [⟨(some 1), .box 32 (.t 0), none⟩,
  ⟨(some 2), .new (wdc wd0), none⟩])
 (.seq (.reg [⟨(some 3), .new (wdc wd0), none⟩])
 (.seq (.seq (.reg [⟨(some 4), .mv (.c (.int .i64 (0))), none⟩])
 (.block 0 (.loop (.seq (.seq (.reg [⟨(some 5), .mv (.t 4), none⟩,
  ⟨(some 6), .bin .lss (.t 5) (.c (.int .i64 (32))), none⟩])
 (.cond (.t 6)
   .skip
   (.exit 0)))
 (.seq (.block 1 (.dreg [(⟨(some 9), .mv (.t 4), none⟩, 0),
  (⟨(some 10), .bin .quo (.t 9) (.c (.int .i64 (8))), none⟩, 1),
  (⟨(some 11), .mv (.t 4), none⟩, 0),
  (⟨(some 12), .bin .quo (.t 11) (.c (.int .i64 (8))), none⟩, 4),
  (⟨(some 13), .idxA 4 1 (.t 3) (.t 12), none⟩, 12),
  (⟨(some 14), .ld false 1 (.t 13), none⟩, 28),
  (⟨(some 15), .mv (.t 4), none⟩, 0),
  (⟨(some 16), .bin .sub (.c (.int .i64 (31))) (.t 15), none⟩, 64),
  (⟨(some 17), .idxA 32 1 (.t 1) (.t 16), none⟩, 192),
  (⟨(some 18), .ld false 1 (.t 17), none⟩, 448),
  (⟨(some 19), .cvt .u64 (.t 18), none⟩, 960),
  (⟨(some 20), .mv (.t 4), none⟩, 0),
  (⟨(some 21), .bin .rem (.t 20) (.c (.int .i64 (8))), none⟩, 2048),
  (⟨(some 22), .bin .mul (.c (.int .i64 (8))) (.t 21), none⟩, 6144),
  (⟨(some 23), .cvt .u64 (.t 22), none⟩, 14336),
  (⟨(some 24), .bin .shl (.t 19) (.t 23), none⟩, 32704),
  (⟨(some 25), .bin .or (.t 14) (.t 24), none⟩, 65532),
  (⟨(some 26), .idxA 4 1 (.t 3) (.t 10), none⟩, 131071),
  (⟨none, .sto 1 (.t 26) (.t 25), none⟩, 262143)]))
 (.reg [⟨(some 7), .mv (.t 4), none⟩,
  ⟨(some 8), .bin .add (.t 7) (.c (.int .i64 (1))), none⟩,
  ⟨(some 4), .mv (.t 8), none⟩]))))))
 (.seq (.reg [⟨(some 27), .ld true 4 (.t 3), none⟩,
  ⟨none, .sto 4 (.t 2) (.t 27), none⟩])
 .ret))))
theorem f_ref1_FromBytes : aFun Try.prog 128 = some (28, [.cell 2 true 4], c_ref1_FromBytes) := by kernel_rfl
end Go.Proofs.Ytachiahepppajaa

namespace Go.Proofs.Ytachiahepppajaa
open Go Go.FH

/-- law5.RecordsLists -/
def c_law5_RecordsLists : ACode := (.seq (.reg [⟨(some 4), .mv (.c (.bool false)), none⟩])
 (.seq (.seq (.reg [⟨(some 5), .mv (.t 0), none⟩,
  ⟨(some 6), .len false (.t 5), none⟩,
  ⟨(some 7), .bin .gtr (.t 6) (.c (.int .i64 (300))), none⟩])
 (.cond (.t 7)
   (.seq (.reg [⟨(some 8), .call (.c (.fn (.func 42) [])) [], none⟩,
    ⟨(some 4), .mv (.t 8), none⟩])
   .ret)
   .skip))
 (.seq (.reg [⟨(some 9), .mv (.t 0), none⟩,
  ⟨(some 10), .mv (.t 1), none⟩,
  ⟨(some 11), .call (.c (.fn (.func 43) [])) [(.t 9), (.t 10)], none⟩,
  ⟨(some 12), .mv (.t 0), none⟩,
  ⟨(some 13), .mv (.t 1), none⟩,
  ⟨(some 14), .call (.c (.fn (.func 44) [])) [(.t 12), (.t 13)], none⟩,
  ⟨(some 15), .bin .eql (.t 11) (.t 14), none⟩,
  ⟨(some 16), .mv (.t 15), none⟩,
  ⟨(some 17), .call (.c (.fn (.func 42) [])) [], (some (16, true))⟩,
  ⟨(some 18), .pick (.t 16) (.t 17) (.c (.bool false)), none⟩,
  ⟨(some 4), .mv (.t 18), none⟩])
 .ret)))
theorem f_law5_RecordsLists : aFun Try.prog 8 = some (19, [.tmp 4], c_law5_RecordsLists) := by kernel_rfl
/-- law5.RecordsAttestations -/
def c_law5_RecordsAttestations : ACode := (.seq (.reg [⟨(some 1), .box 67 (.t 0), none⟩,
  ⟨(some 2), .mv (.c (.bool false)), none⟩])
 (.seq (.seq (.reg [⟨(some 10), .fldA 66 (.t 1), none⟩,
  ⟨(some 11), .ld false 1 (.t 10), none⟩,
  ⟨(some 12), .call (.c (.fn (.func 45) [])) [(.t 11), (.c (.sl 0 true []))], none⟩,
  ⟨(some 13), .un .not (.t 12), none⟩])
 (.cond (.t 13)
   (.seq (.reg [⟨(some 14), .call (.c (.fn (.func 42) [])) [], none⟩,
    ⟨(some 2), .mv (.t 14), none⟩])
   .ret)
   .skip))
 (.seq (.reg [⟨(some 16), .ld true 67 (.t 1), none⟩,
  ⟨(some 17), .call (.c (.fn (.func 46) [])) [(.t 16)], none⟩,
  ⟨(some 15), .mv (.t 17), none⟩,
  ⟨(some 18), .ext 0 (.t 15), none⟩,
  ⟨(some 19), .ext 1 (.t 15), none⟩,
  ⟨(some 3), .mv (.t 18), none⟩,
  ⟨(some 4), .mv (.t 19), none⟩])
 (.seq (.reg [⟨(some 21), .ld true 67 (.t 1), none⟩,
  ⟨(some 22), .call (.c (.fn (.func 47) [])) [(.t 21)], none⟩,
  ⟨(some 20), .mv (.t 22), none⟩,
  ⟨(some 23), .ext 0 (.t 20), none⟩,
  ⟨(some 24), .ext 1 (.t 20), none⟩,
  ⟨(some 5), .mv (.t 23), none⟩,
  ⟨(some 6), .mv (.t 24), none⟩])
 (.seq (.seq (.reg [⟨(some 25), .mv (.t 4), none⟩,
  ⟨(some 26), .mv (.t 6), none⟩,
  ⟨(some 27), .bin .neq (.t 25) (.t 26), none⟩,
  ⟨(some 28), .mv (.t 27), none⟩,
  ⟨(some 29), .mv (.t 3), (some (28, false))⟩,
  ⟨(some 30), .b2s (.t 29), (some (28, false))⟩,
  ⟨(some 31), .mv (.t 5), (some (28, false))⟩,
  ⟨(some 32), .b2s (.t 31), (some (28, false))⟩,
  ⟨(some 33), .eqv 1 true (.t 30) (.t 32), (some (28, false))⟩,
  ⟨(some 34), .pick (.t 28) (.c (.bool true)) (.t 33), none⟩])
 (.cond (.t 34)
   (.seq (.reg [⟨(some 2), .mv (.c (.bool false)), none⟩])
   .ret)
   .skip))
 (.seq (.seq (.reg [⟨(some 35), .mv (.t 4), none⟩,
  ⟨(some 36), .bin .neq (.t 35) (.c (.int .i64 (0))), none⟩])
 (.cond (.t 36)
   (.seq (.reg [⟨(some 37), .call (.c (.fn (.func 42) [])) [], none⟩,
    ⟨(some 2), .mv (.t 37), none⟩])
   .ret)
   .skip))
 (.seq (.reg [⟨(some 39), .mv (.t 3), none⟩,
  ⟨(some 40), .call (.c (.fn (.func 48) [])) [(.t 39)], none⟩,
  ⟨(some 38), .mv (.t 40), none⟩,
  ⟨(some 41), .ext 0 (.t 38), none⟩,
  ⟨(some 42), .ext 1 (.t 38), none⟩,
  ⟨(some 43), .ext 2 (.t 38), none⟩,
  ⟨(some 7), .new (attC att0), none⟩,
  ⟨none, .sto 67 (.t 7) (.t 41), none⟩,
  ⟨(some 8), .mv (.t 42), none⟩,
  ⟨(some 9), .mv (.t 43), none⟩])
 (.seq (.reg [⟨(some 44), .mv (.t 9), none⟩,
  ⟨(some 45), .bin .eql (.t 44) (.c (.int .i64 (0))), none⟩,
  ⟨(some 46), .mv (.t 45), none⟩,
  ⟨(some 47), .mv (.t 8), (some (46, true))⟩,
  ⟨(some 48), .mv (.t 3), (some (46, true))⟩,
  ⟨(some 49), .len false (.t 48), (some (46, true))⟩,
  ⟨(some 50), .bin .eql (.t 47) (.t 49), (some (46, true))⟩,
  ⟨(some 51), .pick (.t 46) (.t 50) (.c (.bool false)), none⟩,
  ⟨(some 52), .mv (.t 51), none⟩,
  ⟨(some 53), .ld true 67 (.t 1), (some (52, true))⟩,
  ⟨(some 54), .ld true 67 (.t 7), (some (52, true))⟩,
  ⟨(some 55), .call (.c (.fn (.func 49) [])) [(.t 53), (.t 54)], (some (52, true))⟩,
  ⟨(some 56), .pick (.t 52) (.t 55) (.c (.bool false)), none⟩,
  ⟨(some 57), .mv (.t 56), none⟩,
  ⟨(some 58), .call (.c (.fn (.func 42) [])) [], (some (57, true))⟩,
  ⟨(some 59), .pick (.t 57) (.t 58) (.c (.bool false)), none⟩,
  ⟨(some 2), .mv (.t 59), none⟩])
 .ret))))))))
theorem f_law5_RecordsAttestations : aFun Try.prog 9 = some (60, [.tmp 2], c_law5_RecordsAttestations) := by kernel_rfl
/-- law5.RecordsLimits -/
def c_law5_RecordsLimits : ACode := (.seq (.reg [⟨(some 2), .mv (.c (.bool false)), none⟩])
 (.seq (.reg [⟨(some 10), .mv (.t 0), none⟩,
  ⟨(some 11), .bin .and (.t 10) (.c (.int .i64 (1))), none⟩,
  ⟨(some 3), .mv (.t 11), none⟩])
 (.seq (.reg [⟨(some 12), .mv (.t 3), none⟩,
  ⟨(some 13), .bin .add (.c (.int .i64 (1024))) (.t 12), none⟩,
  ⟨(some 14), .mk 1 8 [(.int .i64 (0))] (.t 13) (.t 13), none⟩,
  ⟨(some 4), .mv (.t 14), none⟩])
 (.seq (.seq (.reg [⟨(some 5), .mv (.c (.int .i64 (0))), none⟩])
 (.block 0 (.loop (.seq (.seq (.reg [⟨(some 15), .mv (.t 5), none⟩,
  ⟨(some 16), .mv (.t 4), none⟩,
  ⟨(some 17), .len false (.t 16), none⟩,
  ⟨(some 18), .bin .lss (.t 15) (.t 17), none⟩])
 (.cond (.t 18)
   .skip
   (.exit 0)))
 (.seq (.block 1 (.reg [⟨(some 21), .mv (.t 4), none⟩,
  ⟨(some 22), .mv (.t 5), none⟩,
  ⟨(some 23), .mv (.t 5), none⟩,
  ⟨(some 24), .idxS 1 (.t 21) (.t 22), none⟩,
  ⟨none, .sto 1 (.t 24) (.t 23), none⟩]))
 (.reg [⟨(some 19), .mv (.t 5), none⟩,
  ⟨(some 20), .bin .add (.t 19) (.c (.int .i64 (1))), none⟩,
  ⟨(some 5), .mv (.t 20), none⟩]))))))
 (.seq (.reg [⟨(some 26), .mv (.t 4), none⟩,
  ⟨(some 27), .bld (attC att0) [(66, 1, (.t 26))], none⟩,
  ⟨(some 28), .call (.c (.fn (.func 46) [])) [(.t 27)], none⟩,
  ⟨(some 25), .mv (.t 28), none⟩,
  ⟨(some 29), .ext 0 (.t 25), none⟩,
  ⟨(some 30), .ext 1 (.t 25), none⟩,
  ⟨(some 6), .mv (.t 29), none⟩,
  ⟨(some 7), .mv (.t 30), none⟩])
 (.seq (.reg [⟨(some 32), .mv (.t 3), none⟩,
  ⟨(some 33), .bin .add (.c (.int .i64 (1024))) (.t 32), none⟩,
  ⟨(some 34), .mk 1 8 [(.int .u64 (0))] (.t 33) (.t 33), none⟩,
  ⟨(some 35), .bld (tabC tab0) [(33, 1, (.t 34))], none⟩,
  ⟨(some 36), .call (.c (.fn (.func 50) [])) [(.t 35)], none⟩,
  ⟨(some 31), .mv (.t 36), none⟩,
  ⟨(some 37), .ext 0 (.t 31), none⟩,
  ⟨(some 38), .ext 1 (.t 31), none⟩,
  ⟨(some 8), .mv (.t 37), none⟩,
  ⟨(some 9), .mv (.t 38), none⟩])
 (.seq (.seq (.reg [⟨(some 39), .mv (.t 3), none⟩,
  ⟨(some 40), .bin .eql (.t 39) (.c (.int .i64 (0))), none⟩])
 (.cond (.t 40)
   (.seq (.reg [⟨(some 41), .mv (.t 7), none⟩,
    ⟨(some 42), .bin .eql (.t 41) (.c (.int .i64 (0))), none⟩,
    ⟨(some 43), .mv (.t 42), none⟩,
    ⟨(some 44), .mv (.t 9), (some (43, true))⟩,
    ⟨(some 45), .bin .eql (.t 44) (.c (.int .i64 (0))), (some (43, true))⟩,
    ⟨(some 46), .pick (.t 43) (.t 45) (.c (.bool false)), none⟩,
    ⟨(some 47), .mv (.t 46), none⟩,
    ⟨(some 48), .call (.c (.fn (.func 42) [])) [], (some (47, true))⟩,
    ⟨(some 49), .pick (.t 47) (.t 48) (.c (.bool false)), none⟩,
    ⟨(some 2), .mv (.t 49), none⟩])
   .ret)
   .skip))
 (.seq (.reg [⟨(some 50), .mv (.t 7), none⟩,
  ⟨(some 51), .bin .eql (.t 50) (.c (.int .i64 (3))), none⟩,
  ⟨(some 52), .mv (.t 51), none⟩,
  ⟨(some 53), .mv (.t 9), (some (52, true))⟩,
  ⟨(some 54), .bin .eql (.t 53) (.c (.int .i64 (3))), (some (52, true))⟩,
  ⟨(some 55), .pick (.t 52) (.t 54) (.c (.bool false)), none⟩,
  ⟨(some 56), .mv (.t 55), none⟩,
  ⟨(some 57), .call (.c (.fn (.func 42) [])) [], (some (56, true))⟩,
  ⟨(some 58), .pick (.t 56) (.t 57) (.c (.bool false)), none⟩,
  ⟨(some 2), .mv (.t 58), none⟩])
 .ret))))))))
theorem f_law5_RecordsLimits : aFun Try.prog 10 = some (59, [.tmp 2], c_law5_RecordsLimits) := by kernel_rfl
/-- law5.RecordsSlashings -/
def c_law5_RecordsSlashings : ACode := (.seq (.reg [⟨(some 1), .box 70 (.t 0), none⟩,
  ⟨(some 2), .mv (.c (.bool false)), none⟩])
 (.seq (.seq (.reg [⟨(some 10), .fldA 0 (.t 1), none⟩,
  ⟨(some 11), .fldA 34 (.t 10), none⟩,
  ⟨(some 12), .ld false 1 (.t 11), none⟩,
  ⟨(some 13), .fldA 35 (.t 1), none⟩,
  ⟨(some 14), .fldA 34 (.t 13), none⟩,
  ⟨(some 15), .ld false 1 (.t 14), none⟩,
  ⟨(some 16), .call (.c (.fn (.func 45) [])) [(.t 12), (.t 15)], none⟩,
  ⟨(some 17), .un .not (.t 16), none⟩])
 (.cond (.t 17)
   (.seq (.reg [⟨(some 18), .call (.c (.fn (.func 42) [])) [], none⟩,
    ⟨(some 2), .mv (.t 18), none⟩])
   .ret)
   .skip))
 (.seq (.reg [⟨(some 20), .ld true 70 (.t 1), none⟩,
  ⟨(some 21), .call (.c (.fn (.func 51) [])) [(.t 20)], none⟩,
  ⟨(some 19), .mv (.t 21), none⟩,
  ⟨(some 22), .ext 0 (.t 19), none⟩,
  ⟨(some 23), .ext 1 (.t 19), none⟩,
  ⟨(some 3), .mv (.t 22), none⟩,
  ⟨(some 4), .mv (.t 23), none⟩])
 (.seq (.reg [⟨(some 25), .ld true 70 (.t 1), none⟩,
  ⟨(some 26), .call (.c (.fn (.func 52) [])) [(.t 25)], none⟩,
  ⟨(some 24), .mv (.t 26), none⟩,
  ⟨(some 27), .ext 0 (.t 24), none⟩,
  ⟨(some 28), .ext 1 (.t 24), none⟩,
  ⟨(some 5), .mv (.t 27), none⟩,
  ⟨(some 6), .mv (.t 28), none⟩])
 (.seq (.seq (.reg [⟨(some 29), .mv (.t 4), none⟩,
  ⟨(some 30), .mv (.t 6), none⟩,
  ⟨(some 31), .bin .neq (.t 29) (.t 30), none⟩,
  ⟨(some 32), .mv (.t 31), none⟩,
  ⟨(some 33), .mv (.t 3), (some (32, false))⟩,
  ⟨(some 34), .b2s (.t 33), (some (32, false))⟩,
  ⟨(some 35), .mv (.t 5), (some (32, false))⟩,
  ⟨(some 36), .b2s (.t 35), (some (32, false))⟩,
  ⟨(some 37), .eqv 1 true (.t 34) (.t 36), (some (32, false))⟩,
  ⟨(some 38), .pick (.t 32) (.c (.bool true)) (.t 37), none⟩])
 (.cond (.t 38)
   (.seq (.reg [⟨(some 2), .mv (.c (.bool false)), none⟩])
   .ret)
   .skip))
 (.seq (.seq (.reg [⟨(some 39), .mv (.t 4), none⟩,
  ⟨(some 40), .bin .neq (.t 39) (.c (.int .i64 (0))), none⟩])
 (.cond (.t 40)
   (.seq (.reg [⟨(some 41), .call (.c (.fn (.func 42) [])) [], none⟩,
    ⟨(some 2), .mv (.t 41), none⟩])
   .ret)
   .skip))
 (.seq (.reg [⟨(some 43), .mv (.t 3), none⟩,
  ⟨(some 44), .call (.c (.fn (.func 53) [])) [(.t 43)], none⟩,
  ⟨(some 42), .mv (.t 44), none⟩,
  ⟨(some 45), .ext 0 (.t 42), none⟩,
  ⟨(some 46), .ext 1 (.t 42), none⟩,
  ⟨(some 47), .ext 2 (.t 42), none⟩,
  ⟨(some 7), .new (slgC slg0), none⟩,
  ⟨none, .sto 70 (.t 7) (.t 45), none⟩,
  ⟨(some 8), .mv (.t 46), none⟩,
  ⟨(some 9), .mv (.t 47), none⟩])
 (.seq (.reg [⟨(some 48), .mv (.t 9), none⟩,
  ⟨(some 49), .bin .eql (.t 48) (.c (.int .i64 (0))), none⟩,
  ⟨(some 50), .mv (.t 49), none⟩,
  ⟨(some 51), .mv (.t 8), (some (50, true))⟩,
  ⟨(some 52), .mv (.t 3), (some (50, true))⟩,
  ⟨(some 53), .len false (.t 52), (some (50, true))⟩,
  ⟨(some 54), .bin .eql (.t 51) (.t 53), (some (50, true))⟩,
  ⟨(some 55), .pick (.t 50) (.t 54) (.c (.bool false)), none⟩,
  ⟨(some 56), .mv (.t 55), none⟩,
  ⟨(some 57), .ld true 70 (.t 1), (some (56, true))⟩,
  ⟨(some 58), .ld true 70 (.t 7), (some (56, true))⟩,
  ⟨(some 59), .call (.c (.fn (.func 54) [])) [(.t 57), (.t 58)], (some (56, true))⟩,
  ⟨(some 60), .pick (.t 56) (.t 59) (.c (.bool false)), none⟩,
  ⟨(some 61), .mv (.t 60), none⟩,
  ⟨(some 62), .call (.c (.fn (.func 42) [])) [], (some (61, true))⟩,
  ⟨(some 63), .pick (.t 61) (.t 62) (.c (.bool false)), none⟩,
  ⟨(some 2), .mv (.t 63), none⟩])
 .ret))))))))
theorem f_law5_RecordsSlashings : aFun Try.prog 11 = some (64, [.tmp 2], c_law5_RecordsSlashings) := by kernel_rfl
/-- law5.RecordsTables -/
def c_law5_RecordsTables : ACode := (.seq (.reg [⟨(some 2), .box 34 (.t 0), none⟩,
  ⟨(some 3), .box 34 (.t 1), none⟩,
  ⟨(some 4), .mv (.c (.bool false)), none⟩])
 (.seq (.seq (.reg [⟨(some 19), .fldA 33 (.t 2), none⟩,
  ⟨(some 20), .ld false 1 (.t 19), none⟩,
  ⟨(some 21), .len false (.t 20), none⟩,
  ⟨(some 22), .bin .gtr (.t 21) (.c (.int .i64 (300))), none⟩])
 (.cond (.t 22)
   (.seq (.reg [⟨(some 23), .call (.c (.fn (.func 42) [])) [], none⟩,
    ⟨(some 4), .mv (.t 23), none⟩])
   .ret)
   .skip))
 (.seq (.reg [⟨(some 25), .ld true 34 (.t 2), none⟩,
  ⟨(some 26), .call (.c (.fn (.func 50) [])) [(.t 25)], none⟩,
  ⟨(some 24), .mv (.t 26), none⟩,
  ⟨(some 27), .ext 0 (.t 24), none⟩,
  ⟨(some 28), .ext 1 (.t 24), none⟩,
  ⟨(some 5), .mv (.t 27), none⟩,
  ⟨(some 6), .mv (.t 28), none⟩])
 (.seq (.reg [⟨(some 30), .ld true 34 (.t 2), none⟩,
  ⟨(some 31), .call (.c (.fn (.func 55) [])) [(.t 30)], none⟩,
  ⟨(some 29), .mv (.t 31), none⟩,
  ⟨(some 32), .ext 0 (.t 29), none⟩,
  ⟨(some 33), .ext 1 (.t 29), none⟩,
  ⟨(some 7), .mv (.t 32), none⟩,
  ⟨(some 8), .mv (.t 33), none⟩])
 (.seq (.reg [⟨(some 35), .ld true 34 (.t 3), none⟩,
  ⟨(some 36), .call (.c (.fn (.func 56) [])) [(.t 35)], none⟩,
  ⟨(some 34), .mv (.t 36), none⟩,
  ⟨(some 37), .ext 0 (.t 34), none⟩,
  ⟨(some 38), .ext 1 (.t 34), none⟩,
  ⟨(some 9), .mv (.t 37), none⟩,
  ⟨(some 10), .mv (.t 38), none⟩])
 (.seq (.reg [⟨(some 40), .ld true 34 (.t 3), none⟩,
  ⟨(some 41), .call (.c (.fn (.func 57) [])) [(.t 40)], none⟩,
  ⟨(some 39), .mv (.t 41), none⟩,
  ⟨(some 42), .ext 0 (.t 39), none⟩,
  ⟨(some 43), .ext 1 (.t 39), none⟩,
  ⟨(some 11), .mv (.t 42), none⟩,
  ⟨(some 12), .mv (.t 43), none⟩])
 (.seq (.seq (.reg [⟨(some 44), .mv (.t 6), none⟩,
  ⟨(some 45), .mv (.t 8), none⟩,
  ⟨(some 46), .bin .neq (.t 44) (.t 45), none⟩,
  ⟨(some 47), .mv (.t 46), none⟩,
  ⟨(some 48), .mv (.t 5), (some (47, false))⟩,
  ⟨(some 49), .b2s (.t 48), (some (47, false))⟩,
  ⟨(some 50), .mv (.t 7), (some (47, false))⟩,
  ⟨(some 51), .b2s (.t 50), (some (47, false))⟩,
  ⟨(some 52), .eqv 1 true (.t 49) (.t 51), (some (47, false))⟩,
  ⟨(some 53), .pick (.t 47) (.c (.bool true)) (.t 52), none⟩,
  ⟨(some 54), .mv (.t 53), none⟩,
  ⟨(some 55), .mv (.t 10), (some (54, false))⟩,
  ⟨(some 56), .mv (.t 12), (some (54, false))⟩,
  ⟨(some 57), .bin .neq (.t 55) (.t 56), (some (54, false))⟩,
  ⟨(some 58), .pick (.t 54) (.c (.bool true)) (.t 57), none⟩,
  ⟨(some 59), .mv (.t 58), none⟩,
  ⟨(some 60), .mv (.t 9), (some (59, false))⟩,
  ⟨(some 61), .b2s (.t 60), (some (59, false))⟩,
  ⟨(some 62), .mv (.t 11), (some (59, false))⟩,
  ⟨(some 63), .b2s (.t 62), (some (59, false))⟩,
  ⟨(some 64), .eqv 1 true (.t 61) (.t 63), (some (59, false))⟩,
  ⟨(some 65), .pick (.t 59) (.c (.bool true)) (.t 64), none⟩,
  ⟨(some 66), .mv (.t 65), none⟩,
  ⟨(some 67), .mv (.t 6), (some (66, false))⟩,
  ⟨(some 68), .bin .neq (.t 67) (.c (.int .i64 (0))), (some (66, false))⟩,
  ⟨(some 69), .pick (.t 66) (.c (.bool true)) (.t 68), none⟩])
 (.cond (.t 69)
   (.seq (.reg [⟨(some 4), .mv (.c (.bool false)), none⟩])
   .ret)
   .skip))
 (.seq (.reg [⟨(some 71), .mv (.t 5), none⟩,
  ⟨(some 72), .call (.c (.fn (.func 58) [])) [(.t 71)], none⟩,
  ⟨(some 70), .mv (.t 72), none⟩,
  ⟨(some 73), .ext 0 (.t 70), none⟩,
  ⟨(some 74), .ext 1 (.t 70), none⟩,
  ⟨(some 75), .ext 2 (.t 70), none⟩,
  ⟨(some 13), .new (tabC tab0), none⟩,
  ⟨none, .sto 34 (.t 13) (.t 73), none⟩,
  ⟨(some 14), .mv (.t 74), none⟩,
  ⟨(some 15), .mv (.t 75), none⟩])
 (.seq (.seq (.reg [⟨(some 76), .mv (.t 15), none⟩,
  ⟨(some 77), .bin .neq (.t 76) (.c (.int .i64 (0))), none⟩,
  ⟨(some 78), .mv (.t 77), none⟩,
  ⟨(some 79), .mv (.t 14), (some (78, false))⟩,
  ⟨(some 80), .mv (.t 5), (some (78, false))⟩,
  ⟨(some 81), .len false (.t 80), (some (78, false))⟩,
  ⟨(some 82), .bin .neq (.t 79) (.t 81), (some (78, false))⟩,
  ⟨(some 83), .pick (.t 78) (.c (.bool true)) (.t 82), none⟩,
  ⟨(some 84), .mv (.t 83), none⟩,
  ⟨(some 85), .ld true 34 (.t 2), (some (84, false))⟩,
  ⟨(some 86), .ld true 34 (.t 13), (some (84, false))⟩,
  ⟨(some 87), .call (.c (.fn (.func 59) [])) [(.t 85), (.t 86)], (some (84, false))⟩,
  ⟨(some 88), .un .not (.t 87), (some (84, false))⟩,
  ⟨(some 89), .pick (.t 84) (.c (.bool true)) (.t 88), none⟩])
 (.cond (.t 89)
   (.seq (.reg [⟨(some 4), .mv (.c (.bool false)), none⟩])
   .ret)
   .skip))
 (.seq (.seq (.reg [⟨(some 90), .mv (.t 10), none⟩,
  ⟨(some 91), .bin .eql (.t 90) (.c (.int .i64 (0))), none⟩])
 (.cond (.t 91)
   (.seq (.reg [⟨(some 93), .mv (.t 9), none⟩,
    ⟨(some 94), .call (.c (.fn (.func 60) [])) [(.t 93)], none⟩,
    ⟨(some 92), .mv (.t 94), none⟩,
    ⟨(some 95), .ext 0 (.t 92), none⟩,
    ⟨(some 96), .ext 1 (.t 92), none⟩,
    ⟨(some 97), .ext 2 (.t 92), none⟩,
    ⟨(some 16), .new (vdtC vdt0), none⟩,
    ⟨none, .sto 34 (.t 16) (.t 95), none⟩,
    ⟨(some 17), .mv (.t 96), none⟩,
    ⟨(some 18), .mv (.t 97), none⟩])
   (.seq (.reg [⟨(some 98), .mv (.t 18), none⟩,
    ⟨(some 99), .bin .neq (.t 98) (.c (.int .i64 (0))), none⟩,
    ⟨(some 100), .mv (.t 99), none⟩,
    ⟨(some 101), .mv (.t 17), (some (100, false))⟩,
    ⟨(some 102), .mv (.t 9), (some (100, false))⟩,
    ⟨(some 103), .len false (.t 102), (some (100, false))⟩,
    ⟨(some 104), .bin .neq (.t 101) (.t 103), (some (100, false))⟩,
    ⟨(some 105), .pick (.t 100) (.c (.bool true)) (.t 104), none⟩,
    ⟨(some 106), .mv (.t 105), none⟩,
    ⟨(some 107), .ld true 34 (.t 16), (some (106, false))⟩,
    ⟨(some 108), .ld true 34 (.t 3), (some (106, false))⟩,
    ⟨(some 109), .eqa [(34, 1)] true (.t 107) (.t 108), (some (106, false))⟩,
    ⟨(some 110), .pick (.t 106) (.c (.bool true)) (.t 109), none⟩])
   (.cond (.t 110)
     (.seq (.reg [⟨(some 4), .mv (.c (.bool false)), none⟩])
     .ret)
     .skip)))
   .skip))
 (.seq (.reg [⟨(some 111), .call (.c (.fn (.func 42) [])) [], none⟩,
  ⟨(some 4), .mv (.t 111), none⟩])
 .ret)))))))))))
theorem f_law5_RecordsTables : aFun Try.prog 12 = some (112, [.tmp 4], c_law5_RecordsTables) := by kernel_rfl
/-- law5.RecordsBlocks -/
def c_law5_RecordsBlocks : ACode := (.seq (.reg [⟨(some 2), .box 238 (.t 0), none⟩,
  ⟨(some 4), .mv (.c (.bool false)), none⟩])
 (.seq (.seq (.reg [⟨(some 9), .mv (.t 1), none⟩,
  ⟨(some 10), .len false (.t 9), none⟩,
  ⟨(some 11), .bin .gtr (.t 10) (.c (.int .i64 (100))), none⟩])
 (.cond (.t 11)
   (.seq (.reg [⟨(some 12), .call (.c (.fn (.func 42) [])) [], none⟩,
    ⟨(some 4), .mv (.t 12), none⟩])
   .ret)
   .skip))
 (.seq (.reg [⟨(some 13), .ld true 238 (.t 2), none⟩,
  ⟨(some 14), .call (.c (.fn (.func 61) [])) [(.t 13)], none⟩,
  ⟨(some 5), .mv (.t 14), none⟩])
 (.seq (.reg [⟨(some 16), .mv (.t 5), none⟩,
  ⟨(some 17), .app 1 1 (.c (.sl 0 true [])) (.t 16), none⟩,
  ⟨(some 18), .mv (.t 1), none⟩,
  ⟨(some 19), .app 1 1 (.t 17) (.t 18), none⟩,
  ⟨(some 20), .call (.c (.fn (.func 62) [])) [(.t 19)], none⟩,
  ⟨(some 15), .mv (.t 20), none⟩,
  ⟨(some 21), .ext 0 (.t 15), none⟩,
  ⟨(some 22), .ext 1 (.t 15), none⟩,
  ⟨(some 23), .ext 2 (.t 15), none⟩,
  ⟨(some 6), .new (blkC blk0), none⟩,
  ⟨none, .sto 238 (.t 6) (.t 21), none⟩,
  ⟨(some 7), .mv (.t 22), none⟩,
  ⟨(some 8), .mv (.t 23), none⟩])
 (.seq (.dreg [(⟨(some 24), .mv (.t 5), none⟩, 0),
  (⟨(some 25), .b2s (.t 24), none⟩, 1),
  (⟨(some 26), .ld true 238 (.t 2), none⟩, 0),
  (⟨(some 27), .call (.c (.fn (.func 63) [])) [(.c (.sl 0 true [])), (.t 26)], none⟩, 4),
  (⟨(some 28), .b2s (.t 27), none⟩, 12),
  (⟨(some 29), .eqv 1 false (.t 25) (.t 28), none⟩, 31),
  (⟨(some 30), .mv (.t 29), none⟩, 63),
  (⟨(some 31), .mv (.t 8), (some (30, true))⟩, 127),
  (⟨(some 32), .bin .eql (.t 31) (.c (.int .i64 (0))), (some (30, true))⟩, 255),
  (⟨(some 33), .pick (.t 30) (.t 32) (.c (.bool false)), none⟩, 511),
  (⟨(some 34), .mv (.t 33), none⟩, 1023),
  (⟨(some 35), .mv (.t 7), (some (34, true))⟩, 2047),
  (⟨(some 36), .mv (.t 5), (some (34, true))⟩, 2047),
  (⟨(some 37), .len false (.t 36), (some (34, true))⟩, 6143),
  (⟨(some 38), .bin .eql (.t 35) (.t 37), (some (34, true))⟩, 16383),
  (⟨(some 39), .pick (.t 34) (.t 38) (.c (.bool false)), none⟩, 32767),
  (⟨(some 40), .mv (.t 39), none⟩, 65535),
  (⟨(some 41), .ld true 238 (.t 6), (some (40, true))⟩, 131071),
  (⟨(some 42), .ld true 238 (.t 2), (some (40, true))⟩, 131071),
  (⟨(some 43), .eqa [(237, 1), (1, 0)] false (.t 41) (.t 42), (some (40, true))⟩, 524287),
  (⟨(some 44), .pick (.t 40) (.t 43) (.c (.bool false)), none⟩, 1048575),
  (⟨(some 45), .mv (.t 44), none⟩, 2097151),
  (⟨(some 46), .call (.c (.fn (.func 42) [])) [], (some (45, true))⟩, 4194303),
  (⟨(some 47), .pick (.t 45) (.t 46) (.c (.bool false)), none⟩, 8388607),
  (⟨(some 4), .mv (.t 47), none⟩, 16777215)])
 .ret)))))
theorem f_law5_RecordsBlocks : aFun Try.prog 13 = some (48, [.tmp 4], c_law5_RecordsBlocks) := by kernel_rfl
/-- law5.RecordsDecodes -/
def c_law5_RecordsDecodes : ACode := (.seq (.reg [⟨(some 2), .mv (.c (.bool false)), none⟩])
 (.seq (.seq (.reg [⟨(some 21), .mv (.t 0), none⟩,
  ⟨(some 22), .len false (.t 21), none⟩,
  ⟨(some 23), .bin .gtr (.t 22) (.c (.int .i64 (2000))), none⟩])
 (.cond (.t 23)
   (.seq (.reg [⟨(some 24), .call (.c (.fn (.func 42) [])) [], none⟩,
    ⟨(some 2), .mv (.t 24), none⟩])
   .ret)
   .skip))
 (.seq (.reg [⟨(some 26), .mv (.t 0), none⟩,
  ⟨(some 27), .call (.c (.fn (.func 62) [])) [(.t 26)], none⟩,
  ⟨(some 25), .mv (.t 27), none⟩,
  ⟨(some 28), .ext 0 (.t 25), none⟩,
  ⟨(some 29), .ext 1 (.t 25), none⟩,
  ⟨(some 30), .ext 2 (.t 25), none⟩,
  ⟨(some 3), .new (blkC blk0), none⟩,
  ⟨none, .sto 238 (.t 3) (.t 28), none⟩,
  ⟨(some 4), .mv (.t 29), none⟩,
  ⟨(some 5), .mv (.t 30), none⟩])
 (.seq (.reg [⟨(some 32), .mv (.t 0), none⟩,
  ⟨(some 33), .call (.c (.fn (.func 64) [])) [(.t 32)], none⟩,
  ⟨(some 31), .mv (.t 33), none⟩,
  ⟨(some 34), .ext 0 (.t 31), none⟩,
  ⟨(some 35), .ext 1 (.t 31), none⟩,
  ⟨(some 36), .ext 2 (.t 31), none⟩,
  ⟨(some 6), .new (blkC blk0), none⟩,
  ⟨none, .sto 238 (.t 6) (.t 34), none⟩,
  ⟨(some 7), .mv (.t 35), none⟩,
  ⟨(some 8), .mv (.t 36), none⟩])
 (.seq (.seq (.reg [⟨(some 37), .ld true 238 (.t 3), none⟩,
  ⟨(some 38), .ld true 238 (.t 6), none⟩,
  ⟨(some 39), .eqa [(237, 1), (1, 0)] true (.t 37) (.t 38), none⟩,
  ⟨(some 40), .mv (.t 39), none⟩,
  ⟨(some 41), .mv (.t 4), (some (40, false))⟩,
  ⟨(some 42), .mv (.t 7), (some (40, false))⟩,
  ⟨(some 43), .bin .neq (.t 41) (.t 42), (some (40, false))⟩,
  ⟨(some 44), .pick (.t 40) (.c (.bool true)) (.t 43), none⟩,
  ⟨(some 45), .mv (.t 44), none⟩,
  ⟨(some 46), .mv (.t 5), (some (45, false))⟩,
  ⟨(some 47), .mv (.t 8), (some (45, false))⟩,
  ⟨(some 48), .bin .neq (.t 46) (.t 47), (some (45, false))⟩,
  ⟨(some 49), .pick (.t 45) (.c (.bool true)) (.t 48), none⟩])
 (.cond (.t 49)
   (.seq (.reg [⟨(some 2), .mv (.c (.bool false)), none⟩])
   .ret)
   .skip))
 (.seq (.reg [⟨(some 51), .mv (.t 0), none⟩,
  ⟨(some 52), .call (.c (.fn (.func 48) [])) [(.t 51)], none⟩,
  ⟨(some 50), .mv (.t 52), none⟩,
  ⟨(some 53), .ext 0 (.t 50), none⟩,
  ⟨(some 54), .ext 1 (.t 50), none⟩,
  ⟨(some 55), .ext 2 (.t 50), none⟩,
  ⟨(some 9), .new (attC att0), none⟩,
  ⟨none, .sto 67 (.t 9) (.t 53), none⟩,
  ⟨(some 10), .mv (.t 54), none⟩,
  ⟨(some 11), .mv (.t 55), none⟩])
 (.seq (.reg [⟨(some 57), .mv (.t 0), none⟩,
  ⟨(some 58), .call (.c (.fn (.func 65) [])) [(.t 57)], none⟩,
  ⟨(some 56), .mv (.t 58), none⟩,
  ⟨(some 59), .ext 0 (.t 56), none⟩,
  ⟨(some 60), .ext 1 (.t 56), none⟩,
  ⟨(some 61), .ext 2 (.t 56), none⟩,
  ⟨(some 12), .new (attC att0), none⟩,
  ⟨none, .sto 67 (.t 12) (.t 59), none⟩,
  ⟨(some 13), .mv (.t 60), none⟩,
  ⟨(some 14), .mv (.t 61), none⟩])
 (.seq (.seq (.reg [⟨(some 62), .ld true 67 (.t 9), none⟩,
  ⟨(some 63), .ld true 67 (.t 12), none⟩,
  ⟨(some 64), .call (.c (.fn (.func 49) [])) [(.t 62), (.t 63)], none⟩,
  ⟨(some 65), .un .not (.t 64), none⟩,
  ⟨(some 66), .mv (.t 65), none⟩,
  ⟨(some 67), .mv (.t 10), (some (66, false))⟩,
  ⟨(some 68), .mv (.t 13), (some (66, false))⟩,
  ⟨(some 69), .bin .neq (.t 67) (.t 68), (some (66, false))⟩,
  ⟨(some 70), .pick (.t 66) (.c (.bool true)) (.t 69), none⟩,
  ⟨(some 71), .mv (.t 70), none⟩,
  ⟨(some 72), .mv (.t 11), (some (71, false))⟩,
  ⟨(some 73), .mv (.t 14), (some (71, false))⟩,
  ⟨(some 74), .bin .neq (.t 72) (.t 73), (some (71, false))⟩,
  ⟨(some 75), .pick (.t 71) (.c (.bool true)) (.t 74), none⟩])
 (.cond (.t 75)
   (.seq (.reg [⟨(some 2), .mv (.c (.bool false)), none⟩])
   .ret)
   .skip))
 (.seq (.reg [⟨(some 77), .mv (.t 0), none⟩,
  ⟨(some 78), .call (.c (.fn (.func 53) [])) [(.t 77)], none⟩,
  ⟨(some 76), .mv (.t 78), none⟩,
  ⟨(some 79), .ext 0 (.t 76), none⟩,
  ⟨(some 80), .ext 1 (.t 76), none⟩,
  ⟨(some 81), .ext 2 (.t 76), none⟩,
  ⟨(some 15), .new (slgC slg0), none⟩,
  ⟨none, .sto 70 (.t 15) (.t 79), none⟩,
  ⟨(some 10), .mv (.t 80), none⟩,
  ⟨(some 11), .mv (.t 81), none⟩])
 (.seq (.reg [⟨(some 83), .mv (.t 0), none⟩,
  ⟨(some 84), .call (.c (.fn (.func 66) [])) [(.t 83)], none⟩,
  ⟨(some 82), .mv (.t 84), none⟩,
  ⟨(some 85), .ext 0 (.t 82), none⟩,
  ⟨(some 86), .ext 1 (.t 82), none⟩,
  ⟨(some 87), .ext 2 (.t 82), none⟩,
  ⟨(some 16), .new (slgC slg0), none⟩,
  ⟨none, .sto 70 (.t 16) (.t 85), none⟩,
  ⟨(some 13), .mv (.t 86), none⟩,
  ⟨(some 14), .mv (.t 87), none⟩])
 (.seq (.seq (.reg [⟨(some 88), .ld true 70 (.t 15), none⟩,
  ⟨(some 89), .ld true 70 (.t 16), none⟩,
  ⟨(some 90), .call (.c (.fn (.func 54) [])) [(.t 88), (.t 89)], none⟩,
  ⟨(some 91), .un .not (.t 90), none⟩,
  ⟨(some 92), .mv (.t 91), none⟩,
  ⟨(some 93), .mv (.t 10), (some (92, false))⟩,
  ⟨(some 94), .mv (.t 13), (some (92, false))⟩,
  ⟨(some 95), .bin .neq (.t 93) (.t 94), (some (92, false))⟩,
  ⟨(some 96), .pick (.t 92) (.c (.bool true)) (.t 95), none⟩,
  ⟨(some 97), .mv (.t 96), none⟩,
  ⟨(some 98), .mv (.t 11), (some (97, false))⟩,
  ⟨(some 99), .mv (.t 14), (some (97, false))⟩,
  ⟨(some 100), .bin .neq (.t 98) (.t 99), (some (97, false))⟩,
  ⟨(some 101), .pick (.t 97) (.c (.bool true)) (.t 100), none⟩])
 (.cond (.t 101)
   (.seq (.reg [⟨(some 2), .mv (.c (.bool false)), none⟩])
   .ret)
   .skip))
 (.seq (.reg [⟨(some 103), .mv (.t 0), none⟩,
  ⟨(some 104), .call (.c (.fn (.func 58) [])) [(.t 103)], none⟩,
  ⟨(some 102), .mv (.t 104), none⟩,
  ⟨(some 105), .ext 0 (.t 102), none⟩,
  ⟨(some 106), .ext 1 (.t 102), none⟩,
  ⟨(some 107), .ext 2 (.t 102), none⟩,
  ⟨(some 17), .new (tabC tab0), none⟩,
  ⟨none, .sto 34 (.t 17) (.t 105), none⟩,
  ⟨(some 10), .mv (.t 106), none⟩,
  ⟨(some 11), .mv (.t 107), none⟩])
 (.seq (.reg [⟨(some 109), .mv (.t 0), none⟩,
  ⟨(some 110), .call (.c (.fn (.func 67) [])) [(.t 109)], none⟩,
  ⟨(some 108), .mv (.t 110), none⟩,
  ⟨(some 111), .ext 0 (.t 108), none⟩,
  ⟨(some 112), .ext 1 (.t 108), none⟩,
  ⟨(some 113), .ext 2 (.t 108), none⟩,
  ⟨(some 18), .new (tabC tab0), none⟩,
  ⟨none, .sto 34 (.t 18) (.t 111), none⟩,
  ⟨(some 13), .mv (.t 112), none⟩,
  ⟨(some 14), .mv (.t 113), none⟩])
 (.seq (.seq (.reg [⟨(some 114), .ld true 34 (.t 17), none⟩,
  ⟨(some 115), .ld true 34 (.t 18), none⟩,
  ⟨(some 116), .call (.c (.fn (.func 59) [])) [(.t 114), (.t 115)], none⟩,
  ⟨(some 117), .un .not (.t 116), none⟩,
  ⟨(some 118), .mv (.t 117), none⟩,
  ⟨(some 119), .mv (.t 10), (some (118, false))⟩,
  ⟨(some 120), .mv (.t 13), (some (118, false))⟩,
  ⟨(some 121), .bin .neq (.t 119) (.t 120), (some (118, false))⟩,
  ⟨(some 122), .pick (.t 118) (.c (.bool true)) (.t 121), none⟩,
  ⟨(some 123), .mv (.t 122), none⟩,
  ⟨(some 124), .mv (.t 11), (some (123, false))⟩,
  ⟨(some 125), .mv (.t 14), (some (123, false))⟩,
  ⟨(some 126), .bin .neq (.t 124) (.t 125), (some (123, false))⟩,
  ⟨(some 127), .pick (.t 123) (.c (.bool true)) (.t 126), none⟩])
 (.cond (.t 127)
   (.seq (.reg [⟨(some 2), .mv (.c (.bool false)), none⟩])
   .ret)
   .skip))
 (.seq (.reg [⟨(some 129), .mv (.t 0), none⟩,
  ⟨(some 130), .call (.c (.fn (.func 60) [])) [(.t 129)], none⟩,
  ⟨(some 128), .mv (.t 130), none⟩,
  ⟨(some 131), .ext 0 (.t 128), none⟩,
  ⟨(some 132), .ext 1 (.t 128), none⟩,
  ⟨(some 133), .ext 2 (.t 128), none⟩,
  ⟨(some 19), .new (vdtC vdt0), none⟩,
  ⟨none, .sto 34 (.t 19) (.t 131), none⟩,
  ⟨(some 10), .mv (.t 132), none⟩,
  ⟨(some 11), .mv (.t 133), none⟩])
 (.seq (.reg [⟨(some 135), .mv (.t 0), none⟩,
  ⟨(some 136), .call (.c (.fn (.func 68) [])) [(.t 135)], none⟩,
  ⟨(some 134), .mv (.t 136), none⟩,
  ⟨(some 137), .ext 0 (.t 134), none⟩,
  ⟨(some 138), .ext 1 (.t 134), none⟩,
  ⟨(some 139), .ext 2 (.t 134), none⟩,
  ⟨(some 20), .new (vdtC vdt0), none⟩,
  ⟨none, .sto 34 (.t 20) (.t 137), none⟩,
  ⟨(some 13), .mv (.t 138), none⟩,
  ⟨(some 14), .mv (.t 139), none⟩])
 (.seq (.reg [⟨(some 140), .ld true 34 (.t 19), none⟩,
  ⟨(some 141), .ld true 34 (.t 20), none⟩,
  ⟨(some 142), .eqa [(34, 1)] false (.t 140) (.t 141), none⟩,
  ⟨(some 143), .mv (.t 142), none⟩,
  ⟨(some 144), .mv (.t 10), (some (143, true))⟩,
  ⟨(some 145), .mv (.t 13), (some (143, true))⟩,
  ⟨(some 146), .bin .eql (.t 144) (.t 145), (some (143, true))⟩,
  ⟨(some 147), .pick (.t 143) (.t 146) (.c (.bool false)), none⟩,
  ⟨(some 148), .mv (.t 147), none⟩,
  ⟨(some 149), .mv (.t 11), (some (148, true))⟩,
  ⟨(some 150), .mv (.t 14), (some (148, true))⟩,
  ⟨(some 151), .bin .eql (.t 149) (.t 150), (some (148, true))⟩,
  ⟨(some 152), .pick (.t 148) (.t 151) (.c (.bool false)), none⟩,
  ⟨(some 153), .mv (.t 152), none⟩,
  ⟨(some 154), .call (.c (.fn (.func 42) [])) [], (some (153, true))⟩,
  ⟨(some 155), .pick (.t 153) (.t 154) (.c (.bool false)), none⟩,
  ⟨(some 2), .mv (.t 155), none⟩])
 .ret)))))))))))))))))
theorem f_law5_RecordsDecodes : aFun Try.prog 14 = some (156, [.tmp 2], c_law5_RecordsDecodes) := by kernel_rfl
/-- law5.awake -/
def c_law5_awake : ACode := (.seq (.reg [⟨(some 0), .mv (.c (.bool false)), none⟩])
 (.seq (.reg [⟨(some 7), .bldS 1 3 [(.int .i64 (0))] [(0, (.c (.int .i64 (3)))), (1, (.c (.int .i64 (4)))), (2, (.c (.int .i64 (9))))], none⟩,
  ⟨(some 8), .bld (attC att0) [(0, 1, (.c (.int .u64 (7)))), (66, 1, (.t 7))], none⟩,
  ⟨(some 9), .call (.c (.fn (.func 46) [])) [(.t 8)], none⟩,
  ⟨(some 6), .mv (.t 9), none⟩,
  ⟨(some 10), .ext 0 (.t 6), none⟩,
  ⟨(some 11), .ext 1 (.t 6), none⟩,
  ⟨(some 1), .mv (.t 10), none⟩,
  ⟨(some 2), .mv (.t 11), none⟩])
 (.seq (.reg [⟨(some 13), .mv (.t 1), none⟩,
  ⟨(some 14), .call (.c (.fn (.func 48) [])) [(.t 13)], none⟩,
  ⟨(some 12), .mv (.t 14), none⟩,
  ⟨(some 15), .ext 0 (.t 12), none⟩,
  ⟨(some 16), .ext 1 (.t 12), none⟩,
  ⟨(some 17), .ext 2 (.t 12), none⟩,
  ⟨(some 3), .new (attC att0), none⟩,
  ⟨none, .sto 67 (.t 3) (.t 15), none⟩,
  ⟨(some 4), .mv (.t 16), none⟩,
  ⟨(some 5), .mv (.t 17), none⟩])
 (.seq (.dreg [(⟨(some 18), .mv (.t 2), none⟩, 0),
  (⟨(some 19), .bin .eql (.t 18) (.c (.int .i64 (0))), none⟩, 1),
  (⟨(some 20), .mv (.t 19), none⟩, 3),
  (⟨(some 21), .mv (.t 5), (some (20, true))⟩, 7),
  (⟨(some 22), .bin .eql (.t 21) (.c (.int .i64 (0))), (some (20, true))⟩, 15),
  (⟨(some 23), .pick (.t 20) (.t 22) (.c (.bool false)), none⟩, 31),
  (⟨(some 24), .mv (.t 23), none⟩, 63),
  (⟨(some 25), .mv (.t 4), (some (24, true))⟩, 127),
  (⟨(some 26), .mv (.t 1), (some (24, true))⟩, 127),
  (⟨(some 27), .len false (.t 26), (some (24, true))⟩, 383),
  (⟨(some 28), .bin .eql (.t 25) (.t 27), (some (24, true))⟩, 1023),
  (⟨(some 29), .pick (.t 24) (.t 28) (.c (.bool false)), none⟩, 2047),
  (⟨(some 30), .mv (.t 29), none⟩, 4095),
  (⟨(some 31), .mv (.t 1), (some (30, true))⟩, 8191),
  (⟨(some 32), .len false (.t 31), (some (30, true))⟩, 16383),
  (⟨(some 33), .bin .gtr (.t 32) (.c (.int .i64 (4))), (some (30, true))⟩, 32767),
  (⟨(some 34), .pick (.t 30) (.t 33) (.c (.bool false)), none⟩, 65535),
  (⟨(some 35), .mv (.t 34), none⟩, 131071),
  (⟨(some 36), .mv (.t 1), (some (35, true))⟩, 262143),
  (⟨(some 37), .mv (.t 1), (some (35, true))⟩, 262143),
  (⟨(some 38), .len false (.t 37), (some (35, true))⟩, 786431),
  (⟨(some 39), .bin .sub (.t 38) (.c (.int .i64 (4))), (some (35, true))⟩, 1835007),
  (⟨(some 40), .sli 1 (.t 36) (some (.t 39)) none none, (some (35, true))⟩, 4194303),
  (⟨(some 41), .b2s (.t 40), (some (35, true))⟩, 8388607),
  (⟨(some 42), .bldS 1 4 [(.int .u8 (0))] [(0, (.c (.int .u8 (3)))), (1, (.c (.int .u8 (3)))), (2, (.c (.int .u8 (0)))), (3, (.c (.int .u8 (4))))], (some (35, true))⟩, 262143),
  (⟨(some 43), .b2s (.t 42), (some (35, true))⟩, 17039359),
  (⟨(some 44), .eqv 1 false (.t 41) (.t 43), (some (35, true))⟩, 67108863),
  (⟨(some 45), .pick (.t 35) (.t 44) (.c (.bool false)), none⟩, 134217727),
  (⟨(some 46), .mv (.t 45), none⟩, 268435455),
  (⟨(some 47), .fldA 0 (.t 3), (some (46, true))⟩, 536870911),
  (⟨(some 48), .ld false 1 (.t 47), (some (46, true))⟩, 1073741823),
  (⟨(some 49), .bin .eql (.t 48) (.c (.int .u64 (7))), (some (46, true))⟩, 2147483647),
  (⟨(some 50), .pick (.t 46) (.t 49) (.c (.bool false)), none⟩, 4294967295),
  (⟨(some 51), .mv (.t 50), none⟩, 8589934591),
  (⟨(some 52), .fldA 66 (.t 3), (some (51, true))⟩, 17179869183),
  (⟨(some 53), .ld false 1 (.t 52), (some (51, true))⟩, 34359738367),
  (⟨(some 54), .len false (.t 53), (some (51, true))⟩, 68719476735),
  (⟨(some 55), .bin .eql (.t 54) (.c (.int .i64 (3))), (some (51, true))⟩, 137438953471),
  (⟨(some 56), .pick (.t 51) (.t 55) (.c (.bool false)), none⟩, 274877906943),
  (⟨(some 57), .mv (.t 56), none⟩, 549755813887),
  (⟨(some 58), .fldA 66 (.t 3), (some (57, true))⟩, 1099511627775),
  (⟨(some 59), .ld false 1 (.t 58), (some (57, true))⟩, 2199023255551),
  (⟨(some 60), .idxS 1 (.t 59) (.c (.int .i64 (2))), (some (57, true))⟩, 4398046511103),
  (⟨(some 61), .ld false 1 (.t 60), (some (57, true))⟩, 8796093022207),
  (⟨(some 62), .bin .eql (.t 61) (.c (.int .i64 (9))), (some (57, true))⟩, 17592186044415),
  (⟨(some 63), .pick (.t 57) (.t 62) (.c (.bool false)), none⟩, 35184372088831),
  (⟨(some 0), .mv (.t 63), none⟩, 70368744177663)])
 .ret))))
theorem f_law5_awake : aFun Try.prog 42 = some (64, [.tmp 0], c_law5_awake) := by kernel_rfl
/-- records.ValidateList -/
def c_records_ValidateList : ACode := (.seq (.reg [⟨(some 4), .mv (.c (.int .i64 (0))), none⟩])
 (.seq (.seq (.reg [⟨(some 7), .mv (.t 0), none⟩,
  ⟨(some 8), .len false (.t 7), none⟩,
  ⟨(some 9), .bin .eql (.t 8) (.c (.int .i64 (0))), none⟩])
 (.cond (.t 9)
   (.seq (.reg [⟨(some 4), .mv (.c (.int .i64 (2))), none⟩])
   .ret)
   .skip))
 (.seq (.seq (.reg [⟨(some 10), .mv (.t 0), none⟩,
  ⟨(some 11), .len false (.t 10), none⟩,
  ⟨(some 12), .mv (.c (.int .i64 (0))), none⟩])
 (.block 0 (.loop (.seq (.reg [⟨(some 13), .bin .lss (.t 12) (.t 11), none⟩])
 (.seq (.cond (.t 13)
   .skip
   (.exit 0))
 (.seq (.block 1 (.seq (.reg [⟨(some 14), .mv (.t 12), none⟩,
  ⟨(some 15), .idxS 1 (.t 10) (.t 12), none⟩,
  ⟨(some 16), .ld false 1 (.t 15), none⟩,
  ⟨(some 5), .mv (.t 14), none⟩,
  ⟨(some 6), .mv (.t 16), none⟩])
 (.seq (.seq (.reg [⟨(some 17), .mv (.t 6), none⟩,
  ⟨(some 18), .bin .lss (.t 17) (.c (.int .i64 (0))), none⟩,
  ⟨(some 19), .mv (.t 18), none⟩,
  ⟨(some 20), .mv (.t 6), (some (19, false))⟩,
  ⟨(some 21), .mv (.t 1), (some (19, false))⟩,
  ⟨(some 22), .bin .geq (.t 20) (.t 21), (some (19, false))⟩,
  ⟨(some 23), .pick (.t 19) (.c (.bool true)) (.t 22), none⟩])
 (.cond (.t 23)
   (.seq (.reg [⟨(some 4), .mv (.c (.int .i64 (3))), none⟩])
   .ret)
   .skip))
 (.seq (.reg [⟨(some 24), .mv (.t 5), none⟩,
  ⟨(some 25), .bin .gtr (.t 24) (.c (.int .i64 (0))), none⟩,
  ⟨(some 26), .mv (.t 25), none⟩,
  ⟨(some 27), .mv (.t 6), (some (26, true))⟩,
  ⟨(some 28), .mv (.t 0), (some (26, true))⟩,
  ⟨(some 29), .mv (.t 5), (some (26, true))⟩,
  ⟨(some 30), .bin .sub (.t 29) (.c (.int .i64 (1))), (some (26, true))⟩,
  ⟨(some 31), .idxS 1 (.t 28) (.t 30), (some (26, true))⟩,
  ⟨(some 32), .ld false 1 (.t 31), (some (26, true))⟩,
  ⟨(some 33), .bin .leq (.t 27) (.t 32), (some (26, true))⟩,
  ⟨(some 34), .pick (.t 26) (.t 33) (.c (.bool false)), none⟩])
 (.cond (.t 34)
   (.seq (.reg [⟨(some 4), .mv (.c (.int .i64 (8))), none⟩])
   .ret)
   .skip)))))
 (.reg [⟨(some 35), .bin .add (.t 12) (.c (.int .i64 (1))), none⟩,
  ⟨(some 12), .mv (.t 35), none⟩])))))))
 (.seq (.reg [⟨(some 4), .mv (.c (.int .i64 (0))), none⟩])
 .ret))))
theorem f_records_ValidateList : aFun Try.prog 43 = some (36, [.tmp 4], c_records_ValidateList) := by kernel_rfl
/-- ref4.ValidateList -/
def c_ref4_ValidateList : ACode := (.seq (.reg [⟨(some 4), .mv (.c (.int .i64 (0))), none⟩])
 (.seq (.seq (.reg [⟨(some 6), .mv (.t 0), none⟩,
  ⟨(some 7), .len false (.t 6), none⟩,
  ⟨(some 8), .bin .eql (.t 7) (.c (.int .i64 (0))), none⟩])
 (.cond (.t 8)
   (.seq (.reg [⟨(some 4), .mv (.c (.int .i64 (2))), none⟩])
   .ret)
   .skip))
 (.seq (.seq (.reg [⟨(some 5), .mv (.c (.int .i64 (0))), none⟩])
 (.block 0 (.loop (.seq (.seq (.reg [⟨(some 9), .mv (.t 5), none⟩,
  ⟨(some 10), .mv (.t 0), none⟩,
  ⟨(some 11), .len false (.t 10), none⟩,
  ⟨(some 12), .bin .lss (.t 9) (.t 11), none⟩])
 (.cond (.t 12)
   .skip
   (.exit 0)))
 (.seq (.block 1 (.seq (.seq (.reg [⟨(some 15), .mv (.t 0), none⟩,
  ⟨(some 16), .mv (.t 5), none⟩,
  ⟨(some 17), .idxS 1 (.t 15) (.t 16), none⟩,
  ⟨(some 18), .ld false 1 (.t 17), none⟩,
  ⟨(some 19), .bin .lss (.t 18) (.c (.int .i64 (0))), none⟩,
  ⟨(some 20), .mv (.t 19), none⟩,
  ⟨(some 21), .mv (.t 0), (some (20, false))⟩,
  ⟨(some 22), .mv (.t 5), (some (20, false))⟩,
  ⟨(some 23), .idxS 1 (.t 21) (.t 22), (some (20, false))⟩,
  ⟨(some 24), .ld false 1 (.t 23), (some (20, false))⟩,
  ⟨(some 25), .mv (.t 1), (some (20, false))⟩,
  ⟨(some 26), .bin .geq (.t 24) (.t 25), (some (20, false))⟩,
  ⟨(some 27), .pick (.t 20) (.c (.bool true)) (.t 26), none⟩])
 (.cond (.t 27)
   (.seq (.reg [⟨(some 4), .mv (.c (.int .i64 (3))), none⟩])
   .ret)
   .skip))
 (.seq (.dreg [(⟨(some 28), .mv (.t 5), none⟩, 0),
  (⟨(some 29), .bin .gtr (.t 28) (.c (.int .i64 (0))), none⟩, 1),
  (⟨(some 30), .mv (.t 29), none⟩, 3),
  (⟨(some 31), .mv (.t 0), (some (30, true))⟩, 7),
  (⟨(some 32), .mv (.t 5), (some (30, true))⟩, 7),
  (⟨(some 33), .idxS 1 (.t 31) (.t 32), (some (30, true))⟩, 31),
  (⟨(some 34), .ld false 1 (.t 33), (some (30, true))⟩, 63),
  (⟨(some 35), .mv (.t 0), (some (30, true))⟩, 7),
  (⟨(some 36), .mv (.t 5), (some (30, true))⟩, 7),
  (⟨(some 37), .bin .sub (.t 36) (.c (.int .i64 (1))), (some (30, true))⟩, 263),
  (⟨(some 38), .idxS 1 (.t 35) (.t 37), (some (30, true))⟩, 903),
  (⟨(some 39), .ld false 1 (.t 38), (some (30, true))⟩, 1927),
  (⟨(some 40), .bin .leq (.t 34) (.t 39), (some (30, true))⟩, 4095),
  (⟨(some 41), .pick (.t 30) (.t 40) (.c (.bool false)), none⟩, 8191)])
 (.cond (.t 41)
   (.seq (.reg [⟨(some 4), .mv (.c (.int .i64 (8))), none⟩])
   .ret)
   .skip))))
 (.reg [⟨(some 13), .mv (.t 5), none⟩,
  ⟨(some 14), .bin .add (.t 13) (.c (.int .i64 (1))), none⟩,
  ⟨(some 5), .mv (.t 14), none⟩]))))))
 (.seq (.reg [⟨(some 4), .mv (.c (.int .i64 (0))), none⟩])
 .ret))))
theorem f_ref4_ValidateList : aFun Try.prog 44 = some (42, [.tmp 4], c_ref4_ValidateList) := by kernel_rfl
/-- law5.small -/
def c_law5_small : ACode := (.seq (.reg [⟨(some 4), .mv (.c (.bool false)), none⟩])
 (.seq (.reg [⟨(some 5), .mv (.t 0), none⟩,
  ⟨(some 6), .len false (.t 5), none⟩,
  ⟨(some 7), .bin .leq (.t 6) (.c (.int .i64 (300))), none⟩,
  ⟨(some 8), .mv (.t 7), none⟩,
  ⟨(some 9), .mv (.t 1), (some (8, true))⟩,
  ⟨(some 10), .len false (.t 9), (some (8, true))⟩,
  ⟨(some 11), .bin .leq (.t 10) (.c (.int .i64 (300))), (some (8, true))⟩,
  ⟨(some 12), .pick (.t 8) (.t 11) (.c (.bool false)), none⟩,
  ⟨(some 4), .mv (.t 12), none⟩])
 .ret))
theorem f_law5_small : aFun Try.prog 45 = some (13, [.tmp 4], c_law5_small) := by kernel_rfl
/-- records.EncodeAttestation -/
def c_records_EncodeAttestation : ACode := (.seq (.reg [⟨(some 1), .box 67 (.t 0), none⟩,
  ⟨(some 2), .mv (.c (.sl 0 true [])), none⟩,
  ⟨(some 3), .mv (.c (.int .i64 (0))), none⟩])
 (.seq (.seq (.reg [⟨(some 6), .fldA 66 (.t 1), none⟩,
  ⟨(some 7), .ld false 1 (.t 6), none⟩,
  ⟨(some 8), .call (.c (.fn (.func 43) [])) [(.t 7), (.c (.int .i64 (1024)))], none⟩,
  ⟨(some 4), .mv (.t 8), none⟩])
 (.seq (.reg [⟨(some 9), .mv (.t 4), none⟩,
  ⟨(some 10), .bin .neq (.t 9) (.c (.int .i64 (0))), none⟩])
 (.cond (.t 10)
   (.seq (.reg [⟨(some 11), .mv (.t 4), none⟩,
    ⟨(some 2), .mv (.c (.sl 0 true [])), none⟩,
    ⟨(some 3), .mv (.t 11), none⟩])
   .ret)
   .skip)))
 (.seq (.dreg [(⟨(some 12), .fldA 0 (.t 1), none⟩, 0),
  (⟨(some 13), .ld false 1 (.t 12), none⟩, 1),
  (⟨(some 14), .call (.c (.fn (.func 80) [])) [(.c (.sl 0 true [])), (.t 13)], none⟩, 3),
  (⟨(some 15), .fldA 1 (.t 1), none⟩, 0),
  (⟨(some 16), .ld true 32 (.t 15), none⟩, 8),
  (⟨(some 17), .call (.c (.fn (.func 83) [])) [(.t 14), (.t 16)], none⟩, 31),
  (⟨(some 5), .mv (.t 17), none⟩, 63)])
 (.seq (.dreg [(⟨(some 18), .mv (.t 5), none⟩, 0),
  (⟨(some 19), .fldA 33 (.t 1), none⟩, 0),
  (⟨(some 20), .ld true 33 (.t 19), none⟩, 2),
  (⟨(some 21), .call (.c (.fn (.func 86) [])) [(.t 18), (.t 20)], none⟩, 7),
  (⟨(some 22), .fldA 66 (.t 1), none⟩, 0),
  (⟨(some 23), .ld false 1 (.t 22), none⟩, 16),
  (⟨(some 24), .call (.c (.fn (.func 93) [])) [(.t 21), (.t 23)], none⟩, 63),
  (⟨(some 2), .mv (.t 24), none⟩, 127),
  (⟨(some 3), .mv (.c (.int .i64 (0))), none⟩, 255)])
 .ret))))
theorem f_records_EncodeAttestation : aFun Try.prog 46 = some (25, [.tmp 2, .tmp 3], c_records_EncodeAttestation) := by kernel_rfl
/-- ref4.EncodeAttestation -/
def c_ref4_EncodeAttestation : ACode := (.seq (.reg [⟨(some 1), .box 67 (.t 0), none⟩,
  ⟨(some 2), .mv (.c (.sl 0 true [])), none⟩,
  ⟨(some 3), .mv (.c (.int .i64 (0))), none⟩])
 (.seq (.seq (.reg [⟨(some 5), .fldA 66 (.t 1), none⟩,
  ⟨(some 6), .ld false 1 (.t 5), none⟩,
  ⟨(some 7), .call (.c (.fn (.func 44) [])) [(.t 6), (.c (.int .i64 (1024)))], none⟩,
  ⟨(some 4), .mv (.t 7), none⟩])
 (.seq (.reg [⟨(some 8), .mv (.t 4), none⟩,
  ⟨(some 9), .bin .neq (.t 8) (.c (.int .i64 (0))), none⟩])
 (.cond (.t 9)
   (.seq (.reg [⟨(some 10), .mv (.t 4), none⟩,
    ⟨(some 2), .mv (.c (.sl 0 true [])), none⟩,
    ⟨(some 3), .mv (.t 10), none⟩])
   .ret)
   .skip)))
 (.seq (.dreg [(⟨(some 11), .fldA 0 (.t 1), none⟩, 0),
  (⟨(some 12), .ld false 1 (.t 11), none⟩, 1),
  (⟨(some 13), .call (.c (.fn (.func 21) [])) [(.c (.sl 0 true [])), (.t 12)], none⟩, 3),
  (⟨(some 14), .fldA 1 (.t 1), none⟩, 0),
  (⟨(some 15), .ld true 32 (.t 14), none⟩, 8),
  (⟨(some 16), .call (.c (.fn (.func 25) [])) [(.t 13), (.t 15)], none⟩, 31),
  (⟨(some 17), .fldA 33 (.t 1), none⟩, 0),
  (⟨(some 18), .ld true 33 (.t 17), none⟩, 64),
  (⟨(some 19), .call (.c (.fn (.func 29) [])) [(.t 16), (.t 18)], none⟩, 255),
  (⟨(some 20), .fldA 66 (.t 1), none⟩, 0),
  (⟨(some 21), .ld false 1 (.t 20), none⟩, 512),
  (⟨(some 22), .call (.c (.fn (.func 94) [])) [(.t 19), (.t 21)], none⟩, 2047),
  (⟨(some 2), .mv (.t 22), none⟩, 4095),
  (⟨(some 3), .mv (.c (.int .i64 (0))), none⟩, 8191)])
 .ret)))
theorem f_ref4_EncodeAttestation : aFun Try.prog 47 = some (23, [.tmp 2, .tmp 3], c_ref4_EncodeAttestation) := by kernel_rfl
/-- records.DecodeAttestation -/
def c_records_DecodeAttestation : ACode := (.seq (.reg [⟨(some 2), .new (attC att0), none⟩,
  ⟨(some 3), .mv (.c (.int .i64 (0))), none⟩,
  ⟨(some 4), .mv (.c (.int .i64 (0))), none⟩])
 (.seq (.reg [⟨(some 6), .mv (.t 0), none⟩,
  ⟨(some 7), .call (.c (.fn (.func 95) [])) [(.t 6)], none⟩,
  ⟨(some 5), .mv (.t 7), none⟩])
 (.seq (.dreg [(⟨(some 8), .mv (.t 5), none⟩, 0),
  (⟨(some 9), .call (.c (.fn (.func 96) [])) [(.t 8)], none⟩, 1),
  (⟨(some 10), .mv (.t 5), none⟩, 0),
  (⟨(some 11), .nilc (.t 10), none⟩, 4),
  (⟨(some 12), .fldA 0 (.t 11), none⟩, 12),
  (⟨(some 13), .ld false 1 (.t 12), none⟩, 28),
  (⟨(some 14), .call (.c (.fn (.func 38) [])) [(.t 13)], none⟩, 63),
  (⟨(some 15), .fldA 0 (.t 2), none⟩, 3),
  (⟨none, .sto 1 (.t 15) (.t 9), none⟩, 255),
  (⟨(some 16), .fldA 1 (.t 2), none⟩, 511),
  (⟨none, .sto 32 (.t 16) (.t 14), none⟩, 1023)])
 (.seq (.reg [⟨(some 17), .mv (.t 5), none⟩,
  ⟨(some 18), .nilc (.t 17), none⟩,
  ⟨(some 19), .fldA 0 (.t 18), none⟩,
  ⟨(some 20), .ld false 1 (.t 19), none⟩,
  ⟨(some 21), .call (.c (.fn (.func 40) [])) [(.t 20)], none⟩,
  ⟨(some 22), .fldA 33 (.t 2), none⟩,
  ⟨none, .sto 33 (.t 22) (.t 21), none⟩])
 (.seq (.reg [⟨(some 23), .mv (.t 5), none⟩,
  ⟨(some 24), .call (.c (.fn (.func 97) [])) [(.t 23)], none⟩,
  ⟨(some 25), .fldA 66 (.t 2), none⟩,
  ⟨none, .sto 1 (.t 25) (.t 24), none⟩])
 (.seq (.seq (.reg [⟨(some 27), .mv (.t 5), none⟩,
  ⟨(some 28), .fldA 66 (.t 2), none⟩,
  ⟨(some 29), .ld false 1 (.t 28), none⟩,
  ⟨(some 30), .bldS 1 1 [(.sl 0 true [])] [(0, (.t 29))], none⟩,
  ⟨(some 31), .call (.c (.fn (.func 98) [])) [(.t 27), (.t 30)], none⟩,
  ⟨(some 26), .mv (.t 31), none⟩,
  ⟨(some 32), .ext 0 (.t 26), none⟩,
  ⟨(some 33), .ext 1 (.t 26), none⟩,
  ⟨(some 3), .mv (.t 32), none⟩,
  ⟨(some 4), .mv (.t 33), none⟩])
 (.seq (.reg [⟨(some 34), .mv (.t 4), none⟩,
  ⟨(some 35), .bin .neq (.t 34) (.c (.int .i64 (0))), none⟩])
 (.cond (.t 35)
   (.seq (.reg [⟨(some 36), .bld (attC att0) [], none⟩,
    ⟨(some 37), .mv (.t 4), none⟩,
    ⟨none, .sto 67 (.t 2) (.t 36), none⟩,
    ⟨(some 3), .mv (.c (.int .i64 (0))), none⟩,
    ⟨(some 4), .mv (.t 37), none⟩])
   .ret)
   .skip)))
 (.seq (.reg [⟨(some 38), .ld true 67 (.t 2), none⟩,
  ⟨(some 39), .mv (.t 3), none⟩,
  ⟨none, .sto 67 (.t 2) (.t 38), none⟩,
  ⟨(some 3), .mv (.t 39), none⟩,
  ⟨(some 4), .mv (.c (.int .i64 (0))), none⟩])
 .ret)))))))
theorem f_records_DecodeAttestation : aFun Try.prog 48 = some (40, [.cell 2 true 67, .tmp 3, .tmp 4], c_records_DecodeAttestation) := by kernel_rfl
/-- ref4.SameAttestation -/
def c_ref4_SameAttestation : ACode := (.seq (.reg [⟨(some 2), .box 67 (.t 0), none⟩,
  ⟨(some 3), .box 67 (.t 1), none⟩,
  ⟨(some 4), .mv (.c (.bool false)), none⟩])
 (.seq (.reg [⟨(some 5), .fldA 0 (.t 2), none⟩,
  ⟨(some 6), .ld false 1 (.t 5), none⟩,
  ⟨(some 7), .fldA 0 (.t 3), none⟩,
  ⟨(some 8), .ld false 1 (.t 7), none⟩,
  ⟨(some 9), .bin .eql (.t 6) (.t 8), none⟩,
  ⟨(some 10), .mv (.t 9), none⟩,
  ⟨(some 11), .fldA 1 (.t 2), (some (10, true))⟩,
  ⟨(some 12), .ld true 32 (.t 11), (some (10, true))⟩,
  ⟨(some 13), .fldA 1 (.t 3), (some (10, true))⟩,
  ⟨(some 14), .ld true 32 (.t 13), (some (10, true))⟩,
  ⟨(some 15), .eqa [(32, 1)] false (.t 12) (.t 14), (some (10, true))⟩,
  ⟨(some 16), .pick (.t 10) (.t 15) (.c (.bool false)), none⟩,
  ⟨(some 17), .mv (.t 16), none⟩,
  ⟨(some 18), .fldA 33 (.t 2), (some (17, true))⟩,
  ⟨(some 19), .ld true 33 (.t 18), (some (17, true))⟩,
  ⟨(some 20), .fldA 33 (.t 3), (some (17, true))⟩,
  ⟨(some 21), .ld true 33 (.t 20), (some (17, true))⟩,
  ⟨(some 22), .eqa [(33, 1)] false (.t 19) (.t 21), (some (17, true))⟩,
  ⟨(some 23), .pick (.t 17) (.t 22) (.c (.bool false)), none⟩,
  ⟨(some 24), .mv (.t 23), none⟩,
  ⟨(some 25), .fldA 66 (.t 2), (some (24, true))⟩,
  ⟨(some 26), .ld false 1 (.t 25), (some (24, true))⟩,
  ⟨(some 27), .fldA 66 (.t 3), (some (24, true))⟩,
  ⟨(some 28), .ld false 1 (.t 27), (some (24, true))⟩,
  ⟨(some 29), .call (.c (.fn (.func 99) [])) [(.t 26), (.t 28)], (some (24, true))⟩,
  ⟨(some 30), .pick (.t 24) (.t 29) (.c (.bool false)), none⟩,
  ⟨(some 4), .mv (.t 30), none⟩])
 .ret))
theorem f_ref4_SameAttestation : aFun Try.prog 49 = some (31, [.tmp 4], c_ref4_SameAttestation) := by kernel_rfl
/-- records.EncodeTable -/
def c_records_EncodeTable : ACode := (.seq (.reg [⟨(some 1), .box 34 (.t 0), none⟩,
  ⟨(some 2), .mv (.c (.sl 0 true [])), none⟩,
  ⟨(some 3), .mv (.c (.int .i64 (0))), none⟩])
 (.seq (.seq (.reg [⟨(some 7), .fldA 33 (.t 1), none⟩,
  ⟨(some 8), .ld false 1 (.t 7), none⟩,
  ⟨(some 9), .len false (.t 8), none⟩,
  ⟨(some 10), .bin .gtr (.t 9) (.c (.int .i64 (1024))), none⟩])
 (.cond (.t 10)
   (.seq (.reg [⟨(some 2), .mv (.c (.sl 0 true [])), none⟩,
    ⟨(some 3), .mv (.c (.int .i64 (3))), none⟩])
   .ret)
   .skip))
 (.seq (.dreg [(⟨(some 11), .fldA 0 (.t 1), none⟩, 0),
  (⟨(some 12), .ld true 33 (.t 11), none⟩, 1),
  (⟨(some 13), .call (.c (.fn (.func 86) [])) [(.c (.sl 0 true [])), (.t 12)], none⟩, 3),
  (⟨(some 14), .fldA 33 (.t 1), none⟩, 0),
  (⟨(some 15), .ld false 1 (.t 14), none⟩, 8),
  (⟨(some 16), .len false (.t 15), none⟩, 24),
  (⟨(some 17), .cvt .u64 (.t 16), none⟩, 56),
  (⟨(some 18), .call (.c (.fn (.func 80) [])) [(.t 13), (.t 17)], none⟩, 127),
  (⟨(some 4), .mv (.t 18), none⟩, 255)])
 (.seq (.seq (.reg [⟨(some 19), .fldA 33 (.t 1), none⟩,
  ⟨(some 20), .ld false 1 (.t 19), none⟩,
  ⟨(some 21), .len false (.t 20), none⟩,
  ⟨(some 22), .mv (.c (.int .i64 (0))), none⟩])
 (.block 0 (.loop (.seq (.reg [⟨(some 23), .bin .lss (.t 22) (.t 21), none⟩])
 (.seq (.cond (.t 23)
   .skip
   (.exit 0))
 (.seq (.block 1 (.seq (.reg [⟨(some 24), .idxS 1 (.t 20) (.t 22), none⟩,
  ⟨(some 25), .ld false 1 (.t 24), none⟩,
  ⟨(some 6), .mv (.t 25), none⟩])
 (.reg [⟨(some 26), .mv (.t 4), none⟩,
  ⟨(some 27), .mv (.t 6), none⟩,
  ⟨(some 28), .call (.c (.fn (.func 80) [])) [(.t 26), (.t 27)], none⟩,
  ⟨(some 4), .mv (.t 28), none⟩])))
 (.reg [⟨(some 29), .bin .add (.t 22) (.c (.int .i64 (1))), none⟩,
  ⟨(some 22), .mv (.t 29), none⟩])))))))
 (.seq (.reg [⟨(some 30), .mv (.t 4), none⟩,
  ⟨(some 2), .mv (.t 30), none⟩,
  ⟨(some 3), .mv (.c (.int .i64 (0))), none⟩])
 .ret)))))
theorem f_records_EncodeTable : aFun Try.prog 50 = some (31, [.tmp 2, .tmp 3], c_records_EncodeTable) := by kernel_rfl
/-- records.EncodeSlashing -/
def c_records_EncodeSlashing : ACode := (.seq (.reg [⟨(some 1), .box 70 (.t 0), none⟩,
  ⟨(some 2), .mv (.c (.sl 0 true [])), none⟩,
  ⟨(some 3), .mv (.c (.int .i64 (0))), none⟩])
 (.seq (.reg [⟨(some 4), .mv (.c (.sl 0 true [])), none⟩])
 (.seq (.seq (.reg [⟨(some 8), .fldA 0 (.t 1), none⟩,
  ⟨(some 9), .ld true 35 (.t 8), none⟩,
  ⟨(some 10), .fldA 35 (.t 1), none⟩,
  ⟨(some 11), .ld true 35 (.t 10), none⟩,
  ⟨(some 12), .bldS 35 2 (clmC clm0) [(0, (.t 9)), (1, (.t 11))], none⟩,
  ⟨(some 13), .len false (.t 12), none⟩,
  ⟨(some 14), .mv (.c (.int .i64 (0))), none⟩])
 (.block 0 (.loop (.seq (.reg [⟨(some 15), .bin .lss (.t 14) (.t 13), none⟩])
 (.seq (.cond (.t 15)
   .skip
   (.exit 0))
 (.seq (.block 1 (.seq (.reg [⟨(some 16), .idxS 35 (.t 12) (.t 14), none⟩,
  ⟨(some 17), .ld true 35 (.t 16), none⟩,
  ⟨(some 6), .new (clmC clm0), none⟩,
  ⟨none, .sto 35 (.t 6) (.t 17), none⟩])
 (.seq (.seq (.reg [⟨(some 18), .fldA 34 (.t 6), none⟩,
  ⟨(some 19), .ld false 1 (.t 18), none⟩,
  ⟨(some 20), .call (.c (.fn (.func 43) [])) [(.t 19), (.c (.int .i64 (1024)))], none⟩,
  ⟨(some 7), .mv (.t 20), none⟩])
 (.seq (.reg [⟨(some 21), .mv (.t 7), none⟩,
  ⟨(some 22), .bin .neq (.t 21) (.c (.int .i64 (0))), none⟩])
 (.cond (.t 22)
   (.seq (.reg [⟨(some 23), .mv (.t 7), none⟩,
    ⟨(some 2), .mv (.c (.sl 0 true [])), none⟩,
    ⟨(some 3), .mv (.t 23), none⟩])
   .ret)
   .skip)))
 (.seq (.dreg [(⟨(some 24), .mv (.t 4), none⟩, 0),
  (⟨(some 25), .fldA 0 (.t 6), none⟩, 0),
  (⟨(some 26), .ld false 1 (.t 25), none⟩, 2),
  (⟨(some 27), .call (.c (.fn (.func 80) [])) [(.t 24), (.t 26)], none⟩, 7),
  (⟨(some 28), .fldA 1 (.t 6), none⟩, 0),
  (⟨(some 29), .ld false 1 (.t 28), none⟩, 16),
  (⟨(some 30), .call (.c (.fn (.func 80) [])) [(.t 27), (.t 29)], none⟩, 63),
  (⟨(some 31), .fldA 2 (.t 6), none⟩, 0),
  (⟨(some 32), .ld true 32 (.t 31), none⟩, 128),
  (⟨(some 33), .call (.c (.fn (.func 83) [])) [(.t 30), (.t 32)], none⟩, 511),
  (⟨(some 4), .mv (.t 33), none⟩, 1023)])
 (.reg [⟨(some 34), .mv (.t 4), none⟩,
  ⟨(some 35), .fldA 34 (.t 6), none⟩,
  ⟨(some 36), .ld false 1 (.t 35), none⟩,
  ⟨(some 37), .call (.c (.fn (.func 93) [])) [(.t 34), (.t 36)], none⟩,
  ⟨(some 4), .mv (.t 37), none⟩])))))
 (.reg [⟨(some 38), .bin .add (.t 14) (.c (.int .i64 (1))), none⟩,
  ⟨(some 14), .mv (.t 38), none⟩])))))))
 (.seq (.reg [⟨(some 39), .mv (.t 4), none⟩,
  ⟨(some 2), .mv (.t 39), none⟩,
  ⟨(some 3), .mv (.c (.int .i64 (0))), none⟩])
 .ret))))
theorem f_records_EncodeSlashing : aFun Try.prog 51 = some (40, [.tmp 2, .tmp 3], c_records_EncodeSlashing) := by kernel_rfl
/-- ref4.EncodeSlashing -/
def c_ref4_EncodeSlashing : ACode := (.seq (.reg [⟨(some 1), .box 70 (.t 0), none⟩,
  ⟨(some 2), .mv (.c (.sl 0 true [])), none⟩,
  ⟨(some 3), .mv (.c (.int .i64 (0))), none⟩])
 (.seq (.seq (.reg [⟨(some 6), .fldA 0 (.t 1), none⟩,
  ⟨(some 7), .fldA 34 (.t 6), none⟩,
  ⟨(some 8), .ld false 1 (.t 7), none⟩,
  ⟨(some 9), .call (.c (.fn (.func 44) [])) [(.t 8), (.c (.int .i64 (1024)))], none⟩,
  ⟨(some 4), .mv (.t 9), none⟩])
 (.seq (.reg [⟨(some 10), .mv (.t 4), none⟩,
  ⟨(some 11), .bin .neq (.t 10) (.c (.int .i64 (0))), none⟩])
 (.cond (.t 11)
   (.seq (.reg [⟨(some 12), .mv (.t 4), none⟩,
    ⟨(some 2), .mv (.c (.sl 0 true [])), none⟩,
    ⟨(some 3), .mv (.t 12), none⟩])
   .ret)
   .skip)))
 (.seq (.seq (.reg [⟨(some 13), .fldA 35 (.t 1), none⟩,
  ⟨(some 14), .fldA 34 (.t 13), none⟩,
  ⟨(some 15), .ld false 1 (.t 14), none⟩,
  ⟨(some 16), .call (.c (.fn (.func 44) [])) [(.t 15), (.c (.int .i64 (1024)))], none⟩,
  ⟨(some 5), .mv (.t 16), none⟩])
 (.seq (.reg [⟨(some 17), .mv (.t 5), none⟩,
  ⟨(some 18), .bin .neq (.t 17) (.c (.int .i64 (0))), none⟩])
 (.cond (.t 18)
   (.seq (.reg [⟨(some 19), .mv (.t 5), none⟩,
    ⟨(some 2), .mv (.c (.sl 0 true [])), none⟩,
    ⟨(some 3), .mv (.t 19), none⟩])
   .ret)
   .skip)))
 (.seq (.dreg [(⟨(some 20), .fldA 0 (.t 1), none⟩, 0),
  (⟨(some 21), .ld true 35 (.t 20), none⟩, 1),
  (⟨(some 22), .call (.c (.fn (.func 100) [])) [(.c (.sl 0 true [])), (.t 21)], none⟩, 3),
  (⟨(some 23), .fldA 35 (.t 1), none⟩, 0),
  (⟨(some 24), .ld true 35 (.t 23), none⟩, 8),
  (⟨(some 25), .call (.c (.fn (.func 100) [])) [(.t 22), (.t 24)], none⟩, 31),
  (⟨(some 2), .mv (.t 25), none⟩, 63),
  (⟨(some 3), .mv (.c (.int .i64 (0))), none⟩, 127)])
 .ret))))
theorem f_ref4_EncodeSlashing : aFun Try.prog 52 = some (26, [.tmp 2, .tmp 3], c_ref4_EncodeSlashing) := by kernel_rfl
/-- records.DecodeSlashing -/
def c_records_DecodeSlashing : ACode := (.seq (.reg [⟨(some 2), .new (slgC slg0), none⟩,
  ⟨(some 3), .mv (.c (.int .i64 (0))), none⟩,
  ⟨(some 4), .mv (.c (.int .i64 (0))), none⟩])
 (.seq (.reg [⟨(some 6), .mv (.t 0), none⟩,
  ⟨(some 7), .call (.c (.fn (.func 95) [])) [(.t 6)], none⟩,
  ⟨(some 5), .mv (.t 7), none⟩])
 (.seq (.reg [⟨(some 8), .mv (.t 5), none⟩,
  ⟨(some 9), .call (.c (.fn (.func 101) [])) [(.t 8)], none⟩,
  ⟨(some 10), .fldA 0 (.t 2), none⟩,
  ⟨none, .sto 35 (.t 10) (.t 9), none⟩])
 (.seq (.reg [⟨(some 11), .mv (.t 5), none⟩,
  ⟨(some 12), .call (.c (.fn (.func 101) [])) [(.t 11)], none⟩,
  ⟨(some 13), .fldA 35 (.t 2), none⟩,
  ⟨none, .sto 35 (.t 13) (.t 12), none⟩])
 (.seq (.seq (.reg [⟨(some 15), .mv (.t 5), none⟩,
  ⟨(some 16), .fldA 0 (.t 2), none⟩,
  ⟨(some 17), .fldA 34 (.t 16), none⟩,
  ⟨(some 18), .ld false 1 (.t 17), none⟩,
  ⟨(some 19), .fldA 35 (.t 2), none⟩,
  ⟨(some 20), .fldA 34 (.t 19), none⟩,
  ⟨(some 21), .ld false 1 (.t 20), none⟩,
  ⟨(some 22), .bldS 1 2 [(.sl 0 true [])] [(0, (.t 18)), (1, (.t 21))], none⟩,
  ⟨(some 23), .call (.c (.fn (.func 98) [])) [(.t 15), (.t 22)], none⟩,
  ⟨(some 14), .mv (.t 23), none⟩,
  ⟨(some 24), .ext 0 (.t 14), none⟩,
  ⟨(some 25), .ext 1 (.t 14), none⟩,
  ⟨(some 3), .mv (.t 24), none⟩,
  ⟨(some 4), .mv (.t 25), none⟩])
 (.seq (.reg [⟨(some 26), .mv (.t 4), none⟩,
  ⟨(some 27), .bin .neq (.t 26) (.c (.int .i64 (0))), none⟩])
 (.cond (.t 27)
   (.seq (.reg [⟨(some 28), .bld (slgC slg0) [], none⟩,
    ⟨(some 29), .mv (.t 4), none⟩,
    ⟨none, .sto 70 (.t 2) (.t 28), none⟩,
    ⟨(some 3), .mv (.c (.int .i64 (0))), none⟩,
    ⟨(some 4), .mv (.t 29), none⟩])
   .ret)
   .skip)))
 (.seq (.reg [⟨(some 30), .ld true 70 (.t 2), none⟩,
  ⟨(some 31), .mv (.t 3), none⟩,
  ⟨none, .sto 70 (.t 2) (.t 30), none⟩,
  ⟨(some 3), .mv (.t 31), none⟩,
  ⟨(some 4), .mv (.c (.int .i64 (0))), none⟩])
 .ret))))))
theorem f_records_DecodeSlashing : aFun Try.prog 53 = some (32, [.cell 2 true 70, .tmp 3, .tmp 4], c_records_DecodeSlashing) := by kernel_rfl
/-- ref4.SameSlashing -/
def c_ref4_SameSlashing : ACode := (.seq (.reg [⟨(some 2), .box 70 (.t 0), none⟩,
  ⟨(some 3), .box 70 (.t 1), none⟩,
  ⟨(some 4), .mv (.c (.bool false)), none⟩])
 (.seq (.reg [⟨(some 5), .fldA 0 (.t 2), none⟩,
  ⟨(some 6), .ld true 35 (.t 5), none⟩,
  ⟨(some 7), .fldA 0 (.t 3), none⟩,
  ⟨(some 8), .ld true 35 (.t 7), none⟩,
  ⟨(some 9), .call (.c (.fn (.func 102) [])) [(.t 6), (.t 8)], none⟩,
  ⟨(some 10), .mv (.t 9), none⟩,
  ⟨(some 11), .fldA 35 (.t 2), (some (10, true))⟩,
  ⟨(some 12), .ld true 35 (.t 11), (some (10, true))⟩,
  ⟨(some 13), .fldA 35 (.t 3), (some (10, true))⟩,
  ⟨(some 14), .ld true 35 (.t 13), (some (10, true))⟩,
  ⟨(some 15), .call (.c (.fn (.func 102) [])) [(.t 12), (.t 14)], (some (10, true))⟩,
  ⟨(some 16), .pick (.t 10) (.t 15) (.c (.bool false)), none⟩,
  ⟨(some 4), .mv (.t 16), none⟩])
 .ret))
theorem f_ref4_SameSlashing : aFun Try.prog 54 = some (17, [.tmp 4], c_ref4_SameSlashing) := by kernel_rfl
/-- ref4.EncodeTable -/
def c_ref4_EncodeTable : ACode := (.seq (.reg [⟨(some 1), .box 34 (.t 0), none⟩,
  ⟨(some 2), .mv (.c (.sl 0 true [])), none⟩,
  ⟨(some 3), .mv (.c (.int .i64 (0))), none⟩])
 (.seq (.seq (.reg [⟨(some 6), .fldA 33 (.t 1), none⟩,
  ⟨(some 7), .ld false 1 (.t 6), none⟩,
  ⟨(some 8), .len false (.t 7), none⟩,
  ⟨(some 9), .bin .gtr (.t 8) (.c (.int .i64 (1024))), none⟩])
 (.cond (.t 9)
   (.seq (.reg [⟨(some 2), .mv (.c (.sl 0 true [])), none⟩,
    ⟨(some 3), .mv (.c (.int .i64 (3))), none⟩])
   .ret)
   .skip))
 (.seq (.dreg [(⟨(some 10), .fldA 0 (.t 1), none⟩, 0),
  (⟨(some 11), .fldA 0 (.t 10), none⟩, 1),
  (⟨(some 12), .ld false 1 (.t 11), none⟩, 3),
  (⟨(some 13), .call (.c (.fn (.func 21) [])) [(.c (.sl 0 true [])), (.t 12)], none⟩, 7),
  (⟨(some 14), .fldA 0 (.t 1), none⟩, 0),
  (⟨(some 15), .fldA 1 (.t 14), none⟩, 16),
  (⟨(some 16), .ld true 32 (.t 15), none⟩, 48),
  (⟨(some 17), .call (.c (.fn (.func 25) [])) [(.t 13), (.t 16)], none⟩, 127),
  (⟨(some 18), .fldA 33 (.t 1), none⟩, 0),
  (⟨(some 19), .ld false 1 (.t 18), none⟩, 256),
  (⟨(some 20), .len false (.t 19), none⟩, 768),
  (⟨(some 21), .cvt .u64 (.t 20), none⟩, 1792),
  (⟨(some 22), .call (.c (.fn (.func 21) [])) [(.t 17), (.t 21)], none⟩, 4095),
  (⟨(some 4), .mv (.t 22), none⟩, 8191)])
 (.seq (.seq (.reg [⟨(some 5), .mv (.c (.int .i64 (0))), none⟩])
 (.block 0 (.loop (.seq (.seq (.reg [⟨(some 23), .mv (.t 5), none⟩,
  ⟨(some 24), .fldA 33 (.t 1), none⟩,
  ⟨(some 25), .ld false 1 (.t 24), none⟩,
  ⟨(some 26), .len false (.t 25), none⟩,
  ⟨(some 27), .bin .lss (.t 23) (.t 26), none⟩])
 (.cond (.t 27)
   .skip
   (.exit 0)))
 (.seq (.block 1 (.reg [⟨(some 30), .mv (.t 4), none⟩,
  ⟨(some 31), .fldA 33 (.t 1), none⟩,
  ⟨(some 32), .ld false 1 (.t 31), none⟩,
  ⟨(some 33), .mv (.t 5), none⟩,
  ⟨(some 34), .idxS 1 (.t 32) (.t 33), none⟩,
  ⟨(some 35), .ld false 1 (.t 34), none⟩,
  ⟨(some 36), .call (.c (.fn (.func 21) [])) [(.t 30), (.t 35)], none⟩,
  ⟨(some 4), .mv (.t 36), none⟩]))
 (.reg [⟨(some 28), .mv (.t 5), none⟩,
  ⟨(some 29), .bin .add (.t 28) (.c (.int .i64 (1))), none⟩,
  ⟨(some 5), .mv (.t 29), none⟩]))))))
 (.seq (.reg [⟨(some 37), .mv (.t 4), none⟩,
  ⟨(some 2), .mv (.t 37), none⟩,
  ⟨(some 3), .mv (.c (.int .i64 (0))), none⟩])
 .ret)))))
theorem f_ref4_EncodeTable : aFun Try.prog 55 = some (38, [.tmp 2, .tmp 3], c_ref4_EncodeTable) := by kernel_rfl
/-- records.EncodeVerdict -/
def c_records_EncodeVerdict : ACode := (.seq (.reg [⟨(some 1), .box 34 (.t 0), none⟩,
  ⟨(some 2), .mv (.c (.sl 0 true [])), none⟩,
  ⟨(some 3), .mv (.c (.int .i64 (0))), none⟩])
 (.seq (.seq (.reg [⟨(some 4), .fldA 1 (.t 1), none⟩,
  ⟨(some 5), .ld false 1 (.t 4), none⟩,
  ⟨(some 6), .bin .lss (.t 5) (.c (.int .i64 (1))), none⟩,
  ⟨(some 7), .mv (.t 6), none⟩,
  ⟨(some 8), .fldA 1 (.t 1), (some (7, false))⟩,
  ⟨(some 9), .ld false 1 (.t 8), (some (7, false))⟩,
  ⟨(some 10), .bin .gtr (.t 9) (.c (.int .i64 (4))), (some (7, false))⟩,
  ⟨(some 11), .pick (.t 7) (.c (.bool true)) (.t 10), none⟩])
 (.cond (.t 11)
   (.seq (.reg [⟨(some 2), .mv (.c (.sl 0 true [])), none⟩,
    ⟨(some 3), .mv (.c (.int .i64 (3))), none⟩])
   .ret)
   .skip))
 (.seq (.dreg [(⟨(some 12), .fldA 0 (.t 1), none⟩, 0),
  (⟨(some 13), .fldA 0 (.t 12), none⟩, 1),
  (⟨(some 14), .ld false 1 (.t 13), none⟩, 3),
  (⟨(some 15), .call (.c (.fn (.func 80) [])) [(.c (.sl 0 true [])), (.t 14)], none⟩, 7),
  (⟨(some 16), .fldA 1 (.t 1), none⟩, 0),
  (⟨(some 17), .ld false 1 (.t 16), none⟩, 16),
  (⟨(some 18), .cvt .u64 (.t 17), none⟩, 48),
  (⟨(some 19), .call (.c (.fn (.func 80) [])) [(.t 15), (.t 18)], none⟩, 127),
  (⟨(some 20), .fldA 2 (.t 1), none⟩, 0),
  (⟨(some 21), .ld true 32 (.t 20), none⟩, 256),
  (⟨(some 22), .call (.c (.fn (.func 83) [])) [(.t 19), (.t 21)], none⟩, 1023),
  (⟨(some 2), .mv (.t 22), none⟩, 2047),
  (⟨(some 3), .mv (.c (.int .i64 (0))), none⟩, 4095)])
 .ret)))
theorem f_records_EncodeVerdict : aFun Try.prog 56 = some (23, [.tmp 2, .tmp 3], c_records_EncodeVerdict) := by kernel_rfl
/-- ref4.EncodeVerdict -/
def c_ref4_EncodeVerdict : ACode := (.seq (.reg [⟨(some 1), .box 34 (.t 0), none⟩,
  ⟨(some 2), .mv (.c (.sl 0 true [])), none⟩,
  ⟨(some 3), .mv (.c (.int .i64 (0))), none⟩])
 (.seq (.seq (.reg [⟨(some 4), .fldA 1 (.t 1), none⟩,
  ⟨(some 5), .ld false 1 (.t 4), none⟩,
  ⟨(some 6), .bin .lss (.t 5) (.c (.int .i64 (1))), none⟩,
  ⟨(some 7), .mv (.t 6), none⟩,
  ⟨(some 8), .fldA 1 (.t 1), (some (7, false))⟩,
  ⟨(some 9), .ld false 1 (.t 8), (some (7, false))⟩,
  ⟨(some 10), .bin .gtr (.t 9) (.c (.int .i64 (4))), (some (7, false))⟩,
  ⟨(some 11), .pick (.t 7) (.c (.bool true)) (.t 10), none⟩])
 (.cond (.t 11)
   (.seq (.reg [⟨(some 2), .mv (.c (.sl 0 true [])), none⟩,
    ⟨(some 3), .mv (.c (.int .i64 (3))), none⟩])
   .ret)
   .skip))
 (.seq (.dreg [(⟨(some 12), .fldA 0 (.t 1), none⟩, 0),
  (⟨(some 13), .fldA 0 (.t 12), none⟩, 1),
  (⟨(some 14), .ld false 1 (.t 13), none⟩, 3),
  (⟨(some 15), .call (.c (.fn (.func 21) [])) [(.c (.sl 0 true [])), (.t 14)], none⟩, 7),
  (⟨(some 16), .fldA 1 (.t 1), none⟩, 0),
  (⟨(some 17), .ld false 1 (.t 16), none⟩, 16),
  (⟨(some 18), .cvt .u64 (.t 17), none⟩, 48),
  (⟨(some 19), .call (.c (.fn (.func 21) [])) [(.t 15), (.t 18)], none⟩, 127),
  (⟨(some 20), .fldA 2 (.t 1), none⟩, 0),
  (⟨(some 21), .ld true 32 (.t 20), none⟩, 256),
  (⟨(some 22), .call (.c (.fn (.func 25) [])) [(.t 19), (.t 21)], none⟩, 1023),
  (⟨(some 2), .mv (.t 22), none⟩, 2047),
  (⟨(some 3), .mv (.c (.int .i64 (0))), none⟩, 4095)])
 .ret)))
theorem f_ref4_EncodeVerdict : aFun Try.prog 57 = some (23, [.tmp 2, .tmp 3], c_ref4_EncodeVerdict) := by kernel_rfl
/-- records.DecodeTable -/
def c_records_DecodeTable : ACode := (.seq (.reg [⟨(some 2), .new (tabC tab0), none⟩,
  ⟨(some 3), .mv (.c (.int .i64 (0))), none⟩,
  ⟨(some 4), .mv (.c (.int .i64 (0))), none⟩])
 (.seq (.reg [⟨(some 8), .mv (.t 0), none⟩,
  ⟨(some 9), .call (.c (.fn (.func 95) [])) [(.t 8)], none⟩,
  ⟨(some 5), .mv (.t 9), none⟩])
 (.seq (.dreg [(⟨(some 10), .mv (.t 5), none⟩, 0),
  (⟨(some 11), .call (.c (.fn (.func 96) [])) [(.t 10)], none⟩, 1),
  (⟨(some 12), .mv (.t 5), none⟩, 0),
  (⟨(some 13), .nilc (.t 12), none⟩, 4),
  (⟨(some 14), .fldA 0 (.t 13), none⟩, 12),
  (⟨(some 15), .ld false 1 (.t 14), none⟩, 28),
  (⟨(some 16), .call (.c (.fn (.func 38) [])) [(.t 15)], none⟩, 63),
  (⟨(some 17), .fldA 0 (.t 2), none⟩, 3),
  (⟨(some 18), .fldA 0 (.t 17), none⟩, 131),
  (⟨none, .sto 1 (.t 18) (.t 11), none⟩, 511),
  (⟨(some 19), .fldA 0 (.t 2), none⟩, 1023),
  (⟨(some 20), .fldA 1 (.t 19), none⟩, 2047),
  (⟨none, .sto 32 (.t 20) (.t 16), none⟩, 4095)])
 (.seq (.reg [⟨(some 21), .mv (.t 5), none⟩,
  ⟨(some 22), .nilc (.t 21), none⟩,
  ⟨(some 23), .fldA 0 (.t 22), none⟩,
  ⟨(some 24), .ld false 1 (.t 23), none⟩,
  ⟨(some 25), .call (.c (.fn (.func 36) [])) [(.t 24), (.c (.int .u64 (1024)))], none⟩,
  ⟨(some 6), .mv (.t 25), none⟩])
 (.seq (.seq (.reg [⟨(some 7), .mv (.c (.int .u64 (0))), none⟩])
 (.block 0 (.loop (.seq (.seq (.reg [⟨(some 26), .mv (.t 7), none⟩,
  ⟨(some 27), .mv (.t 6), none⟩,
  ⟨(some 28), .bin .lss (.t 26) (.t 27), none⟩,
  ⟨(some 29), .mv (.t 28), none⟩,
  ⟨(some 30), .mv (.t 5), (some (29, true))⟩,
  ⟨(some 31), .nilc (.t 30), (some (29, true))⟩,
  ⟨(some 32), .fldA 0 (.t 31), (some (29, true))⟩,
  ⟨(some 33), .ld false 1 (.t 32), (some (29, true))⟩,
  ⟨(some 34), .call (.c (.fn (.func 34) [])) [(.t 33)], (some (29, true))⟩,
  ⟨(some 35), .bin .eql (.t 34) (.c (.int .i64 (0))), (some (29, true))⟩,
  ⟨(some 36), .pick (.t 29) (.t 35) (.c (.bool false)), none⟩])
 (.cond (.t 36)
   .skip
   (.exit 0)))
 (.seq (.block 1 (.dreg [(⟨(some 39), .fldA 33 (.t 2), none⟩, 0),
  (⟨(some 40), .ld false 1 (.t 39), none⟩, 1),
  (⟨(some 41), .mv (.t 5), none⟩, 0),
  (⟨(some 42), .call (.c (.fn (.func 96) [])) [(.t 41)], none⟩, 4),
  (⟨(some 43), .bldS 1 1 [(.int .u64 (0))] [(0, (.t 42))], none⟩, 12),
  (⟨(some 44), .app 1 8 (.t 40) (.t 43), none⟩, 31),
  (⟨(some 45), .fldA 33 (.t 2), none⟩, 63),
  (⟨none, .sto 1 (.t 45) (.t 44), none⟩, 127)]))
 (.reg [⟨(some 37), .mv (.t 7), none⟩,
  ⟨(some 38), .bin .add (.t 37) (.c (.int .u64 (1))), none⟩,
  ⟨(some 7), .mv (.t 38), none⟩]))))))
 (.seq (.seq (.reg [⟨(some 47), .mv (.t 5), none⟩,
  ⟨(some 48), .call (.c (.fn (.func 98) [])) [(.t 47), (.c (.sl 0 true []))], none⟩,
  ⟨(some 46), .mv (.t 48), none⟩,
  ⟨(some 49), .ext 0 (.t 46), none⟩,
  ⟨(some 50), .ext 1 (.t 46), none⟩,
  ⟨(some 3), .mv (.t 49), none⟩,
  ⟨(some 4), .mv (.t 50), none⟩])
 (.seq (.reg [⟨(some 51), .mv (.t 4), none⟩,
  ⟨(some 52), .bin .neq (.t 51) (.c (.int .i64 (0))), none⟩])
 (.cond (.t 52)
   (.seq (.reg [⟨(some 53), .bld (tabC tab0) [], none⟩,
    ⟨(some 54), .mv (.t 4), none⟩,
    ⟨none, .sto 34 (.t 2) (.t 53), none⟩,
    ⟨(some 3), .mv (.c (.int .i64 (0))), none⟩,
    ⟨(some 4), .mv (.t 54), none⟩])
   .ret)
   .skip)))
 (.seq (.reg [⟨(some 55), .ld true 34 (.t 2), none⟩,
  ⟨(some 56), .mv (.t 3), none⟩,
  ⟨none, .sto 34 (.t 2) (.t 55), none⟩,
  ⟨(some 3), .mv (.t 56), none⟩,
  ⟨(some 4), .mv (.c (.int .i64 (0))), none⟩])
 .ret)))))))
theorem f_records_DecodeTable : aFun Try.prog 58 = some (57, [.cell 2 true 34, .tmp 3, .tmp 4], c_records_DecodeTable) := by kernel_rfl
/-- ref4.SameTable -/
def c_ref4_SameTable : ACode := (.seq (.reg [⟨(some 2), .box 34 (.t 0), none⟩,
  ⟨(some 3), .box 34 (.t 1), none⟩,
  ⟨(some 4), .mv (.c (.bool false)), none⟩])
 (.seq (.reg [⟨(some 5), .fldA 0 (.t 2), none⟩,
  ⟨(some 6), .ld true 33 (.t 5), none⟩,
  ⟨(some 7), .fldA 0 (.t 3), none⟩,
  ⟨(some 8), .ld true 33 (.t 7), none⟩,
  ⟨(some 9), .eqa [(33, 1)] false (.t 6) (.t 8), none⟩,
  ⟨(some 10), .mv (.t 9), none⟩,
  ⟨(some 11), .fldA 33 (.t 2), (some (10, true))⟩,
  ⟨(some 12), .ld false 1 (.t 11), (some (10, true))⟩,
  ⟨(some 13), .fldA 33 (.t 3), (some (10, true))⟩,
  ⟨(some 14), .ld false 1 (.t 13), (some (10, true))⟩,
  ⟨(some 15), .call (.c (.fn (.func 103) [])) [(.t 12), (.t 14)], (some (10, true))⟩,
  ⟨(some 16), .pick (.t 10) (.t 15) (.c (.bool false)), none⟩,
  ⟨(some 4), .mv (.t 16), none⟩])
 .ret))
theorem f_ref4_SameTable : aFun Try.prog 59 = some (17, [.tmp 4], c_ref4_SameTable) := by kernel_rfl
/-- records.DecodeVerdict -/
def c_records_DecodeVerdict : ACode := (.seq (.reg [⟨(some 2), .new (vdtC vdt0), none⟩,
  ⟨(some 3), .mv (.c (.int .i64 (0))), none⟩,
  ⟨(some 4), .mv (.c (.int .i64 (0))), none⟩])
 (.seq (.reg [⟨(some 6), .mv (.t 0), none⟩,
  ⟨(some 7), .call (.c (.fn (.func 95) [])) [(.t 6)], none⟩,
  ⟨(some 5), .mv (.t 7), none⟩])
 (.seq (.reg [⟨(some 8), .mv (.t 5), none⟩,
  ⟨(some 9), .call (.c (.fn (.func 96) [])) [(.t 8)], none⟩,
  ⟨(some 10), .fldA 0 (.t 2), none⟩,
  ⟨(some 11), .fldA 0 (.t 10), none⟩,
  ⟨none, .sto 1 (.t 11) (.t 9), none⟩])
 (.seq (.reg [⟨(some 12), .mv (.t 5), none⟩,
  ⟨(some 13), .nilc (.t 12), none⟩,
  ⟨(some 14), .fldA 0 (.t 13), none⟩,
  ⟨(some 15), .ld false 1 (.t 14), none⟩,
  ⟨(some 16), .call (.c (.fn (.func 36) [])) [(.t 15), (.c (.int .u64 (4)))], none⟩,
  ⟨(some 17), .cvt .i64 (.t 16), none⟩,
  ⟨(some 18), .fldA 1 (.t 2), none⟩,
  ⟨none, .sto 1 (.t 18) (.t 17), none⟩])
 (.seq (.reg [⟨(some 19), .mv (.t 5), none⟩,
  ⟨(some 20), .nilc (.t 19), none⟩,
  ⟨(some 21), .fldA 0 (.t 20), none⟩,
  ⟨(some 22), .ld false 1 (.t 21), none⟩,
  ⟨(some 23), .call (.c (.fn (.func 38) [])) [(.t 22)], none⟩,
  ⟨(some 24), .fldA 2 (.t 2), none⟩,
  ⟨none, .sto 32 (.t 24) (.t 23), none⟩])
 (.seq (.reg [⟨(some 26), .mv (.t 5), none⟩,
  ⟨(some 27), .call (.c (.fn (.func 98) [])) [(.t 26), (.c (.sl 0 true []))], none⟩,
  ⟨(some 25), .mv (.t 27), none⟩,
  ⟨(some 28), .ext 0 (.t 25), none⟩,
  ⟨(some 29), .ext 1 (.t 25), none⟩,
  ⟨(some 3), .mv (.t 28), none⟩,
  ⟨(some 4), .mv (.t 29), none⟩])
 (.seq (.seq (.reg [⟨(some 30), .mv (.t 4), none⟩,
  ⟨(some 31), .bin .eql (.t 30) (.c (.int .i64 (0))), none⟩,
  ⟨(some 32), .mv (.t 31), none⟩,
  ⟨(some 33), .fldA 1 (.t 2), (some (32, true))⟩,
  ⟨(some 34), .ld false 1 (.t 33), (some (32, true))⟩,
  ⟨(some 35), .bin .eql (.t 34) (.c (.int .i64 (0))), (some (32, true))⟩,
  ⟨(some 36), .pick (.t 32) (.t 35) (.c (.bool false)), none⟩])
 (.cond (.t 36)
   (.reg [⟨(some 4), .mv (.c (.int .i64 (2))), none⟩])
   .skip))
 (.seq (.seq (.reg [⟨(some 37), .mv (.t 4), none⟩,
  ⟨(some 38), .bin .neq (.t 37) (.c (.int .i64 (0))), none⟩])
 (.cond (.t 38)
   (.seq (.reg [⟨(some 39), .bld (vdtC vdt0) [], none⟩,
    ⟨(some 40), .mv (.t 4), none⟩,
    ⟨none, .sto 34 (.t 2) (.t 39), none⟩,
    ⟨(some 3), .mv (.c (.int .i64 (0))), none⟩,
    ⟨(some 4), .mv (.t 40), none⟩])
   .ret)
   .skip))
 (.seq (.reg [⟨(some 41), .ld true 34 (.t 2), none⟩,
  ⟨(some 42), .mv (.t 3), none⟩,
  ⟨none, .sto 34 (.t 2) (.t 41), none⟩,
  ⟨(some 3), .mv (.t 42), none⟩,
  ⟨(some 4), .mv (.c (.int .i64 (0))), none⟩])
 .ret)))))))))
theorem f_records_DecodeVerdict : aFun Try.prog 60 = some (43, [.cell 2 true 34, .tmp 3, .tmp 4], c_records_DecodeVerdict) := by kernel_rfl
/-- records.EncodeBlock -/
def c_records_EncodeBlock : ACode := (.seq (.reg [⟨(some 1), .box 238 (.t 0), none⟩,
  ⟨(some 2), .mv (.c (.sl 0 true [])), none⟩])
 (.seq (.reg [⟨(some 8), .fldA 66 (.t 1), none⟩,
  ⟨(some 9), .ld false 1 (.t 8), none⟩,
  ⟨(some 10), .call (.c (.fn (.func 80) [])) [(.c (.sl 0 true [])), (.t 9)], none⟩,
  ⟨(some 3), .mv (.t 10), none⟩])
 (.seq (.seq (.reg [⟨(some 11), .fldA 67 (.t 1), none⟩,
  ⟨(some 12), .ld true 32 (.t 11), none⟩,
  ⟨(some 13), .fldA 99 (.t 1), none⟩,
  ⟨(some 14), .ld true 32 (.t 13), none⟩,
  ⟨(some 15), .fldA 131 (.t 1), none⟩,
  ⟨(some 16), .ld true 32 (.t 15), none⟩,
  ⟨(some 17), .bldS 32 3 (rtc rt0) [(0, (.t 12)), (1, (.t 14)), (2, (.t 16))], none⟩,
  ⟨(some 18), .len false (.t 17), none⟩,
  ⟨(some 19), .mv (.c (.int .i64 (0))), none⟩])
 (.block 0 (.loop (.seq (.reg [⟨(some 20), .bin .lss (.t 19) (.t 18), none⟩])
 (.seq (.cond (.t 20)
   .skip
   (.exit 0))
 (.seq (.block 1 (.seq (.reg [⟨(some 21), .idxS 32 (.t 17) (.t 19), none⟩,
  ⟨(some 22), .ld true 32 (.t 21), none⟩,
  ⟨(some 5), .new (rtc rt0), none⟩,
  ⟨none, .sto 32 (.t 5) (.t 22), none⟩])
 (.reg [⟨(some 23), .mv (.t 3), none⟩,
  ⟨(some 24), .ld true 32 (.t 5), none⟩,
  ⟨(some 25), .call (.c (.fn (.func 83) [])) [(.t 23), (.t 24)], none⟩,
  ⟨(some 3), .mv (.t 25), none⟩])))
 (.reg [⟨(some 26), .bin .add (.t 19) (.c (.int .i64 (1))), none⟩,
  ⟨(some 19), .mv (.t 26), none⟩])))))))
 (.seq (.dreg [(⟨(some 27), .mv (.t 3), none⟩, 0),
  (⟨(some 28), .fldA 163 (.t 1), none⟩, 0),
  (⟨(some 29), .ld true 4 (.t 28), none⟩, 2),
  (⟨(some 30), .call (.c (.fn (.func 84) [])) [(.t 27), (.t 29)], none⟩, 7),
  (⟨(some 31), .fldA 167 (.t 1), none⟩, 0),
  (⟨(some 32), .ld true 4 (.t 31), none⟩, 16),
  (⟨(some 33), .call (.c (.fn (.func 84) [])) [(.t 30), (.t 32)], none⟩, 63),
  (⟨(some 3), .mv (.t 33), none⟩, 127)])
 (.seq (.seq (.reg [⟨(some 34), .fldA 171 (.t 1), none⟩,
  ⟨(some 35), .ld true 33 (.t 34), none⟩,
  ⟨(some 36), .fldA 204 (.t 1), none⟩,
  ⟨(some 37), .ld true 33 (.t 36), none⟩,
  ⟨(some 38), .fldA 0 (.t 1), none⟩,
  ⟨(some 39), .fldA 0 (.t 38), none⟩,
  ⟨(some 40), .ld true 33 (.t 39), none⟩,
  ⟨(some 41), .fldA 0 (.t 1), none⟩,
  ⟨(some 42), .fldA 33 (.t 41), none⟩,
  ⟨(some 43), .ld true 33 (.t 42), none⟩,
  ⟨(some 44), .bldS 33 4 (cpC cp0) [(0, (.t 35)), (1, (.t 37)), (2, (.t 40)), (3, (.t 43))], none⟩,
  ⟨(some 45), .len false (.t 44), none⟩,
  ⟨(some 46), .mv (.c (.int .i64 (0))), none⟩])
 (.block 2 (.loop (.seq (.reg [⟨(some 47), .bin .lss (.t 46) (.t 45), none⟩])
 (.seq (.cond (.t 47)
   .skip
   (.exit 2))
 (.seq (.block 3 (.seq (.reg [⟨(some 48), .idxS 33 (.t 44) (.t 46), none⟩,
  ⟨(some 49), .ld true 33 (.t 48), none⟩,
  ⟨(some 7), .new (cpC cp0), none⟩,
  ⟨none, .sto 33 (.t 7) (.t 49), none⟩])
 (.reg [⟨(some 50), .mv (.t 3), none⟩,
  ⟨(some 51), .ld true 33 (.t 7), none⟩,
  ⟨(some 52), .call (.c (.fn (.func 86) [])) [(.t 50), (.t 51)], none⟩,
  ⟨(some 3), .mv (.t 52), none⟩])))
 (.reg [⟨(some 53), .bin .add (.t 46) (.c (.int .i64 (1))), none⟩,
  ⟨(some 46), .mv (.t 53), none⟩])))))))
 (.seq (.reg [⟨(some 54), .mv (.t 3), none⟩,
  ⟨(some 55), .fldA 237 (.t 1), none⟩,
  ⟨(some 56), .ld false 1 (.t 55), none⟩,
  ⟨(some 57), .call (.c (.fn (.func 82) [])) [(.t 54), (.t 56)], none⟩,
  ⟨(some 2), .mv (.t 57), none⟩])
 .ret))))))
theorem f_records_EncodeBlock : aFun Try.prog 61 = some (58, [.tmp 2], c_records_EncodeBlock) := by kernel_rfl
/-- records.DecodeBlock -/
def c_records_DecodeBlock : ACode := (.seq (.reg [⟨(some 2), .new (blkC blk0), none⟩,
  ⟨(some 3), .mv (.c (.int .i64 (0))), none⟩,
  ⟨(some 4), .mv (.c (.int .i64 (0))), none⟩])
 (.seq (.reg [⟨(some 6), .mv (.t 0), none⟩,
  ⟨(some 7), .call (.c (.fn (.func 95) [])) [(.t 6)], none⟩,
  ⟨(some 5), .mv (.t 7), none⟩])
 (.seq (.reg [⟨(some 8), .mv (.t 5), none⟩,
  ⟨(some 9), .call (.c (.fn (.func 96) [])) [(.t 8)], none⟩,
  ⟨(some 10), .fldA 66 (.t 2), none⟩,
  ⟨none, .sto 1 (.t 10) (.t 9), none⟩])
 (.seq (.dreg [(⟨(some 11), .mv (.t 5), none⟩, 0),
  (⟨(some 12), .nilc (.t 11), none⟩, 1),
  (⟨(some 13), .fldA 0 (.t 12), none⟩, 3),
  (⟨(some 14), .ld false 1 (.t 13), none⟩, 7),
  (⟨(some 15), .call (.c (.fn (.func 38) [])) [(.t 14)], none⟩, 15),
  (⟨(some 16), .mv (.t 5), none⟩, 0),
  (⟨(some 17), .nilc (.t 16), none⟩, 32),
  (⟨(some 18), .fldA 0 (.t 17), none⟩, 96),
  (⟨(some 19), .ld false 1 (.t 18), none⟩, 224),
  (⟨(some 20), .call (.c (.fn (.func 38) [])) [(.t 19)], none⟩, 511),
  (⟨(some 21), .mv (.t 5), none⟩, 0),
  (⟨(some 22), .nilc (.t 21), none⟩, 1024),
  (⟨(some 23), .fldA 0 (.t 22), none⟩, 3072),
  (⟨(some 24), .ld false 1 (.t 23), none⟩, 7168),
  (⟨(some 25), .call (.c (.fn (.func 38) [])) [(.t 24)], none⟩, 16383),
  (⟨(some 26), .fldA 67 (.t 2), none⟩, 31),
  (⟨none, .sto 32 (.t 26) (.t 15), none⟩, 65535),
  (⟨(some 27), .fldA 99 (.t 2), none⟩, 131071),
  (⟨none, .sto 32 (.t 27) (.t 20), none⟩, 262143),
  (⟨(some 28), .fldA 131 (.t 2), none⟩, 524287),
  (⟨none, .sto 32 (.t 28) (.t 25), none⟩, 1048575)])
 (.seq (.dreg [(⟨(some 29), .mv (.t 5), none⟩, 0),
  (⟨(some 30), .nilc (.t 29), none⟩, 1),
  (⟨(some 31), .fldA 0 (.t 30), none⟩, 3),
  (⟨(some 32), .ld false 1 (.t 31), none⟩, 7),
  (⟨(some 33), .call (.c (.fn (.func 39) [])) [(.t 32)], none⟩, 15),
  (⟨(some 34), .mv (.t 5), none⟩, 0),
  (⟨(some 35), .nilc (.t 34), none⟩, 32),
  (⟨(some 36), .fldA 0 (.t 35), none⟩, 96),
  (⟨(some 37), .ld false 1 (.t 36), none⟩, 224),
  (⟨(some 38), .call (.c (.fn (.func 39) [])) [(.t 37)], none⟩, 511),
  (⟨(some 39), .fldA 163 (.t 2), none⟩, 31),
  (⟨none, .sto 4 (.t 39) (.t 33), none⟩, 2047),
  (⟨(some 40), .fldA 167 (.t 2), none⟩, 4095),
  (⟨none, .sto 4 (.t 40) (.t 38), none⟩, 8191)])
 (.seq (.dreg [(⟨(some 41), .mv (.t 5), none⟩, 0),
  (⟨(some 42), .nilc (.t 41), none⟩, 1),
  (⟨(some 43), .fldA 0 (.t 42), none⟩, 3),
  (⟨(some 44), .ld false 1 (.t 43), none⟩, 7),
  (⟨(some 45), .call (.c (.fn (.func 40) [])) [(.t 44)], none⟩, 15),
  (⟨(some 46), .mv (.t 5), none⟩, 0),
  (⟨(some 47), .nilc (.t 46), none⟩, 32),
  (⟨(some 48), .fldA 0 (.t 47), none⟩, 96),
  (⟨(some 49), .ld false 1 (.t 48), none⟩, 224),
  (⟨(some 50), .call (.c (.fn (.func 40) [])) [(.t 49)], none⟩, 511),
  (⟨(some 51), .fldA 171 (.t 2), none⟩, 31),
  (⟨none, .sto 33 (.t 51) (.t 45), none⟩, 2047),
  (⟨(some 52), .fldA 204 (.t 2), none⟩, 4095),
  (⟨none, .sto 33 (.t 52) (.t 50), none⟩, 8191)])
 (.seq (.dreg [(⟨(some 53), .mv (.t 5), none⟩, 0),
  (⟨(some 54), .nilc (.t 53), none⟩, 1),
  (⟨(some 55), .fldA 0 (.t 54), none⟩, 3),
  (⟨(some 56), .ld false 1 (.t 55), none⟩, 7),
  (⟨(some 57), .call (.c (.fn (.func 40) [])) [(.t 56)], none⟩, 15),
  (⟨(some 58), .mv (.t 5), none⟩, 0),
  (⟨(some 59), .nilc (.t 58), none⟩, 32),
  (⟨(some 60), .fldA 0 (.t 59), none⟩, 96),
  (⟨(some 61), .ld false 1 (.t 60), none⟩, 224),
  (⟨(some 62), .call (.c (.fn (.func 40) [])) [(.t 61)], none⟩, 511),
  (⟨(some 63), .fldA 0 (.t 2), none⟩, 31),
  (⟨(some 64), .fldA 0 (.t 63), none⟩, 1055),
  (⟨none, .sto 33 (.t 64) (.t 57), none⟩, 4095),
  (⟨(some 65), .fldA 0 (.t 2), none⟩, 8191),
  (⟨(some 66), .fldA 33 (.t 65), none⟩, 16383),
  (⟨none, .sto 33 (.t 66) (.t 62), none⟩, 32767)])
 (.seq (.reg [⟨(some 67), .mv (.t 5), none⟩,
  ⟨(some 68), .nilc (.t 67), none⟩,
  ⟨(some 69), .fldA 0 (.t 68), none⟩,
  ⟨(some 70), .ld false 1 (.t 69), none⟩,
  ⟨(some 71), .call (.c (.fn (.func 37) [])) [(.t 70)], none⟩,
  ⟨(some 72), .fldA 237 (.t 2), none⟩,
  ⟨none, .sto 1 (.t 72) (.t 71), none⟩])
 (.seq (.seq (.reg [⟨(some 74), .mv (.t 5), none⟩,
  ⟨(some 75), .call (.c (.fn (.func 98) [])) [(.t 74), (.c (.sl 0 true []))], none⟩,
  ⟨(some 73), .mv (.t 75), none⟩,
  ⟨(some 76), .ext 0 (.t 73), none⟩,
  ⟨(some 77), .ext 1 (.t 73), none⟩,
  ⟨(some 3), .mv (.t 76), none⟩,
  ⟨(some 4), .mv (.t 77), none⟩])
 (.seq (.reg [⟨(some 78), .mv (.t 4), none⟩,
  ⟨(some 79), .bin .neq (.t 78) (.c (.int .i64 (0))), none⟩])
 (.cond (.t 79)
   (.seq (.reg [⟨(some 80), .bld (blkC blk0) [], none⟩,
    ⟨(some 81), .mv (.t 4), none⟩,
    ⟨none, .sto 238 (.t 2) (.t 80), none⟩,
    ⟨(some 3), .mv (.c (.int .i64 (0))), none⟩,
    ⟨(some 4), .mv (.t 81), none⟩])
   .ret)
   .skip)))
 (.seq (.reg [⟨(some 82), .ld true 238 (.t 2), none⟩,
  ⟨(some 83), .mv (.t 3), none⟩,
  ⟨none, .sto 238 (.t 2) (.t 82), none⟩,
  ⟨(some 3), .mv (.t 83), none⟩,
  ⟨(some 4), .mv (.c (.int .i64 (0))), none⟩])
 .ret))))))))))
theorem f_records_DecodeBlock : aFun Try.prog 62 = some (84, [.cell 2 true 238, .tmp 3, .tmp 4], c_records_DecodeBlock) := by kernel_rfl
/-- ref4.Block -/
def c_ref4_Block : ACode := (.seq (.reg [⟨(some 3), .box 238 (.t 1), none⟩,
  ⟨(some 4), .mv (.c (.sl 0 true [])), none⟩])
 (.seq (.dreg [(⟨(some 5), .mv (.t 0), none⟩, 0),
  (⟨(some 6), .fldA 66 (.t 3), none⟩, 0),
  (⟨(some 7), .ld false 1 (.t 6), none⟩, 2),
  (⟨(some 8), .call (.c (.fn (.func 21) [])) [(.t 5), (.t 7)], none⟩, 7),
  (⟨(some 9), .fldA 67 (.t 3), none⟩, 0),
  (⟨(some 10), .ld true 32 (.t 9), none⟩, 16),
  (⟨(some 11), .call (.c (.fn (.func 25) [])) [(.t 8), (.t 10)], none⟩, 63),
  (⟨(some 12), .fldA 99 (.t 3), none⟩, 0),
  (⟨(some 13), .ld true 32 (.t 12), none⟩, 128),
  (⟨(some 14), .call (.c (.fn (.func 25) [])) [(.t 11), (.t 13)], none⟩, 511),
  (⟨(some 15), .fldA 131 (.t 3), none⟩, 0),
  (⟨(some 16), .ld true 32 (.t 15), none⟩, 1024),
  (⟨(some 17), .call (.c (.fn (.func 25) [])) [(.t 14), (.t 16)], none⟩, 4095),
  (⟨(some 0), .mv (.t 17), none⟩, 8191)])
 (.seq (.dreg [(⟨(some 18), .mv (.t 0), none⟩, 0),
  (⟨(some 19), .fldA 163 (.t 3), none⟩, 0),
  (⟨(some 20), .ld true 4 (.t 19), none⟩, 2),
  (⟨(some 21), .call (.c (.fn (.func 27) [])) [(.t 18), (.t 20)], none⟩, 7),
  (⟨(some 22), .fldA 167 (.t 3), none⟩, 0),
  (⟨(some 23), .ld true 4 (.t 22), none⟩, 16),
  (⟨(some 24), .call (.c (.fn (.func 27) [])) [(.t 21), (.t 23)], none⟩, 63),
  (⟨(some 0), .mv (.t 24), none⟩, 127)])
 (.seq (.dreg [(⟨(some 25), .mv (.t 0), none⟩, 0),
  (⟨(some 26), .fldA 171 (.t 3), none⟩, 0),
  (⟨(some 27), .ld true 33 (.t 26), none⟩, 2),
  (⟨(some 28), .call (.c (.fn (.func 29) [])) [(.t 25), (.t 27)], none⟩, 7),
  (⟨(some 29), .fldA 204 (.t 3), none⟩, 0),
  (⟨(some 30), .ld true 33 (.t 29), none⟩, 16),
  (⟨(some 31), .call (.c (.fn (.func 29) [])) [(.t 28), (.t 30)], none⟩, 63),
  (⟨(some 0), .mv (.t 31), none⟩, 127)])
 (.seq (.dreg [(⟨(some 32), .mv (.t 0), none⟩, 0),
  (⟨(some 33), .fldA 0 (.t 3), none⟩, 0),
  (⟨(some 34), .fldA 0 (.t 33), none⟩, 2),
  (⟨(some 35), .ld true 33 (.t 34), none⟩, 6),
  (⟨(some 36), .call (.c (.fn (.func 29) [])) [(.t 32), (.t 35)], none⟩, 15),
  (⟨(some 37), .fldA 0 (.t 3), none⟩, 0),
  (⟨(some 38), .fldA 33 (.t 37), none⟩, 32),
  (⟨(some 39), .ld true 33 (.t 38), none⟩, 96),
  (⟨(some 40), .call (.c (.fn (.func 29) [])) [(.t 36), (.t 39)], none⟩, 255),
  (⟨(some 41), .fldA 237 (.t 3), none⟩, 0),
  (⟨(some 42), .ld false 1 (.t 41), none⟩, 512),
  (⟨(some 43), .call (.c (.fn (.func 23) [])) [(.t 40), (.t 42)], none⟩, 2047),
  (⟨(some 4), .mv (.t 43), none⟩, 4095)])
 .ret)))))
theorem f_ref4_Block : aFun Try.prog 63 = some (44, [.tmp 4], c_ref4_Block) := by kernel_rfl
/-- ref4.DecodeBlock -/
def c_ref4_DecodeBlock : ACode := (.seq (.reg [⟨(some 2), .new (blkC blk0), none⟩,
  ⟨(some 3), .mv (.c (.int .i64 (0))), none⟩,
  ⟨(some 4), .mv (.c (.int .i64 (0))), none⟩])
 (.seq (.reg [⟨(some 7), .mv (.t 0), none⟩,
  ⟨(some 8), .bld [(.sl 0 true []), (.int .i64 (0)), (.int .i64 (0))] [(0, 1, (.t 7))], none⟩,
  ⟨(some 9), .box 3 (.t 8), none⟩,
  ⟨(some 5), .mv (.t 9), none⟩])
 (.seq (.reg [⟨(some 10), .mv (.t 5), none⟩,
  ⟨(some 11), .call (.c (.fn (.func 104) [])) [(.t 10)], none⟩,
  ⟨(some 6), .new (blkC blk0), none⟩,
  ⟨none, .sto 238 (.t 6) (.t 11), none⟩])
 (.seq (.seq (.reg [⟨(some 12), .mv (.t 5), none⟩,
  ⟨(some 13), .nilc (.t 12), none⟩,
  ⟨(some 14), .fldA 2 (.t 13), none⟩,
  ⟨(some 15), .ld false 1 (.t 14), none⟩,
  ⟨(some 16), .bin .neq (.t 15) (.c (.int .i64 (0))), none⟩])
 (.cond (.t 16)
   (.seq (.dreg [(⟨(some 17), .bld (blkC blk0) [], none⟩, 0),
    (⟨(some 18), .mv (.t 5), none⟩, 0),
    (⟨(some 19), .nilc (.t 18), none⟩, 2),
    (⟨(some 20), .fldA 2 (.t 19), none⟩, 6),
    (⟨(some 21), .ld false 1 (.t 20), none⟩, 14),
    (⟨none, .sto 238 (.t 2) (.t 17), none⟩, 1),
    (⟨(some 3), .mv (.c (.int .i64 (0))), none⟩, 33),
    (⟨(some 4), .mv (.t 21), none⟩, 127)])
   .ret)
   .skip))
 (.seq (.dreg [(⟨(some 22), .ld true 238 (.t 6), none⟩, 0),
  (⟨(some 23), .mv (.t 5), none⟩, 0),
  (⟨(some 24), .nilc (.t 23), none⟩, 2),
  (⟨(some 25), .fldA 1 (.t 24), none⟩, 6),
  (⟨(some 26), .ld false 1 (.t 25), none⟩, 14),
  (⟨none, .sto 238 (.t 2) (.t 22), none⟩, 1),
  (⟨(some 3), .mv (.t 26), none⟩, 63),
  (⟨(some 4), .mv (.c (.int .i64 (0))), none⟩, 127)])
 .ret)))))
theorem f_ref4_DecodeBlock : aFun Try.prog 64 = some (27, [.cell 2 true 238, .tmp 3, .tmp 4], c_ref4_DecodeBlock) := by kernel_rfl
/-- ref4.DecodeAttestation -/
def c_ref4_DecodeAttestation : ACode := (.seq (.reg [⟨(some 2), .new (attC att0), none⟩,
  ⟨(some 3), .mv (.c (.int .i64 (0))), none⟩,
  ⟨(some 4), .mv (.c (.int .i64 (0))), none⟩])
 (.seq (.reg [⟨(some 7), .mv (.t 0), none⟩,
  ⟨(some 8), .bld [(.sl 0 true []), (.int .i64 (0)), (.int .i64 (0))] [(0, 1, (.t 7))], none⟩,
  ⟨(some 9), .box 3 (.t 8), none⟩,
  ⟨(some 5), .mv (.t 9), none⟩])
 (.seq (.reg [⟨(some 10), .mv (.t 5), none⟩,
  ⟨(some 11), .call (.c (.fn (.func 105) [])) [(.t 10), (.c (.int .u64 (18446744073709551615)))], none⟩,
  ⟨(some 12), .mv (.t 5), none⟩,
  ⟨(some 13), .call (.c (.fn (.func 106) [])) [(.t 12)], none⟩,
  ⟨(some 14), .mv (.t 5), none⟩,
  ⟨(some 15), .call (.c (.fn (.func 107) [])) [(.t 14)], none⟩,
  ⟨(some 16), .bld (attC att0) [(0, 1, (.t 11)), (1, 32, (.t 13)), (33, 33, (.t 15))], none⟩,
  ⟨(some 6), .new (attC att0), none⟩,
  ⟨none, .sto 67 (.t 6) (.t 16), none⟩])
 (.seq (.reg [⟨(some 17), .mv (.t 5), none⟩,
  ⟨(some 18), .call (.c (.fn (.func 108) [])) [(.t 17)], none⟩,
  ⟨(some 19), .fldA 66 (.t 6), none⟩,
  ⟨none, .sto 1 (.t 19) (.t 18), none⟩])
 (.seq (.seq (.reg [⟨(some 20), .mv (.t 5), none⟩,
  ⟨(some 21), .nilc (.t 20), none⟩,
  ⟨(some 22), .fldA 2 (.t 21), none⟩,
  ⟨(some 23), .ld false 1 (.t 22), none⟩,
  ⟨(some 24), .bin .neq (.t 23) (.c (.int .i64 (0))), none⟩])
 (.cond (.t 24)
   (.seq (.dreg [(⟨(some 25), .bld (attC att0) [], none⟩, 0),
    (⟨(some 26), .mv (.t 5), none⟩, 0),
    (⟨(some 27), .nilc (.t 26), none⟩, 2),
    (⟨(some 28), .fldA 2 (.t 27), none⟩, 6),
    (⟨(some 29), .ld false 1 (.t 28), none⟩, 14),
    (⟨none, .sto 67 (.t 2) (.t 25), none⟩, 1),
    (⟨(some 3), .mv (.c (.int .i64 (0))), none⟩, 33),
    (⟨(some 4), .mv (.t 29), none⟩, 127)])
   .ret)
   .skip))
 (.seq (.seq (.reg [⟨(some 30), .fldA 66 (.t 6), none⟩,
  ⟨(some 31), .ld false 1 (.t 30), none⟩,
  ⟨(some 32), .call (.c (.fn (.func 44) [])) [(.t 31), (.c (.int .i64 (1024)))], none⟩,
  ⟨(some 33), .bin .neq (.t 32) (.c (.int .i64 (0))), none⟩])
 (.cond (.t 33)
   (.seq (.reg [⟨(some 34), .bld (attC att0) [], none⟩,
    ⟨none, .sto 67 (.t 2) (.t 34), none⟩,
    ⟨(some 3), .mv (.c (.int .i64 (0))), none⟩,
    ⟨(some 4), .mv (.c (.int .i64 (2))), none⟩])
   .ret)
   .skip))
 (.seq (.dreg [(⟨(some 35), .ld true 67 (.t 6), none⟩, 0),
  (⟨(some 36), .mv (.t 5), none⟩, 0),
  (⟨(some 37), .nilc (.t 36), none⟩, 2),
  (⟨(some 38), .fldA 1 (.t 37), none⟩, 6),
  (⟨(some 39), .ld false 1 (.t 38), none⟩, 14),
  (⟨none, .sto 67 (.t 2) (.t 35), none⟩, 1),
  (⟨(some 3), .mv (.t 39), none⟩, 63),
  (⟨(some 4), .mv (.c (.int .i64 (0))), none⟩, 127)])
 .ret)))))))
theorem f_ref4_DecodeAttestation : aFun Try.prog 65 = some (40, [.cell 2 true 67, .tmp 3, .tmp 4], c_ref4_DecodeAttestation) := by kernel_rfl
/-- ref4.DecodeSlashing -/
def c_ref4_DecodeSlashing : ACode := (.seq (.reg [⟨(some 2), .new (slgC slg0), none⟩,
  ⟨(some 3), .mv (.c (.int .i64 (0))), none⟩,
  ⟨(some 4), .mv (.c (.int .i64 (0))), none⟩])
 (.seq (.reg [⟨(some 9), .mv (.t 0), none⟩,
  ⟨(some 10), .bld [(.sl 0 true []), (.int .i64 (0)), (.int .i64 (0))] [(0, 1, (.t 9))], none⟩,
  ⟨(some 11), .box 3 (.t 10), none⟩,
  ⟨(some 5), .mv (.t 11), none⟩])
 (.seq (.reg [⟨(some 12), .mv (.t 5), none⟩,
  ⟨(some 13), .call (.c (.fn (.func 109) [])) [(.t 12)], none⟩,
  ⟨(some 14), .mv (.t 5), none⟩,
  ⟨(some 15), .call (.c (.fn (.func 109) [])) [(.t 14)], none⟩,
  ⟨(some 16), .bld (slgC slg0) [(0, 35, (.t 13)), (35, 35, (.t 15))], none⟩,
  ⟨(some 6), .new (slgC slg0), none⟩,
  ⟨none, .sto 70 (.t 6) (.t 16), none⟩])
 (.seq (.seq (.reg [⟨(some 17), .mv (.t 5), none⟩,
  ⟨(some 18), .nilc (.t 17), none⟩,
  ⟨(some 19), .fldA 2 (.t 18), none⟩,
  ⟨(some 20), .ld false 1 (.t 19), none⟩,
  ⟨(some 21), .bin .neq (.t 20) (.c (.int .i64 (0))), none⟩])
 (.cond (.t 21)
   (.seq (.dreg [(⟨(some 22), .bld (slgC slg0) [], none⟩, 0),
    (⟨(some 23), .mv (.t 5), none⟩, 0),
    (⟨(some 24), .nilc (.t 23), none⟩, 2),
    (⟨(some 25), .fldA 2 (.t 24), none⟩, 6),
    (⟨(some 26), .ld false 1 (.t 25), none⟩, 14),
    (⟨none, .sto 70 (.t 2) (.t 22), none⟩, 1),
    (⟨(some 3), .mv (.c (.int .i64 (0))), none⟩, 33),
    (⟨(some 4), .mv (.t 26), none⟩, 127)])
   .ret)
   .skip))
 (.seq (.seq (.reg [⟨(some 28), .ld true 70 (.t 6), none⟩,
  ⟨(some 29), .call (.c (.fn (.func 52) [])) [(.t 28)], none⟩,
  ⟨(some 27), .mv (.t 29), none⟩,
  ⟨(some 30), .ext 0 (.t 27), none⟩,
  ⟨(some 31), .ext 1 (.t 27), none⟩,
  ⟨(some 7), .mv (.t 30), none⟩,
  ⟨(some 8), .mv (.t 31), none⟩])
 (.seq (.reg [⟨(some 32), .mv (.t 8), none⟩,
  ⟨(some 33), .bin .neq (.t 32) (.c (.int .i64 (0))), none⟩])
 (.cond (.t 33)
   (.seq (.reg [⟨(some 34), .bld (slgC slg0) [], none⟩,
    ⟨none, .sto 70 (.t 2) (.t 34), none⟩,
    ⟨(some 3), .mv (.c (.int .i64 (0))), none⟩,
    ⟨(some 4), .mv (.c (.int .i64 (2))), none⟩])
   .ret)
   .skip)))
 (.seq (.dreg [(⟨(some 35), .ld true 70 (.t 6), none⟩, 0),
  (⟨(some 36), .mv (.t 5), none⟩, 0),
  (⟨(some 37), .nilc (.t 36), none⟩, 2),
  (⟨(some 38), .fldA 1 (.t 37), none⟩, 6),
  (⟨(some 39), .ld false 1 (.t 38), none⟩, 14),
  (⟨none, .sto 70 (.t 2) (.t 35), none⟩, 1),
  (⟨(some 3), .mv (.t 39), none⟩, 63),
  (⟨(some 4), .mv (.c (.int .i64 (0))), none⟩, 127)])
 .ret))))))
theorem f_ref4_DecodeSlashing : aFun Try.prog 66 = some (40, [.cell 2 true 70, .tmp 3, .tmp 4], c_ref4_DecodeSlashing) := by kernel_rfl
/-- ref4.DecodeTable -/
def c_ref4_DecodeTable : ACode := (.seq (.reg [⟨(some 2), .new (tabC tab0), none⟩,
  ⟨(some 3), .mv (.c (.int .i64 (0))), none⟩,
  ⟨(some 4), .mv (.c (.int .i64 (0))), none⟩])
 (.seq (.reg [⟨(some 7), .mv (.t 0), none⟩,
  ⟨(some 8), .bld [(.sl 0 true []), (.int .i64 (0)), (.int .i64 (0))] [(0, 1, (.t 7))], none⟩,
  ⟨(some 9), .box 3 (.t 8), none⟩,
  ⟨(some 5), .mv (.t 9), none⟩])
 (.seq (.reg [⟨(some 10), .mv (.t 5), none⟩,
  ⟨(some 11), .call (.c (.fn (.func 110) [])) [(.t 10)], none⟩,
  ⟨(some 6), .new (tabC tab0), none⟩,
  ⟨none, .sto 34 (.t 6) (.t 11), none⟩])
 (.seq (.seq (.reg [⟨(some 12), .mv (.t 5), none⟩,
  ⟨(some 13), .nilc (.t 12), none⟩,
  ⟨(some 14), .fldA 2 (.t 13), none⟩,
  ⟨(some 15), .ld false 1 (.t 14), none⟩,
  ⟨(some 16), .bin .neq (.t 15) (.c (.int .i64 (0))), none⟩])
 (.cond (.t 16)
   (.seq (.dreg [(⟨(some 17), .bld (tabC tab0) [], none⟩, 0),
    (⟨(some 18), .mv (.t 5), none⟩, 0),
    (⟨(some 19), .nilc (.t 18), none⟩, 2),
    (⟨(some 20), .fldA 2 (.t 19), none⟩, 6),
    (⟨(some 21), .ld false 1 (.t 20), none⟩, 14),
    (⟨none, .sto 34 (.t 2) (.t 17), none⟩, 1),
    (⟨(some 3), .mv (.c (.int .i64 (0))), none⟩, 33),
    (⟨(some 4), .mv (.t 21), none⟩, 127)])
   .ret)
   .skip))
 (.seq (.dreg [(⟨(some 22), .ld true 34 (.t 6), none⟩, 0),
  (⟨(some 23), .mv (.t 5), none⟩, 0),
  (⟨(some 24), .nilc (.t 23), none⟩, 2),
  (⟨(some 25), .fldA 1 (.t 24), none⟩, 6),
  (⟨(some 26), .ld false 1 (.t 25), none⟩, 14),
  (⟨none, .sto 34 (.t 2) (.t 22), none⟩, 1),
  (⟨(some 3), .mv (.t 26), none⟩, 63),
  (⟨(some 4), .mv (.c (.int .i64 (0))), none⟩, 127)])
 .ret)))))
theorem f_ref4_DecodeTable : aFun Try.prog 67 = some (27, [.cell 2 true 34, .tmp 3, .tmp 4], c_ref4_DecodeTable) := by kernel_rfl
/-- ref4.DecodeVerdict -/
def c_ref4_DecodeVerdict : ACode := (.seq (.reg [⟨(some 2), .new (vdtC vdt0), none⟩,
  ⟨(some 3), .mv (.c (.int .i64 (0))), none⟩,
  ⟨(some 4), .mv (.c (.int .i64 (0))), none⟩])
 (.seq (.reg [⟨(some 7), .mv (.t 0), none⟩,
  ⟨(some 8), .bld [(.sl 0 true []), (.int .i64 (0)), (.int .i64 (0))] [(0, 1, (.t 7))], none⟩,
  ⟨(some 9), .box 3 (.t 8), none⟩,
  ⟨(some 5), .mv (.t 9), none⟩])
 (.seq (.reg [⟨(some 10), .mv (.t 5), none⟩,
  ⟨(some 11), .call (.c (.fn (.func 105) [])) [(.t 10), (.c (.int .u64 (18446744073709551615)))], none⟩,
  ⟨(some 12), .bld [(.int .u64 (0))] [(0, 1, (.t 11))], none⟩,
  ⟨(some 13), .mv (.t 5), none⟩,
  ⟨(some 14), .call (.c (.fn (.func 105) [])) [(.t 13), (.c (.int .u64 (4)))], none⟩,
  ⟨(some 15), .cvt .i64 (.t 14), none⟩,
  ⟨(some 16), .mv (.t 5), none⟩,
  ⟨(some 17), .call (.c (.fn (.func 106) [])) [(.t 16)], none⟩,
  ⟨(some 18), .bld (vdtC vdt0) [(0, 1, (.t 12)), (1, 1, (.t 15)), (2, 32, (.t 17))], none⟩,
  ⟨(some 6), .new (vdtC vdt0), none⟩,
  ⟨none, .sto 34 (.t 6) (.t 18), none⟩])
 (.seq (.seq (.reg [⟨(some 19), .mv (.t 5), none⟩,
  ⟨(some 20), .nilc (.t 19), none⟩,
  ⟨(some 21), .fldA 2 (.t 20), none⟩,
  ⟨(some 22), .ld false 1 (.t 21), none⟩,
  ⟨(some 23), .bin .neq (.t 22) (.c (.int .i64 (0))), none⟩])
 (.cond (.t 23)
   (.seq (.dreg [(⟨(some 24), .bld (vdtC vdt0) [], none⟩, 0),
    (⟨(some 25), .mv (.t 5), none⟩, 0),
    (⟨(some 26), .nilc (.t 25), none⟩, 2),
    (⟨(some 27), .fldA 2 (.t 26), none⟩, 6),
    (⟨(some 28), .ld false 1 (.t 27), none⟩, 14),
    (⟨none, .sto 34 (.t 2) (.t 24), none⟩, 1),
    (⟨(some 3), .mv (.c (.int .i64 (0))), none⟩, 33),
    (⟨(some 4), .mv (.t 28), none⟩, 127)])
   .ret)
   .skip))
 (.seq (.seq (.reg [⟨(some 29), .fldA 1 (.t 6), none⟩,
  ⟨(some 30), .ld false 1 (.t 29), none⟩,
  ⟨(some 31), .bin .eql (.t 30) (.c (.int .i64 (0))), none⟩])
 (.cond (.t 31)
   (.seq (.reg [⟨(some 32), .bld (vdtC vdt0) [], none⟩,
    ⟨none, .sto 34 (.t 2) (.t 32), none⟩,
    ⟨(some 3), .mv (.c (.int .i64 (0))), none⟩,
    ⟨(some 4), .mv (.c (.int .i64 (2))), none⟩])
   .ret)
   .skip))
 (.seq (.dreg [(⟨(some 33), .ld true 34 (.t 6), none⟩, 0),
  (⟨(some 34), .mv (.t 5), none⟩, 0),
  (⟨(some 35), .nilc (.t 34), none⟩, 2),
  (⟨(some 36), .fldA 1 (.t 35), none⟩, 6),
  (⟨(some 37), .ld false 1 (.t 36), none⟩, 14),
  (⟨none, .sto 34 (.t 2) (.t 33), none⟩, 1),
  (⟨(some 3), .mv (.t 37), none⟩, 63),
  (⟨(some 4), .mv (.c (.int .i64 (0))), none⟩, 127)])
 .ret))))))
theorem f_ref4_DecodeVerdict : aFun Try.prog 68 = some (38, [.cell 2 true 34, .tmp 3, .tmp 4], c_ref4_DecodeVerdict) := by kernel_rfl
/-- records.appendList -/
def c_records_appendList : ACode := (.seq (.reg [⟨(some 4), .mv (.c (.sl 0 true [])), none⟩])
 (.seq (.reg [⟨(some 7), .mv (.t 0), none⟩,
  ⟨(some 8), .mv (.t 1), none⟩,
  ⟨(some 9), .len false (.t 8), none⟩,
  ⟨(some 10), .cvt .u64 (.t 9), none⟩,
  ⟨(some 11), .call (.c (.fn (.func 80) [])) [(.t 7), (.t 10)], none⟩,
  ⟨(some 0), .mv (.t 11), none⟩])
 (.seq (.seq (.reg [⟨(some 12), .mv (.t 1), none⟩,
  ⟨(some 13), .len false (.t 12), none⟩,
  ⟨(some 14), .mv (.c (.int .i64 (0))), none⟩])
 (.block 0 (.loop (.seq (.reg [⟨(some 15), .bin .lss (.t 14) (.t 13), none⟩])
 (.seq (.cond (.t 15)
   .skip
   (.exit 0))
 (.seq (.block 1 (.seq (.reg [⟨(some 16), .mv (.t 14), none⟩,
  ⟨(some 17), .idxS 1 (.t 12) (.t 14), none⟩,
  ⟨(some 18), .ld false 1 (.t 17), none⟩,
  ⟨(some 5), .mv (.t 16), none⟩,
  ⟨(some 6), .mv (.t 18), none⟩])
 (.seq (.seq (.reg [⟨(some 19), .mv (.t 5), none⟩,
  ⟨(some 20), .bin .gtr (.t 19) (.c (.int .i64 (0))), none⟩])
 (.cond (.t 20)
   (.reg [⟨(some 21), .mv (.t 6), none⟩,
    ⟨(some 22), .mv (.t 1), none⟩,
    ⟨(some 23), .mv (.t 5), none⟩,
    ⟨(some 24), .bin .sub (.t 23) (.c (.int .i64 (1))), none⟩,
    ⟨(some 25), .idxS 1 (.t 22) (.t 24), none⟩,
    ⟨(some 26), .ld false 1 (.t 25), none⟩,
    ⟨(some 27), .bin .add (.t 26) (.c (.int .i64 (1))), none⟩,
    ⟨(some 28), .bin .sub (.t 21) (.t 27), none⟩,
    ⟨(some 6), .mv (.t 28), none⟩])
   .skip))
 (.reg [⟨(some 29), .mv (.t 0), none⟩,
  ⟨(some 30), .mv (.t 6), none⟩,
  ⟨(some 31), .cvt .u64 (.t 30), none⟩,
  ⟨(some 32), .call (.c (.fn (.func 80) [])) [(.t 29), (.t 31)], none⟩,
  ⟨(some 0), .mv (.t 32), none⟩]))))
 (.reg [⟨(some 33), .bin .add (.t 14) (.c (.int .i64 (1))), none⟩,
  ⟨(some 14), .mv (.t 33), none⟩])))))))
 (.seq (.reg [⟨(some 34), .mv (.t 0), none⟩,
  ⟨(some 4), .mv (.t 34), none⟩])
 .ret))))
theorem f_records_appendList : aFun Try.prog 93 = some (35, [.tmp 4], c_records_appendList) := by kernel_rfl
/-- ref4.list -/
def c_ref4_list : ACode := (.seq (.reg [⟨(some 4), .mv (.c (.sl 0 true [])), none⟩])
 (.seq (.reg [⟨(some 6), .mv (.t 0), none⟩,
  ⟨(some 7), .mv (.t 1), none⟩,
  ⟨(some 8), .len false (.t 7), none⟩,
  ⟨(some 9), .cvt .u64 (.t 8), none⟩,
  ⟨(some 10), .call (.c (.fn (.func 21) [])) [(.t 6), (.t 9)], none⟩,
  ⟨(some 0), .mv (.t 10), none⟩])
 (.seq (.seq (.reg [⟨(some 5), .mv (.c (.int .i64 (0))), none⟩])
 (.block 0 (.loop (.seq (.seq (.reg [⟨(some 11), .mv (.t 5), none⟩,
  ⟨(some 12), .mv (.t 1), none⟩,
  ⟨(some 13), .len false (.t 12), none⟩,
  ⟨(some 14), .bin .lss (.t 11) (.t 13), none⟩])
 (.cond (.t 14)
   .skip
   (.exit 0)))
 (.seq (.block 1 (.seq (.reg [⟨(some 17), .mv (.t 5), none⟩,
  ⟨(some 18), .bin .eql (.t 17) (.c (.int .i64 (0))), none⟩])
 (.cond (.t 18)
   (.reg [⟨(some 19), .mv (.t 0), none⟩,
    ⟨(some 20), .mv (.t 1), none⟩,
    ⟨(some 21), .idxS 1 (.t 20) (.c (.int .i64 (0))), none⟩,
    ⟨(some 22), .ld false 1 (.t 21), none⟩,
    ⟨(some 23), .cvt .u64 (.t 22), none⟩,
    ⟨(some 24), .call (.c (.fn (.func 21) [])) [(.t 19), (.t 23)], none⟩,
    ⟨(some 0), .mv (.t 24), none⟩])
   (.dreg [(⟨(some 25), .mv (.t 0), none⟩, 0),
    (⟨(some 26), .mv (.t 1), none⟩, 0),
    (⟨(some 27), .mv (.t 5), none⟩, 0),
    (⟨(some 28), .idxS 1 (.t 26) (.t 27), none⟩, 6),
    (⟨(some 29), .ld false 1 (.t 28), none⟩, 14),
    (⟨(some 30), .mv (.t 1), none⟩, 0),
    (⟨(some 31), .mv (.t 5), none⟩, 0),
    (⟨(some 32), .bin .sub (.t 31) (.c (.int .i64 (1))), none⟩, 64),
    (⟨(some 33), .idxS 1 (.t 30) (.t 32), none⟩, 224),
    (⟨(some 34), .ld false 1 (.t 33), none⟩, 480),
    (⟨(some 35), .bin .sub (.t 29) (.t 34), none⟩, 1022),
    (⟨(some 36), .bin .sub (.t 35) (.c (.int .i64 (1))), none⟩, 2046),
    (⟨(some 37), .cvt .u64 (.t 36), none⟩, 4094),
    (⟨(some 38), .call (.c (.fn (.func 21) [])) [(.t 25), (.t 37)], none⟩, 8191),
    (⟨(some 0), .mv (.t 38), none⟩, 16383)]))))
 (.reg [⟨(some 15), .mv (.t 5), none⟩,
  ⟨(some 16), .bin .add (.t 15) (.c (.int .i64 (1))), none⟩,
  ⟨(some 5), .mv (.t 16), none⟩]))))))
 (.seq (.reg [⟨(some 39), .mv (.t 0), none⟩,
  ⟨(some 4), .mv (.t 39), none⟩])
 .ret))))
theorem f_ref4_list : aFun Try.prog 94 = some (40, [.tmp 4], c_ref4_list) := by kernel_rfl
/-- records.newReader -/
def c_records_newReader : ACode := (.seq (.reg [⟨(some 2), .mv (.c .nilp), none⟩])
 (.seq (.reg [⟨(some 3), .mv (.t 0), none⟩,
  ⟨(some 4), .call (.c (.fn (.func 88) [])) [(.t 3)], none⟩,
  ⟨(some 5), .mv (.t 0), none⟩,
  ⟨(some 6), .len false (.t 5), none⟩,
  ⟨(some 7), .bld [.nilp, (.int .i64 (0))] [(0, 1, (.t 4)), (1, 1, (.t 6))], none⟩,
  ⟨(some 8), .box 2 (.t 7), none⟩,
  ⟨(some 2), .mv (.t 8), none⟩])
 .ret))
theorem f_records_newReader : aFun Try.prog 95 = some (9, [.tmp 2], c_records_newReader) := by kernel_rfl
/-- (*records.reader).number -/
def c_records_reader_number : ACode := (.seq (.reg [⟨(some 2), .mv (.c (.int .u64 (0))), none⟩])
 (.seq (.reg [⟨(some 3), .mv (.t 0), none⟩,
  ⟨(some 4), .nilc (.t 3), none⟩,
  ⟨(some 5), .fldA 0 (.t 4), none⟩,
  ⟨(some 6), .ld false 1 (.t 5), none⟩,
  ⟨(some 7), .call (.c (.fn (.func 36) [])) [(.t 6), (.c (.int .u64 (18446744073709551615)))], none⟩,
  ⟨(some 2), .mv (.t 7), none⟩])
 .ret))
theorem f_records_reader_number : aFun Try.prog 96 = some (8, [.tmp 2], c_records_reader_number) := by kernel_rfl
/-- (*records.reader).list -/
def c_records_reader_list : ACode := (.seq (.reg [⟨(some 2), .mv (.c (.sl 0 true [])), none⟩])
 (.seq (.reg [⟨(some 3), .mv (.c (.sl 0 true [])), none⟩])
 (.seq (.reg [⟨(some 7), .mv (.t 0), none⟩,
  ⟨(some 8), .nilc (.t 7), none⟩,
  ⟨(some 9), .fldA 0 (.t 8), none⟩,
  ⟨(some 10), .ld false 1 (.t 9), none⟩,
  ⟨(some 11), .call (.c (.fn (.func 36) [])) [(.t 10), (.c (.int .u64 (1024)))], none⟩,
  ⟨(some 12), .cvt .i64 (.t 11), none⟩,
  ⟨(some 4), .mv (.t 12), none⟩])
 (.seq (.seq (.reg [⟨(some 5), .mv (.c (.int .i64 (0))), none⟩])
 (.block 0 (.loop (.seq (.seq (.reg [⟨(some 13), .mv (.t 5), none⟩,
  ⟨(some 14), .mv (.t 4), none⟩,
  ⟨(some 15), .bin .lss (.t 13) (.t 14), none⟩,
  ⟨(some 16), .mv (.t 15), none⟩,
  ⟨(some 17), .mv (.t 0), (some (16, true))⟩,
  ⟨(some 18), .nilc (.t 17), (some (16, true))⟩,
  ⟨(some 19), .fldA 0 (.t 18), (some (16, true))⟩,
  ⟨(some 20), .ld false 1 (.t 19), (some (16, true))⟩,
  ⟨(some 21), .call (.c (.fn (.func 34) [])) [(.t 20)], (some (16, true))⟩,
  ⟨(some 22), .bin .eql (.t 21) (.c (.int .i64 (0))), (some (16, true))⟩,
  ⟨(some 23), .pick (.t 16) (.t 22) (.c (.bool false)), none⟩])
 (.cond (.t 23)
   .skip
   (.exit 0)))
 (.seq (.block 1 (.seq (.reg [⟨(some 26), .mv (.t 0), none⟩,
  ⟨(some 27), .nilc (.t 26), none⟩,
  ⟨(some 28), .fldA 0 (.t 27), none⟩,
  ⟨(some 29), .ld false 1 (.t 28), none⟩,
  ⟨(some 30), .call (.c (.fn (.func 36) [])) [(.t 29), (.c (.int .u64 (1024)))], none⟩,
  ⟨(some 31), .cvt .i64 (.t 30), none⟩,
  ⟨(some 6), .mv (.t 31), none⟩])
 (.seq (.seq (.reg [⟨(some 32), .mv (.t 5), none⟩,
  ⟨(some 33), .bin .gtr (.t 32) (.c (.int .i64 (0))), none⟩])
 (.cond (.t 33)
   (.reg [⟨(some 34), .mv (.t 6), none⟩,
    ⟨(some 35), .mv (.t 3), none⟩,
    ⟨(some 36), .mv (.t 5), none⟩,
    ⟨(some 37), .bin .sub (.t 36) (.c (.int .i64 (1))), none⟩,
    ⟨(some 38), .idxS 1 (.t 35) (.t 37), none⟩,
    ⟨(some 39), .ld false 1 (.t 38), none⟩,
    ⟨(some 40), .bin .add (.t 39) (.c (.int .i64 (1))), none⟩,
    ⟨(some 41), .bin .add (.t 34) (.t 40), none⟩,
    ⟨(some 6), .mv (.t 41), none⟩])
   .skip))
 (.reg [⟨(some 42), .mv (.t 3), none⟩,
  ⟨(some 43), .mv (.t 6), none⟩,
  ⟨(some 44), .bldS 1 1 [(.int .i64 (0))] [(0, (.t 43))], none⟩,
  ⟨(some 45), .app 1 8 (.t 42) (.t 44), none⟩,
  ⟨(some 3), .mv (.t 45), none⟩]))))
 (.reg [⟨(some 24), .mv (.t 5), none⟩,
  ⟨(some 25), .bin .add (.t 24) (.c (.int .i64 (1))), none⟩,
  ⟨(some 5), .mv (.t 25), none⟩]))))))
 (.seq (.reg [⟨(some 46), .mv (.t 3), none⟩,
  ⟨(some 2), .mv (.t 46), none⟩])
 .ret)))))
theorem f_records_reader_list : aFun Try.prog 97 = some (47, [.tmp 2], c_records_reader_list) := by kernel_rfl
/-- (*records.reader).end -/
def c_records_reader_end : ACode := (.seq (.reg [⟨(some 4), .mv (.c (.int .i64 (0))), none⟩,
  ⟨(some 5), .mv (.c (.int .i64 (0))), none⟩])
 (.seq (.seq (.reg [⟨(some 9), .mv (.t 0), none⟩,
  ⟨(some 10), .nilc (.t 9), none⟩,
  ⟨(some 11), .fldA 0 (.t 10), none⟩,
  ⟨(some 12), .ld false 1 (.t 11), none⟩,
  ⟨(some 13), .call (.c (.fn (.func 34) [])) [(.t 12)], none⟩,
  ⟨(some 6), .mv (.t 13), none⟩])
 (.seq (.reg [⟨(some 14), .mv (.t 6), none⟩,
  ⟨(some 15), .bin .neq (.t 14) (.c (.int .i64 (0))), none⟩])
 (.cond (.t 15)
   (.seq (.reg [⟨(some 16), .mv (.t 6), none⟩,
    ⟨(some 4), .mv (.c (.int .i64 (0))), none⟩,
    ⟨(some 5), .mv (.t 16), none⟩])
   .ret)
   .skip)))
 (.seq (.seq (.reg [⟨(some 17), .mv (.t 1), none⟩,
  ⟨(some 18), .len false (.t 17), none⟩,
  ⟨(some 19), .mv (.c (.int .i64 (0))), none⟩])
 (.block 0 (.loop (.seq (.reg [⟨(some 20), .bin .lss (.t 19) (.t 18), none⟩])
 (.seq (.cond (.t 20)
   .skip
   (.exit 0))
 (.seq (.block 1 (.seq (.reg [⟨(some 21), .idxS 1 (.t 17) (.t 19), none⟩,
  ⟨(some 22), .ld false 1 (.t 21), none⟩,
  ⟨(some 8), .mv (.t 22), none⟩])
 (.seq (.reg [⟨(some 23), .mv (.t 8), none⟩,
  ⟨(some 24), .call (.c (.fn (.func 43) [])) [(.t 23), (.c (.int .i64 (1024)))], none⟩,
  ⟨(some 25), .bin .neq (.t 24) (.c (.int .i64 (0))), none⟩])
 (.cond (.t 25)
   (.seq (.reg [⟨(some 4), .mv (.c (.int .i64 (0))), none⟩,
    ⟨(some 5), .mv (.c (.int .i64 (2))), none⟩])
   .ret)
   .skip))))
 (.reg [⟨(some 26), .bin .add (.t 19) (.c (.int .i64 (1))), none⟩,
  ⟨(some 19), .mv (.t 26), none⟩])))))))
 (.seq (.dreg [(⟨(some 27), .mv (.t 0), none⟩, 0),
  (⟨(some 28), .nilc (.t 27), none⟩, 1),
  (⟨(some 29), .fldA 1 (.t 28), none⟩, 3),
  (⟨(some 30), .ld false 1 (.t 29), none⟩, 7),
  (⟨(some 31), .mv (.t 0), none⟩, 0),
  (⟨(some 32), .nilc (.t 31), none⟩, 16),
  (⟨(some 33), .fldA 0 (.t 32), none⟩, 48),
  (⟨(some 34), .ld false 1 (.t 33), none⟩, 112),
  (⟨(some 35), .call (.c (.fn (.func 35) [])) [(.t 34)], none⟩, 240),
  (⟨(some 36), .bin .sub (.t 30) (.t 35), none⟩, 511),
  (⟨(some 4), .mv (.t 36), none⟩, 1023),
  (⟨(some 5), .mv (.c (.int .i64 (0))), none⟩, 2047)])
 .ret))))
theorem f_records_reader_end : aFun Try.prog 98 = some (37, [.tmp 4, .tmp 5], c_records_reader_end) := by kernel_rfl
/-- ref4.SameInts -/
def c_ref4_SameInts : ACode := (.seq (.reg [⟨(some 4), .mv (.c (.bool false)), none⟩])
 (.seq (.seq (.reg [⟨(some 6), .mv (.t 0), none⟩,
  ⟨(some 7), .len false (.t 6), none⟩,
  ⟨(some 8), .mv (.t 1), none⟩,
  ⟨(some 9), .len false (.t 8), none⟩,
  ⟨(some 10), .bin .neq (.t 7) (.t 9), none⟩])
 (.cond (.t 10)
   (.seq (.reg [⟨(some 4), .mv (.c (.bool false)), none⟩])
   .ret)
   .skip))
 (.seq (.seq (.reg [⟨(some 5), .mv (.c (.int .i64 (0))), none⟩])
 (.block 0 (.loop (.seq (.seq (.reg [⟨(some 11), .mv (.t 5), none⟩,
  ⟨(some 12), .mv (.t 0), none⟩,
  ⟨(some 13), .len false (.t 12), none⟩,
  ⟨(some 14), .bin .lss (.t 11) (.t 13), none⟩])
 (.cond (.t 14)
   .skip
   (.exit 0)))
 (.seq (.block 1 (.seq (.dreg [(⟨(some 17), .mv (.t 0), none⟩, 0),
  (⟨(some 18), .mv (.t 5), none⟩, 0),
  (⟨(some 19), .idxS 1 (.t 17) (.t 18), none⟩, 3),
  (⟨(some 20), .ld false 1 (.t 19), none⟩, 7),
  (⟨(some 21), .mv (.t 1), none⟩, 0),
  (⟨(some 22), .mv (.t 5), none⟩, 0),
  (⟨(some 23), .idxS 1 (.t 21) (.t 22), none⟩, 48),
  (⟨(some 24), .ld false 1 (.t 23), none⟩, 112),
  (⟨(some 25), .bin .neq (.t 20) (.t 24), none⟩, 255)])
 (.cond (.t 25)
   (.seq (.reg [⟨(some 4), .mv (.c (.bool false)), none⟩])
   .ret)
   .skip)))
 (.reg [⟨(some 15), .mv (.t 5), none⟩,
  ⟨(some 16), .bin .add (.t 15) (.c (.int .i64 (1))), none⟩,
  ⟨(some 5), .mv (.t 16), none⟩]))))))
 (.seq (.reg [⟨(some 4), .mv (.c (.bool true)), none⟩])
 .ret))))
theorem f_ref4_SameInts : aFun Try.prog 99 = some (26, [.tmp 4], c_ref4_SameInts) := by kernel_rfl
/-- ref4.claim -/
def c_ref4_claim : ACode := (.seq (.reg [⟨(some 3), .box 35 (.t 1), none⟩,
  ⟨(some 4), .mv (.c (.sl 0 true [])), none⟩])
 (.seq (.dreg [(⟨(some 5), .mv (.t 0), none⟩, 0),
  (⟨(some 6), .fldA 0 (.t 3), none⟩, 0),
  (⟨(some 7), .ld false 1 (.t 6), none⟩, 2),
  (⟨(some 8), .call (.c (.fn (.func 21) [])) [(.t 5), (.t 7)], none⟩, 7),
  (⟨(some 9), .fldA 1 (.t 3), none⟩, 0),
  (⟨(some 10), .ld false 1 (.t 9), none⟩, 16),
  (⟨(some 11), .call (.c (.fn (.func 21) [])) [(.t 8), (.t 10)], none⟩, 63),
  (⟨(some 12), .fldA 2 (.t 3), none⟩, 0),
  (⟨(some 13), .ld true 32 (.t 12), none⟩, 128),
  (⟨(some 14), .call (.c (.fn (.func 25) [])) [(.t 11), (.t 13)], none⟩, 511),
  (⟨(some 15), .fldA 34 (.t 3), none⟩, 0),
  (⟨(some 16), .ld false 1 (.t 15), none⟩, 1024),
  (⟨(some 17), .call (.c (.fn (.func 94) [])) [(.t 14), (.t 16)], none⟩, 4095),
  (⟨(some 4), .mv (.t 17), none⟩, 8191)])
 .ret))
theorem f_ref4_claim : aFun Try.prog 100 = some (18, [.tmp 4], c_ref4_claim) := by kernel_rfl
/-- (*records.reader).claim -/
def c_records_reader_claim : ACode := (.seq (.reg [⟨(some 2), .new (clmC clm0), none⟩])
 (.seq (.reg [⟨(some 4), .mv (.t 0), none⟩,
  ⟨(some 5), .call (.c (.fn (.func 96) [])) [(.t 4)], none⟩,
  ⟨(some 6), .mv (.t 0), none⟩,
  ⟨(some 7), .call (.c (.fn (.func 96) [])) [(.t 6)], none⟩,
  ⟨(some 8), .bld (clmC clm0) [(0, 1, (.t 5)), (1, 1, (.t 7))], none⟩,
  ⟨(some 3), .new (clmC clm0), none⟩,
  ⟨none, .sto 35 (.t 3) (.t 8), none⟩])
 (.seq (.reg [⟨(some 9), .mv (.t 0), none⟩,
  ⟨(some 10), .nilc (.t 9), none⟩,
  ⟨(some 11), .fldA 0 (.t 10), none⟩,
  ⟨(some 12), .ld false 1 (.t 11), none⟩,
  ⟨(some 13), .call (.c (.fn (.func 38) [])) [(.t 12)], none⟩,
  ⟨(some 14), .fldA 2 (.t 3), none⟩,
  ⟨none, .sto 32 (.t 14) (.t 13), none⟩])
 (.seq (.reg [⟨(some 15), .mv (.t 0), none⟩,
  ⟨(some 16), .call (.c (.fn (.func 97) [])) [(.t 15)], none⟩,
  ⟨(some 17), .fldA 34 (.t 3), none⟩,
  ⟨none, .sto 1 (.t 17) (.t 16), none⟩])
 (.seq (.reg [⟨(some 18), .ld true 35 (.t 3), none⟩,
  ⟨none, .sto 35 (.t 2) (.t 18), none⟩])
 .ret)))))
theorem f_records_reader_claim : aFun Try.prog 101 = some (19, [.cell 2 true 35], c_records_reader_claim) := by kernel_rfl
/-- ref4.SameClaim -/
def c_ref4_SameClaim : ACode := (.seq (.reg [⟨(some 2), .box 35 (.t 0), none⟩,
  ⟨(some 3), .box 35 (.t 1), none⟩,
  ⟨(some 4), .mv (.c (.bool false)), none⟩])
 (.seq (.reg [⟨(some 5), .fldA 0 (.t 2), none⟩,
  ⟨(some 6), .ld false 1 (.t 5), none⟩,
  ⟨(some 7), .fldA 0 (.t 3), none⟩,
  ⟨(some 8), .ld false 1 (.t 7), none⟩,
  ⟨(some 9), .bin .eql (.t 6) (.t 8), none⟩,
  ⟨(some 10), .mv (.t 9), none⟩,
  ⟨(some 11), .fldA 1 (.t 2), (some (10, true))⟩,
  ⟨(some 12), .ld false 1 (.t 11), (some (10, true))⟩,
  ⟨(some 13), .fldA 1 (.t 3), (some (10, true))⟩,
  ⟨(some 14), .ld false 1 (.t 13), (some (10, true))⟩,
  ⟨(some 15), .bin .eql (.t 12) (.t 14), (some (10, true))⟩,
  ⟨(some 16), .pick (.t 10) (.t 15) (.c (.bool false)), none⟩,
  ⟨(some 17), .mv (.t 16), none⟩,
  ⟨(some 18), .fldA 2 (.t 2), (some (17, true))⟩,
  ⟨(some 19), .ld true 32 (.t 18), (some (17, true))⟩,
  ⟨(some 20), .fldA 2 (.t 3), (some (17, true))⟩,
  ⟨(some 21), .ld true 32 (.t 20), (some (17, true))⟩,
  ⟨(some 22), .eqa [(32, 1)] false (.t 19) (.t 21), (some (17, true))⟩,
  ⟨(some 23), .pick (.t 17) (.t 22) (.c (.bool false)), none⟩,
  ⟨(some 24), .mv (.t 23), none⟩,
  ⟨(some 25), .fldA 34 (.t 2), (some (24, true))⟩,
  ⟨(some 26), .ld false 1 (.t 25), (some (24, true))⟩,
  ⟨(some 27), .fldA 34 (.t 3), (some (24, true))⟩,
  ⟨(some 28), .ld false 1 (.t 27), (some (24, true))⟩,
  ⟨(some 29), .call (.c (.fn (.func 99) [])) [(.t 26), (.t 28)], (some (24, true))⟩,
  ⟨(some 30), .pick (.t 24) (.t 29) (.c (.bool false)), none⟩,
  ⟨(some 4), .mv (.t 30), none⟩])
 .ret))
theorem f_ref4_SameClaim : aFun Try.prog 102 = some (31, [.tmp 4], c_ref4_SameClaim) := by kernel_rfl
/-- ref4.SameNumbers -/
def c_ref4_SameNumbers : ACode := (.seq (.reg [⟨(some 4), .mv (.c (.bool false)), none⟩])
 (.seq (.seq (.reg [⟨(some 6), .mv (.t 0), none⟩,
  ⟨(some 7), .len false (.t 6), none⟩,
  ⟨(some 8), .mv (.t 1), none⟩,
  ⟨(some 9), .len false (.t 8), none⟩,
  ⟨(some 10), .bin .neq (.t 7) (.t 9), none⟩])
 (.cond (.t 10)
   (.seq (.reg [⟨(some 4), .mv (.c (.bool false)), none⟩])
   .ret)
   .skip))
 (.seq (.seq (.reg [⟨(some 5), .mv (.c (.int .i64 (0))), none⟩])
 (.block 0 (.loop (.seq (.seq (.reg [⟨(some 11), .mv (.t 5), none⟩,
  ⟨(some 12), .mv (.t 0), none⟩,
  ⟨(some 13), .len false (.t 12), none⟩,
  ⟨(some 14), .bin .lss (.t 11) (.t 13), none⟩])
 (.cond (.t 14)
   .skip
   (.exit 0)))
 (.seq (.block 1 (.seq (.dreg [(⟨(some 17), .mv (.t 0), none⟩, 0),
  (⟨(some 18), .mv (.t 5), none⟩, 0),
  (⟨(some 19), .idxS 1 (.t 17) (.t 18), none⟩, 3),
  (⟨(some 20), .ld false 1 (.t 19), none⟩, 7),
  (⟨(some 21), .mv (.t 1), none⟩, 0),
  (⟨(some 22), .mv (.t 5), none⟩, 0),
  (⟨(some 23), .idxS 1 (.t 21) (.t 22), none⟩, 48),
  (⟨(some 24), .ld false 1 (.t 23), none⟩, 112),
  (⟨(some 25), .bin .neq (.t 20) (.t 24), none⟩, 255)])
 (.cond (.t 25)
   (.seq (.reg [⟨(some 4), .mv (.c (.bool false)), none⟩])
   .ret)
   .skip)))
 (.reg [⟨(some 15), .mv (.t 5), none⟩,
  ⟨(some 16), .bin .add (.t 15) (.c (.int .i64 (1))), none⟩,
  ⟨(some 5), .mv (.t 16), none⟩]))))))
 (.seq (.reg [⟨(some 4), .mv (.c (.bool true)), none⟩])
 .ret))))
theorem f_ref4_SameNumbers : aFun Try.prog 103 = some (26, [.tmp 4], c_ref4_SameNumbers) := by kernel_rfl
/-- ref4.ReadBlock -/
def c_ref4_ReadBlock : ACode := (.seq (.reg [⟨(some 2), .new (blkC blk0), none⟩])
 (.seq (.reg [⟨(some 4), .mv (.t 0), none⟩,
  ⟨(some 5), .call (.c (.fn (.func 105) [])) [(.t 4), (.c (.int .u64 (18446744073709551615)))], none⟩,
  ⟨(some 6), .mv (.t 0), none⟩,
  ⟨(some 7), .call (.c (.fn (.func 106) [])) [(.t 6)], none⟩,
  ⟨(some 8), .mv (.t 0), none⟩,
  ⟨(some 9), .call (.c (.fn (.func 106) [])) [(.t 8)], none⟩,
  ⟨(some 10), .mv (.t 0), none⟩,
  ⟨(some 11), .call (.c (.fn (.func 106) [])) [(.t 10)], none⟩,
  ⟨(some 12), .mv (.t 0), none⟩,
  ⟨(some 13), .call (.c (.fn (.func 118) [])) [(.t 12)], none⟩,
  ⟨(some 14), .mv (.t 0), none⟩,
  ⟨(some 15), .call (.c (.fn (.func 118) [])) [(.t 14)], none⟩,
  ⟨(some 16), .mv (.t 0), none⟩,
  ⟨(some 17), .call (.c (.fn (.func 107) [])) [(.t 16)], none⟩,
  ⟨(some 18), .mv (.t 0), none⟩,
  ⟨(some 19), .call (.c (.fn (.func 107) [])) [(.t 18)], none⟩,
  ⟨(some 20), .bld (blkC blk0) [(66, 1, (.t 5)), (67, 32, (.t 7)), (99, 32, (.t 9)), (131, 32, (.t 11)), (163, 4, (.t 13)), (167, 4, (.t 15)), (171, 33, (.t 17)), (204, 33, (.t 19))], none⟩,
  ⟨(some 3), .new (blkC blk0), none⟩,
  ⟨none, .sto 238 (.t 3) (.t 20), none⟩])
 (.seq (.reg [⟨(some 21), .mv (.t 0), none⟩,
  ⟨(some 22), .call (.c (.fn (.func 107) [])) [(.t 21)], none⟩,
  ⟨(some 23), .fldA 0 (.t 3), none⟩,
  ⟨(some 24), .fldA 0 (.t 23), none⟩,
  ⟨none, .sto 33 (.t 24) (.t 22), none⟩])
 (.seq (.reg [⟨(some 25), .mv (.t 0), none⟩,
  ⟨(some 26), .call (.c (.fn (.func 107) [])) [(.t 25)], none⟩,
  ⟨(some 27), .fldA 0 (.t 3), none⟩,
  ⟨(some 28), .fldA 33 (.t 27), none⟩,
  ⟨none, .sto 33 (.t 28) (.t 26), none⟩])
 (.seq (.reg [⟨(some 29), .mv (.t 0), none⟩,
  ⟨(some 30), .call (.c (.fn (.func 119) [])) [(.t 29)], none⟩,
  ⟨(some 31), .fldA 237 (.t 3), none⟩,
  ⟨none, .sto 1 (.t 31) (.t 30), none⟩])
 (.seq (.reg [⟨(some 32), .ld true 238 (.t 3), none⟩,
  ⟨none, .sto 238 (.t 2) (.t 32), none⟩])
 .ret))))))
theorem f_ref4_ReadBlock : aFun Try.prog 104 = some (33, [.cell 2 true 238], c_ref4_ReadBlock) := by kernel_rfl
/-- ref4.readList -/
def c_ref4_readList : ACode := (.seq (.reg [⟨(some 2), .mv (.c (.sl 0 true [])), none⟩])
 (.seq (.reg [⟨(some 7), .mv (.t 0), none⟩,
  ⟨(some 8), .call (.c (.fn (.func 105) [])) [(.t 7), (.c (.int .u64 (1024)))], none⟩,
  ⟨(some 9), .cvt .i64 (.t 8), none⟩,
  ⟨(some 3), .mv (.t 9), none⟩])
 (.seq (.reg [⟨(some 4), .mv (.c (.sl 0 true [])), none⟩])
 (.seq (.reg [⟨(some 5), .mv (.c (.int .i64 (-1))), none⟩])
 (.seq (.seq (.reg [⟨(some 6), .mv (.c (.int .i64 (0))), none⟩])
 (.block 0 (.loop (.seq (.seq (.reg [⟨(some 10), .mv (.t 6), none⟩,
  ⟨(some 11), .mv (.t 3), none⟩,
  ⟨(some 12), .bin .lss (.t 10) (.t 11), none⟩,
  ⟨(some 13), .mv (.t 12), none⟩,
  ⟨(some 14), .mv (.t 0), (some (13, true))⟩,
  ⟨(some 15), .nilc (.t 14), (some (13, true))⟩,
  ⟨(some 16), .fldA 2 (.t 15), (some (13, true))⟩,
  ⟨(some 17), .ld false 1 (.t 16), (some (13, true))⟩,
  ⟨(some 18), .bin .eql (.t 17) (.c (.int .i64 (0))), (some (13, true))⟩,
  ⟨(some 19), .pick (.t 13) (.t 18) (.c (.bool false)), none⟩])
 (.cond (.t 19)
   .skip
   (.exit 0)))
 (.seq (.block 1 (.seq (.reg [⟨(some 22), .mv (.t 5), none⟩,
  ⟨(some 23), .bin .add (.t 22) (.c (.int .i64 (1))), none⟩,
  ⟨(some 24), .mv (.t 0), none⟩,
  ⟨(some 25), .call (.c (.fn (.func 105) [])) [(.t 24), (.c (.int .u64 (1024)))], none⟩,
  ⟨(some 26), .cvt .i64 (.t 25), none⟩,
  ⟨(some 27), .bin .add (.t 23) (.t 26), none⟩,
  ⟨(some 5), .mv (.t 27), none⟩])
 (.reg [⟨(some 28), .mv (.t 4), none⟩,
  ⟨(some 29), .mv (.t 5), none⟩,
  ⟨(some 30), .bldS 1 1 [(.int .i64 (0))] [(0, (.t 29))], none⟩,
  ⟨(some 31), .app 1 8 (.t 28) (.t 30), none⟩,
  ⟨(some 4), .mv (.t 31), none⟩])))
 (.reg [⟨(some 20), .mv (.t 6), none⟩,
  ⟨(some 21), .bin .add (.t 20) (.c (.int .i64 (1))), none⟩,
  ⟨(some 6), .mv (.t 21), none⟩]))))))
 (.seq (.reg [⟨(some 32), .mv (.t 4), none⟩,
  ⟨(some 2), .mv (.t 32), none⟩])
 .ret))))))
theorem f_ref4_readList : aFun Try.prog 108 = some (33, [.tmp 2], c_ref4_readList) := by kernel_rfl
/-- ref4.readClaim -/
def c_ref4_readClaim : ACode := (.seq (.reg [⟨(some 2), .new (clmC clm0), none⟩])
 (.seq (.reg [⟨(some 4), .mv (.t 0), none⟩,
  ⟨(some 5), .call (.c (.fn (.func 105) [])) [(.t 4), (.c (.int .u64 (18446744073709551615)))], none⟩,
  ⟨(some 6), .mv (.t 0), none⟩,
  ⟨(some 7), .call (.c (.fn (.func 105) [])) [(.t 6), (.c (.int .u64 (18446744073709551615)))], none⟩,
  ⟨(some 8), .mv (.t 0), none⟩,
  ⟨(some 9), .call (.c (.fn (.func 106) [])) [(.t 8)], none⟩,
  ⟨(some 10), .bld (clmC clm0) [(0, 1, (.t 5)), (1, 1, (.t 7)), (2, 32, (.t 9))], none⟩,
  ⟨(some 3), .new (clmC clm0), none⟩,
  ⟨none, .sto 35 (.t 3) (.t 10), none⟩])
 (.seq (.reg [⟨(some 11), .mv (.t 0), none⟩,
  ⟨(some 12), .call (.c (.fn (.func 108) [])) [(.t 11)], none⟩,
  ⟨(some 13), .fldA 34 (.t 3), none⟩,
  ⟨none, .sto 1 (.t 13) (.t 12), none⟩])
 (.seq (.reg [⟨(some 14), .ld true 35 (.t 3), none⟩,
  ⟨none, .sto 35 (.t 2) (.t 14), none⟩])
 .ret))))
theorem f_ref4_readClaim : aFun Try.prog 109 = some (15, [.cell 2 true 35], c_ref4_readClaim) := by kernel_rfl
/-- ref4.ReadTable -/
def c_ref4_ReadTable : ACode := (.seq (.reg [⟨(some 2), .new (tabC tab0), none⟩])
 (.seq (.reg [⟨(some 6), .mv (.t 0), none⟩,
  ⟨(some 7), .call (.c (.fn (.func 105) [])) [(.t 6), (.c (.int .u64 (18446744073709551615)))], none⟩,
  ⟨(some 8), .mv (.t 0), none⟩,
  ⟨(some 9), .call (.c (.fn (.func 106) [])) [(.t 8)], none⟩,
  ⟨(some 10), .bld (cpC cp0) [(0, 1, (.t 7)), (1, 32, (.t 9))], none⟩,
  ⟨(some 11), .bld (tabC tab0) [(0, 33, (.t 10))], none⟩,
  ⟨(some 3), .new (tabC tab0), none⟩,
  ⟨none, .sto 34 (.t 3) (.t 11), none⟩])
 (.seq (.reg [⟨(some 12), .mv (.t 0), none⟩,
  ⟨(some 13), .call (.c (.fn (.func 105) [])) [(.t 12), (.c (.int .u64 (1024)))], none⟩,
  ⟨(some 14), .cvt .i64 (.t 13), none⟩,
  ⟨(some 4), .mv (.t 14), none⟩])
 (.seq (.seq (.reg [⟨(some 5), .mv (.c (.int .i64 (0))), none⟩])
 (.block 0 (.loop (.seq (.seq (.reg [⟨(some 15), .mv (.t 5), none⟩,
  ⟨(some 16), .mv (.t 4), none⟩,
  ⟨(some 17), .bin .lss (.t 15) (.t 16), none⟩,
  ⟨(some 18), .mv (.t 17), none⟩,
  ⟨(some 19), .mv (.t 0), (some (18, true))⟩,
  ⟨(some 20), .nilc (.t 19), (some (18, true))⟩,
  ⟨(some 21), .fldA 2 (.t 20), (some (18, true))⟩,
  ⟨(some 22), .ld false 1 (.t 21), (some (18, true))⟩,
  ⟨(some 23), .bin .eql (.t 22) (.c (.int .i64 (0))), (some (18, true))⟩,
  ⟨(some 24), .pick (.t 18) (.t 23) (.c (.bool false)), none⟩])
 (.cond (.t 24)
   .skip
   (.exit 0)))
 (.seq (.block 1 (.dreg [(⟨(some 27), .fldA 33 (.t 3), none⟩, 0),
  (⟨(some 28), .ld false 1 (.t 27), none⟩, 1),
  (⟨(some 29), .mv (.t 0), none⟩, 0),
  (⟨(some 30), .call (.c (.fn (.func 105) [])) [(.t 29), (.c (.int .u64 (18446744073709551615)))], none⟩, 4),
  (⟨(some 31), .bldS 1 1 [(.int .u64 (0))] [(0, (.t 30))], none⟩, 12),
  (⟨(some 32), .app 1 8 (.t 28) (.t 31), none⟩, 31),
  (⟨(some 33), .fldA 33 (.t 3), none⟩, 63),
  (⟨none, .sto 1 (.t 33) (.t 32), none⟩, 127)]))
 (.reg [⟨(some 25), .mv (.t 5), none⟩,
  ⟨(some 26), .bin .add (.t 25) (.c (.int .i64 (1))), none⟩,
  ⟨(some 5), .mv (.t 26), none⟩]))))))
 (.seq (.reg [⟨(some 34), .ld true 34 (.t 3), none⟩,
  ⟨none, .sto 34 (.t 2) (.t 34), none⟩])
 .ret)))))
theorem f_ref4_ReadTable : aFun Try.prog 110 = some (35, [.cell 2 true 34], c_ref4_ReadTable) := by kernel_rfl
end Go.Proofs.Ytachiahepppajaa
