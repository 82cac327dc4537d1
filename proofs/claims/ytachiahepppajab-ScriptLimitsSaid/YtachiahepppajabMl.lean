/-
  My texts Kd, joined.
-/
import Derived.Test.YtachiahepppajabMc
import Derived.Test.YtachiahepppajabChecked
import Derived.KernelRfl
namespace Go.Proofs.Ytachiahepppajab
open Go Go.FH

/-- law6.awake -/
def c_law6_awake : ACode := (.seq (.reg [⟨(some 0), .mv (.c (.bool false)), none⟩])
 (.seq (.reg [⟨(some 6), .bld (sOpC sOp0) [(0, 1, (.c (.int .i64 (1))))], none⟩,
  ⟨(some 7), .bld (sOpC sOp0) [(0, 1, (.c (.int .i64 (8)))), (444, 1, (.c (.int .i64 (2)))), (445, 1, (.c (.int .i64 (5))))], none⟩,
  ⟨(some 8), .bldS 446 2 (sOpC sOp0) [(0, (.t 6)), (1, (.t 7))], none⟩,
  ⟨(some 9), .call (.c (.fn (.func 4) [])) [(.t 8)], none⟩,
  ⟨(some 5), .mv (.t 9), none⟩,
  ⟨(some 10), .ext 0 (.t 5), none⟩,
  ⟨(some 11), .ext 1 (.t 5), none⟩,
  ⟨(some 1), .mv (.t 10), none⟩,
  ⟨(some 2), .mv (.t 11), none⟩])
 (.seq (.reg [⟨(some 13), .mv (.t 1), none⟩,
  ⟨(some 14), .call (.c (.fn (.func 5) [])) [(.t 13)], none⟩,
  ⟨(some 12), .mv (.t 14), none⟩,
  ⟨(some 15), .ext 0 (.t 12), none⟩,
  ⟨(some 16), .ext 1 (.t 12), none⟩,
  ⟨(some 3), .mv (.t 15), none⟩,
  ⟨(some 4), .mv (.t 16), none⟩])
 (.seq (.reg [⟨(some 17), .mv (.t 2), none⟩,
  ⟨(some 18), .bin .eql (.t 17) (.c (.int .i64 (0))), none⟩,
  ⟨(some 19), .mv (.t 18), none⟩,
  ⟨(some 20), .mv (.t 4), (some (19, true))⟩,
  ⟨(some 21), .bin .eql (.t 20) (.c (.int .i64 (0))), (some (19, true))⟩,
  ⟨(some 22), .pick (.t 19) (.t 21) (.c (.bool false)), none⟩,
  ⟨(some 23), .mv (.t 22), none⟩,
  ⟨(some 24), .mv (.t 1), (some (23, true))⟩,
  ⟨(some 25), .b2s (.t 24), (some (23, true))⟩,
  ⟨(some 26), .bldS 1 4 [(.int .u8 (0))] [(0, (.c (.int .u8 (1)))), (1, (.c (.int .u8 (8)))), (2, (.c (.int .u8 (2)))), (3, (.c (.int .u8 (5))))], (some (23, true))⟩,
  ⟨(some 27), .b2s (.t 26), (some (23, true))⟩,
  ⟨(some 28), .eqv 1 false (.t 25) (.t 27), (some (23, true))⟩,
  ⟨(some 29), .pick (.t 23) (.t 28) (.c (.bool false)), none⟩,
  ⟨(some 30), .mv (.t 29), none⟩,
  ⟨(some 31), .mv (.t 3), (some (30, true))⟩,
  ⟨(some 32), .len false (.t 31), (some (30, true))⟩,
  ⟨(some 33), .bin .eql (.t 32) (.c (.int .i64 (2))), (some (30, true))⟩,
  ⟨(some 34), .pick (.t 30) (.t 33) (.c (.bool false)), none⟩,
  ⟨(some 35), .mv (.t 34), none⟩,
  ⟨(some 36), .mv (.t 3), (some (35, true))⟩,
  ⟨(some 37), .idxS 446 (.t 36) (.c (.int .i64 (1))), (some (35, true))⟩,
  ⟨(some 38), .fldA 445 (.t 37), (some (35, true))⟩,
  ⟨(some 39), .ld false 1 (.t 38), (some (35, true))⟩,
  ⟨(some 40), .bin .eql (.t 39) (.c (.int .i64 (5))), (some (35, true))⟩,
  ⟨(some 41), .pick (.t 35) (.t 40) (.c (.bool false)), none⟩,
  ⟨(some 0), .mv (.t 41), none⟩])
 .ret))))
theorem f_law6_awake : aFun Try.prog 7 = some (42, [.tmp 0], c_law6_awake) := by kernel_rfl
/-- script.Encode -/
def c_script_Encode : ACode := (.seq (.reg [⟨(some 2), .mv (.c (.sl 0 true [])), none⟩,
  ⟨(some 3), .mv (.c (.int .i64 (0))), none⟩])
 (.seq (.seq (.reg [⟨(some 10), .mv (.t 0), none⟩,
  ⟨(some 11), .len false (.t 10), none⟩,
  ⟨(some 12), .bin .gtr (.t 11) (.c (.int .i64 (4096))), none⟩])
 (.cond (.t 12)
   (.seq (.reg [⟨(some 2), .mv (.c (.sl 0 true [])), none⟩,
    ⟨(some 3), .mv (.c (.int .i64 (11))), none⟩])
   .ret)
   .skip))
 (.seq (.reg [⟨(some 4), .mv (.c (.sl 0 true [])), none⟩])
 (.seq (.seq (.reg [⟨(some 13), .mv (.t 0), none⟩,
  ⟨(some 14), .len false (.t 13), none⟩,
  ⟨(some 15), .mv (.c (.int .i64 (0))), none⟩])
 (.block 0 (.loop (.seq (.reg [⟨(some 16), .bin .lss (.t 15) (.t 14), none⟩])
 (.seq (.cond (.t 16)
   .skip
   (.exit 0))
 (.seq (.block 1 (.seq (.reg [⟨(some 17), .idxS 446 (.t 13) (.t 15), none⟩,
  ⟨(some 18), .ld true 446 (.t 17), none⟩,
  ⟨(some 6), .new (sOpC sOp0), none⟩,
  ⟨none, .sto 446 (.t 6) (.t 18), none⟩])
 (.seq (.seq (.reg [⟨(some 19), .ld true 446 (.t 6), none⟩,
  ⟨(some 20), .call (.c (.fn (.func 8) [])) [(.t 19)], none⟩,
  ⟨(some 7), .mv (.t 20), none⟩])
 (.seq (.reg [⟨(some 21), .mv (.t 7), none⟩,
  ⟨(some 22), .bin .neq (.t 21) (.c (.int .i64 (0))), none⟩])
 (.cond (.t 22)
   (.seq (.reg [⟨(some 23), .mv (.t 7), none⟩,
    ⟨(some 2), .mv (.c (.sl 0 true [])), none⟩,
    ⟨(some 3), .mv (.t 23), none⟩])
   .ret)
   .skip)))
 (.seq (.reg [⟨(some 25), .ld true 446 (.t 6), none⟩,
  ⟨(some 26), .call (.c (.fn (.func 9) [])) [(.t 25)], none⟩,
  ⟨(some 24), .mv (.t 26), none⟩,
  ⟨(some 27), .ext 0 (.t 24), none⟩,
  ⟨(some 28), .ext 1 (.t 24), none⟩,
  ⟨(some 8), .mv (.t 27), none⟩,
  ⟨(some 9), .mv (.t 28), none⟩])
 (.reg [⟨(some 29), .mv (.t 4), none⟩,
  ⟨(some 30), .fldA 0 (.t 6), none⟩,
  ⟨(some 31), .ld false 1 (.t 30), none⟩,
  ⟨(some 32), .cvt .u64 (.t 31), none⟩,
  ⟨(some 33), .call (.c (.fn (.func 10) [])) [(.t 29), (.t 32)], none⟩,
  ⟨(some 34), .mv (.t 8), none⟩,
  ⟨(some 35), .app 1 1 (.t 33) (.t 34), none⟩,
  ⟨(some 4), .mv (.t 35), none⟩])))))
 (.reg [⟨(some 36), .bin .add (.t 15) (.c (.int .i64 (1))), none⟩,
  ⟨(some 15), .mv (.t 36), none⟩])))))))
 (.seq (.seq (.reg [⟨(some 37), .mv (.t 4), none⟩,
  ⟨(some 38), .len false (.t 37), none⟩,
  ⟨(some 39), .bin .gtr (.t 38) (.c (.int .i64 (1048576))), none⟩])
 (.cond (.t 39)
   (.seq (.reg [⟨(some 2), .mv (.c (.sl 0 true [])), none⟩,
    ⟨(some 3), .mv (.c (.int .i64 (11))), none⟩])
   .ret)
   .skip))
 (.seq (.reg [⟨(some 40), .mv (.t 4), none⟩,
  ⟨(some 2), .mv (.t 40), none⟩,
  ⟨(some 3), .mv (.c (.int .i64 (0))), none⟩])
 .ret))))))
theorem f_script_Encode : aFun Try.prog 4 = some (41, [.tmp 2, .tmp 3], c_script_Encode) := by kernel_rfl
/-- script.Validate -/
def c_script_Validate : ACode := (.seq (.reg [⟨(some 1), .box 446 (.t 0), none⟩,
  ⟨(some 2), .mv (.c (.int .i64 (0))), none⟩])
 (.seq (.seq (.reg [⟨(some 5), .fldA 0 (.t 1), none⟩,
  ⟨(some 6), .ld false 1 (.t 5), none⟩,
  ⟨(some 7), .bin .lss (.t 6) (.c (.int .i64 (1))), none⟩,
  ⟨(some 8), .mv (.t 7), none⟩,
  ⟨(some 9), .fldA 0 (.t 1), (some (8, false))⟩,
  ⟨(some 10), .ld false 1 (.t 9), (some (8, false))⟩,
  ⟨(some 11), .bin .gtr (.t 10) (.c (.int .i64 (8))), (some (8, false))⟩,
  ⟨(some 12), .pick (.t 8) (.c (.bool true)) (.t 11), none⟩])
 (.cond (.t 12)
   (.seq (.reg [⟨(some 2), .mv (.c (.int .i64 (2))), none⟩])
   .ret)
   .skip))
 (.seq (.seq (.reg [⟨(some 14), .ld true 446 (.t 1), none⟩,
  ⟨(some 15), .call (.c (.fn (.func 9) [])) [(.t 14)], none⟩,
  ⟨(some 13), .mv (.t 15), none⟩,
  ⟨(some 16), .ext 0 (.t 13), none⟩,
  ⟨(some 17), .ext 1 (.t 13), none⟩,
  ⟨(some 3), .mv (.t 16), none⟩,
  ⟨(some 4), .mv (.t 17), none⟩])
 (.seq (.reg [⟨(some 18), .mv (.t 4), none⟩,
  ⟨(some 19), .bin .neq (.t 18) (.c (.int .i64 (0))), none⟩])
 (.cond (.t 19)
   (.seq (.reg [⟨(some 20), .mv (.t 4), none⟩,
    ⟨(some 2), .mv (.t 20), none⟩])
   .ret)
   .skip)))
 (.seq (.seq (.reg [⟨(some 21), .ld true 446 (.t 1), none⟩,
  ⟨(some 22), .call (.c (.fn (.func 12) [])) [(.t 21)], none⟩,
  ⟨(some 23), .un .not (.t 22), none⟩])
 (.cond (.t 23)
   (.seq (.reg [⟨(some 2), .mv (.c (.int .i64 (2))), none⟩])
   .ret)
   .skip))
 (.seq (.reg [⟨(some 2), .mv (.c (.int .i64 (0))), none⟩])
 .ret)))))
theorem f_script_Validate : aFun Try.prog 8 = some (24, [.tmp 2], c_script_Validate) := by kernel_rfl
/-- script.Decode -/
def c_script_Decode : ACode := (.seq (.reg [⟨(some 2), .mv (.c (.sl 0 true [])), none⟩,
  ⟨(some 3), .mv (.c (.int .i64 (0))), none⟩])
 (.seq (.seq (.reg [⟨(some 7), .mv (.t 0), none⟩,
  ⟨(some 8), .len false (.t 7), none⟩,
  ⟨(some 9), .bin .gtr (.t 8) (.c (.int .i64 (1048576))), none⟩])
 (.cond (.t 9)
   (.seq (.reg [⟨(some 2), .mv (.c (.sl 0 true [])), none⟩,
    ⟨(some 3), .mv (.c (.int .i64 (11))), none⟩])
   .ret)
   .skip))
 (.seq (.reg [⟨(some 11), .mv (.t 0), none⟩,
  ⟨(some 12), .call (.c (.fn (.func 11) [])) [(.t 11)], none⟩,
  ⟨(some 10), .mv (.t 12), none⟩,
  ⟨(some 13), .ext 0 (.t 10), none⟩,
  ⟨(some 14), .ext 1 (.t 10), none⟩,
  ⟨(some 15), .ext 2 (.t 10), none⟩,
  ⟨(some 4), .mv (.t 13), none⟩,
  ⟨(some 5), .mv (.t 14), none⟩,
  ⟨(some 6), .mv (.t 15), none⟩])
 (.seq (.seq (.reg [⟨(some 16), .mv (.t 6), none⟩,
  ⟨(some 17), .bin .neq (.t 16) (.c (.int .i64 (0))), none⟩])
 (.cond (.t 17)
   (.seq (.reg [⟨(some 18), .mv (.t 6), none⟩,
    ⟨(some 2), .mv (.c (.sl 0 true [])), none⟩,
    ⟨(some 3), .mv (.t 18), none⟩])
   .ret)
   .skip))
 (.seq (.reg [⟨(some 19), .mv (.t 4), none⟩,
  ⟨(some 2), .mv (.t 19), none⟩,
  ⟨(some 3), .mv (.c (.int .i64 (0))), none⟩])
 .ret)))))
theorem f_script_Decode : aFun Try.prog 5 = some (20, [.tmp 2, .tmp 3], c_script_Decode) := by kernel_rfl
/-- script.Prefix -/
def c_script_Prefix : ACode := (.seq (.reg [⟨(some 2), .mv (.c (.sl 0 true [])), none⟩,
  ⟨(some 3), .mv (.c (.int .i64 (0))), none⟩])
 (.seq (.seq (.reg [⟨(some 4), .mv (.t 0), none⟩,
  ⟨(some 5), .len false (.t 4), none⟩,
  ⟨(some 6), .bin .gtr (.t 5) (.c (.int .i64 (1048576))), none⟩])
 (.cond (.t 6)
   (.seq (.reg [⟨(some 2), .mv (.c (.sl 0 true [])), none⟩,
    ⟨(some 3), .mv (.c (.int .i64 (0))), none⟩])
   .ret)
   .skip))
 (.seq (.reg [⟨(some 8), .mv (.t 0), none⟩,
  ⟨(some 9), .call (.c (.fn (.func 11) [])) [(.t 8)], none⟩,
  ⟨(some 7), .mv (.t 9), none⟩,
  ⟨(some 10), .ext 0 (.t 7), none⟩,
  ⟨(some 11), .ext 1 (.t 7), none⟩,
  ⟨(some 12), .ext 2 (.t 7), none⟩,
  ⟨(some 2), .mv (.t 10), none⟩,
  ⟨(some 3), .mv (.t 11), none⟩])
 (.seq (.reg [⟨(some 13), .mv (.t 2), none⟩,
  ⟨(some 14), .mv (.t 3), none⟩,
  ⟨(some 2), .mv (.t 13), none⟩,
  ⟨(some 3), .mv (.t 14), none⟩])
 .ret))))
theorem f_script_Prefix : aFun Try.prog 6 = some (15, [.tmp 2, .tmp 3], c_script_Prefix) := by kernel_rfl
/-- script.field -/
def c_script_field : ACode := (.seq (.reg [⟨(some 1), .box 446 (.t 0), none⟩,
  ⟨(some 2), .mv (.c (.sl 0 true [])), none⟩,
  ⟨(some 3), .mv (.c (.int .i64 (0))), none⟩])
 (.seq (.seq (.reg [⟨(some 4), .fldA 0 (.t 1), none⟩,
  ⟨(some 5), .ld false 1 (.t 4), none⟩])
 (.block 0 (.seq (.reg [⟨(some 7), .bin .eql (.t 5) (.c (.int .i64 (2))), none⟩,
  ⟨(some 6), .mv (.t 7), none⟩])
 (.cond (.t 6)
   (.seq (.reg [⟨(some 8), .fldA 1 (.t 1), none⟩,
    ⟨(some 9), .ld true 238 (.t 8), none⟩,
    ⟨(some 10), .call (.c (.fn (.func 13) [])) [(.t 9)], none⟩,
    ⟨(some 2), .mv (.t 10), none⟩,
    ⟨(some 3), .mv (.c (.int .i64 (0))), none⟩])
   .ret)
   (.seq (.reg [⟨(some 12), .bin .eql (.t 5) (.c (.int .i64 (3))), none⟩,
    ⟨(some 11), .mv (.t 12), none⟩])
   (.cond (.t 11)
     (.seq (.reg [⟨(some 13), .fldA 239 (.t 1), none⟩,
      ⟨(some 14), .ld true 67 (.t 13), none⟩,
      ⟨(some 15), .call (.c (.fn (.func 14) [])) [(.t 14)], none⟩,
      ⟨(some 16), .ext 0 (.t 15), none⟩,
      ⟨(some 17), .ext 1 (.t 15), none⟩,
      ⟨(some 2), .mv (.t 16), none⟩,
      ⟨(some 3), .mv (.t 17), none⟩])
     .ret)
     (.seq (.reg [⟨(some 19), .bin .eql (.t 5) (.c (.int .i64 (4))), none⟩,
      ⟨(some 18), .mv (.t 19), none⟩])
     (.cond (.t 18)
       (.seq (.reg [⟨(some 20), .fldA 306 (.t 1), none⟩,
        ⟨(some 21), .ld true 70 (.t 20), none⟩,
        ⟨(some 22), .call (.c (.fn (.func 15) [])) [(.t 21)], none⟩,
        ⟨(some 23), .ext 0 (.t 22), none⟩,
        ⟨(some 24), .ext 1 (.t 22), none⟩,
        ⟨(some 2), .mv (.t 23), none⟩,
        ⟨(some 3), .mv (.t 24), none⟩])
       .ret)
       (.seq (.reg [⟨(some 26), .bin .eql (.t 5) (.c (.int .i64 (5))), none⟩,
        ⟨(some 25), .mv (.t 26), none⟩])
       (.cond (.t 25)
         (.seq (.reg [⟨(some 27), .fldA 376 (.t 1), none⟩,
          ⟨(some 28), .ld true 34 (.t 27), none⟩,
          ⟨(some 29), .call (.c (.fn (.func 16) [])) [(.t 28)], none⟩,
          ⟨(some 30), .ext 0 (.t 29), none⟩,
          ⟨(some 31), .ext 1 (.t 29), none⟩,
          ⟨(some 2), .mv (.t 30), none⟩,
          ⟨(some 3), .mv (.t 31), none⟩])
         .ret)
         (.seq (.reg [⟨(some 33), .bin .eql (.t 5) (.c (.int .i64 (6))), none⟩,
          ⟨(some 32), .mv (.t 33), none⟩])
         (.cond (.t 32)
           (.seq (.reg [⟨(some 34), .fldA 410 (.t 1), none⟩,
            ⟨(some 35), .ld true 34 (.t 34), none⟩,
            ⟨(some 36), .call (.c (.fn (.func 17) [])) [(.t 35)], none⟩,
            ⟨(some 37), .ext 0 (.t 36), none⟩,
            ⟨(some 38), .ext 1 (.t 36), none⟩,
            ⟨(some 2), .mv (.t 37), none⟩,
            ⟨(some 3), .mv (.t 38), none⟩])
           .ret)
           (.seq (.reg [⟨(some 40), .bin .eql (.t 5) (.c (.int .i64 (8))), none⟩,
            ⟨(some 39), .mv (.t 40), none⟩])
           (.cond (.t 39)
             (.seq (.seq (.reg [⟨(some 41), .fldA 444 (.t 1), none⟩,
              ⟨(some 42), .ld false 1 (.t 41), none⟩,
              ⟨(some 43), .call (.c (.fn (.func 18) [])) [(.t 42)], none⟩,
              ⟨(some 44), .un .not (.t 43), none⟩,
              ⟨(some 45), .mv (.t 44), none⟩,
              ⟨(some 46), .fldA 445 (.t 1), (some (45, false))⟩,
              ⟨(some 47), .ld false 1 (.t 46), (some (45, false))⟩,
              ⟨(some 48), .call (.c (.fn (.func 18) [])) [(.t 47)], (some (45, false))⟩,
              ⟨(some 49), .un .not (.t 48), (some (45, false))⟩,
              ⟨(some 50), .pick (.t 45) (.c (.bool true)) (.t 49), none⟩])
             (.cond (.t 50)
               (.seq (.reg [⟨(some 2), .mv (.c (.sl 0 true [])), none⟩,
                ⟨(some 3), .mv (.c (.int .i64 (3))), none⟩])
               .ret)
               .skip))
             (.seq (.dreg [(⟨(some 51), .fldA 444 (.t 1), none⟩, 0),
              (⟨(some 52), .ld false 1 (.t 51), none⟩, 1),
              (⟨(some 53), .cvt .u64 (.t 52), none⟩, 3),
              (⟨(some 54), .call (.c (.fn (.func 10) [])) [(.c (.sl 0 true [])), (.t 53)], none⟩, 7),
              (⟨(some 55), .fldA 445 (.t 1), none⟩, 0),
              (⟨(some 56), .ld false 1 (.t 55), none⟩, 16),
              (⟨(some 57), .cvt .u64 (.t 56), none⟩, 48),
              (⟨(some 58), .call (.c (.fn (.func 10) [])) [(.t 54), (.t 57)], none⟩, 127),
              (⟨(some 2), .mv (.t 58), none⟩, 255),
              (⟨(some 3), .mv (.c (.int .i64 (0))), none⟩, 511)])
             .ret))
             .skip))))))))))))))
 (.seq (.reg [⟨(some 2), .mv (.c (.sl 0 true [])), none⟩,
  ⟨(some 3), .mv (.c (.int .i64 (0))), none⟩])
 .ret)))
theorem f_script_field : aFun Try.prog 9 = some (59, [.tmp 2, .tmp 3], c_script_field) := by kernel_rfl
/-- script.idle -/
def c_script_idle : ACode := (.seq (.reg [⟨(some 1), .box 446 (.t 0), none⟩,
  ⟨(some 2), .mv (.c (.bool false)), none⟩])
 (.seq (.dreg [(⟨(some 6), .fldA 1 (.t 1), none⟩, 0),
  (⟨(some 7), .ld true 238 (.t 6), none⟩, 1),
  (⟨(some 8), .bld (blkC blk0) [], none⟩, 0),
  (⟨(some 9), .eqa [(237, 1), (1, 0)] false (.t 7) (.t 8), none⟩, 7),
  (⟨(some 10), .bld [(.int .i64 (0)), (.bool false)] [(0, 1, (.c (.int .i64 (2)))), (1, 1, (.t 9))], none⟩, 15),
  (⟨(some 11), .fldA 239 (.t 1), none⟩, 0),
  (⟨(some 12), .ld true 67 (.t 11), none⟩, 32),
  (⟨(some 13), .call (.c (.fn (.func 22) [])) [(.t 12)], none⟩, 96),
  (⟨(some 14), .bld [(.int .i64 (0)), (.bool false)] [(0, 1, (.c (.int .i64 (3)))), (1, 1, (.t 13))], none⟩, 224),
  (⟨(some 15), .fldA 306 (.t 1), none⟩, 0),
  (⟨(some 16), .fldA 0 (.t 15), none⟩, 512),
  (⟨(some 17), .ld true 35 (.t 16), none⟩, 1536),
  (⟨(some 18), .call (.c (.fn (.func 23) [])) [(.t 17)], none⟩, 3808),
  (⟨(some 19), .mv (.t 18), none⟩, 7904),
  (⟨(some 20), .fldA 306 (.t 1), (some (19, true))⟩, 16096),
  (⟨(some 21), .fldA 35 (.t 20), (some (19, true))⟩, 32480),
  (⟨(some 22), .ld true 35 (.t 21), (some (19, true))⟩, 65248),
  (⟨(some 23), .call (.c (.fn (.func 23) [])) [(.t 22)], (some (19, true))⟩, 130784),
  (⟨(some 24), .pick (.t 19) (.t 23) (.c (.bool false)), none⟩, 261856),
  (⟨(some 25), .bld [(.int .i64 (0)), (.bool false)] [(0, 1, (.c (.int .i64 (4)))), (1, 1, (.t 24))], none⟩, 524000),
  (⟨(some 26), .fldA 376 (.t 1), none⟩, 0),
  (⟨(some 27), .fldA 0 (.t 26), none⟩, 1048576),
  (⟨(some 28), .ld true 33 (.t 27), none⟩, 3145728),
  (⟨(some 29), .bld (cpC cp0) [], none⟩, 0),
  (⟨(some 30), .eqa [(33, 1)] false (.t 28) (.t 29), none⟩, 15728640),
  (⟨(some 31), .mv (.t 30), none⟩, 32767712),
  (⟨(some 32), .fldA 376 (.t 1), (some (31, true))⟩, 66322144),
  (⟨(some 33), .fldA 33 (.t 32), (some (31, true))⟩, 133431008),
  (⟨(some 34), .ld false 1 (.t 33), (some (31, true))⟩, 267648736),
  (⟨(some 35), .len false (.t 34), (some (31, true))⟩, 536084192),
  (⟨(some 36), .bin .eql (.t 35) (.c (.int .i64 (0))), (some (31, true))⟩, 1072955104),
  (⟨(some 37), .pick (.t 31) (.t 36) (.c (.bool false)), none⟩, 2146696928),
  (⟨(some 38), .bld [(.int .i64 (0)), (.bool false)] [(0, 1, (.c (.int .i64 (5)))), (1, 1, (.t 37))], none⟩, 4294180576),
  (⟨(some 39), .fldA 410 (.t 1), none⟩, 0),
  (⟨(some 40), .ld true 34 (.t 39), none⟩, 8589934592),
  (⟨(some 41), .bld (vdtC vdt0) [], none⟩, 0),
  (⟨(some 42), .eqa [(34, 1)] false (.t 40) (.t 41), none⟩, 60129542144),
  (⟨(some 43), .bld [(.int .i64 (0)), (.bool false)] [(0, 1, (.c (.int .i64 (6)))), (1, 1, (.t 42))], none⟩, 128849018880),
  (⟨(some 44), .fldA 444 (.t 1), none⟩, 0),
  (⟨(some 45), .ld false 1 (.t 44), none⟩, 274877906944),
  (⟨(some 46), .bin .eql (.t 45) (.c (.int .i64 (0))), none⟩, 824633720832),
  (⟨(some 47), .mv (.t 46), none⟩, 1924211670752),
  (⟨(some 48), .fldA 445 (.t 1), (some (47, true))⟩, 4123234926304),
  (⟨(some 49), .ld false 1 (.t 48), (some (47, true))⟩, 8521281437408),
  (⟨(some 50), .bin .eql (.t 49) (.c (.int .i64 (0))), (some (47, true))⟩, 17317374459616),
  (⟨(some 51), .pick (.t 47) (.t 50) (.c (.bool false)), none⟩, 34909560504032),
  (⟨(some 52), .bld [(.int .i64 (0)), (.bool false)] [(0, 1, (.c (.int .i64 (8)))), (1, 1, (.t 51))], none⟩, 70093932592864),
  (⟨(some 53), .bldS 2 6 [(.int .i64 (0)), (.bool false)] [(0, (.t 10)), (1, (.t 14)), (2, (.t 25)), (3, (.t 38)), (4, (.t 43)), (5, (.t 52))], none⟩, 140737488355327),
  (⟨(some 3), .mv (.t 53), none⟩, 281474976710655)])
 (.seq (.seq (.reg [⟨(some 54), .mv (.t 3), none⟩,
  ⟨(some 55), .len false (.t 54), none⟩,
  ⟨(some 56), .mv (.c (.int .i64 (0))), none⟩])
 (.block 0 (.loop (.seq (.reg [⟨(some 57), .bin .lss (.t 56) (.t 55), none⟩])
 (.seq (.cond (.t 57)
   .skip
   (.exit 0))
 (.seq (.block 1 (.seq (.reg [⟨(some 58), .idxS 2 (.t 54) (.t 56), none⟩,
  ⟨(some 59), .ld true 2 (.t 58), none⟩,
  ⟨(some 5), .new [(.int .i64 (0)), (.bool false)], none⟩,
  ⟨none, .sto 2 (.t 5) (.t 59), none⟩])
 (.seq (.reg [⟨(some 60), .fldA 0 (.t 5), none⟩,
  ⟨(some 61), .ld false 1 (.t 60), none⟩,
  ⟨(some 62), .fldA 0 (.t 1), none⟩,
  ⟨(some 63), .ld false 1 (.t 62), none⟩,
  ⟨(some 64), .bin .neq (.t 61) (.t 63), none⟩,
  ⟨(some 65), .mv (.t 64), none⟩,
  ⟨(some 66), .fldA 1 (.t 5), (some (65, true))⟩,
  ⟨(some 67), .ld false 1 (.t 66), (some (65, true))⟩,
  ⟨(some 68), .un .not (.t 67), (some (65, true))⟩,
  ⟨(some 69), .pick (.t 65) (.t 68) (.c (.bool false)), none⟩])
 (.cond (.t 69)
   (.seq (.reg [⟨(some 2), .mv (.c (.bool false)), none⟩])
   .ret)
   .skip))))
 (.reg [⟨(some 70), .bin .add (.t 56) (.c (.int .i64 (1))), none⟩,
  ⟨(some 56), .mv (.t 70), none⟩])))))))
 (.seq (.reg [⟨(some 2), .mv (.c (.bool true)), none⟩])
 .ret))))
theorem f_script_idle : aFun Try.prog 12 = some (71, [.tmp 2], c_script_idle) := by kernel_rfl
/-- script.decode -/
def c_script_decode : ACode := (.seq (.reg [⟨(some 2), .mv (.c (.sl 0 true [])), none⟩,
  ⟨(some 3), .mv (.c (.int .i64 (0))), none⟩,
  ⟨(some 4), .mv (.c (.int .i64 (0))), none⟩])
 (.seq (.reg [⟨(some 8), .mv (.t 0), none⟩,
  ⟨(some 9), .call (.c (.fn (.func 19) [])) [(.t 8)], none⟩,
  ⟨(some 5), .mv (.t 9), none⟩])
 (.seq (.block 0 (.loop (.seq (.seq (.reg [⟨(some 10), .mv (.t 5), none⟩,
  ⟨(some 11), .call (.c (.fn (.func 20) [])) [(.t 10)], none⟩,
  ⟨(some 12), .bin .gtr (.t 11) (.c (.int .i64 (0))), none⟩])
 (.cond (.t 12)
   .skip
   (.exit 0)))
 (.block 1 (.seq (.seq (.reg [⟨(some 13), .mv (.t 2), none⟩,
  ⟨(some 14), .len false (.t 13), none⟩,
  ⟨(some 15), .bin .eql (.t 14) (.c (.int .i64 (4096))), none⟩])
 (.cond (.t 15)
   (.seq (.reg [⟨(some 16), .mv (.t 2), none⟩,
    ⟨(some 17), .mv (.t 3), none⟩,
    ⟨(some 2), .mv (.t 16), none⟩,
    ⟨(some 3), .mv (.t 17), none⟩,
    ⟨(some 4), .mv (.c (.int .i64 (11))), none⟩])
   .ret)
   .skip))
 (.seq (.reg [⟨(some 19), .mv (.t 5), none⟩,
  ⟨(some 20), .call (.c (.fn (.func 21) [])) [(.t 19)], none⟩,
  ⟨(some 18), .mv (.t 20), none⟩,
  ⟨(some 21), .ext 0 (.t 18), none⟩,
  ⟨(some 22), .ext 1 (.t 18), none⟩,
  ⟨(some 6), .new (sOpC sOp0), none⟩,
  ⟨none, .sto 446 (.t 6) (.t 21), none⟩,
  ⟨(some 7), .mv (.t 22), none⟩])
 (.seq (.seq (.reg [⟨(some 23), .mv (.t 7), none⟩,
  ⟨(some 24), .bin .neq (.t 23) (.c (.int .i64 (0))), none⟩])
 (.cond (.t 24)
   (.seq (.reg [⟨(some 25), .mv (.t 2), none⟩,
    ⟨(some 26), .mv (.t 3), none⟩,
    ⟨(some 27), .mv (.t 7), none⟩,
    ⟨(some 2), .mv (.t 25), none⟩,
    ⟨(some 3), .mv (.t 26), none⟩,
    ⟨(some 4), .mv (.t 27), none⟩])
   .ret)
   .skip))
 (.reg [⟨(some 28), .mv (.t 2), none⟩,
  ⟨(some 29), .ld true 446 (.t 6), none⟩,
  ⟨(some 30), .bldS 446 1 (sOpC sOp0) [(0, (.t 29))], none⟩,
  ⟨(some 31), .app 446 720 (.t 28) (.t 30), none⟩,
  ⟨(some 32), .mv (.t 0), none⟩,
  ⟨(some 33), .len false (.t 32), none⟩,
  ⟨(some 34), .mv (.t 5), none⟩,
  ⟨(some 35), .call (.c (.fn (.func 20) [])) [(.t 34)], none⟩,
  ⟨(some 36), .bin .sub (.t 33) (.t 35), none⟩,
  ⟨(some 2), .mv (.t 31), none⟩,
  ⟨(some 3), .mv (.t 36), none⟩]))))))))
 (.seq (.reg [⟨(some 37), .mv (.t 2), none⟩,
  ⟨(some 38), .mv (.t 3), none⟩,
  ⟨(some 2), .mv (.t 37), none⟩,
  ⟨(some 3), .mv (.t 38), none⟩,
  ⟨(some 4), .mv (.c (.int .i64 (0))), none⟩])
 .ret))))
theorem f_script_decode : aFun Try.prog 11 = some (39, [.tmp 2, .tmp 3, .tmp 4], c_script_decode) := by kernel_rfl
/-- script.sector -/
def c_script_sector : ACode := (.seq (.reg [⟨(some 2), .mv (.c (.bool false)), none⟩])
 (.seq (.reg [⟨(some 3), .mv (.t 0), none⟩,
  ⟨(some 4), .bin .geq (.t 3) (.c (.int .i64 (0))), none⟩,
  ⟨(some 5), .mv (.t 4), none⟩,
  ⟨(some 6), .mv (.t 0), (some (5, true))⟩,
  ⟨(some 7), .bin .leq (.t 6) (.c (.int .i64 (32768))), (some (5, true))⟩,
  ⟨(some 8), .pick (.t 5) (.t 7) (.c (.bool false)), none⟩,
  ⟨(some 2), .mv (.t 8), none⟩])
 .ret))
theorem f_script_sector : aFun Try.prog 18 = some (9, [.tmp 2], c_script_sector) := by kernel_rfl
/-- script.noAttestation -/
def c_script_noAttestation : ACode := (.seq (.reg [⟨(some 1), .box 67 (.t 0), none⟩,
  ⟨(some 2), .mv (.c (.bool false)), none⟩])
 (.seq (.reg [⟨(some 3), .fldA 0 (.t 1), none⟩,
  ⟨(some 4), .ld false 1 (.t 3), none⟩,
  ⟨(some 5), .bin .eql (.t 4) (.c (.int .u64 (0))), none⟩,
  ⟨(some 6), .mv (.t 5), none⟩,
  ⟨(some 7), .fldA 1 (.t 1), (some (6, true))⟩,
  ⟨(some 8), .ld true 32 (.t 7), (some (6, true))⟩,
  ⟨(some 9), .bld (rtc rt0) [], (some (6, true))⟩,
  ⟨(some 10), .eqa [(32, 1)] false (.t 8) (.t 9), (some (6, true))⟩,
  ⟨(some 11), .pick (.t 6) (.t 10) (.c (.bool false)), none⟩,
  ⟨(some 12), .mv (.t 11), none⟩,
  ⟨(some 13), .fldA 33 (.t 1), (some (12, true))⟩,
  ⟨(some 14), .ld true 33 (.t 13), (some (12, true))⟩,
  ⟨(some 15), .bld (cpC cp0) [], (some (12, true))⟩,
  ⟨(some 16), .eqa [(33, 1)] false (.t 14) (.t 15), (some (12, true))⟩,
  ⟨(some 17), .pick (.t 12) (.t 16) (.c (.bool false)), none⟩,
  ⟨(some 18), .mv (.t 17), none⟩,
  ⟨(some 19), .fldA 66 (.t 1), (some (18, true))⟩,
  ⟨(some 20), .ld false 1 (.t 19), (some (18, true))⟩,
  ⟨(some 21), .len false (.t 20), (some (18, true))⟩,
  ⟨(some 22), .bin .eql (.t 21) (.c (.int .i64 (0))), (some (18, true))⟩,
  ⟨(some 23), .pick (.t 18) (.t 22) (.c (.bool false)), none⟩,
  ⟨(some 2), .mv (.t 23), none⟩])
 .ret))
theorem f_script_noAttestation : aFun Try.prog 22 = some (24, [.tmp 2], c_script_noAttestation) := by kernel_rfl
/-- script.noClaim -/
def c_script_noClaim : ACode := (.seq (.reg [⟨(some 1), .box 35 (.t 0), none⟩,
  ⟨(some 2), .mv (.c (.bool false)), none⟩])
 (.seq (.reg [⟨(some 3), .fldA 0 (.t 1), none⟩,
  ⟨(some 4), .ld false 1 (.t 3), none⟩,
  ⟨(some 5), .bin .eql (.t 4) (.c (.int .u64 (0))), none⟩,
  ⟨(some 6), .mv (.t 5), none⟩,
  ⟨(some 7), .fldA 1 (.t 1), (some (6, true))⟩,
  ⟨(some 8), .ld false 1 (.t 7), (some (6, true))⟩,
  ⟨(some 9), .bin .eql (.t 8) (.c (.int .u64 (0))), (some (6, true))⟩,
  ⟨(some 10), .pick (.t 6) (.t 9) (.c (.bool false)), none⟩,
  ⟨(some 11), .mv (.t 10), none⟩,
  ⟨(some 12), .fldA 2 (.t 1), (some (11, true))⟩,
  ⟨(some 13), .ld true 32 (.t 12), (some (11, true))⟩,
  ⟨(some 14), .bld (rtc rt0) [], (some (11, true))⟩,
  ⟨(some 15), .eqa [(32, 1)] false (.t 13) (.t 14), (some (11, true))⟩,
  ⟨(some 16), .pick (.t 11) (.t 15) (.c (.bool false)), none⟩,
  ⟨(some 17), .mv (.t 16), none⟩,
  ⟨(some 18), .fldA 34 (.t 1), (some (17, true))⟩,
  ⟨(some 19), .ld false 1 (.t 18), (some (17, true))⟩,
  ⟨(some 20), .len false (.t 19), (some (17, true))⟩,
  ⟨(some 21), .bin .eql (.t 20) (.c (.int .i64 (0))), (some (17, true))⟩,
  ⟨(some 22), .pick (.t 17) (.t 21) (.c (.bool false)), none⟩,
  ⟨(some 2), .mv (.t 22), none⟩])
 .ret))
theorem f_script_noClaim : aFun Try.prog 23 = some (23, [.tmp 2], c_script_noClaim) := by kernel_rfl
/-- script.operation -/
def c_script_operation : ACode := (.seq (.reg [⟨(some 2), .new (sOpC sOp0), none⟩,
  ⟨(some 3), .mv (.c (.int .i64 (0))), none⟩])
 (.seq (.reg [⟨(some 8), .mv (.t 0), none⟩,
  ⟨(some 9), .call (.c (.fn (.func 30) [])) [(.t 8), (.c (.int .u64 (8)))], none⟩,
  ⟨(some 10), .cvt .i64 (.t 9), none⟩,
  ⟨(some 11), .bld (sOpC sOp0) [(0, 1, (.t 10))], none⟩,
  ⟨(some 4), .new (sOpC sOp0), none⟩,
  ⟨none, .sto 446 (.t 4) (.t 11), none⟩])
 (.seq (.seq (.reg [⟨(some 12), .mv (.t 0), none⟩,
  ⟨(some 13), .call (.c (.fn (.func 31) [])) [(.t 12)], none⟩,
  ⟨(some 5), .mv (.t 13), none⟩])
 (.seq (.reg [⟨(some 14), .mv (.t 5), none⟩,
  ⟨(some 15), .bin .neq (.t 14) (.c (.int .i64 (0))), none⟩])
 (.cond (.t 15)
   (.seq (.reg [⟨(some 16), .bld (sOpC sOp0) [], none⟩,
    ⟨(some 17), .mv (.t 5), none⟩,
    ⟨none, .sto 446 (.t 2) (.t 16), none⟩,
    ⟨(some 3), .mv (.t 17), none⟩])
   .ret)
   .skip)))
 (.seq (.reg [⟨(some 6), .mv (.c (.int .i64 (0))), none⟩,
  ⟨(some 7), .mv (.c (.int .i64 (0))), none⟩])
 (.seq (.seq (.reg [⟨(some 18), .fldA 0 (.t 4), none⟩,
  ⟨(some 19), .ld false 1 (.t 18), none⟩])
 (.block 0 (.seq (.reg [⟨(some 21), .bin .eql (.t 19) (.c (.int .i64 (0))), none⟩,
  ⟨(some 20), .mv (.t 21), none⟩])
 (.cond (.t 20)
   (.reg [⟨(some 7), .mv (.c (.int .i64 (2))), none⟩])
   (.seq (.reg [⟨(some 23), .bin .eql (.t 19) (.c (.int .i64 (2))), none⟩,
    ⟨(some 22), .mv (.t 23), none⟩])
   (.cond (.t 22)
     (.reg [⟨(some 25), .mv (.t 0), none⟩,
      ⟨(some 26), .call (.c (.fn (.func 33) [])) [(.t 25)], none⟩,
      ⟨(some 27), .call (.c (.fn (.func 32) [])) [(.t 26)], none⟩,
      ⟨(some 24), .mv (.t 27), none⟩,
      ⟨(some 28), .ext 0 (.t 24), none⟩,
      ⟨(some 29), .ext 1 (.t 24), none⟩,
      ⟨(some 30), .ext 2 (.t 24), none⟩,
      ⟨(some 31), .fldA 1 (.t 4), none⟩,
      ⟨none, .sto 238 (.t 31) (.t 28), none⟩,
      ⟨(some 6), .mv (.t 29), none⟩,
      ⟨(some 7), .mv (.t 30), none⟩])
     (.seq (.reg [⟨(some 33), .bin .eql (.t 19) (.c (.int .i64 (3))), none⟩,
      ⟨(some 32), .mv (.t 33), none⟩])
     (.cond (.t 32)
       (.reg [⟨(some 35), .mv (.t 0), none⟩,
        ⟨(some 36), .call (.c (.fn (.func 33) [])) [(.t 35)], none⟩,
        ⟨(some 37), .call (.c (.fn (.func 34) [])) [(.t 36)], none⟩,
        ⟨(some 34), .mv (.t 37), none⟩,
        ⟨(some 38), .ext 0 (.t 34), none⟩,
        ⟨(some 39), .ext 1 (.t 34), none⟩,
        ⟨(some 40), .ext 2 (.t 34), none⟩,
        ⟨(some 41), .fldA 239 (.t 4), none⟩,
        ⟨none, .sto 67 (.t 41) (.t 38), none⟩,
        ⟨(some 6), .mv (.t 39), none⟩,
        ⟨(some 7), .mv (.t 40), none⟩])
       (.seq (.reg [⟨(some 43), .bin .eql (.t 19) (.c (.int .i64 (4))), none⟩,
        ⟨(some 42), .mv (.t 43), none⟩])
       (.cond (.t 42)
         (.reg [⟨(some 45), .mv (.t 0), none⟩,
          ⟨(some 46), .call (.c (.fn (.func 33) [])) [(.t 45)], none⟩,
          ⟨(some 47), .call (.c (.fn (.func 35) [])) [(.t 46)], none⟩,
          ⟨(some 44), .mv (.t 47), none⟩,
          ⟨(some 48), .ext 0 (.t 44), none⟩,
          ⟨(some 49), .ext 1 (.t 44), none⟩,
          ⟨(some 50), .ext 2 (.t 44), none⟩,
          ⟨(some 51), .fldA 306 (.t 4), none⟩,
          ⟨none, .sto 70 (.t 51) (.t 48), none⟩,
          ⟨(some 6), .mv (.t 49), none⟩,
          ⟨(some 7), .mv (.t 50), none⟩])
         (.seq (.reg [⟨(some 53), .bin .eql (.t 19) (.c (.int .i64 (5))), none⟩,
          ⟨(some 52), .mv (.t 53), none⟩])
         (.cond (.t 52)
           (.reg [⟨(some 55), .mv (.t 0), none⟩,
            ⟨(some 56), .call (.c (.fn (.func 33) [])) [(.t 55)], none⟩,
            ⟨(some 57), .call (.c (.fn (.func 36) [])) [(.t 56)], none⟩,
            ⟨(some 54), .mv (.t 57), none⟩,
            ⟨(some 58), .ext 0 (.t 54), none⟩,
            ⟨(some 59), .ext 1 (.t 54), none⟩,
            ⟨(some 60), .ext 2 (.t 54), none⟩,
            ⟨(some 61), .fldA 376 (.t 4), none⟩,
            ⟨none, .sto 34 (.t 61) (.t 58), none⟩,
            ⟨(some 6), .mv (.t 59), none⟩,
            ⟨(some 7), .mv (.t 60), none⟩])
           (.seq (.reg [⟨(some 63), .bin .eql (.t 19) (.c (.int .i64 (6))), none⟩,
            ⟨(some 62), .mv (.t 63), none⟩])
           (.cond (.t 62)
             (.reg [⟨(some 65), .mv (.t 0), none⟩,
              ⟨(some 66), .call (.c (.fn (.func 33) [])) [(.t 65)], none⟩,
              ⟨(some 67), .call (.c (.fn (.func 37) [])) [(.t 66)], none⟩,
              ⟨(some 64), .mv (.t 67), none⟩,
              ⟨(some 68), .ext 0 (.t 64), none⟩,
              ⟨(some 69), .ext 1 (.t 64), none⟩,
              ⟨(some 70), .ext 2 (.t 64), none⟩,
              ⟨(some 71), .fldA 410 (.t 4), none⟩,
              ⟨none, .sto 34 (.t 71) (.t 68), none⟩,
              ⟨(some 6), .mv (.t 69), none⟩,
              ⟨(some 7), .mv (.t 70), none⟩])
             (.seq (.reg [⟨(some 73), .bin .eql (.t 19) (.c (.int .i64 (8))), none⟩,
              ⟨(some 72), .mv (.t 73), none⟩])
             (.cond (.t 72)
               (.reg [⟨(some 74), .mv (.t 0), none⟩,
                ⟨(some 75), .call (.c (.fn (.func 30) [])) [(.t 74), (.c (.int .u64 (32768)))], none⟩,
                ⟨(some 76), .cvt .i64 (.t 75), none⟩,
                ⟨(some 77), .mv (.t 0), none⟩,
                ⟨(some 78), .call (.c (.fn (.func 30) [])) [(.t 77), (.c (.int .u64 (32768)))], none⟩,
                ⟨(some 79), .cvt .i64 (.t 78), none⟩,
                ⟨(some 80), .fldA 444 (.t 4), none⟩,
                ⟨none, .sto 1 (.t 80) (.t 76), none⟩,
                ⟨(some 81), .fldA 445 (.t 4), none⟩,
                ⟨none, .sto 1 (.t 81) (.t 79), none⟩])
               .skip))))))))))))))))
 (.seq (.reg [⟨(some 82), .mv (.t 0), none⟩,
  ⟨(some 83), .mv (.t 6), none⟩,
  ⟨(some 84), .mv (.t 7), none⟩,
  ⟨(some 85), .call (.c (.fn (.func 38) [])) [(.t 82), (.t 83), (.t 84)], none⟩])
 (.seq (.dreg [(⟨(some 86), .ld true 446 (.t 4), none⟩, 0),
  (⟨(some 87), .mv (.t 0), none⟩, 0),
  (⟨(some 88), .call (.c (.fn (.func 31) [])) [(.t 87)], none⟩, 2),
  (⟨none, .sto 446 (.t 2) (.t 86), none⟩, 7),
  (⟨(some 3), .mv (.t 88), none⟩, 15)])
 .ret)))))))
theorem f_script_operation : aFun Try.prog 21 = some (89, [.cell 2 true 446, .tmp 3], c_script_operation) := by kernel_rfl
/-- (*raw.Reader).Tail -/
def c_raw_Reader_Tail : ACode := (.seq (.reg [⟨(some 2), .mv (.c (.sl 0 true [])), none⟩])
 (.seq (.reg [⟨(some 3), .mv (.t 0), none⟩,
  ⟨(some 4), .nilc (.t 3), none⟩,
  ⟨(some 5), .fldA 0 (.t 4), none⟩,
  ⟨(some 6), .ld false 1 (.t 5), none⟩,
  ⟨(some 2), .mv (.t 6), none⟩])
 .ret))
theorem f_raw_Reader_Tail : aFun Try.prog 33 = some (7, [.tmp 2], c_raw_Reader_Tail) := by kernel_rfl
/-- (*raw.Reader).Take -/
def c_raw_Reader_Take : ACode := (.block 0 (.seq (.reg [⟨(some 16), .mv (.t 0), none⟩,
  ⟨(some 17), .nilc (.t 16), none⟩,
  ⟨(some 18), .fldA 1 (.t 17), none⟩,
  ⟨(some 19), .ld false 1 (.t 18), none⟩,
  ⟨(some 20), .bin .neq (.t 19) (.c (.int .i64 (0))), none⟩,
  ⟨(some 15), .mv (.t 20), none⟩])
 (.cond (.t 15)
   .skip
   (.seq (.reg [⟨(some 22), .mv (.t 2), none⟩,
    ⟨(some 23), .bin .neq (.t 22) (.c (.int .i64 (0))), none⟩,
    ⟨(some 21), .mv (.t 23), none⟩])
   (.cond (.t 21)
     (.reg [⟨(some 24), .mv (.t 0), none⟩,
      ⟨(some 25), .mv (.t 2), none⟩,
      ⟨(some 26), .call (.c (.fn (.func 41) [])) [(.t 24), (.t 25)], none⟩])
     (.reg [⟨(some 6), .mv (.t 0), none⟩,
      ⟨(some 7), .mv (.t 0), none⟩,
      ⟨(some 8), .nilc (.t 7), none⟩,
      ⟨(some 9), .fldA 0 (.t 8), none⟩,
      ⟨(some 10), .ld false 1 (.t 9), none⟩,
      ⟨(some 11), .mv (.t 1), none⟩,
      ⟨(some 12), .sli 1 (.t 10) (some (.t 11)) none none, none⟩,
      ⟨(some 13), .nilc (.t 6), none⟩,
      ⟨(some 14), .fldA 0 (.t 13), none⟩,
      ⟨none, .sto 1 (.t 14) (.t 12), none⟩]))))))
theorem f_raw_Reader_Take : aFun Try.prog 38 = some (27, [], c_raw_Reader_Take) := by kernel_rfl
end Go.Proofs.Ytachiahepppajab
