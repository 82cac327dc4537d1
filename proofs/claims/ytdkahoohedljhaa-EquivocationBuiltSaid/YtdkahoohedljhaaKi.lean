/-
  Abstract forms of bodies, each with its fact. Printed by a program of mine.
-/
import Derived.Test.YtdkahoohedljhaaMc
import Derived.Test.YtdkahoohedljhaaChecked
import Derived.KernelRfl
namespace Go.Proofs.Ytdkahoohedljhaa
open Go Go.FH

/-- law9.EquivocationEvidence -/
def c_law9_EquivocationEvidence : ACode := (.seq (.reg [⟨(some 2), .box 70 (.t 0), none⟩,
  ⟨(some 4), .mv (.c (.bool false)), none⟩])
 (.seq (.seq (.reg [⟨(some 5), .fldA 0 (.t 2), none⟩,
  ⟨(some 6), .fldA 34 (.t 5), none⟩,
  ⟨(some 7), .ld false 1 (.t 6), none⟩,
  ⟨(some 8), .len false (.t 7), none⟩,
  ⟨(some 9), .bin .gtr (.t 8) (.c (.int .i64 (100))), none⟩,
  ⟨(some 10), .mv (.t 9), none⟩,
  ⟨(some 11), .fldA 35 (.t 2), (some (10, false))⟩,
  ⟨(some 12), .fldA 34 (.t 11), (some (10, false))⟩,
  ⟨(some 13), .ld false 1 (.t 12), (some (10, false))⟩,
  ⟨(some 14), .len false (.t 13), (some (10, false))⟩,
  ⟨(some 15), .bin .gtr (.t 14) (.c (.int .i64 (100))), (some (10, false))⟩,
  ⟨(some 16), .pick (.t 10) (.c (.bool true)) (.t 15), none⟩])
 (.cond (.t 16)
   (.seq (.reg [⟨(some 17), .call (.c (.fn (.func 14) [])) [], none⟩,
    ⟨(some 4), .mv (.t 17), none⟩])
   .ret)
   .skip))
 (.seq (.dreg [(⟨(some 18), .ld true 70 (.t 2), none⟩, 0),
  (⟨(some 19), .mv (.t 1), none⟩, 0),
  (⟨(some 20), .call (.c (.fn (.func 24) [])) [(.t 18), (.t 19)], none⟩, 3),
  (⟨(some 21), .ld true 70 (.t 2), none⟩, 0),
  (⟨(some 22), .mv (.t 1), none⟩, 0),
  (⟨(some 23), .call (.c (.fn (.func 25) [])) [(.t 21), (.t 22)], none⟩, 31),
  (⟨(some 24), .bin .eql (.t 20) (.t 23), none⟩, 63),
  (⟨(some 25), .mv (.t 24), none⟩, 127),
  (⟨(some 26), .ld true 70 (.t 2), (some (25, true))⟩, 255),
  (⟨(some 27), .call (.c (.fn (.func 26) [])) [(.t 26)], (some (25, true))⟩, 511),
  (⟨(some 28), .ld true 70 (.t 2), (some (25, true))⟩, 255),
  (⟨(some 29), .call (.c (.fn (.func 27) [])) [(.t 28)], (some (25, true))⟩, 2047),
  (⟨(some 30), .call (.c (.fn (.func 20) [])) [(.t 27), (.t 29)], (some (25, true))⟩, 4095),
  (⟨(some 31), .pick (.t 25) (.t 30) (.c (.bool false)), none⟩, 8191),
  (⟨(some 32), .mv (.t 31), none⟩, 16383),
  (⟨(some 33), .call (.c (.fn (.func 14) [])) [], (some (32, true))⟩, 32767),
  (⟨(some 34), .pick (.t 32) (.t 33) (.c (.bool false)), none⟩, 65535),
  (⟨(some 4), .mv (.t 34), none⟩, 131071)])
 .ret)))
theorem f_law9_EquivocationEvidence : aFun Try.prog 6 = some (35, [.tmp 4], c_law9_EquivocationEvidence) := by kernel_rfl
/-- law9.EquivocationBuilt -/
def c_law9_EquivocationBuilt : ACode := (.seq (.reg [⟨(some 4), .mv (.c (.bool false)), none⟩])
 (.seq (.reg [⟨(some 9), .mv (.t 0), none⟩,
  ⟨(some 10), .bin .and (.t 9) (.c (.int .i64 (7))), none⟩,
  ⟨(some 11), .bin .add (.c (.int .i64 (1))) (.t 10), none⟩,
  ⟨(some 12), .mv (.t 1), none⟩,
  ⟨(some 13), .bin .and (.t 12) (.c (.int .i64 (16777215))), none⟩,
  ⟨(some 0), .mv (.t 11), none⟩,
  ⟨(some 1), .mv (.t 13), none⟩])
 (.seq (.reg [⟨(some 14), .mv (.t 0), none⟩,
  ⟨(some 15), .mv (.t 1), none⟩,
  ⟨(some 16), .call (.c (.fn (.func 28) [])) [(.t 14), (.t 15)], none⟩,
  ⟨(some 5), .new (slgC slg0), none⟩,
  ⟨none, .sto 70 (.t 5) (.t 16), none⟩])
 (.seq (.reg [⟨(some 17), .ld true 70 (.t 5), none⟩,
  ⟨(some 18), .mv (.t 0), none⟩,
  ⟨(some 19), .call (.c (.fn (.func 24) [])) [(.t 17), (.t 18)], none⟩,
  ⟨(some 6), .mv (.t 19), none⟩])
 (.seq (.reg [⟨(some 20), .ld true 70 (.t 5), none⟩,
  ⟨(some 21), .call (.c (.fn (.func 26) [])) [(.t 20)], none⟩,
  ⟨(some 7), .mv (.t 21), none⟩])
 (.seq (.seq (.reg [⟨(some 22), .mv (.t 6), none⟩,
  ⟨(some 23), .ld true 70 (.t 5), none⟩,
  ⟨(some 24), .mv (.t 0), none⟩,
  ⟨(some 25), .call (.c (.fn (.func 25) [])) [(.t 23), (.t 24)], none⟩,
  ⟨(some 26), .bin .neq (.t 22) (.t 25), none⟩,
  ⟨(some 27), .mv (.t 26), none⟩,
  ⟨(some 28), .mv (.t 7), (some (27, false))⟩,
  ⟨(some 29), .ld true 70 (.t 5), (some (27, false))⟩,
  ⟨(some 30), .call (.c (.fn (.func 27) [])) [(.t 29)], (some (27, false))⟩,
  ⟨(some 31), .call (.c (.fn (.func 20) [])) [(.t 28), (.t 30)], (some (27, false))⟩,
  ⟨(some 32), .un .not (.t 31), (some (27, false))⟩,
  ⟨(some 33), .pick (.t 27) (.c (.bool true)) (.t 32), none⟩,
  ⟨(some 34), .mv (.t 33), none⟩,
  ⟨(some 35), .mv (.t 6), (some (34, false))⟩,
  ⟨(some 36), .bin .eql (.t 35) (.c (.int .i64 (0))), (some (34, false))⟩,
  ⟨(some 37), .mv (.t 36), (some (34, false))⟩,
  ⟨(some 38), .mv (.t 7), (some (37, true))⟩,
  ⟨(some 39), .len false (.t 38), (some (37, true))⟩,
  ⟨(some 40), .bin .eql (.t 39) (.c (.int .i64 (0))), (some (37, true))⟩,
  ⟨(some 41), .pick (.t 37) (.t 40) (.c (.bool false)), (some (34, false))⟩,
  ⟨(some 42), .pick (.t 34) (.c (.bool true)) (.t 41), none⟩])
 (.cond (.t 42)
   (.seq (.reg [⟨(some 4), .mv (.c (.bool false)), none⟩])
   .ret)
   .skip))
 (.seq (.seq (.reg [⟨(some 8), .mv (.c (.int .i64 (0))), none⟩])
 (.block 0 (.loop (.seq (.seq (.reg [⟨(some 43), .mv (.t 8), none⟩,
  ⟨(some 44), .mv (.t 7), none⟩,
  ⟨(some 45), .len false (.t 44), none⟩,
  ⟨(some 46), .bin .lss (.t 43) (.t 45), none⟩])
 (.cond (.t 46)
   .skip
   (.exit 0)))
 (.seq (.block 1 (.seq (.dreg [(⟨(some 49), .fldA 0 (.t 5), none⟩, 0),
  (⟨(some 50), .fldA 34 (.t 49), none⟩, 1),
  (⟨(some 51), .ld false 1 (.t 50), none⟩, 3),
  (⟨(some 52), .mv (.t 7), none⟩, 0),
  (⟨(some 53), .mv (.t 8), none⟩, 0),
  (⟨(some 54), .idxS 1 (.t 52) (.t 53), none⟩, 24),
  (⟨(some 55), .ld false 1 (.t 54), none⟩, 56),
  (⟨(some 56), .call (.c (.fn (.func 23) [])) [(.t 51), (.t 55)], none⟩, 127),
  (⟨(some 57), .un .not (.t 56), none⟩, 255),
  (⟨(some 58), .mv (.t 57), none⟩, 511),
  (⟨(some 59), .fldA 35 (.t 5), (some (58, false))⟩, 1023),
  (⟨(some 60), .fldA 34 (.t 59), (some (58, false))⟩, 2047),
  (⟨(some 61), .ld false 1 (.t 60), (some (58, false))⟩, 4095),
  (⟨(some 62), .mv (.t 7), (some (58, false))⟩, 1023),
  (⟨(some 63), .mv (.t 8), (some (58, false))⟩, 1023),
  (⟨(some 64), .idxS 1 (.t 62) (.t 63), (some (58, false))⟩, 25599),
  (⟨(some 65), .ld false 1 (.t 64), (some (58, false))⟩, 58367),
  (⟨(some 66), .call (.c (.fn (.func 23) [])) [(.t 61), (.t 65)], (some (58, false))⟩, 131071),
  (⟨(some 67), .un .not (.t 66), (some (58, false))⟩, 262143),
  (⟨(some 68), .pick (.t 58) (.c (.bool true)) (.t 67), none⟩, 524287)])
 (.cond (.t 68)
   (.seq (.reg [⟨(some 4), .mv (.c (.bool false)), none⟩])
   .ret)
   .skip)))
 (.reg [⟨(some 47), .mv (.t 8), none⟩,
  ⟨(some 48), .bin .add (.t 47) (.c (.int .i64 (1))), none⟩,
  ⟨(some 8), .mv (.t 48), none⟩]))))))
 (.seq (.reg [⟨(some 69), .call (.c (.fn (.func 14) [])) [], none⟩,
  ⟨(some 4), .mv (.t 69), none⟩])
 .ret))))))))
theorem f_law9_EquivocationBuilt : aFun Try.prog 7 = some (70, [.tmp 4], c_law9_EquivocationBuilt) := by kernel_rfl
/-- law9.awake -/
def c_law9_awake : ACode := (.seq (.reg [⟨(some 0), .mv (.c (.bool false)), none⟩])
 (.seq (.reg [⟨(some 5), .bld (clmC clm0) [(0, 1, (.c (.int .u64 (1)))), (1, 1, (.c (.int .u64 (5))))], none⟩,
  ⟨(some 6), .bld (clmC clm0) [(0, 1, (.c (.int .u64 (2)))), (1, 1, (.c (.int .u64 (4))))], none⟩,
  ⟨(some 1), .new (clmC clm0), none⟩,
  ⟨(some 2), .new (clmC clm0), none⟩,
  ⟨none, .sto 35 (.t 1) (.t 5), none⟩,
  ⟨none, .sto 35 (.t 2) (.t 6), none⟩])
 (.seq (.reg [⟨(some 7), .bld (clmC clm0) [(0, 1, (.c (.int .u64 (1)))), (1, 1, (.c (.int .u64 (4))))], none⟩,
  ⟨(some 8), .bld (clmC clm0) [(0, 1, (.c (.int .u64 (2)))), (1, 1, (.c (.int .u64 (5))))], none⟩,
  ⟨(some 3), .new (clmC clm0), none⟩,
  ⟨(some 4), .new (clmC clm0), none⟩,
  ⟨none, .sto 35 (.t 3) (.t 7), none⟩,
  ⟨none, .sto 35 (.t 4) (.t 8), none⟩])
 (.seq (.reg [⟨(some 9), .ld true 35 (.t 1), none⟩,
  ⟨(some 10), .ld true 35 (.t 2), none⟩,
  ⟨(some 11), .call (.c (.fn (.func 12) [])) [(.t 9), (.t 10)], none⟩,
  ⟨(some 12), .mv (.t 11), none⟩,
  ⟨(some 13), .ld true 35 (.t 2), (some (12, true))⟩,
  ⟨(some 14), .ld true 35 (.t 1), (some (12, true))⟩,
  ⟨(some 15), .call (.c (.fn (.func 12) [])) [(.t 13), (.t 14)], (some (12, true))⟩,
  ⟨(some 16), .pick (.t 12) (.t 15) (.c (.bool false)), none⟩,
  ⟨(some 17), .mv (.t 16), none⟩,
  ⟨(some 18), .ld true 35 (.t 3), (some (17, true))⟩,
  ⟨(some 19), .ld true 35 (.t 4), (some (17, true))⟩,
  ⟨(some 20), .call (.c (.fn (.func 12) [])) [(.t 18), (.t 19)], (some (17, true))⟩,
  ⟨(some 21), .un .not (.t 20), (some (17, true))⟩,
  ⟨(some 22), .pick (.t 17) (.t 21) (.c (.bool false)), none⟩,
  ⟨(some 23), .mv (.t 22), none⟩,
  ⟨(some 24), .ld true 35 (.t 1), (some (23, true))⟩,
  ⟨(some 25), .ld true 35 (.t 1), (some (23, true))⟩,
  ⟨(some 26), .call (.c (.fn (.func 12) [])) [(.t 24), (.t 25)], (some (23, true))⟩,
  ⟨(some 27), .un .not (.t 26), (some (23, true))⟩,
  ⟨(some 28), .pick (.t 23) (.t 27) (.c (.bool false)), none⟩,
  ⟨(some 0), .mv (.t 28), none⟩])
 .ret))))
theorem f_law9_awake : aFun Try.prog 14 = some (29, [.tmp 0], c_law9_awake) := by kernel_rfl
/-- equivocation.Validate -/
def c_equivocation_Validate : ACode := (.seq (.reg [⟨(some 2), .box 70 (.t 0), none⟩,
  ⟨(some 4), .mv (.c (.int .i64 (0))), none⟩])
 (.seq (.seq (.reg [⟨(some 8), .fldA 0 (.t 2), none⟩,
  ⟨(some 9), .ld true 35 (.t 8), none⟩,
  ⟨(some 10), .fldA 35 (.t 2), none⟩,
  ⟨(some 11), .ld true 35 (.t 10), none⟩,
  ⟨(some 12), .bldS 35 2 (clmC clm0) [(0, (.t 9)), (1, (.t 11))], none⟩,
  ⟨(some 13), .len false (.t 12), none⟩,
  ⟨(some 14), .mv (.c (.int .i64 (0))), none⟩])
 (.block 0 (.loop (.seq (.reg [⟨(some 15), .bin .lss (.t 14) (.t 13), none⟩])
 (.seq (.cond (.t 15)
   .skip
   (.exit 0))
 (.seq (.block 1 (.seq (.reg [⟨(some 16), .idxS 35 (.t 12) (.t 14), none⟩,
  ⟨(some 17), .ld true 35 (.t 16), none⟩,
  ⟨(some 6), .new (clmC clm0), none⟩,
  ⟨none, .sto 35 (.t 6) (.t 17), none⟩])
 (.seq (.reg [⟨(some 18), .fldA 34 (.t 6), none⟩,
  ⟨(some 19), .ld false 1 (.t 18), none⟩,
  ⟨(some 20), .mv (.t 1), none⟩,
  ⟨(some 21), .call (.c (.fn (.func 41) [])) [(.t 19), (.t 20)], none⟩,
  ⟨(some 7), .mv (.t 21), none⟩])
 (.seq (.reg [⟨(some 22), .mv (.t 7), none⟩,
  ⟨(some 23), .bin .neq (.t 22) (.c (.int .i64 (0))), none⟩])
 (.cond (.t 23)
   (.seq (.reg [⟨(some 24), .mv (.t 7), none⟩,
    ⟨(some 4), .mv (.t 24), none⟩])
   .ret)
   .skip)))))
 (.reg [⟨(some 25), .bin .add (.t 14) (.c (.int .i64 (1))), none⟩,
  ⟨(some 14), .mv (.t 25), none⟩])))))))
 (.seq (.seq (.reg [⟨(some 26), .fldA 0 (.t 2), none⟩,
  ⟨(some 27), .fldA 0 (.t 26), none⟩,
  ⟨(some 28), .ld false 1 (.t 27), none⟩,
  ⟨(some 29), .fldA 0 (.t 2), none⟩,
  ⟨(some 30), .fldA 1 (.t 29), none⟩,
  ⟨(some 31), .ld false 1 (.t 30), none⟩,
  ⟨(some 32), .bin .gtr (.t 28) (.t 31), none⟩,
  ⟨(some 33), .mv (.t 32), none⟩,
  ⟨(some 34), .fldA 35 (.t 2), (some (33, false))⟩,
  ⟨(some 35), .fldA 0 (.t 34), (some (33, false))⟩,
  ⟨(some 36), .ld false 1 (.t 35), (some (33, false))⟩,
  ⟨(some 37), .fldA 35 (.t 2), (some (33, false))⟩,
  ⟨(some 38), .fldA 1 (.t 37), (some (33, false))⟩,
  ⟨(some 39), .ld false 1 (.t 38), (some (33, false))⟩,
  ⟨(some 40), .bin .gtr (.t 36) (.t 39), (some (33, false))⟩,
  ⟨(some 41), .pick (.t 33) (.c (.bool true)) (.t 40), none⟩])
 (.cond (.t 41)
   (.seq (.reg [⟨(some 4), .mv (.c (.int .i64 (2))), none⟩])
   .ret)
   .skip))
 (.seq (.seq (.reg [⟨(some 42), .fldA 0 (.t 2), none⟩,
  ⟨(some 43), .ld true 35 (.t 42), none⟩,
  ⟨(some 44), .fldA 35 (.t 2), none⟩,
  ⟨(some 45), .ld true 35 (.t 44), none⟩,
  ⟨(some 46), .call (.c (.fn (.func 12) [])) [(.t 43), (.t 45)], none⟩,
  ⟨(some 47), .un .not (.t 46), none⟩,
  ⟨(some 48), .mv (.t 47), none⟩,
  ⟨(some 49), .ld true 70 (.t 2), (some (48, false))⟩,
  ⟨(some 50), .call (.c (.fn (.func 26) [])) [(.t 49)], (some (48, false))⟩,
  ⟨(some 51), .len false (.t 50), (some (48, false))⟩,
  ⟨(some 52), .bin .eql (.t 51) (.c (.int .i64 (0))), (some (48, false))⟩,
  ⟨(some 53), .pick (.t 48) (.c (.bool true)) (.t 52), none⟩])
 (.cond (.t 53)
   (.seq (.reg [⟨(some 4), .mv (.c (.int .i64 (20))), none⟩])
   .ret)
   .skip))
 (.seq (.reg [⟨(some 4), .mv (.c (.int .i64 (0))), none⟩])
 .ret)))))
theorem f_equivocation_Validate : aFun Try.prog 24 = some (54, [.tmp 4], c_equivocation_Validate) := by kernel_rfl
/-- equivocation.Culprits -/
def c_equivocation_Culprits : ACode := (.seq (.reg [⟨(some 1), .box 70 (.t 0), none⟩,
  ⟨(some 2), .mv (.c (.sl 0 true [])), none⟩])
 (.seq (.reg [⟨(some 13), .mop .mkm [], none⟩,
  ⟨(some 3), .mv (.t 13), none⟩])
 (.seq (.seq (.reg [⟨(some 14), .fldA 0 (.t 1), none⟩,
  ⟨(some 15), .fldA 34 (.t 14), none⟩,
  ⟨(some 16), .ld false 1 (.t 15), none⟩,
  ⟨(some 17), .len false (.t 16), none⟩,
  ⟨(some 18), .mv (.c (.int .i64 (0))), none⟩])
 (.block 0 (.loop (.seq (.reg [⟨(some 19), .bin .lss (.t 18) (.t 17), none⟩])
 (.seq (.cond (.t 19)
   .skip
   (.exit 0))
 (.seq (.block 1 (.seq (.reg [⟨(some 20), .idxS 1 (.t 16) (.t 18), none⟩,
  ⟨(some 21), .ld false 1 (.t 20), none⟩,
  ⟨(some 5), .mv (.t 21), none⟩])
 (.reg [⟨(some 22), .mv (.t 3), none⟩,
  ⟨(some 23), .mv (.t 5), none⟩,
  ⟨none, .mop (.upd none) [(.t 22), (.t 23), (.c (.bool false))], none⟩])))
 (.reg [⟨(some 24), .bin .add (.t 18) (.c (.int .i64 (1))), none⟩,
  ⟨(some 18), .mv (.t 24), none⟩])))))))
 (.seq (.seq (.reg [⟨(some 25), .fldA 35 (.t 1), none⟩,
  ⟨(some 26), .fldA 34 (.t 25), none⟩,
  ⟨(some 27), .ld false 1 (.t 26), none⟩,
  ⟨(some 28), .len false (.t 27), none⟩,
  ⟨(some 29), .mv (.c (.int .i64 (0))), none⟩])
 (.block 2 (.loop (.seq (.reg [⟨(some 30), .bin .lss (.t 29) (.t 28), none⟩])
 (.seq (.cond (.t 30)
   .skip
   (.exit 2))
 (.seq (.block 3 (.seq (.reg [⟨(some 31), .idxS 1 (.t 27) (.t 29), none⟩,
  ⟨(some 32), .ld false 1 (.t 31), none⟩,
  ⟨(some 7), .mv (.t 32), none⟩])
 (.seq (.reg [⟨(some 34), .mv (.t 3), none⟩,
  ⟨(some 35), .mv (.t 7), none⟩,
  ⟨(some 36), .mop (.lkp none (.bool false) true) [(.t 34), (.t 35)], none⟩,
  ⟨(some 33), .mv (.t 36), none⟩,
  ⟨(some 37), .ext 0 (.t 33), none⟩,
  ⟨(some 38), .ext 1 (.t 33), none⟩,
  ⟨(some 8), .mv (.t 37), none⟩,
  ⟨(some 9), .mv (.t 38), none⟩])
 (.seq (.reg [⟨(some 39), .mv (.t 9), none⟩])
 (.cond (.t 39)
   (.reg [⟨(some 40), .mv (.t 3), none⟩,
    ⟨(some 41), .mv (.t 7), none⟩,
    ⟨none, .mop (.upd none) [(.t 40), (.t 41), (.c (.bool true))], none⟩])
   .skip)))))
 (.reg [⟨(some 42), .bin .add (.t 29) (.c (.int .i64 (1))), none⟩,
  ⟨(some 29), .mv (.t 42), none⟩])))))))
 (.seq (.reg [⟨(some 10), .mv (.c (.sl 0 true [])), none⟩])
 (.seq (.seq (.reg [⟨(some 43), .mv (.t 3), none⟩,
  ⟨(some 44), .mop .rng [(.t 43)], none⟩])
 (.block 4 (.loop (.seq (.reg [⟨(some 45), .nxt (.t 44), none⟩,
  ⟨(some 46), .ext 0 (.t 45), none⟩])
 (.seq (.cond (.t 46)
   .skip
   (.exit 4))
 (.block 5 (.seq (.reg [⟨(some 47), .mop .ent [(.t 44)], none⟩,
  ⟨(some 48), .ext 0 (.t 47), none⟩,
  ⟨(some 49), .ext 1 (.t 47), none⟩,
  ⟨(some 11), .mv (.t 48), none⟩,
  ⟨(some 12), .mv (.t 49), none⟩])
 (.seq (.reg [⟨(some 50), .mv (.t 12), none⟩])
 (.cond (.t 50)
   (.reg [⟨(some 51), .mv (.t 10), none⟩,
    ⟨(some 52), .mv (.t 11), none⟩,
    ⟨(some 53), .bldS 1 1 [(.int .i64 (0))] [(0, (.t 52))], none⟩,
    ⟨(some 54), .app 1 8 (.t 51) (.t 53), none⟩,
    ⟨(some 10), .mv (.t 54), none⟩])
   .skip)))))))))
 (.seq (.reg [⟨(some 55), .mv (.t 10), none⟩,
  ⟨(some 56), .call (.c (.fn (.func 43) [])) [(.t 55)], none⟩])
 (.seq (.reg [⟨(some 57), .mv (.t 10), none⟩,
  ⟨(some 2), .mv (.t 57), none⟩])
 .ret))))))))
theorem f_equivocation_Culprits : aFun Try.prog 26 = some (58, [.tmp 2], c_equivocation_Culprits) := by kernel_rfl
/-- equivocation.Slashable -/
def c_equivocation_Slashable : ACode := (.seq (.reg [⟨(some 2), .box 35 (.t 0), none⟩,
  ⟨(some 3), .box 35 (.t 1), none⟩,
  ⟨(some 4), .mv (.c (.bool false)), none⟩])
 (.seq (.reg [⟨(some 6), .fldA 1 (.t 2), none⟩,
  ⟨(some 7), .ld false 1 (.t 6), none⟩,
  ⟨(some 8), .fldA 1 (.t 3), none⟩,
  ⟨(some 9), .ld false 1 (.t 8), none⟩,
  ⟨(some 10), .bin .eql (.t 7) (.t 9), none⟩,
  ⟨(some 11), .mv (.t 10), none⟩,
  ⟨(some 12), .fldA 0 (.t 2), (some (11, true))⟩,
  ⟨(some 13), .ld false 1 (.t 12), (some (11, true))⟩,
  ⟨(some 14), .fldA 0 (.t 3), (some (11, true))⟩,
  ⟨(some 15), .ld false 1 (.t 14), (some (11, true))⟩,
  ⟨(some 16), .bin .neq (.t 13) (.t 15), (some (11, true))⟩,
  ⟨(some 17), .mv (.t 16), (some (11, true))⟩,
  ⟨(some 18), .fldA 2 (.t 2), (some (17, false))⟩,
  ⟨(some 19), .ld true 32 (.t 18), (some (17, false))⟩,
  ⟨(some 20), .fldA 2 (.t 3), (some (17, false))⟩,
  ⟨(some 21), .ld true 32 (.t 20), (some (17, false))⟩,
  ⟨(some 22), .eqa [(32, 1)] true (.t 19) (.t 21), (some (17, false))⟩,
  ⟨(some 23), .pick (.t 17) (.c (.bool true)) (.t 22), (some (11, true))⟩,
  ⟨(some 24), .pick (.t 11) (.t 23) (.c (.bool false)), none⟩,
  ⟨(some 5), .mv (.t 24), none⟩])
 (.seq (.reg [⟨(some 25), .mv (.t 5), none⟩,
  ⟨(some 26), .mv (.t 25), none⟩,
  ⟨(some 27), .ld true 35 (.t 2), (some (26, false))⟩,
  ⟨(some 28), .ld true 35 (.t 3), (some (26, false))⟩,
  ⟨(some 29), .call (.c (.fn (.func 40) [])) [(.t 27), (.t 28)], (some (26, false))⟩,
  ⟨(some 30), .pick (.t 26) (.c (.bool true)) (.t 29), none⟩,
  ⟨(some 31), .mv (.t 30), none⟩,
  ⟨(some 32), .ld true 35 (.t 3), (some (31, false))⟩,
  ⟨(some 33), .ld true 35 (.t 2), (some (31, false))⟩,
  ⟨(some 34), .call (.c (.fn (.func 40) [])) [(.t 32), (.t 33)], (some (31, false))⟩,
  ⟨(some 35), .pick (.t 31) (.c (.bool true)) (.t 34), none⟩,
  ⟨(some 4), .mv (.t 35), none⟩])
 .ret)))
theorem f_equivocation_Slashable : aFun Try.prog 12 = some (36, [.tmp 4], c_equivocation_Slashable) := by kernel_rfl
/-- equivocation.surrounds -/
def c_equivocation_surrounds : ACode := (.seq (.reg [⟨(some 2), .box 35 (.t 0), none⟩,
  ⟨(some 3), .box 35 (.t 1), none⟩,
  ⟨(some 4), .mv (.c (.bool false)), none⟩])
 (.seq (.reg [⟨(some 5), .fldA 0 (.t 2), none⟩,
  ⟨(some 6), .ld false 1 (.t 5), none⟩,
  ⟨(some 7), .fldA 0 (.t 3), none⟩,
  ⟨(some 8), .ld false 1 (.t 7), none⟩,
  ⟨(some 9), .bin .lss (.t 6) (.t 8), none⟩,
  ⟨(some 10), .mv (.t 9), none⟩,
  ⟨(some 11), .fldA 1 (.t 2), (some (10, true))⟩,
  ⟨(some 12), .ld false 1 (.t 11), (some (10, true))⟩,
  ⟨(some 13), .fldA 1 (.t 3), (some (10, true))⟩,
  ⟨(some 14), .ld false 1 (.t 13), (some (10, true))⟩,
  ⟨(some 15), .bin .gtr (.t 12) (.t 14), (some (10, true))⟩,
  ⟨(some 16), .pick (.t 10) (.t 15) (.c (.bool false)), none⟩,
  ⟨(some 4), .mv (.t 16), none⟩])
 .ret))
theorem f_equivocation_surrounds : aFun Try.prog 40 = some (17, [.tmp 4], c_equivocation_surrounds) := by kernel_rfl
/-- ref7.ValidateSlashing -/
def c_ref7_ValidateSlashing : ACode := (.seq (.reg [⟨(some 2), .box 70 (.t 0), none⟩,
  ⟨(some 4), .mv (.c (.int .i64 (0))), none⟩])
 (.seq (.seq (.reg [⟨(some 7), .fldA 0 (.t 2), none⟩,
  ⟨(some 8), .fldA 34 (.t 7), none⟩,
  ⟨(some 9), .ld false 1 (.t 8), none⟩,
  ⟨(some 10), .mv (.t 1), none⟩,
  ⟨(some 11), .call (.c (.fn (.func 18) [])) [(.t 9), (.t 10)], none⟩,
  ⟨(some 5), .mv (.t 11), none⟩])
 (.seq (.reg [⟨(some 12), .mv (.t 5), none⟩,
  ⟨(some 13), .bin .neq (.t 12) (.c (.int .i64 (0))), none⟩])
 (.cond (.t 13)
   (.seq (.reg [⟨(some 14), .mv (.t 5), none⟩,
    ⟨(some 4), .mv (.t 14), none⟩])
   .ret)
   .skip)))
 (.seq (.seq (.reg [⟨(some 15), .fldA 35 (.t 2), none⟩,
  ⟨(some 16), .fldA 34 (.t 15), none⟩,
  ⟨(some 17), .ld false 1 (.t 16), none⟩,
  ⟨(some 18), .mv (.t 1), none⟩,
  ⟨(some 19), .call (.c (.fn (.func 18) [])) [(.t 17), (.t 18)], none⟩,
  ⟨(some 6), .mv (.t 19), none⟩])
 (.seq (.reg [⟨(some 20), .mv (.t 6), none⟩,
  ⟨(some 21), .bin .neq (.t 20) (.c (.int .i64 (0))), none⟩])
 (.cond (.t 21)
   (.seq (.reg [⟨(some 22), .mv (.t 6), none⟩,
    ⟨(some 4), .mv (.t 22), none⟩])
   .ret)
   .skip)))
 (.seq (.seq (.reg [⟨(some 23), .fldA 0 (.t 2), none⟩,
  ⟨(some 24), .fldA 0 (.t 23), none⟩,
  ⟨(some 25), .ld false 1 (.t 24), none⟩,
  ⟨(some 26), .fldA 0 (.t 2), none⟩,
  ⟨(some 27), .fldA 1 (.t 26), none⟩,
  ⟨(some 28), .ld false 1 (.t 27), none⟩,
  ⟨(some 29), .bin .gtr (.t 25) (.t 28), none⟩,
  ⟨(some 30), .mv (.t 29), none⟩,
  ⟨(some 31), .fldA 35 (.t 2), (some (30, false))⟩,
  ⟨(some 32), .fldA 0 (.t 31), (some (30, false))⟩,
  ⟨(some 33), .ld false 1 (.t 32), (some (30, false))⟩,
  ⟨(some 34), .fldA 35 (.t 2), (some (30, false))⟩,
  ⟨(some 35), .fldA 1 (.t 34), (some (30, false))⟩,
  ⟨(some 36), .ld false 1 (.t 35), (some (30, false))⟩,
  ⟨(some 37), .bin .gtr (.t 33) (.t 36), (some (30, false))⟩,
  ⟨(some 38), .pick (.t 30) (.c (.bool true)) (.t 37), none⟩])
 (.cond (.t 38)
   (.seq (.reg [⟨(some 4), .mv (.c (.int .i64 (2))), none⟩])
   .ret)
   .skip))
 (.seq (.seq (.reg [⟨(some 39), .fldA 0 (.t 2), none⟩,
  ⟨(some 40), .ld true 35 (.t 39), none⟩,
  ⟨(some 41), .fldA 35 (.t 2), none⟩,
  ⟨(some 42), .ld true 35 (.t 41), none⟩,
  ⟨(some 43), .call (.c (.fn (.func 13) [])) [(.t 40), (.t 42)], none⟩,
  ⟨(some 44), .un .not (.t 43), none⟩,
  ⟨(some 45), .mv (.t 44), none⟩,
  ⟨(some 46), .ld true 70 (.t 2), (some (45, false))⟩,
  ⟨(some 47), .call (.c (.fn (.func 27) [])) [(.t 46)], (some (45, false))⟩,
  ⟨(some 48), .len false (.t 47), (some (45, false))⟩,
  ⟨(some 49), .bin .eql (.t 48) (.c (.int .i64 (0))), (some (45, false))⟩,
  ⟨(some 50), .pick (.t 45) (.c (.bool true)) (.t 49), none⟩])
 (.cond (.t 50)
   (.seq (.reg [⟨(some 4), .mv (.c (.int .i64 (20))), none⟩])
   .ret)
   .skip))
 (.seq (.reg [⟨(some 4), .mv (.c (.int .i64 (0))), none⟩])
 .ret))))))
theorem f_ref7_ValidateSlashing : aFun Try.prog 25 = some (51, [.tmp 4], c_ref7_ValidateSlashing) := by kernel_rfl
/-- ref7.Culprits -/
def c_ref7_Culprits : ACode := (.seq (.reg [⟨(some 1), .box 70 (.t 0), none⟩,
  ⟨(some 2), .mv (.c (.sl 0 true [])), none⟩])
 (.seq (.reg [⟨(some 3), .mv (.c (.sl 0 true [])), none⟩])
 (.seq (.seq (.reg [⟨(some 4), .mv (.c (.int .i64 (0))), none⟩])
 (.block 0 (.loop (.seq (.seq (.reg [⟨(some 5), .mv (.t 4), none⟩,
  ⟨(some 6), .fldA 0 (.t 1), none⟩,
  ⟨(some 7), .fldA 34 (.t 6), none⟩,
  ⟨(some 8), .ld false 1 (.t 7), none⟩,
  ⟨(some 9), .len false (.t 8), none⟩,
  ⟨(some 10), .bin .lss (.t 5) (.t 9), none⟩])
 (.cond (.t 10)
   .skip
   (.exit 0)))
 (.seq (.block 1 (.seq (.dreg [(⟨(some 13), .fldA 35 (.t 1), none⟩, 0),
  (⟨(some 14), .fldA 34 (.t 13), none⟩, 1),
  (⟨(some 15), .ld false 1 (.t 14), none⟩, 3),
  (⟨(some 16), .fldA 0 (.t 1), none⟩, 0),
  (⟨(some 17), .fldA 34 (.t 16), none⟩, 8),
  (⟨(some 18), .ld false 1 (.t 17), none⟩, 24),
  (⟨(some 19), .mv (.t 4), none⟩, 0),
  (⟨(some 20), .idxS 1 (.t 18) (.t 19), none⟩, 120),
  (⟨(some 21), .ld false 1 (.t 20), none⟩, 248),
  (⟨(some 22), .call (.c (.fn (.func 23) [])) [(.t 15), (.t 21)], none⟩, 511)])
 (.cond (.t 22)
   (.reg [⟨(some 23), .mv (.t 3), none⟩,
    ⟨(some 24), .fldA 0 (.t 1), none⟩,
    ⟨(some 25), .fldA 34 (.t 24), none⟩,
    ⟨(some 26), .ld false 1 (.t 25), none⟩,
    ⟨(some 27), .mv (.t 4), none⟩,
    ⟨(some 28), .idxS 1 (.t 26) (.t 27), none⟩,
    ⟨(some 29), .ld false 1 (.t 28), none⟩,
    ⟨(some 30), .call (.c (.fn (.func 42) [])) [(.t 23), (.t 29)], none⟩,
    ⟨(some 3), .mv (.t 30), none⟩])
   .skip)))
 (.reg [⟨(some 11), .mv (.t 4), none⟩,
  ⟨(some 12), .bin .add (.t 11) (.c (.int .i64 (1))), none⟩,
  ⟨(some 4), .mv (.t 12), none⟩]))))))
 (.seq (.reg [⟨(some 31), .mv (.t 3), none⟩,
  ⟨(some 2), .mv (.t 31), none⟩])
 .ret))))
theorem f_ref7_Culprits : aFun Try.prog 27 = some (32, [.tmp 2], c_ref7_Culprits) := by kernel_rfl
/-- ref7.Slashable -/
def c_ref7_Slashable : ACode := (.seq (.reg [⟨(some 2), .box 35 (.t 0), none⟩,
  ⟨(some 3), .box 35 (.t 1), none⟩,
  ⟨(some 4), .mv (.c (.bool false)), none⟩])
 (.seq (.reg [⟨(some 8), .fldA 1 (.t 2), none⟩,
  ⟨(some 9), .ld false 1 (.t 8), none⟩,
  ⟨(some 10), .fldA 1 (.t 3), none⟩,
  ⟨(some 11), .ld false 1 (.t 10), none⟩,
  ⟨(some 12), .bin .eql (.t 9) (.t 11), none⟩,
  ⟨(some 13), .mv (.t 12), none⟩,
  ⟨(some 14), .fldA 0 (.t 2), (some (13, true))⟩,
  ⟨(some 15), .ld false 1 (.t 14), (some (13, true))⟩,
  ⟨(some 16), .fldA 0 (.t 3), (some (13, true))⟩,
  ⟨(some 17), .ld false 1 (.t 16), (some (13, true))⟩,
  ⟨(some 18), .bin .neq (.t 15) (.t 17), (some (13, true))⟩,
  ⟨(some 19), .mv (.t 18), (some (13, true))⟩,
  ⟨(some 20), .fldA 2 (.t 2), (some (19, false))⟩,
  ⟨(some 21), .ld true 32 (.t 20), (some (19, false))⟩,
  ⟨(some 22), .fldA 2 (.t 3), (some (19, false))⟩,
  ⟨(some 23), .ld true 32 (.t 22), (some (19, false))⟩,
  ⟨(some 24), .eqa [(32, 1)] true (.t 21) (.t 23), (some (19, false))⟩,
  ⟨(some 25), .pick (.t 19) (.c (.bool true)) (.t 24), (some (13, true))⟩,
  ⟨(some 26), .pick (.t 13) (.t 25) (.c (.bool false)), none⟩,
  ⟨(some 5), .mv (.t 26), none⟩])
 (.seq (.reg [⟨(some 27), .fldA 0 (.t 2), none⟩,
  ⟨(some 28), .ld false 1 (.t 27), none⟩,
  ⟨(some 29), .fldA 0 (.t 3), none⟩,
  ⟨(some 30), .ld false 1 (.t 29), none⟩,
  ⟨(some 31), .bin .lss (.t 28) (.t 30), none⟩,
  ⟨(some 32), .mv (.t 31), none⟩,
  ⟨(some 33), .fldA 1 (.t 2), (some (32, true))⟩,
  ⟨(some 34), .ld false 1 (.t 33), (some (32, true))⟩,
  ⟨(some 35), .fldA 1 (.t 3), (some (32, true))⟩,
  ⟨(some 36), .ld false 1 (.t 35), (some (32, true))⟩,
  ⟨(some 37), .bin .gtr (.t 34) (.t 36), (some (32, true))⟩,
  ⟨(some 38), .pick (.t 32) (.t 37) (.c (.bool false)), none⟩,
  ⟨(some 6), .mv (.t 38), none⟩])
 (.seq (.reg [⟨(some 39), .fldA 0 (.t 3), none⟩,
  ⟨(some 40), .ld false 1 (.t 39), none⟩,
  ⟨(some 41), .fldA 0 (.t 2), none⟩,
  ⟨(some 42), .ld false 1 (.t 41), none⟩,
  ⟨(some 43), .bin .lss (.t 40) (.t 42), none⟩,
  ⟨(some 44), .mv (.t 43), none⟩,
  ⟨(some 45), .fldA 1 (.t 3), (some (44, true))⟩,
  ⟨(some 46), .ld false 1 (.t 45), (some (44, true))⟩,
  ⟨(some 47), .fldA 1 (.t 2), (some (44, true))⟩,
  ⟨(some 48), .ld false 1 (.t 47), (some (44, true))⟩,
  ⟨(some 49), .bin .gtr (.t 46) (.t 48), (some (44, true))⟩,
  ⟨(some 50), .pick (.t 44) (.t 49) (.c (.bool false)), none⟩,
  ⟨(some 7), .mv (.t 50), none⟩])
 (.seq (.reg [⟨(some 51), .mv (.t 5), none⟩,
  ⟨(some 52), .mv (.t 51), none⟩,
  ⟨(some 53), .mv (.t 6), (some (52, false))⟩,
  ⟨(some 54), .pick (.t 52) (.c (.bool true)) (.t 53), none⟩,
  ⟨(some 55), .mv (.t 54), none⟩,
  ⟨(some 56), .mv (.t 7), (some (55, false))⟩,
  ⟨(some 57), .pick (.t 55) (.c (.bool true)) (.t 56), none⟩,
  ⟨(some 4), .mv (.t 57), none⟩])
 .ret)))))
theorem f_ref7_Slashable : aFun Try.prog 13 = some (58, [.tmp 4], c_ref7_Slashable) := by kernel_rfl
/-- ref7.Insert -/
def c_ref7_Insert : ACode := (.seq (.reg [⟨(some 4), .mv (.c (.sl 0 true [])), none⟩])
 (.seq (.reg [⟨(some 5), .mv (.c (.int .i64 (0))), none⟩])
 (.seq (.block 0 (.loop (.seq (.seq (.reg [⟨(some 6), .mv (.t 5), none⟩,
  ⟨(some 7), .mv (.t 0), none⟩,
  ⟨(some 8), .len false (.t 7), none⟩,
  ⟨(some 9), .bin .lss (.t 6) (.t 8), none⟩,
  ⟨(some 10), .mv (.t 9), none⟩,
  ⟨(some 11), .mv (.t 0), (some (10, true))⟩,
  ⟨(some 12), .mv (.t 5), (some (10, true))⟩,
  ⟨(some 13), .idxS 1 (.t 11) (.t 12), (some (10, true))⟩,
  ⟨(some 14), .ld false 1 (.t 13), (some (10, true))⟩,
  ⟨(some 15), .mv (.t 1), (some (10, true))⟩,
  ⟨(some 16), .bin .lss (.t 14) (.t 15), (some (10, true))⟩,
  ⟨(some 17), .pick (.t 10) (.t 16) (.c (.bool false)), none⟩])
 (.cond (.t 17)
   .skip
   (.exit 0)))
 (.block 1 (.reg [⟨(some 18), .mv (.t 5), none⟩,
  ⟨(some 19), .bin .add (.t 18) (.c (.int .i64 (1))), none⟩,
  ⟨(some 5), .mv (.t 19), none⟩])))))
 (.seq (.seq (.reg [⟨(some 20), .mv (.t 5), none⟩,
  ⟨(some 21), .mv (.t 0), none⟩,
  ⟨(some 22), .len false (.t 21), none⟩,
  ⟨(some 23), .bin .lss (.t 20) (.t 22), none⟩,
  ⟨(some 24), .mv (.t 23), none⟩,
  ⟨(some 25), .mv (.t 0), (some (24, true))⟩,
  ⟨(some 26), .mv (.t 5), (some (24, true))⟩,
  ⟨(some 27), .idxS 1 (.t 25) (.t 26), (some (24, true))⟩,
  ⟨(some 28), .ld false 1 (.t 27), (some (24, true))⟩,
  ⟨(some 29), .mv (.t 1), (some (24, true))⟩,
  ⟨(some 30), .bin .eql (.t 28) (.t 29), (some (24, true))⟩,
  ⟨(some 31), .pick (.t 24) (.t 30) (.c (.bool false)), none⟩])
 (.cond (.t 31)
   (.seq (.reg [⟨(some 32), .mv (.t 0), none⟩,
    ⟨(some 4), .mv (.t 32), none⟩])
   .ret)
   .skip))
 (.seq (.dreg [(⟨(some 33), .mv (.t 0), none⟩, 0),
  (⟨(some 34), .mv (.t 5), none⟩, 0),
  (⟨(some 35), .sli 1 (.t 33) none (some (.t 34)) none, none⟩, 3),
  (⟨(some 36), .app 1 8 (.c (.sl 0 true [])) (.t 35), none⟩, 7),
  (⟨(some 37), .mv (.t 1), none⟩, 0),
  (⟨(some 38), .bldS 1 1 [(.int .i64 (0))] [(0, (.t 37))], none⟩, 16),
  (⟨(some 39), .app 1 8 (.t 36) (.t 38), none⟩, 63),
  (⟨(some 40), .mv (.t 0), none⟩, 0),
  (⟨(some 41), .mv (.t 5), none⟩, 0),
  (⟨(some 42), .sli 1 (.t 40) (some (.t 41)) none none, none⟩, 384),
  (⟨(some 43), .app 1 8 (.t 39) (.t 42), none⟩, 1023),
  (⟨(some 4), .mv (.t 43), none⟩, 2047)])
 .ret)))))
theorem f_ref7_Insert : aFun Try.prog 42 = some (44, [.tmp 4], c_ref7_Insert) := by kernel_rfl
/-- ref7.Has -/
def c_ref7_Has : ACode := (.seq (.reg [⟨(some 4), .mv (.c (.bool false)), none⟩])
 (.seq (.seq (.reg [⟨(some 5), .mv (.c (.int .i64 (0))), none⟩])
 (.block 0 (.loop (.seq (.seq (.reg [⟨(some 6), .mv (.t 5), none⟩,
  ⟨(some 7), .mv (.t 0), none⟩,
  ⟨(some 8), .len false (.t 7), none⟩,
  ⟨(some 9), .bin .lss (.t 6) (.t 8), none⟩])
 (.cond (.t 9)
   .skip
   (.exit 0)))
 (.seq (.block 1 (.seq (.reg [⟨(some 12), .mv (.t 0), none⟩,
  ⟨(some 13), .mv (.t 5), none⟩,
  ⟨(some 14), .idxS 1 (.t 12) (.t 13), none⟩,
  ⟨(some 15), .ld false 1 (.t 14), none⟩,
  ⟨(some 16), .mv (.t 1), none⟩,
  ⟨(some 17), .bin .eql (.t 15) (.t 16), none⟩])
 (.cond (.t 17)
   (.seq (.reg [⟨(some 4), .mv (.c (.bool true)), none⟩])
   .ret)
   .skip)))
 (.reg [⟨(some 10), .mv (.t 5), none⟩,
  ⟨(some 11), .bin .add (.t 10) (.c (.int .i64 (1))), none⟩,
  ⟨(some 5), .mv (.t 11), none⟩]))))))
 (.seq (.reg [⟨(some 4), .mv (.c (.bool false)), none⟩])
 .ret)))
theorem f_ref7_Has : aFun Try.prog 23 = some (18, [.tmp 4], c_ref7_Has) := by kernel_rfl
/-- base.Slashing -/
def c_base_Slashing : ACode := (.seq (.reg [⟨(some 4), .new (slgC slg0), none⟩])
 (.seq (.reg [⟨(some 6), .call (.c (.fn (.func 44) [])) [(.c (.int .i64 (2)))], none⟩,
  ⟨(some 7), .mv (.t 0), none⟩,
  ⟨(some 8), .mv (.t 1), none⟩,
  ⟨(some 9), .call (.c (.fn (.func 16) [])) [(.t 7), (.t 8)], none⟩,
  ⟨(some 10), .bld (clmC clm0) [(0, 1, (.c (.int .u64 (1)))), (1, 1, (.c (.int .u64 (5)))), (2, 32, (.t 6)), (34, 1, (.t 9))], none⟩,
  ⟨(some 11), .call (.c (.fn (.func 44) [])) [(.c (.int .i64 (2)))], none⟩,
  ⟨(some 12), .mv (.t 0), none⟩,
  ⟨(some 13), .mv (.t 1), none⟩,
  ⟨(some 14), .bin .shr (.t 13) (.c (.int .u64 (6))), none⟩,
  ⟨(some 15), .call (.c (.fn (.func 16) [])) [(.t 12), (.t 14)], none⟩,
  ⟨(some 16), .bld (clmC clm0) [(0, 1, (.c (.int .u64 (2)))), (1, 1, (.c (.int .u64 (4)))), (2, 32, (.t 11)), (34, 1, (.t 15))], none⟩,
  ⟨(some 17), .bld (slgC slg0) [(0, 35, (.t 10)), (35, 35, (.t 16))], none⟩,
  ⟨(some 5), .new (slgC slg0), none⟩,
  ⟨none, .sto 70 (.t 5) (.t 17), none⟩])
 (.seq (.seq (.reg [⟨(some 18), .mv (.t 1), none⟩,
  ⟨(some 19), .bin .shr (.t 18) (.c (.int .u64 (12))), none⟩,
  ⟨(some 20), .bin .rem (.t 19) (.c (.int .i64 (8))), none⟩])
 (.block 0 (.seq (.reg [⟨(some 22), .bin .eql (.t 20) (.c (.int .i64 (0))), none⟩,
  ⟨(some 21), .mv (.t 22), none⟩])
 (.cond (.t 21)
   (.reg [⟨(some 23), .fldA 35 (.t 5), none⟩,
    ⟨(some 24), .ld true 35 (.t 23), none⟩,
    ⟨(some 25), .fldA 0 (.t 5), none⟩,
    ⟨(some 26), .ld true 35 (.t 25), none⟩,
    ⟨(some 27), .fldA 0 (.t 5), none⟩,
    ⟨none, .sto 35 (.t 27) (.t 24), none⟩,
    ⟨(some 28), .fldA 35 (.t 5), none⟩,
    ⟨none, .sto 35 (.t 28) (.t 26), none⟩])
   (.seq (.reg [⟨(some 30), .bin .eql (.t 20) (.c (.int .i64 (1))), none⟩,
    ⟨(some 29), .mv (.t 30), none⟩])
   (.cond (.t 29)
     (.reg [⟨(some 31), .fldA 35 (.t 5), none⟩,
      ⟨(some 32), .fldA 1 (.t 31), none⟩,
      ⟨none, .sto 1 (.t 32) (.c (.int .u64 (5))), none⟩])
     (.seq (.reg [⟨(some 34), .bin .eql (.t 20) (.c (.int .i64 (2))), none⟩,
      ⟨(some 33), .mv (.t 34), none⟩])
     (.cond (.t 33)
       (.reg [⟨(some 35), .fldA 0 (.t 5), none⟩,
        ⟨(some 36), .ld true 35 (.t 35), none⟩,
        ⟨(some 37), .fldA 35 (.t 5), none⟩,
        ⟨none, .sto 35 (.t 37) (.t 36), none⟩])
       (.seq (.reg [⟨(some 39), .bin .eql (.t 20) (.c (.int .i64 (3))), none⟩,
        ⟨(some 38), .mv (.t 39), none⟩])
       (.cond (.t 38)
         (.reg [⟨(some 40), .fldA 35 (.t 5), none⟩,
          ⟨(some 41), .fldA 0 (.t 40), none⟩,
          ⟨none, .sto 1 (.t 41) (.c (.int .u64 (6))), none⟩])
         (.seq (.reg [⟨(some 43), .bin .eql (.t 20) (.c (.int .i64 (4))), none⟩,
          ⟨(some 42), .mv (.t 43), none⟩])
         (.cond (.t 42)
           (.reg [⟨(some 44), .call (.c (.fn (.func 44) [])) [(.c (.int .i64 (3)))], none⟩,
            ⟨(some 45), .fldA 35 (.t 5), none⟩,
            ⟨(some 46), .fldA 1 (.t 45), none⟩,
            ⟨none, .sto 1 (.t 46) (.c (.int .u64 (5))), none⟩,
            ⟨(some 47), .fldA 35 (.t 5), none⟩,
            ⟨(some 48), .fldA 0 (.t 47), none⟩,
            ⟨none, .sto 1 (.t 48) (.c (.int .u64 (1))), none⟩,
            ⟨(some 49), .fldA 35 (.t 5), none⟩,
            ⟨(some 50), .fldA 2 (.t 49), none⟩,
            ⟨none, .sto 32 (.t 50) (.t 44), none⟩])
           .skip))))))))))))
 (.seq (.reg [⟨(some 51), .ld true 70 (.t 5), none⟩,
  ⟨none, .sto 70 (.t 4) (.t 51), none⟩])
 .ret))))
theorem f_base_Slashing : aFun Try.prog 28 = some (52, [.cell 4 true 70], c_base_Slashing) := by kernel_rfl
/-- base.Some -/
def c_base_Some : ACode := (.seq (.reg [⟨(some 4), .mv (.c (.sl 0 true [])), none⟩])
 (.seq (.reg [⟨(some 5), .mv (.c (.sl 0 true [])), none⟩])
 (.seq (.seq (.reg [⟨(some 6), .mv (.c (.int .i64 (0))), none⟩])
 (.block 0 (.loop (.seq (.seq (.reg [⟨(some 7), .mv (.t 6), none⟩,
  ⟨(some 8), .mv (.t 0), none⟩,
  ⟨(some 9), .bin .lss (.t 7) (.t 8), none⟩])
 (.cond (.t 9)
   .skip
   (.exit 0)))
 (.seq (.block 1 (.seq (.reg [⟨(some 12), .mv (.t 1), none⟩,
  ⟨(some 13), .mv (.t 6), none⟩,
  ⟨(some 14), .cvt .u64 (.t 13), none⟩,
  ⟨(some 15), .bin .shr (.t 12) (.t 14), none⟩,
  ⟨(some 16), .bin .and (.t 15) (.c (.int .i64 (1))), none⟩,
  ⟨(some 17), .bin .eql (.t 16) (.c (.int .i64 (1))), none⟩])
 (.cond (.t 17)
   (.reg [⟨(some 18), .mv (.t 5), none⟩,
    ⟨(some 19), .mv (.t 6), none⟩,
    ⟨(some 20), .bldS 1 1 [(.int .i64 (0))] [(0, (.t 19))], none⟩,
    ⟨(some 21), .app 1 8 (.t 18) (.t 20), none⟩,
    ⟨(some 5), .mv (.t 21), none⟩])
   .skip)))
 (.reg [⟨(some 10), .mv (.t 6), none⟩,
  ⟨(some 11), .bin .add (.t 10) (.c (.int .i64 (1))), none⟩,
  ⟨(some 6), .mv (.t 11), none⟩]))))))
 (.seq (.seq (.reg [⟨(some 22), .mv (.t 5), none⟩,
  ⟨(some 23), .len false (.t 22), none⟩,
  ⟨(some 24), .bin .eql (.t 23) (.c (.int .i64 (0))), none⟩,
  ⟨(some 25), .mv (.t 24), none⟩,
  ⟨(some 26), .mv (.t 0), (some (25, true))⟩,
  ⟨(some 27), .bin .gtr (.t 26) (.c (.int .i64 (0))), (some (25, true))⟩,
  ⟨(some 28), .pick (.t 25) (.t 27) (.c (.bool false)), none⟩])
 (.cond (.t 28)
   (.reg [⟨(some 29), .bldS 1 1 [(.int .i64 (0))] [(0, (.c (.int .i64 (0))))], none⟩,
    ⟨(some 5), .mv (.t 29), none⟩])
   .skip))
 (.seq (.reg [⟨(some 30), .mv (.t 5), none⟩,
  ⟨(some 4), .mv (.t 30), none⟩])
 .ret)))))
theorem f_base_Some : aFun Try.prog 16 = some (31, [.tmp 4], c_base_Some) := by kernel_rfl
/-- base.Root -/
def c_base_Root : ACode := (.seq (.reg [⟨(some 2), .new (rtc rt0), none⟩])
 (.seq (.reg [⟨(some 3), .mv (.t 0), none⟩,
  ⟨(some 4), .cvt .u8 (.t 3), none⟩,
  ⟨(some 5), .mv (.t 0), none⟩,
  ⟨(some 6), .bin .shr (.t 5) (.c (.int .u64 (8))), none⟩,
  ⟨(some 7), .cvt .u8 (.t 6), none⟩,
  ⟨(some 8), .mv (.t 0), none⟩,
  ⟨(some 9), .bin .mul (.t 8) (.c (.int .i64 (7))), none⟩,
  ⟨(some 10), .cvt .u8 (.t 9), none⟩,
  ⟨(some 11), .bld (rtc rt0) [(0, 1, (.t 4)), (1, 1, (.t 7)), (31, 1, (.t 10))], none⟩,
  ⟨none, .sto 32 (.t 2) (.t 11), none⟩])
 .ret))
theorem f_base_Root : aFun Try.prog 44 = some (12, [.cell 2 true 32], c_base_Root) := by kernel_rfl
end Go.Proofs.Ytdkahoohedljhaa
