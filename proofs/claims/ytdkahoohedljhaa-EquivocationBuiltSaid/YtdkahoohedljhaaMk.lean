/-
  My texts Ka, Kb, Kc, joined.
-/
import Derived.Test.YtdkahoohedljhaaMc
import Derived.Test.YtdkahoohedljhaaChecked
import Derived.KernelRfl
namespace Go.Proofs.Ytdkahoohedljhaa
open Go Go.FH

/-- slices.Clone[[]byte,byte] -/
def c_slices_Clone_byte_byte : ACode := (.seq (.reg [⟨(some 2), .mv (.c (.sl 0 true [])), none⟩])
 (.seq (.seq (.reg [⟨(some 3), .mv (.t 0), none⟩,
  ⟨(some 4), .isn false (.t 3), none⟩])
 (.cond (.t 4)
   (.seq (.reg [⟨(some 2), .mv (.c (.sl 0 true [])), none⟩])
   .ret)
   .skip))
 (.seq (.reg [⟨(some 5), .bldS 1 0 [(.int .u8 (0))] [], none⟩,
  ⟨(some 6), .mv (.t 0), none⟩,
  ⟨(some 7), .app 1 1 (.t 5) (.t 6), none⟩,
  ⟨(some 2), .mv (.t 7), none⟩])
 .ret)))
theorem f_slices_Clone_byte_byte : aFun Try.prog 46 = some (8, [.tmp 2], c_slices_Clone_byte_byte) := by kernel_rfl
end Go.Proofs.Ytdkahoohedljhaa

namespace Go.Proofs.Ytdkahoohedljhaa
open Go Go.FH

end Go.Proofs.Ytdkahoohedljhaa

namespace Go.Proofs.Ytdkahoohedljhaa
open Go Go.FH

/-- records.ValidateList -/
def c_records_ValidateList : ACode := (.seq (.reg [⟨(some 4), .mv (.c (.int .i64 (0))), none⟩])
 (.seq (.seq (.reg [⟨(some 7), .mv (.t 0), none⟩,
  ⟨(some 8), .len false (.t 7), none⟩,
  ⟨(some 9), .bin .eql (.t 8) (.c (.int .i64 (0))), none⟩])
 (.cond (.t 9)
   (.seq (.reg [⟨(some 4), .mv (.c (.int .i64 (2))), none⟩])
   .ret)
   .skip))
 (.seq (.seq (.reg [⟨(some 10), .mv (.t 0), none⟩,
  ⟨(some 11), .len false (.t 10), none⟩,
  ⟨(some 12), .mv (.c (.int .i64 (0))), none⟩])
 (.block 0 (.loop (.seq (.reg [⟨(some 13), .bin .lss (.t 12) (.t 11), none⟩])
 (.seq (.cond (.t 13)
   .skip
   (.exit 0))
 (.seq (.block 1 (.seq (.reg [⟨(some 14), .mv (.t 12), none⟩,
  ⟨(some 15), .idxS 1 (.t 10) (.t 12), none⟩,
  ⟨(some 16), .ld false 1 (.t 15), none⟩,
  ⟨(some 5), .mv (.t 14), none⟩,
  ⟨(some 6), .mv (.t 16), none⟩])
 (.seq (.seq (.reg [⟨(some 17), .mv (.t 6), none⟩,
  ⟨(some 18), .bin .lss (.t 17) (.c (.int .i64 (0))), none⟩,
  ⟨(some 19), .mv (.t 18), none⟩,
  ⟨(some 20), .mv (.t 6), (some (19, false))⟩,
  ⟨(some 21), .mv (.t 1), (some (19, false))⟩,
  ⟨(some 22), .bin .geq (.t 20) (.t 21), (some (19, false))⟩,
  ⟨(some 23), .pick (.t 19) (.c (.bool true)) (.t 22), none⟩])
 (.cond (.t 23)
   (.seq (.reg [⟨(some 4), .mv (.c (.int .i64 (3))), none⟩])
   .ret)
   .skip))
 (.seq (.reg [⟨(some 24), .mv (.t 5), none⟩,
  ⟨(some 25), .bin .gtr (.t 24) (.c (.int .i64 (0))), none⟩,
  ⟨(some 26), .mv (.t 25), none⟩,
  ⟨(some 27), .mv (.t 6), (some (26, true))⟩,
  ⟨(some 28), .mv (.t 0), (some (26, true))⟩,
  ⟨(some 29), .mv (.t 5), (some (26, true))⟩,
  ⟨(some 30), .bin .sub (.t 29) (.c (.int .i64 (1))), (some (26, true))⟩,
  ⟨(some 31), .idxS 1 (.t 28) (.t 30), (some (26, true))⟩,
  ⟨(some 32), .ld false 1 (.t 31), (some (26, true))⟩,
  ⟨(some 33), .bin .leq (.t 27) (.t 32), (some (26, true))⟩,
  ⟨(some 34), .pick (.t 26) (.t 33) (.c (.bool false)), none⟩])
 (.cond (.t 34)
   (.seq (.reg [⟨(some 4), .mv (.c (.int .i64 (8))), none⟩])
   .ret)
   .skip)))))
 (.reg [⟨(some 35), .bin .add (.t 12) (.c (.int .i64 (1))), none⟩,
  ⟨(some 12), .mv (.t 35), none⟩])))))))
 (.seq (.reg [⟨(some 4), .mv (.c (.int .i64 (0))), none⟩])
 .ret))))
theorem f_records_ValidateList : aFun Try.prog 41 = some (36, [.tmp 4], c_records_ValidateList) := by kernel_rfl
/-- ref4.ValidateList -/
def c_ref4_ValidateList : ACode := (.seq (.reg [⟨(some 4), .mv (.c (.int .i64 (0))), none⟩])
 (.seq (.seq (.reg [⟨(some 6), .mv (.t 0), none⟩,
  ⟨(some 7), .len false (.t 6), none⟩,
  ⟨(some 8), .bin .eql (.t 7) (.c (.int .i64 (0))), none⟩])
 (.cond (.t 8)
   (.seq (.reg [⟨(some 4), .mv (.c (.int .i64 (2))), none⟩])
   .ret)
   .skip))
 (.seq (.seq (.reg [⟨(some 5), .mv (.c (.int .i64 (0))), none⟩])
 (.block 0 (.loop (.seq (.seq (.reg [⟨(some 9), .mv (.t 5), none⟩,
  ⟨(some 10), .mv (.t 0), none⟩,
  ⟨(some 11), .len false (.t 10), none⟩,
  ⟨(some 12), .bin .lss (.t 9) (.t 11), none⟩])
 (.cond (.t 12)
   .skip
   (.exit 0)))
 (.seq (.block 1 (.seq (.seq (.reg [⟨(some 15), .mv (.t 0), none⟩,
  ⟨(some 16), .mv (.t 5), none⟩,
  ⟨(some 17), .idxS 1 (.t 15) (.t 16), none⟩,
  ⟨(some 18), .ld false 1 (.t 17), none⟩,
  ⟨(some 19), .bin .lss (.t 18) (.c (.int .i64 (0))), none⟩,
  ⟨(some 20), .mv (.t 19), none⟩,
  ⟨(some 21), .mv (.t 0), (some (20, false))⟩,
  ⟨(some 22), .mv (.t 5), (some (20, false))⟩,
  ⟨(some 23), .idxS 1 (.t 21) (.t 22), (some (20, false))⟩,
  ⟨(some 24), .ld false 1 (.t 23), (some (20, false))⟩,
  ⟨(some 25), .mv (.t 1), (some (20, false))⟩,
  ⟨(some 26), .bin .geq (.t 24) (.t 25), (some (20, false))⟩,
  ⟨(some 27), .pick (.t 20) (.c (.bool true)) (.t 26), none⟩])
 (.cond (.t 27)
   (.seq (.reg [⟨(some 4), .mv (.c (.int .i64 (3))), none⟩])
   .ret)
   .skip))
 (.seq (.dreg [(⟨(some 28), .mv (.t 5), none⟩, 0),
  (⟨(some 29), .bin .gtr (.t 28) (.c (.int .i64 (0))), none⟩, 1),
  (⟨(some 30), .mv (.t 29), none⟩, 3),
  (⟨(some 31), .mv (.t 0), (some (30, true))⟩, 7),
  (⟨(some 32), .mv (.t 5), (some (30, true))⟩, 7),
  (⟨(some 33), .idxS 1 (.t 31) (.t 32), (some (30, true))⟩, 31),
  (⟨(some 34), .ld false 1 (.t 33), (some (30, true))⟩, 63),
  (⟨(some 35), .mv (.t 0), (some (30, true))⟩, 7),
  (⟨(some 36), .mv (.t 5), (some (30, true))⟩, 7),
  (⟨(some 37), .bin .sub (.t 36) (.c (.int .i64 (1))), (some (30, true))⟩, 263),
  (⟨(some 38), .idxS 1 (.t 35) (.t 37), (some (30, true))⟩, 903),
  (⟨(some 39), .ld false 1 (.t 38), (some (30, true))⟩, 1927),
  (⟨(some 40), .bin .leq (.t 34) (.t 39), (some (30, true))⟩, 4095),
  (⟨(some 41), .pick (.t 30) (.t 40) (.c (.bool false)), none⟩, 8191)])
 (.cond (.t 41)
   (.seq (.reg [⟨(some 4), .mv (.c (.int .i64 (8))), none⟩])
   .ret)
   .skip))))
 (.reg [⟨(some 13), .mv (.t 5), none⟩,
  ⟨(some 14), .bin .add (.t 13) (.c (.int .i64 (1))), none⟩,
  ⟨(some 5), .mv (.t 14), none⟩]))))))
 (.seq (.reg [⟨(some 4), .mv (.c (.int .i64 (0))), none⟩])
 .ret))))
theorem f_ref4_ValidateList : aFun Try.prog 18 = some (42, [.tmp 4], c_ref4_ValidateList) := by kernel_rfl
/-- ref4.SameInts -/
def c_ref4_SameInts : ACode := (.seq (.reg [⟨(some 4), .mv (.c (.bool false)), none⟩])
 (.seq (.seq (.reg [⟨(some 6), .mv (.t 0), none⟩,
  ⟨(some 7), .len false (.t 6), none⟩,
  ⟨(some 8), .mv (.t 1), none⟩,
  ⟨(some 9), .len false (.t 8), none⟩,
  ⟨(some 10), .bin .neq (.t 7) (.t 9), none⟩])
 (.cond (.t 10)
   (.seq (.reg [⟨(some 4), .mv (.c (.bool false)), none⟩])
   .ret)
   .skip))
 (.seq (.seq (.reg [⟨(some 5), .mv (.c (.int .i64 (0))), none⟩])
 (.block 0 (.loop (.seq (.seq (.reg [⟨(some 11), .mv (.t 5), none⟩,
  ⟨(some 12), .mv (.t 0), none⟩,
  ⟨(some 13), .len false (.t 12), none⟩,
  ⟨(some 14), .bin .lss (.t 11) (.t 13), none⟩])
 (.cond (.t 14)
   .skip
   (.exit 0)))
 (.seq (.block 1 (.seq (.dreg [(⟨(some 17), .mv (.t 0), none⟩, 0),
  (⟨(some 18), .mv (.t 5), none⟩, 0),
  (⟨(some 19), .idxS 1 (.t 17) (.t 18), none⟩, 3),
  (⟨(some 20), .ld false 1 (.t 19), none⟩, 7),
  (⟨(some 21), .mv (.t 1), none⟩, 0),
  (⟨(some 22), .mv (.t 5), none⟩, 0),
  (⟨(some 23), .idxS 1 (.t 21) (.t 22), none⟩, 48),
  (⟨(some 24), .ld false 1 (.t 23), none⟩, 112),
  (⟨(some 25), .bin .neq (.t 20) (.t 24), none⟩, 255)])
 (.cond (.t 25)
   (.seq (.reg [⟨(some 4), .mv (.c (.bool false)), none⟩])
   .ret)
   .skip)))
 (.reg [⟨(some 15), .mv (.t 5), none⟩,
  ⟨(some 16), .bin .add (.t 15) (.c (.int .i64 (1))), none⟩,
  ⟨(some 5), .mv (.t 16), none⟩]))))))
 (.seq (.reg [⟨(some 4), .mv (.c (.bool true)), none⟩])
 .ret))))
theorem f_ref4_SameInts : aFun Try.prog 20 = some (26, [.tmp 4], c_ref4_SameInts) := by kernel_rfl
end Go.Proofs.Ytdkahoohedljhaa
