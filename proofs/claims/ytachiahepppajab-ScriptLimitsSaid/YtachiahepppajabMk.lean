/-
  My texts Ka, Kb, Kc, joined.
-/
import Derived.Test.YtachiahepppajabMc
import Derived.Test.YtachiahepppajabChecked
import Derived.KernelRfl
namespace Go.Proofs.Ytachiahepppajab
open Go Go.FH

/-- (*raw.Reader).Err -/
def c_raw_Reader_Err : ACode := (.seq (.reg [⟨(some 2), .mv (.c (.int .i64 (0))), none⟩])
 (.seq (.reg [⟨(some 3), .mv (.t 0), none⟩,
  ⟨(some 4), .nilc (.t 3), none⟩,
  ⟨(some 5), .fldA 1 (.t 4), none⟩,
  ⟨(some 6), .ld false 1 (.t 5), none⟩,
  ⟨(some 2), .mv (.t 6), none⟩])
 .ret))
theorem f_raw_Reader_Err : aFun Try.prog 31 = some (7, [.tmp 2], c_raw_Reader_Err) := by kernel_rfl
/-- (*raw.Reader).Rest -/
def c_raw_Reader_Rest : ACode := (.seq (.reg [⟨(some 2), .mv (.c (.int .i64 (0))), none⟩])
 (.seq (.reg [⟨(some 3), .mv (.t 0), none⟩,
  ⟨(some 4), .nilc (.t 3), none⟩,
  ⟨(some 5), .fldA 0 (.t 4), none⟩,
  ⟨(some 6), .ld false 1 (.t 5), none⟩,
  ⟨(some 7), .len false (.t 6), none⟩,
  ⟨(some 2), .mv (.t 7), none⟩])
 .ret))
theorem f_raw_Reader_Rest : aFun Try.prog 20 = some (8, [.tmp 2], c_raw_Reader_Rest) := by kernel_rfl
/-- (*raw.Reader).Uint -/
def c_raw_Reader_Uint : ACode := (.seq (.reg [⟨(some 4), .mv (.c (.int .u64 (0))), none⟩])
 (.seq (.seq (.reg [⟨(some 8), .mv (.t 0), none⟩,
  ⟨(some 9), .nilc (.t 8), none⟩,
  ⟨(some 10), .fldA 1 (.t 9), none⟩,
  ⟨(some 11), .ld false 1 (.t 10), none⟩,
  ⟨(some 12), .bin .neq (.t 11) (.c (.int .i64 (0))), none⟩])
 (.cond (.t 12)
   (.seq (.reg [⟨(some 4), .mv (.c (.int .u64 (0))), none⟩])
   .ret)
   .skip))
 (.seq (.reg [⟨(some 14), .mv (.t 0), none⟩,
  ⟨(some 15), .call (.c (.fn (.func 40) [])) [(.t 14)], none⟩,
  ⟨(some 13), .mv (.t 15), none⟩,
  ⟨(some 16), .ext 0 (.t 13), none⟩,
  ⟨(some 17), .ext 1 (.t 13), none⟩,
  ⟨(some 18), .ext 2 (.t 13), none⟩,
  ⟨(some 5), .mv (.t 16), none⟩,
  ⟨(some 6), .mv (.t 17), none⟩,
  ⟨(some 7), .mv (.t 18), none⟩])
 (.seq (.seq (.reg [⟨(some 19), .mv (.t 7), none⟩,
  ⟨(some 20), .bin .eql (.t 19) (.c (.int .i64 (0))), none⟩,
  ⟨(some 21), .mv (.t 20), none⟩,
  ⟨(some 22), .mv (.t 5), (some (21, true))⟩,
  ⟨(some 23), .mv (.t 1), (some (21, true))⟩,
  ⟨(some 24), .bin .gtr (.t 22) (.t 23), (some (21, true))⟩,
  ⟨(some 25), .pick (.t 21) (.t 24) (.c (.bool false)), none⟩])
 (.cond (.t 25)
   (.reg [⟨(some 7), .mv (.c (.int .i64 (3))), none⟩])
   .skip))
 (.seq (.seq (.reg [⟨(some 26), .mv (.t 7), none⟩,
  ⟨(some 27), .bin .neq (.t 26) (.c (.int .i64 (0))), none⟩])
 (.cond (.t 27)
   (.seq (.reg [⟨(some 28), .mv (.t 0), none⟩,
    ⟨(some 29), .mv (.t 7), none⟩,
    ⟨(some 30), .call (.c (.fn (.func 41) [])) [(.t 28), (.t 29)], none⟩])
   (.seq (.reg [⟨(some 4), .mv (.c (.int .u64 (0))), none⟩])
   .ret))
   .skip))
 (.seq (.reg [⟨(some 31), .mv (.t 0), none⟩,
  ⟨(some 32), .mv (.t 0), none⟩,
  ⟨(some 33), .nilc (.t 32), none⟩,
  ⟨(some 34), .fldA 0 (.t 33), none⟩,
  ⟨(some 35), .ld false 1 (.t 34), none⟩,
  ⟨(some 36), .mv (.t 6), none⟩,
  ⟨(some 37), .sli 1 (.t 35) (some (.t 36)) none none, none⟩,
  ⟨(some 38), .nilc (.t 31), none⟩,
  ⟨(some 39), .fldA 0 (.t 38), none⟩,
  ⟨none, .sto 1 (.t 39) (.t 37), none⟩])
 (.seq (.reg [⟨(some 40), .mv (.t 5), none⟩,
  ⟨(some 4), .mv (.t 40), none⟩])
 .ret)))))))
theorem f_raw_Reader_Uint : aFun Try.prog 30 = some (41, [.tmp 4], c_raw_Reader_Uint) := by kernel_rfl
/-- (*raw.Reader).Bool -/
def c_raw_Reader_Bool : ACode := (.seq (.reg [⟨(some 2), .mv (.c (.bool false)), none⟩])
 (.seq (.seq (.reg [⟨(some 4), .mv (.t 0), none⟩,
  ⟨(some 5), .nilc (.t 4), none⟩,
  ⟨(some 6), .fldA 1 (.t 5), none⟩,
  ⟨(some 7), .ld false 1 (.t 6), none⟩,
  ⟨(some 8), .bin .neq (.t 7) (.c (.int .i64 (0))), none⟩])
 (.cond (.t 8)
   (.seq (.reg [⟨(some 2), .mv (.c (.bool false)), none⟩])
   .ret)
   .skip))
 (.seq (.seq (.reg [⟨(some 9), .mv (.t 0), none⟩,
  ⟨(some 10), .nilc (.t 9), none⟩,
  ⟨(some 11), .fldA 0 (.t 10), none⟩,
  ⟨(some 12), .ld false 1 (.t 11), none⟩,
  ⟨(some 13), .len false (.t 12), none⟩,
  ⟨(some 14), .bin .eql (.t 13) (.c (.int .i64 (0))), none⟩])
 (.cond (.t 14)
   (.seq (.reg [⟨(some 15), .mv (.t 0), none⟩,
    ⟨(some 16), .call (.c (.fn (.func 41) [])) [(.t 15), (.c (.int .i64 (5)))], none⟩])
   (.seq (.reg [⟨(some 2), .mv (.c (.bool false)), none⟩])
   .ret))
   .skip))
 (.seq (.seq (.reg [⟨(some 17), .mv (.t 0), none⟩,
  ⟨(some 18), .nilc (.t 17), none⟩,
  ⟨(some 19), .fldA 0 (.t 18), none⟩,
  ⟨(some 20), .ld false 1 (.t 19), none⟩,
  ⟨(some 21), .idxS 1 (.t 20) (.c (.int .i64 (0))), none⟩,
  ⟨(some 22), .ld false 1 (.t 21), none⟩,
  ⟨(some 23), .bin .gtr (.t 22) (.c (.int .u8 (1))), none⟩])
 (.cond (.t 23)
   (.seq (.reg [⟨(some 24), .mv (.t 0), none⟩,
    ⟨(some 25), .call (.c (.fn (.func 41) [])) [(.t 24), (.c (.int .i64 (2)))], none⟩])
   (.seq (.reg [⟨(some 2), .mv (.c (.bool false)), none⟩])
   .ret))
   .skip))
 (.seq (.reg [⟨(some 26), .mv (.t 0), none⟩,
  ⟨(some 27), .nilc (.t 26), none⟩,
  ⟨(some 28), .fldA 0 (.t 27), none⟩,
  ⟨(some 29), .ld false 1 (.t 28), none⟩,
  ⟨(some 30), .idxS 1 (.t 29) (.c (.int .i64 (0))), none⟩,
  ⟨(some 31), .ld false 1 (.t 30), none⟩,
  ⟨(some 32), .bin .eql (.t 31) (.c (.int .u8 (1))), none⟩,
  ⟨(some 3), .mv (.t 32), none⟩])
 (.seq (.reg [⟨(some 33), .mv (.t 0), none⟩,
  ⟨(some 34), .mv (.t 0), none⟩,
  ⟨(some 35), .nilc (.t 34), none⟩,
  ⟨(some 36), .fldA 0 (.t 35), none⟩,
  ⟨(some 37), .ld false 1 (.t 36), none⟩,
  ⟨(some 38), .sli 1 (.t 37) (some (.c (.int .i64 (1)))) none none, none⟩,
  ⟨(some 39), .nilc (.t 33), none⟩,
  ⟨(some 40), .fldA 0 (.t 39), none⟩,
  ⟨none, .sto 1 (.t 40) (.t 38), none⟩])
 (.seq (.reg [⟨(some 41), .mv (.t 3), none⟩,
  ⟨(some 2), .mv (.t 41), none⟩])
 .ret)))))))
theorem f_raw_Reader_Bool : aFun Try.prog 47 = some (42, [.tmp 2], c_raw_Reader_Bool) := by kernel_rfl
/-- (*raw.Reader).Root -/
def c_raw_Reader_Root : ACode := (.seq (.reg [⟨(some 2), .new (rtc rt0), none⟩])
 (.seq (.reg [⟨(some 3), .new (rtc rt0), none⟩])
 (.seq (.seq (.reg [⟨(some 4), .mv (.t 0), none⟩,
  ⟨(some 5), .nilc (.t 4), none⟩,
  ⟨(some 6), .fldA 1 (.t 5), none⟩,
  ⟨(some 7), .ld false 1 (.t 6), none⟩,
  ⟨(some 8), .bin .neq (.t 7) (.c (.int .i64 (0))), none⟩])
 (.cond (.t 8)
   (.seq (.reg [⟨(some 9), .ld true 32 (.t 3), none⟩,
    ⟨none, .sto 32 (.t 2) (.t 9), none⟩])
   .ret)
   .skip))
 (.seq (.seq (.reg [⟨(some 10), .mv (.t 0), none⟩,
  ⟨(some 11), .nilc (.t 10), none⟩,
  ⟨(some 12), .fldA 0 (.t 11), none⟩,
  ⟨(some 13), .ld false 1 (.t 12), none⟩,
  ⟨(some 14), .len false (.t 13), none⟩,
  ⟨(some 15), .bin .lss (.t 14) (.c (.int .i64 (32))), none⟩])
 (.cond (.t 15)
   (.seq (.reg [⟨(some 16), .mv (.t 0), none⟩,
    ⟨(some 17), .call (.c (.fn (.func 41) [])) [(.t 16), (.c (.int .i64 (5)))], none⟩])
   (.seq (.reg [⟨(some 18), .ld true 32 (.t 3), none⟩,
    ⟨none, .sto 32 (.t 2) (.t 18), none⟩])
   .ret))
   .skip))
 (.seq (.dreg [(⟨(some 19), .sliA 1 32 (.t 3) none none, none⟩, 0),
  (⟨(some 20), .mv (.t 0), none⟩, 0),
  (⟨(some 21), .nilc (.t 20), none⟩, 2),
  (⟨(some 22), .fldA 0 (.t 21), none⟩, 6),
  (⟨(some 23), .ld false 1 (.t 22), none⟩, 14),
  (⟨(some 24), .cpy 1 (.t 19) (.t 23), none⟩, 31)])
 (.seq (.reg [⟨(some 25), .mv (.t 0), none⟩,
  ⟨(some 26), .mv (.t 0), none⟩,
  ⟨(some 27), .nilc (.t 26), none⟩,
  ⟨(some 28), .fldA 0 (.t 27), none⟩,
  ⟨(some 29), .ld false 1 (.t 28), none⟩,
  ⟨(some 30), .sli 1 (.t 29) (some (.c (.int .i64 (32)))) none none, none⟩,
  ⟨(some 31), .nilc (.t 25), none⟩,
  ⟨(some 32), .fldA 0 (.t 31), none⟩,
  ⟨none, .sto 1 (.t 32) (.t 30), none⟩])
 (.seq (.reg [⟨(some 33), .ld true 32 (.t 3), none⟩,
  ⟨none, .sto 32 (.t 2) (.t 33), none⟩])
 .ret)))))))
theorem f_raw_Reader_Root : aFun Try.prog 44 = some (34, [.cell 2 true 32], c_raw_Reader_Root) := by kernel_rfl
/-- (*raw.Reader).Wide -/
def c_raw_Reader_Wide : ACode := (.seq (.reg [⟨(some 2), .new (wdc wd0), none⟩])
 (.seq (.reg [⟨(some 3), .mv (.t 0), none⟩,
  ⟨(some 4), .call (.c (.fn (.func 44) [])) [(.t 3)], none⟩,
  ⟨(some 5), .call (.c (.fn (.func 51) [])) [(.t 4)], none⟩,
  ⟨none, .sto 4 (.t 2) (.t 5), none⟩])
 .ret))
theorem f_raw_Reader_Wide : aFun Try.prog 45 = some (6, [.cell 2 true 4], c_raw_Reader_Wide) := by kernel_rfl
/-- (*raw.Reader).Checkpoint -/
def c_raw_Reader_Checkpoint : ACode := (.seq (.reg [⟨(some 2), .new (cpC cp0), none⟩])
 (.seq (.reg [⟨(some 5), .mv (.t 0), none⟩,
  ⟨(some 6), .nilc (.t 5), none⟩,
  ⟨(some 7), .fldA 0 (.t 6), none⟩,
  ⟨(some 8), .ld false 1 (.t 7), none⟩,
  ⟨(some 3), .mv (.t 8), none⟩])
 (.seq (.reg [⟨(some 9), .mv (.t 0), none⟩,
  ⟨(some 10), .call (.c (.fn (.func 30) [])) [(.t 9), (.c (.int .u64 (18446744073709551615)))], none⟩,
  ⟨(some 11), .bld (cpC cp0) [(0, 1, (.t 10))], none⟩,
  ⟨(some 4), .new (cpC cp0), none⟩,
  ⟨none, .sto 33 (.t 4) (.t 11), none⟩])
 (.seq (.reg [⟨(some 12), .mv (.t 0), none⟩,
  ⟨(some 13), .call (.c (.fn (.func 44) [])) [(.t 12)], none⟩,
  ⟨(some 14), .fldA 1 (.t 4), none⟩,
  ⟨none, .sto 32 (.t 14) (.t 13), none⟩])
 (.seq (.seq (.reg [⟨(some 15), .mv (.t 0), none⟩,
  ⟨(some 16), .nilc (.t 15), none⟩,
  ⟨(some 17), .fldA 1 (.t 16), none⟩,
  ⟨(some 18), .ld false 1 (.t 17), none⟩,
  ⟨(some 19), .bin .neq (.t 18) (.c (.int .i64 (0))), none⟩])
 (.cond (.t 19)
   (.seq (.reg [⟨(some 20), .mv (.t 0), none⟩,
    ⟨(some 21), .mv (.t 3), none⟩,
    ⟨(some 22), .nilc (.t 20), none⟩,
    ⟨(some 23), .fldA 0 (.t 22), none⟩,
    ⟨none, .sto 1 (.t 23) (.t 21), none⟩])
   (.seq (.reg [⟨(some 24), .bld (cpC cp0) [], none⟩,
    ⟨none, .sto 33 (.t 2) (.t 24), none⟩])
   .ret))
   .skip))
 (.seq (.reg [⟨(some 25), .ld true 33 (.t 4), none⟩,
  ⟨none, .sto 33 (.t 2) (.t 25), none⟩])
 .ret))))))
theorem f_raw_Reader_Checkpoint : aFun Try.prog 46 = some (26, [.cell 2 true 33], c_raw_Reader_Checkpoint) := by kernel_rfl
/-- raw.Uint -/
def c_raw_Uint : ACode := (.seq (.reg [⟨(some 4), .mv (.c (.sl 0 true [])), none⟩])
 (.seq (.block 0 (.loop (.seq (.seq (.reg [⟨(some 5), .mv (.t 1), none⟩,
  ⟨(some 6), .bin .geq (.t 5) (.c (.int .u64 (128))), none⟩])
 (.cond (.t 6)
   .skip
   (.exit 0)))
 (.block 1 (.seq (.reg [⟨(some 7), .mv (.t 0), none⟩,
  ⟨(some 8), .mv (.t 1), none⟩,
  ⟨(some 9), .cvt .u8 (.t 8), none⟩,
  ⟨(some 10), .bin .or (.t 9) (.c (.int .u8 (128))), none⟩,
  ⟨(some 11), .bldS 1 1 [(.int .u8 (0))] [(0, (.t 10))], none⟩,
  ⟨(some 12), .app 1 1 (.t 7) (.t 11), none⟩,
  ⟨(some 0), .mv (.t 12), none⟩])
 (.reg [⟨(some 13), .mv (.t 1), none⟩,
  ⟨(some 14), .bin .shr (.t 13) (.c (.int .u64 (7))), none⟩,
  ⟨(some 1), .mv (.t 14), none⟩]))))))
 (.seq (.reg [⟨(some 15), .mv (.t 0), none⟩,
  ⟨(some 16), .mv (.t 1), none⟩,
  ⟨(some 17), .cvt .u8 (.t 16), none⟩,
  ⟨(some 18), .bldS 1 1 [(.int .u8 (0))] [(0, (.t 17))], none⟩,
  ⟨(some 19), .app 1 1 (.t 15) (.t 18), none⟩,
  ⟨(some 4), .mv (.t 19), none⟩])
 .ret)))
theorem f_raw_Uint : aFun Try.prog 10 = some (20, [.tmp 4], c_raw_Uint) := by kernel_rfl
/-- raw.Bool -/
def c_raw_Bool : ACode := (.seq (.reg [⟨(some 4), .mv (.c (.sl 0 true [])), none⟩])
 (.seq (.seq (.reg [⟨(some 5), .mv (.t 1), none⟩])
 (.cond (.t 5)
   (.seq (.reg [⟨(some 6), .mv (.t 0), none⟩,
    ⟨(some 7), .bldS 1 1 [(.int .u8 (0))] [(0, (.c (.int .u8 (1))))], none⟩,
    ⟨(some 8), .app 1 1 (.t 6) (.t 7), none⟩,
    ⟨(some 4), .mv (.t 8), none⟩])
   .ret)
   .skip))
 (.seq (.reg [⟨(some 9), .mv (.t 0), none⟩,
  ⟨(some 10), .bldS 1 1 [(.int .u8 (0))] [(0, (.c (.int .u8 (0))))], none⟩,
  ⟨(some 11), .app 1 1 (.t 9) (.t 10), none⟩,
  ⟨(some 4), .mv (.t 11), none⟩])
 .ret)))
theorem f_raw_Bool : aFun Try.prog 27 = some (12, [.tmp 4], c_raw_Bool) := by kernel_rfl
/-- raw.Root -/
def c_raw_Root : ACode := (.seq (.reg [⟨(some 3), .box 32 (.t 1), none⟩,
  ⟨(some 4), .mv (.c (.sl 0 true [])), none⟩])
 (.seq (.reg [⟨(some 5), .mv (.t 0), none⟩,
  ⟨(some 6), .sliA 1 32 (.t 3) none none, none⟩,
  ⟨(some 7), .app 1 1 (.t 5) (.t 6), none⟩,
  ⟨(some 4), .mv (.t 7), none⟩])
 .ret))
theorem f_raw_Root : aFun Try.prog 24 = some (8, [.tmp 4], c_raw_Root) := by kernel_rfl
/-- raw.Wide -/
def c_raw_Wide : ACode := (.seq (.reg [⟨(some 3), .box 4 (.t 1), none⟩,
  ⟨(some 4), .mv (.c (.sl 0 true [])), none⟩])
 (.seq (.reg [⟨(some 6), .ld true 4 (.t 3), none⟩,
  ⟨(some 7), .call (.c (.fn (.func 39) [])) [(.t 6)], none⟩,
  ⟨(some 5), .new (rtc rt0), none⟩,
  ⟨none, .sto 32 (.t 5) (.t 7), none⟩])
 (.seq (.reg [⟨(some 8), .mv (.t 0), none⟩,
  ⟨(some 9), .sliA 1 32 (.t 5) none none, none⟩,
  ⟨(some 10), .app 1 1 (.t 8) (.t 9), none⟩,
  ⟨(some 4), .mv (.t 10), none⟩])
 .ret)))
theorem f_raw_Wide : aFun Try.prog 25 = some (11, [.tmp 4], c_raw_Wide) := by kernel_rfl
/-- raw.Checkpoint -/
def c_raw_Checkpoint : ACode := (.seq (.reg [⟨(some 3), .box 33 (.t 1), none⟩,
  ⟨(some 4), .mv (.c (.sl 0 true [])), none⟩])
 (.seq (.dreg [(⟨(some 5), .mv (.t 0), none⟩, 0),
  (⟨(some 6), .fldA 0 (.t 3), none⟩, 0),
  (⟨(some 7), .ld false 1 (.t 6), none⟩, 2),
  (⟨(some 8), .call (.c (.fn (.func 10) [])) [(.t 5), (.t 7)], none⟩, 7),
  (⟨(some 9), .fldA 1 (.t 3), none⟩, 0),
  (⟨(some 10), .ld true 32 (.t 9), none⟩, 16),
  (⟨(some 11), .call (.c (.fn (.func 24) [])) [(.t 8), (.t 10)], none⟩, 63),
  (⟨(some 4), .mv (.t 11), none⟩, 127)])
 .ret))
theorem f_raw_Checkpoint : aFun Try.prog 26 = some (12, [.tmp 4], c_raw_Checkpoint) := by kernel_rfl
/-- raw.New -/
def c_raw_New : ACode := (.seq (.reg [⟨(some 2), .mv (.c .nilp), none⟩])
 (.seq (.reg [⟨(some 3), .mv (.t 0), none⟩,
  ⟨(some 4), .bld [(.sl 0 true []), (.int .i64 (0))] [(0, 1, (.t 3))], none⟩,
  ⟨(some 5), .box 2 (.t 4), none⟩,
  ⟨(some 2), .mv (.t 5), none⟩])
 .ret))
theorem f_raw_New : aFun Try.prog 19 = some (6, [.tmp 2], c_raw_New) := by kernel_rfl
/-- (*raw.Reader).fail -/
def c_raw_Reader_fail : ACode := (.reg [⟨(some 4), .mv (.t 0), none⟩,
  ⟨(some 5), .mv (.t 1), none⟩,
  ⟨(some 6), .nilc (.t 4), none⟩,
  ⟨(some 7), .fldA 1 (.t 6), none⟩,
  ⟨none, .sto 1 (.t 7) (.t 5), none⟩])
theorem f_raw_Reader_fail : aFun Try.prog 41 = some (8, [], c_raw_Reader_fail) := by kernel_rfl
/-- (*raw.Reader).number -/
def c_raw_Reader_number : ACode := (.seq (.reg [⟨(some 2), .mv (.c (.int .u64 (0))), none⟩,
  ⟨(some 3), .mv (.c (.int .i64 (0))), none⟩,
  ⟨(some 4), .mv (.c (.int .i64 (0))), none⟩])
 (.seq (.reg [⟨(some 5), .mv (.c (.int .u64 (0))), none⟩])
 (.seq (.seq (.dreg [(⟨(some 8), .mv (.t 0), none⟩, 0),
  (⟨(some 9), .nilc (.t 8), none⟩, 1),
  (⟨(some 10), .fldA 0 (.t 9), none⟩, 3),
  (⟨(some 11), .ld false 1 (.t 10), none⟩, 7),
  (⟨(some 12), .mv (.t 0), none⟩, 0),
  (⟨(some 13), .nilc (.t 12), none⟩, 16),
  (⟨(some 14), .fldA 0 (.t 13), none⟩, 48),
  (⟨(some 15), .ld false 1 (.t 14), none⟩, 112),
  (⟨(some 16), .len false (.t 15), none⟩, 240),
  (⟨(some 17), .mn [(.t 16), (.c (.int .i64 (10)))], none⟩, 496),
  (⟨(some 18), .sli 1 (.t 11) none (some (.t 17)) none, none⟩, 1023),
  (⟨(some 19), .len false (.t 18), none⟩, 2047),
  (⟨(some 20), .mv (.c (.int .i64 (0))), none⟩, 0)])
 (.block 0 (.loop (.seq (.reg [⟨(some 21), .bin .lss (.t 20) (.t 19), none⟩])
 (.seq (.cond (.t 21)
   .skip
   (.exit 0))
 (.seq (.block 1 (.seq (.reg [⟨(some 22), .mv (.t 20), none⟩,
  ⟨(some 23), .idxS 1 (.t 18) (.t 20), none⟩,
  ⟨(some 24), .ld false 1 (.t 23), none⟩,
  ⟨(some 6), .mv (.t 22), none⟩,
  ⟨(some 7), .mv (.t 24), none⟩])
 (.seq (.seq (.reg [⟨(some 25), .mv (.t 6), none⟩,
  ⟨(some 26), .bin .eql (.t 25) (.c (.int .i64 (9))), none⟩,
  ⟨(some 27), .mv (.t 26), none⟩,
  ⟨(some 28), .mv (.t 7), (some (27, true))⟩,
  ⟨(some 29), .bin .gtr (.t 28) (.c (.int .u8 (1))), (some (27, true))⟩,
  ⟨(some 30), .pick (.t 27) (.t 29) (.c (.bool false)), none⟩])
 (.cond (.t 30)
   (.seq (.reg [⟨(some 2), .mv (.c (.int .u64 (0))), none⟩,
    ⟨(some 3), .mv (.c (.int .i64 (0))), none⟩,
    ⟨(some 4), .mv (.c (.int .i64 (2))), none⟩])
   .ret)
   .skip))
 (.seq (.reg [⟨(some 31), .mv (.t 5), none⟩,
  ⟨(some 32), .mv (.t 7), none⟩,
  ⟨(some 33), .bin .and (.t 32) (.c (.int .u8 (127))), none⟩,
  ⟨(some 34), .cvt .u64 (.t 33), none⟩,
  ⟨(some 35), .mv (.t 6), none⟩,
  ⟨(some 36), .bin .mul (.c (.int .i64 (7))) (.t 35), none⟩,
  ⟨(some 37), .bin .shl (.t 34) (.t 36), none⟩,
  ⟨(some 38), .bin .or (.t 31) (.t 37), none⟩,
  ⟨(some 5), .mv (.t 38), none⟩])
 (.seq (.reg [⟨(some 39), .mv (.t 7), none⟩,
  ⟨(some 40), .bin .lss (.t 39) (.c (.int .u8 (128))), none⟩])
 (.cond (.t 40)
   (.seq (.seq (.reg [⟨(some 41), .mv (.t 7), none⟩,
    ⟨(some 42), .bin .eql (.t 41) (.c (.int .u8 (0))), none⟩,
    ⟨(some 43), .mv (.t 42), none⟩,
    ⟨(some 44), .mv (.t 6), (some (43, true))⟩,
    ⟨(some 45), .bin .gtr (.t 44) (.c (.int .i64 (0))), (some (43, true))⟩,
    ⟨(some 46), .pick (.t 43) (.t 45) (.c (.bool false)), none⟩])
   (.cond (.t 46)
     (.seq (.reg [⟨(some 2), .mv (.c (.int .u64 (0))), none⟩,
      ⟨(some 3), .mv (.c (.int .i64 (0))), none⟩,
      ⟨(some 4), .mv (.c (.int .i64 (2))), none⟩])
     .ret)
     .skip))
   (.seq (.reg [⟨(some 47), .mv (.t 5), none⟩,
    ⟨(some 48), .mv (.t 6), none⟩,
    ⟨(some 49), .bin .add (.t 48) (.c (.int .i64 (1))), none⟩,
    ⟨(some 2), .mv (.t 47), none⟩,
    ⟨(some 3), .mv (.t 49), none⟩,
    ⟨(some 4), .mv (.c (.int .i64 (0))), none⟩])
   .ret))
   .skip))))))
 (.reg [⟨(some 50), .bin .add (.t 20) (.c (.int .i64 (1))), none⟩,
  ⟨(some 20), .mv (.t 50), none⟩])))))))
 (.seq (.reg [⟨(some 2), .mv (.c (.int .u64 (0))), none⟩,
  ⟨(some 3), .mv (.c (.int .i64 (0))), none⟩,
  ⟨(some 4), .mv (.c (.int .i64 (5))), none⟩])
 .ret))))
theorem f_raw_Reader_number : aFun Try.prog 40 = some (51, [.tmp 2, .tmp 3, .tmp 4], c_raw_Reader_number) := by kernel_rfl
/-- wide.FromBytes -/
def c_wide_FromBytes : ACode := (.seq (.reg [⟨(some 1), .box 32 (.t 0), none⟩,
  ⟨(some 2), .new (wdc wd0), none⟩])
 (.seq (.reg [⟨(some 3), .new (wdc wd0), none⟩])
 (.seq (.seq (.reg [⟨(some 5), .mv (.c (.int .i64 (0))), none⟩])
 (.block 0 (.loop (.seq (.reg [⟨(some 6), .bin .lss (.t 5) (.c (.int .i64 (32))), none⟩])
 (.seq (.cond (.t 6)
   .skip
   (.exit 0))
 (.seq (.block 1 (.seq (.reg [⟨(some 7), .mv (.t 5), none⟩,
  ⟨(some 4), .mv (.t 7), none⟩])
 (.dreg [(⟨(some 8), .mv (.t 4), none⟩, 0),
  (⟨(some 9), .bin .quo (.t 8) (.c (.int .i64 (8))), none⟩, 1),
  (⟨(some 10), .idxA 4 1 (.t 3) (.t 9), none⟩, 3),
  (⟨(some 11), .ld false 1 (.t 10), none⟩, 7),
  (⟨(some 12), .mv (.t 4), none⟩, 0),
  (⟨(some 13), .bin .sub (.c (.int .i64 (31))) (.t 12), none⟩, 16),
  (⟨(some 14), .idxA 32 1 (.t 1) (.t 13), none⟩, 48),
  (⟨(some 15), .ld false 1 (.t 14), none⟩, 112),
  (⟨(some 16), .cvt .u64 (.t 15), none⟩, 240),
  (⟨(some 17), .mv (.t 4), none⟩, 0),
  (⟨(some 18), .bin .rem (.t 17) (.c (.int .i64 (8))), none⟩, 512),
  (⟨(some 19), .bin .mul (.c (.int .i64 (8))) (.t 18), none⟩, 1536),
  (⟨(some 20), .bin .shl (.t 16) (.t 19), none⟩, 4080),
  (⟨(some 21), .bin .or (.t 11) (.t 20), none⟩, 8191),
  (⟨(some 22), .idxA 4 1 (.t 3) (.t 9), none⟩, 16383),
  (⟨none, .sto 1 (.t 22) (.t 21), none⟩, 32767)])))
 (.reg [⟨(some 23), .bin .add (.t 5) (.c (.int .i64 (1))), none⟩,
  ⟨(some 5), .mv (.t 23), none⟩])))))))
 (.seq (.reg [⟨(some 24), .ld true 4 (.t 3), none⟩,
  ⟨none, .sto 4 (.t 2) (.t 24), none⟩])
 .ret))))
theorem f_wide_FromBytes : aFun Try.prog 51 = some (25, [.cell 2 true 4], c_wide_FromBytes) := by kernel_rfl
/-- wide.ToBytes -/
def c_wide_ToBytes : ACode := (.seq (.reg [⟨(some 1), .box 4 (.t 0), none⟩,
  ⟨(some 2), .new (rtc rt0), none⟩])
 (.seq (.reg [⟨(some 3), .new (rtc rt0), none⟩])
 (.seq (.seq (.reg [⟨(some 5), .mv (.c (.int .i64 (0))), none⟩])
 (.block 0 (.loop (.seq (.reg [⟨(some 6), .bin .lss (.t 5) (.c (.int .i64 (32))), none⟩])
 (.seq (.cond (.t 6)
   .skip
   (.exit 0))
 (.seq (.block 1 (.seq (.reg [⟨(some 7), .mv (.t 5), none⟩,
  ⟨(some 4), .mv (.t 7), none⟩])
 (.reg [⟨(some 8), .mv (.t 4), none⟩,
  ⟨(some 9), .bin .sub (.c (.int .i64 (31))) (.t 8), none⟩,
  ⟨(some 10), .mv (.t 4), none⟩,
  ⟨(some 11), .bin .quo (.t 10) (.c (.int .i64 (8))), none⟩,
  ⟨(some 12), .idxA 4 1 (.t 1) (.t 11), none⟩,
  ⟨(some 13), .ld false 1 (.t 12), none⟩,
  ⟨(some 14), .mv (.t 4), none⟩,
  ⟨(some 15), .bin .rem (.t 14) (.c (.int .i64 (8))), none⟩,
  ⟨(some 16), .bin .mul (.c (.int .i64 (8))) (.t 15), none⟩,
  ⟨(some 17), .bin .shr (.t 13) (.t 16), none⟩,
  ⟨(some 18), .cvt .u8 (.t 17), none⟩,
  ⟨(some 19), .idxA 32 1 (.t 3) (.t 9), none⟩,
  ⟨none, .sto 1 (.t 19) (.t 18), none⟩])))
 (.reg [⟨(some 20), .bin .add (.t 5) (.c (.int .i64 (1))), none⟩,
  ⟨(some 5), .mv (.t 20), none⟩])))))))
 (.seq (.reg [⟨(some 21), .ld true 32 (.t 3), none⟩,
  ⟨none, .sto 32 (.t 2) (.t 21), none⟩])
 .ret))))
theorem f_wide_ToBytes : aFun Try.prog 39 = some (22, [.cell 2 true 32], c_wide_ToBytes) := by kernel_rfl
end Go.Proofs.Ytachiahepppajab

namespace Go.Proofs.Ytachiahepppajab
open Go Go.FH

end Go.Proofs.Ytachiahepppajab

namespace Go.Proofs.Ytachiahepppajab
open Go Go.FH

/-- records.ValidateList -/
def c_records_ValidateList : ACode := (.seq (.reg [⟨(some 4), .mv (.c (.int .i64 (0))), none⟩])
 (.seq (.seq (.reg [⟨(some 7), .mv (.t 0), none⟩,
  ⟨(some 8), .len false (.t 7), none⟩,
  ⟨(some 9), .bin .eql (.t 8) (.c (.int .i64 (0))), none⟩])
 (.cond (.t 9)
   (.seq (.reg [⟨(some 4), .mv (.c (.int .i64 (2))), none⟩])
   .ret)
   .skip))
 (.seq (.seq (.reg [⟨(some 10), .mv (.t 0), none⟩,
  ⟨(some 11), .len false (.t 10), none⟩,
  ⟨(some 12), .mv (.c (.int .i64 (0))), none⟩])
 (.block 0 (.loop (.seq (.reg [⟨(some 13), .bin .lss (.t 12) (.t 11), none⟩])
 (.seq (.cond (.t 13)
   .skip
   (.exit 0))
 (.seq (.block 1 (.seq (.reg [⟨(some 14), .mv (.t 12), none⟩,
  ⟨(some 15), .idxS 1 (.t 10) (.t 12), none⟩,
  ⟨(some 16), .ld false 1 (.t 15), none⟩,
  ⟨(some 5), .mv (.t 14), none⟩,
  ⟨(some 6), .mv (.t 16), none⟩])
 (.seq (.seq (.reg [⟨(some 17), .mv (.t 6), none⟩,
  ⟨(some 18), .bin .lss (.t 17) (.c (.int .i64 (0))), none⟩,
  ⟨(some 19), .mv (.t 18), none⟩,
  ⟨(some 20), .mv (.t 6), (some (19, false))⟩,
  ⟨(some 21), .mv (.t 1), (some (19, false))⟩,
  ⟨(some 22), .bin .geq (.t 20) (.t 21), (some (19, false))⟩,
  ⟨(some 23), .pick (.t 19) (.c (.bool true)) (.t 22), none⟩])
 (.cond (.t 23)
   (.seq (.reg [⟨(some 4), .mv (.c (.int .i64 (3))), none⟩])
   .ret)
   .skip))
 (.seq (.reg [⟨(some 24), .mv (.t 5), none⟩,
  ⟨(some 25), .bin .gtr (.t 24) (.c (.int .i64 (0))), none⟩,
  ⟨(some 26), .mv (.t 25), none⟩,
  ⟨(some 27), .mv (.t 6), (some (26, true))⟩,
  ⟨(some 28), .mv (.t 0), (some (26, true))⟩,
  ⟨(some 29), .mv (.t 5), (some (26, true))⟩,
  ⟨(some 30), .bin .sub (.t 29) (.c (.int .i64 (1))), (some (26, true))⟩,
  ⟨(some 31), .idxS 1 (.t 28) (.t 30), (some (26, true))⟩,
  ⟨(some 32), .ld false 1 (.t 31), (some (26, true))⟩,
  ⟨(some 33), .bin .leq (.t 27) (.t 32), (some (26, true))⟩,
  ⟨(some 34), .pick (.t 26) (.t 33) (.c (.bool false)), none⟩])
 (.cond (.t 34)
   (.seq (.reg [⟨(some 4), .mv (.c (.int .i64 (8))), none⟩])
   .ret)
   .skip)))))
 (.reg [⟨(some 35), .bin .add (.t 12) (.c (.int .i64 (1))), none⟩,
  ⟨(some 12), .mv (.t 35), none⟩])))))))
 (.seq (.reg [⟨(some 4), .mv (.c (.int .i64 (0))), none⟩])
 .ret))))
theorem f_records_ValidateList : aFun Try.prog 28 = some (36, [.tmp 4], c_records_ValidateList) := by kernel_rfl
/-- records.EncodeAttestation -/
def c_records_EncodeAttestation : ACode := (.seq (.reg [⟨(some 1), .box 67 (.t 0), none⟩,
  ⟨(some 2), .mv (.c (.sl 0 true [])), none⟩,
  ⟨(some 3), .mv (.c (.int .i64 (0))), none⟩])
 (.seq (.seq (.reg [⟨(some 6), .fldA 66 (.t 1), none⟩,
  ⟨(some 7), .ld false 1 (.t 6), none⟩,
  ⟨(some 8), .call (.c (.fn (.func 28) [])) [(.t 7), (.c (.int .i64 (1024)))], none⟩,
  ⟨(some 4), .mv (.t 8), none⟩])
 (.seq (.reg [⟨(some 9), .mv (.t 4), none⟩,
  ⟨(some 10), .bin .neq (.t 9) (.c (.int .i64 (0))), none⟩])
 (.cond (.t 10)
   (.seq (.reg [⟨(some 11), .mv (.t 4), none⟩,
    ⟨(some 2), .mv (.c (.sl 0 true [])), none⟩,
    ⟨(some 3), .mv (.t 11), none⟩])
   .ret)
   .skip)))
 (.seq (.dreg [(⟨(some 12), .fldA 0 (.t 1), none⟩, 0),
  (⟨(some 13), .ld false 1 (.t 12), none⟩, 1),
  (⟨(some 14), .call (.c (.fn (.func 10) [])) [(.c (.sl 0 true [])), (.t 13)], none⟩, 3),
  (⟨(some 15), .fldA 1 (.t 1), none⟩, 0),
  (⟨(some 16), .ld true 32 (.t 15), none⟩, 8),
  (⟨(some 17), .call (.c (.fn (.func 24) [])) [(.t 14), (.t 16)], none⟩, 31),
  (⟨(some 5), .mv (.t 17), none⟩, 63)])
 (.seq (.dreg [(⟨(some 18), .mv (.t 5), none⟩, 0),
  (⟨(some 19), .fldA 33 (.t 1), none⟩, 0),
  (⟨(some 20), .ld true 33 (.t 19), none⟩, 2),
  (⟨(some 21), .call (.c (.fn (.func 26) [])) [(.t 18), (.t 20)], none⟩, 7),
  (⟨(some 22), .fldA 66 (.t 1), none⟩, 0),
  (⟨(some 23), .ld false 1 (.t 22), none⟩, 16),
  (⟨(some 24), .call (.c (.fn (.func 29) [])) [(.t 21), (.t 23)], none⟩, 63),
  (⟨(some 2), .mv (.t 24), none⟩, 127),
  (⟨(some 3), .mv (.c (.int .i64 (0))), none⟩, 255)])
 .ret))))
theorem f_records_EncodeAttestation : aFun Try.prog 14 = some (25, [.tmp 2, .tmp 3], c_records_EncodeAttestation) := by kernel_rfl
/-- records.DecodeAttestation -/
def c_records_DecodeAttestation : ACode := (.seq (.reg [⟨(some 2), .new (attC att0), none⟩,
  ⟨(some 3), .mv (.c (.int .i64 (0))), none⟩,
  ⟨(some 4), .mv (.c (.int .i64 (0))), none⟩])
 (.seq (.reg [⟨(some 6), .mv (.t 0), none⟩,
  ⟨(some 7), .call (.c (.fn (.func 42) [])) [(.t 6)], none⟩,
  ⟨(some 5), .mv (.t 7), none⟩])
 (.seq (.dreg [(⟨(some 8), .mv (.t 5), none⟩, 0),
  (⟨(some 9), .call (.c (.fn (.func 43) [])) [(.t 8)], none⟩, 1),
  (⟨(some 10), .mv (.t 5), none⟩, 0),
  (⟨(some 11), .nilc (.t 10), none⟩, 4),
  (⟨(some 12), .fldA 0 (.t 11), none⟩, 12),
  (⟨(some 13), .ld false 1 (.t 12), none⟩, 28),
  (⟨(some 14), .call (.c (.fn (.func 44) [])) [(.t 13)], none⟩, 63),
  (⟨(some 15), .fldA 0 (.t 2), none⟩, 3),
  (⟨none, .sto 1 (.t 15) (.t 9), none⟩, 255),
  (⟨(some 16), .fldA 1 (.t 2), none⟩, 511),
  (⟨none, .sto 32 (.t 16) (.t 14), none⟩, 1023)])
 (.seq (.reg [⟨(some 17), .mv (.t 5), none⟩,
  ⟨(some 18), .nilc (.t 17), none⟩,
  ⟨(some 19), .fldA 0 (.t 18), none⟩,
  ⟨(some 20), .ld false 1 (.t 19), none⟩,
  ⟨(some 21), .call (.c (.fn (.func 46) [])) [(.t 20)], none⟩,
  ⟨(some 22), .fldA 33 (.t 2), none⟩,
  ⟨none, .sto 33 (.t 22) (.t 21), none⟩])
 (.seq (.reg [⟨(some 23), .mv (.t 5), none⟩,
  ⟨(some 24), .call (.c (.fn (.func 49) [])) [(.t 23)], none⟩,
  ⟨(some 25), .fldA 66 (.t 2), none⟩,
  ⟨none, .sto 1 (.t 25) (.t 24), none⟩])
 (.seq (.seq (.reg [⟨(some 27), .mv (.t 5), none⟩,
  ⟨(some 28), .fldA 66 (.t 2), none⟩,
  ⟨(some 29), .ld false 1 (.t 28), none⟩,
  ⟨(some 30), .bldS 1 1 [(.sl 0 true [])] [(0, (.t 29))], none⟩,
  ⟨(some 31), .call (.c (.fn (.func 48) [])) [(.t 27), (.t 30)], none⟩,
  ⟨(some 26), .mv (.t 31), none⟩,
  ⟨(some 32), .ext 0 (.t 26), none⟩,
  ⟨(some 33), .ext 1 (.t 26), none⟩,
  ⟨(some 3), .mv (.t 32), none⟩,
  ⟨(some 4), .mv (.t 33), none⟩])
 (.seq (.reg [⟨(some 34), .mv (.t 4), none⟩,
  ⟨(some 35), .bin .neq (.t 34) (.c (.int .i64 (0))), none⟩])
 (.cond (.t 35)
   (.seq (.reg [⟨(some 36), .bld (attC att0) [], none⟩,
    ⟨(some 37), .mv (.t 4), none⟩,
    ⟨none, .sto 67 (.t 2) (.t 36), none⟩,
    ⟨(some 3), .mv (.c (.int .i64 (0))), none⟩,
    ⟨(some 4), .mv (.t 37), none⟩])
   .ret)
   .skip)))
 (.seq (.reg [⟨(some 38), .ld true 67 (.t 2), none⟩,
  ⟨(some 39), .mv (.t 3), none⟩,
  ⟨none, .sto 67 (.t 2) (.t 38), none⟩,
  ⟨(some 3), .mv (.t 39), none⟩,
  ⟨(some 4), .mv (.c (.int .i64 (0))), none⟩])
 .ret)))))))
theorem f_records_DecodeAttestation : aFun Try.prog 34 = some (40, [.cell 2 true 67, .tmp 3, .tmp 4], c_records_DecodeAttestation) := by kernel_rfl
/-- records.EncodeTable -/
def c_records_EncodeTable : ACode := (.seq (.reg [⟨(some 1), .box 34 (.t 0), none⟩,
  ⟨(some 2), .mv (.c (.sl 0 true [])), none⟩,
  ⟨(some 3), .mv (.c (.int .i64 (0))), none⟩])
 (.seq (.seq (.reg [⟨(some 7), .fldA 33 (.t 1), none⟩,
  ⟨(some 8), .ld false 1 (.t 7), none⟩,
  ⟨(some 9), .len false (.t 8), none⟩,
  ⟨(some 10), .bin .gtr (.t 9) (.c (.int .i64 (1024))), none⟩])
 (.cond (.t 10)
   (.seq (.reg [⟨(some 2), .mv (.c (.sl 0 true [])), none⟩,
    ⟨(some 3), .mv (.c (.int .i64 (3))), none⟩])
   .ret)
   .skip))
 (.seq (.dreg [(⟨(some 11), .fldA 0 (.t 1), none⟩, 0),
  (⟨(some 12), .ld true 33 (.t 11), none⟩, 1),
  (⟨(some 13), .call (.c (.fn (.func 26) [])) [(.c (.sl 0 true [])), (.t 12)], none⟩, 3),
  (⟨(some 14), .fldA 33 (.t 1), none⟩, 0),
  (⟨(some 15), .ld false 1 (.t 14), none⟩, 8),
  (⟨(some 16), .len false (.t 15), none⟩, 24),
  (⟨(some 17), .cvt .u64 (.t 16), none⟩, 56),
  (⟨(some 18), .call (.c (.fn (.func 10) [])) [(.t 13), (.t 17)], none⟩, 127),
  (⟨(some 4), .mv (.t 18), none⟩, 255)])
 (.seq (.seq (.reg [⟨(some 19), .fldA 33 (.t 1), none⟩,
  ⟨(some 20), .ld false 1 (.t 19), none⟩,
  ⟨(some 21), .len false (.t 20), none⟩,
  ⟨(some 22), .mv (.c (.int .i64 (0))), none⟩])
 (.block 0 (.loop (.seq (.reg [⟨(some 23), .bin .lss (.t 22) (.t 21), none⟩])
 (.seq (.cond (.t 23)
   .skip
   (.exit 0))
 (.seq (.block 1 (.seq (.reg [⟨(some 24), .idxS 1 (.t 20) (.t 22), none⟩,
  ⟨(some 25), .ld false 1 (.t 24), none⟩,
  ⟨(some 6), .mv (.t 25), none⟩])
 (.reg [⟨(some 26), .mv (.t 4), none⟩,
  ⟨(some 27), .mv (.t 6), none⟩,
  ⟨(some 28), .call (.c (.fn (.func 10) [])) [(.t 26), (.t 27)], none⟩,
  ⟨(some 4), .mv (.t 28), none⟩])))
 (.reg [⟨(some 29), .bin .add (.t 22) (.c (.int .i64 (1))), none⟩,
  ⟨(some 22), .mv (.t 29), none⟩])))))))
 (.seq (.reg [⟨(some 30), .mv (.t 4), none⟩,
  ⟨(some 2), .mv (.t 30), none⟩,
  ⟨(some 3), .mv (.c (.int .i64 (0))), none⟩])
 .ret)))))
theorem f_records_EncodeTable : aFun Try.prog 16 = some (31, [.tmp 2, .tmp 3], c_records_EncodeTable) := by kernel_rfl
/-- records.EncodeSlashing -/
def c_records_EncodeSlashing : ACode := (.seq (.reg [⟨(some 1), .box 70 (.t 0), none⟩,
  ⟨(some 2), .mv (.c (.sl 0 true [])), none⟩,
  ⟨(some 3), .mv (.c (.int .i64 (0))), none⟩])
 (.seq (.reg [⟨(some 4), .mv (.c (.sl 0 true [])), none⟩])
 (.seq (.seq (.reg [⟨(some 8), .fldA 0 (.t 1), none⟩,
  ⟨(some 9), .ld true 35 (.t 8), none⟩,
  ⟨(some 10), .fldA 35 (.t 1), none⟩,
  ⟨(some 11), .ld true 35 (.t 10), none⟩,
  ⟨(some 12), .bldS 35 2 (clmC clm0) [(0, (.t 9)), (1, (.t 11))], none⟩,
  ⟨(some 13), .len false (.t 12), none⟩,
  ⟨(some 14), .mv (.c (.int .i64 (0))), none⟩])
 (.block 0 (.loop (.seq (.reg [⟨(some 15), .bin .lss (.t 14) (.t 13), none⟩])
 (.seq (.cond (.t 15)
   .skip
   (.exit 0))
 (.seq (.block 1 (.seq (.reg [⟨(some 16), .idxS 35 (.t 12) (.t 14), none⟩,
  ⟨(some 17), .ld true 35 (.t 16), none⟩,
  ⟨(some 6), .new (clmC clm0), none⟩,
  ⟨none, .sto 35 (.t 6) (.t 17), none⟩])
 (.seq (.seq (.reg [⟨(some 18), .fldA 34 (.t 6), none⟩,
  ⟨(some 19), .ld false 1 (.t 18), none⟩,
  ⟨(some 20), .call (.c (.fn (.func 28) [])) [(.t 19), (.c (.int .i64 (1024)))], none⟩,
  ⟨(some 7), .mv (.t 20), none⟩])
 (.seq (.reg [⟨(some 21), .mv (.t 7), none⟩,
  ⟨(some 22), .bin .neq (.t 21) (.c (.int .i64 (0))), none⟩])
 (.cond (.t 22)
   (.seq (.reg [⟨(some 23), .mv (.t 7), none⟩,
    ⟨(some 2), .mv (.c (.sl 0 true [])), none⟩,
    ⟨(some 3), .mv (.t 23), none⟩])
   .ret)
   .skip)))
 (.seq (.dreg [(⟨(some 24), .mv (.t 4), none⟩, 0),
  (⟨(some 25), .fldA 0 (.t 6), none⟩, 0),
  (⟨(some 26), .ld false 1 (.t 25), none⟩, 2),
  (⟨(some 27), .call (.c (.fn (.func 10) [])) [(.t 24), (.t 26)], none⟩, 7),
  (⟨(some 28), .fldA 1 (.t 6), none⟩, 0),
  (⟨(some 29), .ld false 1 (.t 28), none⟩, 16),
  (⟨(some 30), .call (.c (.fn (.func 10) [])) [(.t 27), (.t 29)], none⟩, 63),
  (⟨(some 31), .fldA 2 (.t 6), none⟩, 0),
  (⟨(some 32), .ld true 32 (.t 31), none⟩, 128),
  (⟨(some 33), .call (.c (.fn (.func 24) [])) [(.t 30), (.t 32)], none⟩, 511),
  (⟨(some 4), .mv (.t 33), none⟩, 1023)])
 (.reg [⟨(some 34), .mv (.t 4), none⟩,
  ⟨(some 35), .fldA 34 (.t 6), none⟩,
  ⟨(some 36), .ld false 1 (.t 35), none⟩,
  ⟨(some 37), .call (.c (.fn (.func 29) [])) [(.t 34), (.t 36)], none⟩,
  ⟨(some 4), .mv (.t 37), none⟩])))))
 (.reg [⟨(some 38), .bin .add (.t 14) (.c (.int .i64 (1))), none⟩,
  ⟨(some 14), .mv (.t 38), none⟩])))))))
 (.seq (.reg [⟨(some 39), .mv (.t 4), none⟩,
  ⟨(some 2), .mv (.t 39), none⟩,
  ⟨(some 3), .mv (.c (.int .i64 (0))), none⟩])
 .ret))))
theorem f_records_EncodeSlashing : aFun Try.prog 15 = some (40, [.tmp 2, .tmp 3], c_records_EncodeSlashing) := by kernel_rfl
/-- records.DecodeSlashing -/
def c_records_DecodeSlashing : ACode := (.seq (.reg [⟨(some 2), .new (slgC slg0), none⟩,
  ⟨(some 3), .mv (.c (.int .i64 (0))), none⟩,
  ⟨(some 4), .mv (.c (.int .i64 (0))), none⟩])
 (.seq (.reg [⟨(some 6), .mv (.t 0), none⟩,
  ⟨(some 7), .call (.c (.fn (.func 42) [])) [(.t 6)], none⟩,
  ⟨(some 5), .mv (.t 7), none⟩])
 (.seq (.reg [⟨(some 8), .mv (.t 5), none⟩,
  ⟨(some 9), .call (.c (.fn (.func 50) [])) [(.t 8)], none⟩,
  ⟨(some 10), .fldA 0 (.t 2), none⟩,
  ⟨none, .sto 35 (.t 10) (.t 9), none⟩])
 (.seq (.reg [⟨(some 11), .mv (.t 5), none⟩,
  ⟨(some 12), .call (.c (.fn (.func 50) [])) [(.t 11)], none⟩,
  ⟨(some 13), .fldA 35 (.t 2), none⟩,
  ⟨none, .sto 35 (.t 13) (.t 12), none⟩])
 (.seq (.seq (.reg [⟨(some 15), .mv (.t 5), none⟩,
  ⟨(some 16), .fldA 0 (.t 2), none⟩,
  ⟨(some 17), .fldA 34 (.t 16), none⟩,
  ⟨(some 18), .ld false 1 (.t 17), none⟩,
  ⟨(some 19), .fldA 35 (.t 2), none⟩,
  ⟨(some 20), .fldA 34 (.t 19), none⟩,
  ⟨(some 21), .ld false 1 (.t 20), none⟩,
  ⟨(some 22), .bldS 1 2 [(.sl 0 true [])] [(0, (.t 18)), (1, (.t 21))], none⟩,
  ⟨(some 23), .call (.c (.fn (.func 48) [])) [(.t 15), (.t 22)], none⟩,
  ⟨(some 14), .mv (.t 23), none⟩,
  ⟨(some 24), .ext 0 (.t 14), none⟩,
  ⟨(some 25), .ext 1 (.t 14), none⟩,
  ⟨(some 3), .mv (.t 24), none⟩,
  ⟨(some 4), .mv (.t 25), none⟩])
 (.seq (.reg [⟨(some 26), .mv (.t 4), none⟩,
  ⟨(some 27), .bin .neq (.t 26) (.c (.int .i64 (0))), none⟩])
 (.cond (.t 27)
   (.seq (.reg [⟨(some 28), .bld (slgC slg0) [], none⟩,
    ⟨(some 29), .mv (.t 4), none⟩,
    ⟨none, .sto 70 (.t 2) (.t 28), none⟩,
    ⟨(some 3), .mv (.c (.int .i64 (0))), none⟩,
    ⟨(some 4), .mv (.t 29), none⟩])
   .ret)
   .skip)))
 (.seq (.reg [⟨(some 30), .ld true 70 (.t 2), none⟩,
  ⟨(some 31), .mv (.t 3), none⟩,
  ⟨none, .sto 70 (.t 2) (.t 30), none⟩,
  ⟨(some 3), .mv (.t 31), none⟩,
  ⟨(some 4), .mv (.c (.int .i64 (0))), none⟩])
 .ret))))))
theorem f_records_DecodeSlashing : aFun Try.prog 35 = some (32, [.cell 2 true 70, .tmp 3, .tmp 4], c_records_DecodeSlashing) := by kernel_rfl
/-- records.EncodeVerdict -/
def c_records_EncodeVerdict : ACode := (.seq (.reg [⟨(some 1), .box 34 (.t 0), none⟩,
  ⟨(some 2), .mv (.c (.sl 0 true [])), none⟩,
  ⟨(some 3), .mv (.c (.int .i64 (0))), none⟩])
 (.seq (.seq (.reg [⟨(some 4), .fldA 1 (.t 1), none⟩,
  ⟨(some 5), .ld false 1 (.t 4), none⟩,
  ⟨(some 6), .bin .lss (.t 5) (.c (.int .i64 (1))), none⟩,
  ⟨(some 7), .mv (.t 6), none⟩,
  ⟨(some 8), .fldA 1 (.t 1), (some (7, false))⟩,
  ⟨(some 9), .ld false 1 (.t 8), (some (7, false))⟩,
  ⟨(some 10), .bin .gtr (.t 9) (.c (.int .i64 (4))), (some (7, false))⟩,
  ⟨(some 11), .pick (.t 7) (.c (.bool true)) (.t 10), none⟩])
 (.cond (.t 11)
   (.seq (.reg [⟨(some 2), .mv (.c (.sl 0 true [])), none⟩,
    ⟨(some 3), .mv (.c (.int .i64 (3))), none⟩])
   .ret)
   .skip))
 (.seq (.dreg [(⟨(some 12), .fldA 0 (.t 1), none⟩, 0),
  (⟨(some 13), .fldA 0 (.t 12), none⟩, 1),
  (⟨(some 14), .ld false 1 (.t 13), none⟩, 3),
  (⟨(some 15), .call (.c (.fn (.func 10) [])) [(.c (.sl 0 true [])), (.t 14)], none⟩, 7),
  (⟨(some 16), .fldA 1 (.t 1), none⟩, 0),
  (⟨(some 17), .ld false 1 (.t 16), none⟩, 16),
  (⟨(some 18), .cvt .u64 (.t 17), none⟩, 48),
  (⟨(some 19), .call (.c (.fn (.func 10) [])) [(.t 15), (.t 18)], none⟩, 127),
  (⟨(some 20), .fldA 2 (.t 1), none⟩, 0),
  (⟨(some 21), .ld true 32 (.t 20), none⟩, 256),
  (⟨(some 22), .call (.c (.fn (.func 24) [])) [(.t 19), (.t 21)], none⟩, 1023),
  (⟨(some 2), .mv (.t 22), none⟩, 2047),
  (⟨(some 3), .mv (.c (.int .i64 (0))), none⟩, 4095)])
 .ret)))
theorem f_records_EncodeVerdict : aFun Try.prog 17 = some (23, [.tmp 2, .tmp 3], c_records_EncodeVerdict) := by kernel_rfl
/-- records.DecodeTable -/
def c_records_DecodeTable : ACode := (.seq (.reg [⟨(some 2), .new (tabC tab0), none⟩,
  ⟨(some 3), .mv (.c (.int .i64 (0))), none⟩,
  ⟨(some 4), .mv (.c (.int .i64 (0))), none⟩])
 (.seq (.reg [⟨(some 8), .mv (.t 0), none⟩,
  ⟨(some 9), .call (.c (.fn (.func 42) [])) [(.t 8)], none⟩,
  ⟨(some 5), .mv (.t 9), none⟩])
 (.seq (.dreg [(⟨(some 10), .mv (.t 5), none⟩, 0),
  (⟨(some 11), .call (.c (.fn (.func 43) [])) [(.t 10)], none⟩, 1),
  (⟨(some 12), .mv (.t 5), none⟩, 0),
  (⟨(some 13), .nilc (.t 12), none⟩, 4),
  (⟨(some 14), .fldA 0 (.t 13), none⟩, 12),
  (⟨(some 15), .ld false 1 (.t 14), none⟩, 28),
  (⟨(some 16), .call (.c (.fn (.func 44) [])) [(.t 15)], none⟩, 63),
  (⟨(some 17), .fldA 0 (.t 2), none⟩, 3),
  (⟨(some 18), .fldA 0 (.t 17), none⟩, 131),
  (⟨none, .sto 1 (.t 18) (.t 11), none⟩, 511),
  (⟨(some 19), .fldA 0 (.t 2), none⟩, 1023),
  (⟨(some 20), .fldA 1 (.t 19), none⟩, 2047),
  (⟨none, .sto 32 (.t 20) (.t 16), none⟩, 4095)])
 (.seq (.reg [⟨(some 21), .mv (.t 5), none⟩,
  ⟨(some 22), .nilc (.t 21), none⟩,
  ⟨(some 23), .fldA 0 (.t 22), none⟩,
  ⟨(some 24), .ld false 1 (.t 23), none⟩,
  ⟨(some 25), .call (.c (.fn (.func 30) [])) [(.t 24), (.c (.int .u64 (1024)))], none⟩,
  ⟨(some 6), .mv (.t 25), none⟩])
 (.seq (.seq (.reg [⟨(some 7), .mv (.c (.int .u64 (0))), none⟩])
 (.block 0 (.loop (.seq (.seq (.reg [⟨(some 26), .mv (.t 7), none⟩,
  ⟨(some 27), .mv (.t 6), none⟩,
  ⟨(some 28), .bin .lss (.t 26) (.t 27), none⟩,
  ⟨(some 29), .mv (.t 28), none⟩,
  ⟨(some 30), .mv (.t 5), (some (29, true))⟩,
  ⟨(some 31), .nilc (.t 30), (some (29, true))⟩,
  ⟨(some 32), .fldA 0 (.t 31), (some (29, true))⟩,
  ⟨(some 33), .ld false 1 (.t 32), (some (29, true))⟩,
  ⟨(some 34), .call (.c (.fn (.func 31) [])) [(.t 33)], (some (29, true))⟩,
  ⟨(some 35), .bin .eql (.t 34) (.c (.int .i64 (0))), (some (29, true))⟩,
  ⟨(some 36), .pick (.t 29) (.t 35) (.c (.bool false)), none⟩])
 (.cond (.t 36)
   .skip
   (.exit 0)))
 (.seq (.block 1 (.dreg [(⟨(some 39), .fldA 33 (.t 2), none⟩, 0),
  (⟨(some 40), .ld false 1 (.t 39), none⟩, 1),
  (⟨(some 41), .mv (.t 5), none⟩, 0),
  (⟨(some 42), .call (.c (.fn (.func 43) [])) [(.t 41)], none⟩, 4),
  (⟨(some 43), .bldS 1 1 [(.int .u64 (0))] [(0, (.t 42))], none⟩, 12),
  (⟨(some 44), .app 1 8 (.t 40) (.t 43), none⟩, 31),
  (⟨(some 45), .fldA 33 (.t 2), none⟩, 63),
  (⟨none, .sto 1 (.t 45) (.t 44), none⟩, 127)]))
 (.reg [⟨(some 37), .mv (.t 7), none⟩,
  ⟨(some 38), .bin .add (.t 37) (.c (.int .u64 (1))), none⟩,
  ⟨(some 7), .mv (.t 38), none⟩]))))))
 (.seq (.seq (.reg [⟨(some 47), .mv (.t 5), none⟩,
  ⟨(some 48), .call (.c (.fn (.func 48) [])) [(.t 47), (.c (.sl 0 true []))], none⟩,
  ⟨(some 46), .mv (.t 48), none⟩,
  ⟨(some 49), .ext 0 (.t 46), none⟩,
  ⟨(some 50), .ext 1 (.t 46), none⟩,
  ⟨(some 3), .mv (.t 49), none⟩,
  ⟨(some 4), .mv (.t 50), none⟩])
 (.seq (.reg [⟨(some 51), .mv (.t 4), none⟩,
  ⟨(some 52), .bin .neq (.t 51) (.c (.int .i64 (0))), none⟩])
 (.cond (.t 52)
   (.seq (.reg [⟨(some 53), .bld (tabC tab0) [], none⟩,
    ⟨(some 54), .mv (.t 4), none⟩,
    ⟨none, .sto 34 (.t 2) (.t 53), none⟩,
    ⟨(some 3), .mv (.c (.int .i64 (0))), none⟩,
    ⟨(some 4), .mv (.t 54), none⟩])
   .ret)
   .skip)))
 (.seq (.reg [⟨(some 55), .ld true 34 (.t 2), none⟩,
  ⟨(some 56), .mv (.t 3), none⟩,
  ⟨none, .sto 34 (.t 2) (.t 55), none⟩,
  ⟨(some 3), .mv (.t 56), none⟩,
  ⟨(some 4), .mv (.c (.int .i64 (0))), none⟩])
 .ret)))))))
theorem f_records_DecodeTable : aFun Try.prog 36 = some (57, [.cell 2 true 34, .tmp 3, .tmp 4], c_records_DecodeTable) := by kernel_rfl
/-- records.DecodeVerdict -/
def c_records_DecodeVerdict : ACode := (.seq (.reg [⟨(some 2), .new (vdtC vdt0), none⟩,
  ⟨(some 3), .mv (.c (.int .i64 (0))), none⟩,
  ⟨(some 4), .mv (.c (.int .i64 (0))), none⟩])
 (.seq (.reg [⟨(some 6), .mv (.t 0), none⟩,
  ⟨(some 7), .call (.c (.fn (.func 42) [])) [(.t 6)], none⟩,
  ⟨(some 5), .mv (.t 7), none⟩])
 (.seq (.reg [⟨(some 8), .mv (.t 5), none⟩,
  ⟨(some 9), .call (.c (.fn (.func 43) [])) [(.t 8)], none⟩,
  ⟨(some 10), .fldA 0 (.t 2), none⟩,
  ⟨(some 11), .fldA 0 (.t 10), none⟩,
  ⟨none, .sto 1 (.t 11) (.t 9), none⟩])
 (.seq (.reg [⟨(some 12), .mv (.t 5), none⟩,
  ⟨(some 13), .nilc (.t 12), none⟩,
  ⟨(some 14), .fldA 0 (.t 13), none⟩,
  ⟨(some 15), .ld false 1 (.t 14), none⟩,
  ⟨(some 16), .call (.c (.fn (.func 30) [])) [(.t 15), (.c (.int .u64 (4)))], none⟩,
  ⟨(some 17), .cvt .i64 (.t 16), none⟩,
  ⟨(some 18), .fldA 1 (.t 2), none⟩,
  ⟨none, .sto 1 (.t 18) (.t 17), none⟩])
 (.seq (.reg [⟨(some 19), .mv (.t 5), none⟩,
  ⟨(some 20), .nilc (.t 19), none⟩,
  ⟨(some 21), .fldA 0 (.t 20), none⟩,
  ⟨(some 22), .ld false 1 (.t 21), none⟩,
  ⟨(some 23), .call (.c (.fn (.func 44) [])) [(.t 22)], none⟩,
  ⟨(some 24), .fldA 2 (.t 2), none⟩,
  ⟨none, .sto 32 (.t 24) (.t 23), none⟩])
 (.seq (.reg [⟨(some 26), .mv (.t 5), none⟩,
  ⟨(some 27), .call (.c (.fn (.func 48) [])) [(.t 26), (.c (.sl 0 true []))], none⟩,
  ⟨(some 25), .mv (.t 27), none⟩,
  ⟨(some 28), .ext 0 (.t 25), none⟩,
  ⟨(some 29), .ext 1 (.t 25), none⟩,
  ⟨(some 3), .mv (.t 28), none⟩,
  ⟨(some 4), .mv (.t 29), none⟩])
 (.seq (.seq (.reg [⟨(some 30), .mv (.t 4), none⟩,
  ⟨(some 31), .bin .eql (.t 30) (.c (.int .i64 (0))), none⟩,
  ⟨(some 32), .mv (.t 31), none⟩,
  ⟨(some 33), .fldA 1 (.t 2), (some (32, true))⟩,
  ⟨(some 34), .ld false 1 (.t 33), (some (32, true))⟩,
  ⟨(some 35), .bin .eql (.t 34) (.c (.int .i64 (0))), (some (32, true))⟩,
  ⟨(some 36), .pick (.t 32) (.t 35) (.c (.bool false)), none⟩])
 (.cond (.t 36)
   (.reg [⟨(some 4), .mv (.c (.int .i64 (2))), none⟩])
   .skip))
 (.seq (.seq (.reg [⟨(some 37), .mv (.t 4), none⟩,
  ⟨(some 38), .bin .neq (.t 37) (.c (.int .i64 (0))), none⟩])
 (.cond (.t 38)
   (.seq (.reg [⟨(some 39), .bld (vdtC vdt0) [], none⟩,
    ⟨(some 40), .mv (.t 4), none⟩,
    ⟨none, .sto 34 (.t 2) (.t 39), none⟩,
    ⟨(some 3), .mv (.c (.int .i64 (0))), none⟩,
    ⟨(some 4), .mv (.t 40), none⟩])
   .ret)
   .skip))
 (.seq (.reg [⟨(some 41), .ld true 34 (.t 2), none⟩,
  ⟨(some 42), .mv (.t 3), none⟩,
  ⟨none, .sto 34 (.t 2) (.t 41), none⟩,
  ⟨(some 3), .mv (.t 42), none⟩,
  ⟨(some 4), .mv (.c (.int .i64 (0))), none⟩])
 .ret)))))))))
theorem f_records_DecodeVerdict : aFun Try.prog 37 = some (43, [.cell 2 true 34, .tmp 3, .tmp 4], c_records_DecodeVerdict) := by kernel_rfl
/-- records.EncodeBlock -/
def c_records_EncodeBlock : ACode := (.seq (.reg [⟨(some 1), .box 238 (.t 0), none⟩,
  ⟨(some 2), .mv (.c (.sl 0 true [])), none⟩])
 (.seq (.reg [⟨(some 8), .fldA 66 (.t 1), none⟩,
  ⟨(some 9), .ld false 1 (.t 8), none⟩,
  ⟨(some 10), .call (.c (.fn (.func 10) [])) [(.c (.sl 0 true [])), (.t 9)], none⟩,
  ⟨(some 3), .mv (.t 10), none⟩])
 (.seq (.seq (.reg [⟨(some 11), .fldA 67 (.t 1), none⟩,
  ⟨(some 12), .ld true 32 (.t 11), none⟩,
  ⟨(some 13), .fldA 99 (.t 1), none⟩,
  ⟨(some 14), .ld true 32 (.t 13), none⟩,
  ⟨(some 15), .fldA 131 (.t 1), none⟩,
  ⟨(some 16), .ld true 32 (.t 15), none⟩,
  ⟨(some 17), .bldS 32 3 (rtc rt0) [(0, (.t 12)), (1, (.t 14)), (2, (.t 16))], none⟩,
  ⟨(some 18), .len false (.t 17), none⟩,
  ⟨(some 19), .mv (.c (.int .i64 (0))), none⟩])
 (.block 0 (.loop (.seq (.reg [⟨(some 20), .bin .lss (.t 19) (.t 18), none⟩])
 (.seq (.cond (.t 20)
   .skip
   (.exit 0))
 (.seq (.block 1 (.seq (.reg [⟨(some 21), .idxS 32 (.t 17) (.t 19), none⟩,
  ⟨(some 22), .ld true 32 (.t 21), none⟩,
  ⟨(some 5), .new (rtc rt0), none⟩,
  ⟨none, .sto 32 (.t 5) (.t 22), none⟩])
 (.reg [⟨(some 23), .mv (.t 3), none⟩,
  ⟨(some 24), .ld true 32 (.t 5), none⟩,
  ⟨(some 25), .call (.c (.fn (.func 24) [])) [(.t 23), (.t 24)], none⟩,
  ⟨(some 3), .mv (.t 25), none⟩])))
 (.reg [⟨(some 26), .bin .add (.t 19) (.c (.int .i64 (1))), none⟩,
  ⟨(some 19), .mv (.t 26), none⟩])))))))
 (.seq (.dreg [(⟨(some 27), .mv (.t 3), none⟩, 0),
  (⟨(some 28), .fldA 163 (.t 1), none⟩, 0),
  (⟨(some 29), .ld true 4 (.t 28), none⟩, 2),
  (⟨(some 30), .call (.c (.fn (.func 25) [])) [(.t 27), (.t 29)], none⟩, 7),
  (⟨(some 31), .fldA 167 (.t 1), none⟩, 0),
  (⟨(some 32), .ld true 4 (.t 31), none⟩, 16),
  (⟨(some 33), .call (.c (.fn (.func 25) [])) [(.t 30), (.t 32)], none⟩, 63),
  (⟨(some 3), .mv (.t 33), none⟩, 127)])
 (.seq (.seq (.reg [⟨(some 34), .fldA 171 (.t 1), none⟩,
  ⟨(some 35), .ld true 33 (.t 34), none⟩,
  ⟨(some 36), .fldA 204 (.t 1), none⟩,
  ⟨(some 37), .ld true 33 (.t 36), none⟩,
  ⟨(some 38), .fldA 0 (.t 1), none⟩,
  ⟨(some 39), .fldA 0 (.t 38), none⟩,
  ⟨(some 40), .ld true 33 (.t 39), none⟩,
  ⟨(some 41), .fldA 0 (.t 1), none⟩,
  ⟨(some 42), .fldA 33 (.t 41), none⟩,
  ⟨(some 43), .ld true 33 (.t 42), none⟩,
  ⟨(some 44), .bldS 33 4 (cpC cp0) [(0, (.t 35)), (1, (.t 37)), (2, (.t 40)), (3, (.t 43))], none⟩,
  ⟨(some 45), .len false (.t 44), none⟩,
  ⟨(some 46), .mv (.c (.int .i64 (0))), none⟩])
 (.block 2 (.loop (.seq (.reg [⟨(some 47), .bin .lss (.t 46) (.t 45), none⟩])
 (.seq (.cond (.t 47)
   .skip
   (.exit 2))
 (.seq (.block 3 (.seq (.reg [⟨(some 48), .idxS 33 (.t 44) (.t 46), none⟩,
  ⟨(some 49), .ld true 33 (.t 48), none⟩,
  ⟨(some 7), .new (cpC cp0), none⟩,
  ⟨none, .sto 33 (.t 7) (.t 49), none⟩])
 (.reg [⟨(some 50), .mv (.t 3), none⟩,
  ⟨(some 51), .ld true 33 (.t 7), none⟩,
  ⟨(some 52), .call (.c (.fn (.func 26) [])) [(.t 50), (.t 51)], none⟩,
  ⟨(some 3), .mv (.t 52), none⟩])))
 (.reg [⟨(some 53), .bin .add (.t 46) (.c (.int .i64 (1))), none⟩,
  ⟨(some 46), .mv (.t 53), none⟩])))))))
 (.seq (.reg [⟨(some 54), .mv (.t 3), none⟩,
  ⟨(some 55), .fldA 237 (.t 1), none⟩,
  ⟨(some 56), .ld false 1 (.t 55), none⟩,
  ⟨(some 57), .call (.c (.fn (.func 27) [])) [(.t 54), (.t 56)], none⟩,
  ⟨(some 2), .mv (.t 57), none⟩])
 .ret))))))
theorem f_records_EncodeBlock : aFun Try.prog 13 = some (58, [.tmp 2], c_records_EncodeBlock) := by kernel_rfl
/-- records.DecodeBlock -/
def c_records_DecodeBlock : ACode := (.seq (.reg [⟨(some 2), .new (blkC blk0), none⟩,
  ⟨(some 3), .mv (.c (.int .i64 (0))), none⟩,
  ⟨(some 4), .mv (.c (.int .i64 (0))), none⟩])
 (.seq (.reg [⟨(some 6), .mv (.t 0), none⟩,
  ⟨(some 7), .call (.c (.fn (.func 42) [])) [(.t 6)], none⟩,
  ⟨(some 5), .mv (.t 7), none⟩])
 (.seq (.reg [⟨(some 8), .mv (.t 5), none⟩,
  ⟨(some 9), .call (.c (.fn (.func 43) [])) [(.t 8)], none⟩,
  ⟨(some 10), .fldA 66 (.t 2), none⟩,
  ⟨none, .sto 1 (.t 10) (.t 9), none⟩])
 (.seq (.dreg [(⟨(some 11), .mv (.t 5), none⟩, 0),
  (⟨(some 12), .nilc (.t 11), none⟩, 1),
  (⟨(some 13), .fldA 0 (.t 12), none⟩, 3),
  (⟨(some 14), .ld false 1 (.t 13), none⟩, 7),
  (⟨(some 15), .call (.c (.fn (.func 44) [])) [(.t 14)], none⟩, 15),
  (⟨(some 16), .mv (.t 5), none⟩, 0),
  (⟨(some 17), .nilc (.t 16), none⟩, 32),
  (⟨(some 18), .fldA 0 (.t 17), none⟩, 96),
  (⟨(some 19), .ld false 1 (.t 18), none⟩, 224),
  (⟨(some 20), .call (.c (.fn (.func 44) [])) [(.t 19)], none⟩, 511),
  (⟨(some 21), .mv (.t 5), none⟩, 0),
  (⟨(some 22), .nilc (.t 21), none⟩, 1024),
  (⟨(some 23), .fldA 0 (.t 22), none⟩, 3072),
  (⟨(some 24), .ld false 1 (.t 23), none⟩, 7168),
  (⟨(some 25), .call (.c (.fn (.func 44) [])) [(.t 24)], none⟩, 16383),
  (⟨(some 26), .fldA 67 (.t 2), none⟩, 31),
  (⟨none, .sto 32 (.t 26) (.t 15), none⟩, 65535),
  (⟨(some 27), .fldA 99 (.t 2), none⟩, 131071),
  (⟨none, .sto 32 (.t 27) (.t 20), none⟩, 262143),
  (⟨(some 28), .fldA 131 (.t 2), none⟩, 524287),
  (⟨none, .sto 32 (.t 28) (.t 25), none⟩, 1048575)])
 (.seq (.dreg [(⟨(some 29), .mv (.t 5), none⟩, 0),
  (⟨(some 30), .nilc (.t 29), none⟩, 1),
  (⟨(some 31), .fldA 0 (.t 30), none⟩, 3),
  (⟨(some 32), .ld false 1 (.t 31), none⟩, 7),
  (⟨(some 33), .call (.c (.fn (.func 45) [])) [(.t 32)], none⟩, 15),
  (⟨(some 34), .mv (.t 5), none⟩, 0),
  (⟨(some 35), .nilc (.t 34), none⟩, 32),
  (⟨(some 36), .fldA 0 (.t 35), none⟩, 96),
  (⟨(some 37), .ld false 1 (.t 36), none⟩, 224),
  (⟨(some 38), .call (.c (.fn (.func 45) [])) [(.t 37)], none⟩, 511),
  (⟨(some 39), .fldA 163 (.t 2), none⟩, 31),
  (⟨none, .sto 4 (.t 39) (.t 33), none⟩, 2047),
  (⟨(some 40), .fldA 167 (.t 2), none⟩, 4095),
  (⟨none, .sto 4 (.t 40) (.t 38), none⟩, 8191)])
 (.seq (.dreg [(⟨(some 41), .mv (.t 5), none⟩, 0),
  (⟨(some 42), .nilc (.t 41), none⟩, 1),
  (⟨(some 43), .fldA 0 (.t 42), none⟩, 3),
  (⟨(some 44), .ld false 1 (.t 43), none⟩, 7),
  (⟨(some 45), .call (.c (.fn (.func 46) [])) [(.t 44)], none⟩, 15),
  (⟨(some 46), .mv (.t 5), none⟩, 0),
  (⟨(some 47), .nilc (.t 46), none⟩, 32),
  (⟨(some 48), .fldA 0 (.t 47), none⟩, 96),
  (⟨(some 49), .ld false 1 (.t 48), none⟩, 224),
  (⟨(some 50), .call (.c (.fn (.func 46) [])) [(.t 49)], none⟩, 511),
  (⟨(some 51), .fldA 171 (.t 2), none⟩, 31),
  (⟨none, .sto 33 (.t 51) (.t 45), none⟩, 2047),
  (⟨(some 52), .fldA 204 (.t 2), none⟩, 4095),
  (⟨none, .sto 33 (.t 52) (.t 50), none⟩, 8191)])
 (.seq (.dreg [(⟨(some 53), .mv (.t 5), none⟩, 0),
  (⟨(some 54), .nilc (.t 53), none⟩, 1),
  (⟨(some 55), .fldA 0 (.t 54), none⟩, 3),
  (⟨(some 56), .ld false 1 (.t 55), none⟩, 7),
  (⟨(some 57), .call (.c (.fn (.func 46) [])) [(.t 56)], none⟩, 15),
  (⟨(some 58), .mv (.t 5), none⟩, 0),
  (⟨(some 59), .nilc (.t 58), none⟩, 32),
  (⟨(some 60), .fldA 0 (.t 59), none⟩, 96),
  (⟨(some 61), .ld false 1 (.t 60), none⟩, 224),
  (⟨(some 62), .call (.c (.fn (.func 46) [])) [(.t 61)], none⟩, 511),
  (⟨(some 63), .fldA 0 (.t 2), none⟩, 31),
  (⟨(some 64), .fldA 0 (.t 63), none⟩, 1055),
  (⟨none, .sto 33 (.t 64) (.t 57), none⟩, 4095),
  (⟨(some 65), .fldA 0 (.t 2), none⟩, 8191),
  (⟨(some 66), .fldA 33 (.t 65), none⟩, 16383),
  (⟨none, .sto 33 (.t 66) (.t 62), none⟩, 32767)])
 (.seq (.reg [⟨(some 67), .mv (.t 5), none⟩,
  ⟨(some 68), .nilc (.t 67), none⟩,
  ⟨(some 69), .fldA 0 (.t 68), none⟩,
  ⟨(some 70), .ld false 1 (.t 69), none⟩,
  ⟨(some 71), .call (.c (.fn (.func 47) [])) [(.t 70)], none⟩,
  ⟨(some 72), .fldA 237 (.t 2), none⟩,
  ⟨none, .sto 1 (.t 72) (.t 71), none⟩])
 (.seq (.seq (.reg [⟨(some 74), .mv (.t 5), none⟩,
  ⟨(some 75), .call (.c (.fn (.func 48) [])) [(.t 74), (.c (.sl 0 true []))], none⟩,
  ⟨(some 73), .mv (.t 75), none⟩,
  ⟨(some 76), .ext 0 (.t 73), none⟩,
  ⟨(some 77), .ext 1 (.t 73), none⟩,
  ⟨(some 3), .mv (.t 76), none⟩,
  ⟨(some 4), .mv (.t 77), none⟩])
 (.seq (.reg [⟨(some 78), .mv (.t 4), none⟩,
  ⟨(some 79), .bin .neq (.t 78) (.c (.int .i64 (0))), none⟩])
 (.cond (.t 79)
   (.seq (.reg [⟨(some 80), .bld (blkC blk0) [], none⟩,
    ⟨(some 81), .mv (.t 4), none⟩,
    ⟨none, .sto 238 (.t 2) (.t 80), none⟩,
    ⟨(some 3), .mv (.c (.int .i64 (0))), none⟩,
    ⟨(some 4), .mv (.t 81), none⟩])
   .ret)
   .skip)))
 (.seq (.reg [⟨(some 82), .ld true 238 (.t 2), none⟩,
  ⟨(some 83), .mv (.t 3), none⟩,
  ⟨none, .sto 238 (.t 2) (.t 82), none⟩,
  ⟨(some 3), .mv (.t 83), none⟩,
  ⟨(some 4), .mv (.c (.int .i64 (0))), none⟩])
 .ret))))))))))
theorem f_records_DecodeBlock : aFun Try.prog 32 = some (84, [.cell 2 true 238, .tmp 3, .tmp 4], c_records_DecodeBlock) := by kernel_rfl
/-- records.appendList -/
def c_records_appendList : ACode := (.seq (.reg [⟨(some 4), .mv (.c (.sl 0 true [])), none⟩])
 (.seq (.reg [⟨(some 7), .mv (.t 0), none⟩,
  ⟨(some 8), .mv (.t 1), none⟩,
  ⟨(some 9), .len false (.t 8), none⟩,
  ⟨(some 10), .cvt .u64 (.t 9), none⟩,
  ⟨(some 11), .call (.c (.fn (.func 10) [])) [(.t 7), (.t 10)], none⟩,
  ⟨(some 0), .mv (.t 11), none⟩])
 (.seq (.seq (.reg [⟨(some 12), .mv (.t 1), none⟩,
  ⟨(some 13), .len false (.t 12), none⟩,
  ⟨(some 14), .mv (.c (.int .i64 (0))), none⟩])
 (.block 0 (.loop (.seq (.reg [⟨(some 15), .bin .lss (.t 14) (.t 13), none⟩])
 (.seq (.cond (.t 15)
   .skip
   (.exit 0))
 (.seq (.block 1 (.seq (.reg [⟨(some 16), .mv (.t 14), none⟩,
  ⟨(some 17), .idxS 1 (.t 12) (.t 14), none⟩,
  ⟨(some 18), .ld false 1 (.t 17), none⟩,
  ⟨(some 5), .mv (.t 16), none⟩,
  ⟨(some 6), .mv (.t 18), none⟩])
 (.seq (.seq (.reg [⟨(some 19), .mv (.t 5), none⟩,
  ⟨(some 20), .bin .gtr (.t 19) (.c (.int .i64 (0))), none⟩])
 (.cond (.t 20)
   (.reg [⟨(some 21), .mv (.t 6), none⟩,
    ⟨(some 22), .mv (.t 1), none⟩,
    ⟨(some 23), .mv (.t 5), none⟩,
    ⟨(some 24), .bin .sub (.t 23) (.c (.int .i64 (1))), none⟩,
    ⟨(some 25), .idxS 1 (.t 22) (.t 24), none⟩,
    ⟨(some 26), .ld false 1 (.t 25), none⟩,
    ⟨(some 27), .bin .add (.t 26) (.c (.int .i64 (1))), none⟩,
    ⟨(some 28), .bin .sub (.t 21) (.t 27), none⟩,
    ⟨(some 6), .mv (.t 28), none⟩])
   .skip))
 (.reg [⟨(some 29), .mv (.t 0), none⟩,
  ⟨(some 30), .mv (.t 6), none⟩,
  ⟨(some 31), .cvt .u64 (.t 30), none⟩,
  ⟨(some 32), .call (.c (.fn (.func 10) [])) [(.t 29), (.t 31)], none⟩,
  ⟨(some 0), .mv (.t 32), none⟩]))))
 (.reg [⟨(some 33), .bin .add (.t 14) (.c (.int .i64 (1))), none⟩,
  ⟨(some 14), .mv (.t 33), none⟩])))))))
 (.seq (.reg [⟨(some 34), .mv (.t 0), none⟩,
  ⟨(some 4), .mv (.t 34), none⟩])
 .ret))))
theorem f_records_appendList : aFun Try.prog 29 = some (35, [.tmp 4], c_records_appendList) := by kernel_rfl
/-- records.newReader -/
def c_records_newReader : ACode := (.seq (.reg [⟨(some 2), .mv (.c .nilp), none⟩])
 (.seq (.reg [⟨(some 3), .mv (.t 0), none⟩,
  ⟨(some 4), .call (.c (.fn (.func 19) [])) [(.t 3)], none⟩,
  ⟨(some 5), .mv (.t 0), none⟩,
  ⟨(some 6), .len false (.t 5), none⟩,
  ⟨(some 7), .bld [.nilp, (.int .i64 (0))] [(0, 1, (.t 4)), (1, 1, (.t 6))], none⟩,
  ⟨(some 8), .box 2 (.t 7), none⟩,
  ⟨(some 2), .mv (.t 8), none⟩])
 .ret))
theorem f_records_newReader : aFun Try.prog 42 = some (9, [.tmp 2], c_records_newReader) := by kernel_rfl
/-- (*records.reader).number -/
def c_records_reader_number : ACode := (.seq (.reg [⟨(some 2), .mv (.c (.int .u64 (0))), none⟩])
 (.seq (.reg [⟨(some 3), .mv (.t 0), none⟩,
  ⟨(some 4), .nilc (.t 3), none⟩,
  ⟨(some 5), .fldA 0 (.t 4), none⟩,
  ⟨(some 6), .ld false 1 (.t 5), none⟩,
  ⟨(some 7), .call (.c (.fn (.func 30) [])) [(.t 6), (.c (.int .u64 (18446744073709551615)))], none⟩,
  ⟨(some 2), .mv (.t 7), none⟩])
 .ret))
theorem f_records_reader_number : aFun Try.prog 43 = some (8, [.tmp 2], c_records_reader_number) := by kernel_rfl
/-- (*records.reader).list -/
def c_records_reader_list : ACode := (.seq (.reg [⟨(some 2), .mv (.c (.sl 0 true [])), none⟩])
 (.seq (.reg [⟨(some 3), .mv (.c (.sl 0 true [])), none⟩])
 (.seq (.reg [⟨(some 7), .mv (.t 0), none⟩,
  ⟨(some 8), .nilc (.t 7), none⟩,
  ⟨(some 9), .fldA 0 (.t 8), none⟩,
  ⟨(some 10), .ld false 1 (.t 9), none⟩,
  ⟨(some 11), .call (.c (.fn (.func 30) [])) [(.t 10), (.c (.int .u64 (1024)))], none⟩,
  ⟨(some 12), .cvt .i64 (.t 11), none⟩,
  ⟨(some 4), .mv (.t 12), none⟩])
 (.seq (.seq (.reg [⟨(some 5), .mv (.c (.int .i64 (0))), none⟩])
 (.block 0 (.loop (.seq (.seq (.reg [⟨(some 13), .mv (.t 5), none⟩,
  ⟨(some 14), .mv (.t 4), none⟩,
  ⟨(some 15), .bin .lss (.t 13) (.t 14), none⟩,
  ⟨(some 16), .mv (.t 15), none⟩,
  ⟨(some 17), .mv (.t 0), (some (16, true))⟩,
  ⟨(some 18), .nilc (.t 17), (some (16, true))⟩,
  ⟨(some 19), .fldA 0 (.t 18), (some (16, true))⟩,
  ⟨(some 20), .ld false 1 (.t 19), (some (16, true))⟩,
  ⟨(some 21), .call (.c (.fn (.func 31) [])) [(.t 20)], (some (16, true))⟩,
  ⟨(some 22), .bin .eql (.t 21) (.c (.int .i64 (0))), (some (16, true))⟩,
  ⟨(some 23), .pick (.t 16) (.t 22) (.c (.bool false)), none⟩])
 (.cond (.t 23)
   .skip
   (.exit 0)))
 (.seq (.block 1 (.seq (.reg [⟨(some 26), .mv (.t 0), none⟩,
  ⟨(some 27), .nilc (.t 26), none⟩,
  ⟨(some 28), .fldA 0 (.t 27), none⟩,
  ⟨(some 29), .ld false 1 (.t 28), none⟩,
  ⟨(some 30), .call (.c (.fn (.func 30) [])) [(.t 29), (.c (.int .u64 (1024)))], none⟩,
  ⟨(some 31), .cvt .i64 (.t 30), none⟩,
  ⟨(some 6), .mv (.t 31), none⟩])
 (.seq (.seq (.reg [⟨(some 32), .mv (.t 5), none⟩,
  ⟨(some 33), .bin .gtr (.t 32) (.c (.int .i64 (0))), none⟩])
 (.cond (.t 33)
   (.reg [⟨(some 34), .mv (.t 6), none⟩,
    ⟨(some 35), .mv (.t 3), none⟩,
    ⟨(some 36), .mv (.t 5), none⟩,
    ⟨(some 37), .bin .sub (.t 36) (.c (.int .i64 (1))), none⟩,
    ⟨(some 38), .idxS 1 (.t 35) (.t 37), none⟩,
    ⟨(some 39), .ld false 1 (.t 38), none⟩,
    ⟨(some 40), .bin .add (.t 39) (.c (.int .i64 (1))), none⟩,
    ⟨(some 41), .bin .add (.t 34) (.t 40), none⟩,
    ⟨(some 6), .mv (.t 41), none⟩])
   .skip))
 (.reg [⟨(some 42), .mv (.t 3), none⟩,
  ⟨(some 43), .mv (.t 6), none⟩,
  ⟨(some 44), .bldS 1 1 [(.int .i64 (0))] [(0, (.t 43))], none⟩,
  ⟨(some 45), .app 1 8 (.t 42) (.t 44), none⟩,
  ⟨(some 3), .mv (.t 45), none⟩]))))
 (.reg [⟨(some 24), .mv (.t 5), none⟩,
  ⟨(some 25), .bin .add (.t 24) (.c (.int .i64 (1))), none⟩,
  ⟨(some 5), .mv (.t 25), none⟩]))))))
 (.seq (.reg [⟨(some 46), .mv (.t 3), none⟩,
  ⟨(some 2), .mv (.t 46), none⟩])
 .ret)))))
theorem f_records_reader_list : aFun Try.prog 49 = some (47, [.tmp 2], c_records_reader_list) := by kernel_rfl
/-- (*records.reader).end -/
def c_records_reader_end : ACode := (.seq (.reg [⟨(some 4), .mv (.c (.int .i64 (0))), none⟩,
  ⟨(some 5), .mv (.c (.int .i64 (0))), none⟩])
 (.seq (.seq (.reg [⟨(some 9), .mv (.t 0), none⟩,
  ⟨(some 10), .nilc (.t 9), none⟩,
  ⟨(some 11), .fldA 0 (.t 10), none⟩,
  ⟨(some 12), .ld false 1 (.t 11), none⟩,
  ⟨(some 13), .call (.c (.fn (.func 31) [])) [(.t 12)], none⟩,
  ⟨(some 6), .mv (.t 13), none⟩])
 (.seq (.reg [⟨(some 14), .mv (.t 6), none⟩,
  ⟨(some 15), .bin .neq (.t 14) (.c (.int .i64 (0))), none⟩])
 (.cond (.t 15)
   (.seq (.reg [⟨(some 16), .mv (.t 6), none⟩,
    ⟨(some 4), .mv (.c (.int .i64 (0))), none⟩,
    ⟨(some 5), .mv (.t 16), none⟩])
   .ret)
   .skip)))
 (.seq (.seq (.reg [⟨(some 17), .mv (.t 1), none⟩,
  ⟨(some 18), .len false (.t 17), none⟩,
  ⟨(some 19), .mv (.c (.int .i64 (0))), none⟩])
 (.block 0 (.loop (.seq (.reg [⟨(some 20), .bin .lss (.t 19) (.t 18), none⟩])
 (.seq (.cond (.t 20)
   .skip
   (.exit 0))
 (.seq (.block 1 (.seq (.reg [⟨(some 21), .idxS 1 (.t 17) (.t 19), none⟩,
  ⟨(some 22), .ld false 1 (.t 21), none⟩,
  ⟨(some 8), .mv (.t 22), none⟩])
 (.seq (.reg [⟨(some 23), .mv (.t 8), none⟩,
  ⟨(some 24), .call (.c (.fn (.func 28) [])) [(.t 23), (.c (.int .i64 (1024)))], none⟩,
  ⟨(some 25), .bin .neq (.t 24) (.c (.int .i64 (0))), none⟩])
 (.cond (.t 25)
   (.seq (.reg [⟨(some 4), .mv (.c (.int .i64 (0))), none⟩,
    ⟨(some 5), .mv (.c (.int .i64 (2))), none⟩])
   .ret)
   .skip))))
 (.reg [⟨(some 26), .bin .add (.t 19) (.c (.int .i64 (1))), none⟩,
  ⟨(some 19), .mv (.t 26), none⟩])))))))
 (.seq (.dreg [(⟨(some 27), .mv (.t 0), none⟩, 0),
  (⟨(some 28), .nilc (.t 27), none⟩, 1),
  (⟨(some 29), .fldA 1 (.t 28), none⟩, 3),
  (⟨(some 30), .ld false 1 (.t 29), none⟩, 7),
  (⟨(some 31), .mv (.t 0), none⟩, 0),
  (⟨(some 32), .nilc (.t 31), none⟩, 16),
  (⟨(some 33), .fldA 0 (.t 32), none⟩, 48),
  (⟨(some 34), .ld false 1 (.t 33), none⟩, 112),
  (⟨(some 35), .call (.c (.fn (.func 20) [])) [(.t 34)], none⟩, 240),
  (⟨(some 36), .bin .sub (.t 30) (.t 35), none⟩, 511),
  (⟨(some 4), .mv (.t 36), none⟩, 1023),
  (⟨(some 5), .mv (.c (.int .i64 (0))), none⟩, 2047)])
 .ret))))
theorem f_records_reader_end : aFun Try.prog 48 = some (37, [.tmp 4, .tmp 5], c_records_reader_end) := by kernel_rfl
/-- (*records.reader).claim -/
def c_records_reader_claim : ACode := (.seq (.reg [⟨(some 2), .new (clmC clm0), none⟩])
 (.seq (.reg [⟨(some 4), .mv (.t 0), none⟩,
  ⟨(some 5), .call (.c (.fn (.func 43) [])) [(.t 4)], none⟩,
  ⟨(some 6), .mv (.t 0), none⟩,
  ⟨(some 7), .call (.c (.fn (.func 43) [])) [(.t 6)], none⟩,
  ⟨(some 8), .bld (clmC clm0) [(0, 1, (.t 5)), (1, 1, (.t 7))], none⟩,
  ⟨(some 3), .new (clmC clm0), none⟩,
  ⟨none, .sto 35 (.t 3) (.t 8), none⟩])
 (.seq (.reg [⟨(some 9), .mv (.t 0), none⟩,
  ⟨(some 10), .nilc (.t 9), none⟩,
  ⟨(some 11), .fldA 0 (.t 10), none⟩,
  ⟨(some 12), .ld false 1 (.t 11), none⟩,
  ⟨(some 13), .call (.c (.fn (.func 44) [])) [(.t 12)], none⟩,
  ⟨(some 14), .fldA 2 (.t 3), none⟩,
  ⟨none, .sto 32 (.t 14) (.t 13), none⟩])
 (.seq (.reg [⟨(some 15), .mv (.t 0), none⟩,
  ⟨(some 16), .call (.c (.fn (.func 49) [])) [(.t 15)], none⟩,
  ⟨(some 17), .fldA 34 (.t 3), none⟩,
  ⟨none, .sto 1 (.t 17) (.t 16), none⟩])
 (.seq (.reg [⟨(some 18), .ld true 35 (.t 3), none⟩,
  ⟨none, .sto 35 (.t 2) (.t 18), none⟩])
 .ret)))))
theorem f_records_reader_claim : aFun Try.prog 50 = some (19, [.cell 2 true 35], c_records_reader_claim) := by kernel_rfl
end Go.Proofs.Ytachiahepppajab
