/-
  Abstract forms of bodies, each with its fact. Printed by a program of mine.
-/
import Derived.Test.YtnhdmamfkdpmdaaBn
import Derived.Test.YtnhdmamfkdpmdaaChecked
import Derived.KernelRfl
namespace Go.Proofs.Ytnhdmamfkdpmdaa
open Go Go.FH

/-- codec.Checksum -/
def c_codec_Checksum : ACode := (.seq (.reg [⟨(some 2), .mv (.c (.int .u64 (0))), none⟩])
 (.seq (.reg [⟨(some 3), .mv (.c (.int .u64 (1))), none⟩,
  ⟨(some 4), .mv (.c (.int .u64 (0))), none⟩])
 (.seq (.seq (.reg [⟨(some 7), .mv (.t 0), none⟩,
  ⟨(some 8), .len false (.t 7), none⟩,
  ⟨(some 9), .mv (.c (.int .i64 (0))), none⟩])
 (.block 0 (.loop (.seq (.reg [⟨(some 10), .bin .lss (.t 9) (.t 8), none⟩])
 (.seq (.cond (.t 10)
   .skip
   (.exit 0))
 (.seq (.block 1 (.seq (.reg [⟨(some 11), .idxS 1 (.t 7) (.t 9), none⟩,
  ⟨(some 12), .ld false 1 (.t 11), none⟩,
  ⟨(some 6), .mv (.t 12), none⟩])
 (.seq (.reg [⟨(some 13), .mv (.t 3), none⟩,
  ⟨(some 14), .mv (.t 6), none⟩,
  ⟨(some 15), .cvt .u64 (.t 14), none⟩,
  ⟨(some 16), .bin .add (.t 13) (.t 15), none⟩,
  ⟨(some 17), .bin .add (.t 16) (.c (.int .u64 (1))), none⟩,
  ⟨(some 18), .bin .rem (.t 17) (.c (.int .u64 (4294967295))), none⟩,
  ⟨(some 3), .mv (.t 18), none⟩])
 (.reg [⟨(some 19), .mv (.t 4), none⟩,
  ⟨(some 20), .mv (.t 3), none⟩,
  ⟨(some 21), .bin .add (.t 19) (.t 20), none⟩,
  ⟨(some 22), .bin .rem (.t 21) (.c (.int .u64 (4294967295))), none⟩,
  ⟨(some 4), .mv (.t 22), none⟩]))))
 (.reg [⟨(some 23), .bin .add (.t 9) (.c (.int .i64 (1))), none⟩,
  ⟨(some 9), .mv (.t 23), none⟩])))))))
 (.seq (.reg [⟨(some 24), .mv (.t 4), none⟩,
  ⟨(some 25), .bin .shl (.t 24) (.c (.int .u64 (32))), none⟩,
  ⟨(some 26), .mv (.t 3), none⟩,
  ⟨(some 27), .bin .add (.t 25) (.t 26), none⟩,
  ⟨(some 2), .mv (.t 27), none⟩])
 .ret))))
theorem f_codec_Checksum : aFun Try.prog 18 = some (28, [.tmp 2], c_codec_Checksum) := by kernel_rfl
/-- ref4.Checksum -/
def c_ref4_Checksum : ACode := (.seq (.reg [⟨(some 2), .mv (.c (.int .u64 (0))), none⟩])
 (.seq (.reg [⟨(some 3), .mv (.c (.int .u64 (1))), none⟩,
  ⟨(some 4), .mv (.c (.int .u64 (0))), none⟩])
 (.seq (.seq (.reg [⟨(some 5), .mv (.c (.int .i64 (0))), none⟩])
 (.block 0 (.loop (.seq (.seq (.reg [⟨(some 6), .mv (.t 5), none⟩,
  ⟨(some 7), .mv (.t 0), none⟩,
  ⟨(some 8), .len false (.t 7), none⟩,
  ⟨(some 9), .bin .lss (.t 6) (.t 8), none⟩])
 (.cond (.t 9)
   .skip
   (.exit 0)))
 (.seq (.block 1 (.seq (.reg [⟨(some 12), .mv (.t 3), none⟩,
  ⟨(some 13), .mv (.t 0), none⟩,
  ⟨(some 14), .mv (.t 5), none⟩,
  ⟨(some 15), .idxS 1 (.t 13) (.t 14), none⟩,
  ⟨(some 16), .ld false 1 (.t 15), none⟩,
  ⟨(some 17), .cvt .u64 (.t 16), none⟩,
  ⟨(some 18), .bin .add (.t 12) (.t 17), none⟩,
  ⟨(some 19), .bin .add (.t 18) (.c (.int .u64 (1))), none⟩,
  ⟨(some 20), .bin .rem (.t 19) (.c (.int .u64 (4294967295))), none⟩,
  ⟨(some 3), .mv (.t 20), none⟩])
 (.reg [⟨(some 21), .mv (.t 4), none⟩,
  ⟨(some 22), .mv (.t 3), none⟩,
  ⟨(some 23), .bin .add (.t 21) (.t 22), none⟩,
  ⟨(some 24), .bin .rem (.t 23) (.c (.int .u64 (4294967295))), none⟩,
  ⟨(some 4), .mv (.t 24), none⟩])))
 (.reg [⟨(some 10), .mv (.t 5), none⟩,
  ⟨(some 11), .bin .add (.t 10) (.c (.int .i64 (1))), none⟩,
  ⟨(some 5), .mv (.t 11), none⟩]))))))
 (.seq (.reg [⟨(some 25), .mv (.t 4), none⟩,
  ⟨(some 26), .bin .shl (.t 25) (.c (.int .u64 (32))), none⟩,
  ⟨(some 27), .mv (.t 3), none⟩,
  ⟨(some 28), .bin .add (.t 26) (.t 27), none⟩,
  ⟨(some 2), .mv (.t 28), none⟩])
 .ret))))
theorem f_ref4_Checksum : aFun Try.prog 19 = some (29, [.tmp 2], c_ref4_Checksum) := by kernel_rfl
/-- slices.Clip[[]byte,byte] -/
def c_slices_Clip_byte_byte : ACode := (.seq (.reg [⟨(some 2), .mv (.c (.sl 0 true [])), none⟩])
 (.seq (.reg [⟨(some 3), .mv (.t 0), none⟩,
  ⟨(some 4), .mv (.t 0), none⟩,
  ⟨(some 5), .len false (.t 4), none⟩,
  ⟨(some 6), .mv (.t 0), none⟩,
  ⟨(some 7), .len false (.t 6), none⟩,
  ⟨(some 8), .sli 1 (.t 3) none (some (.t 5)) (some (.t 7)), none⟩,
  ⟨(some 2), .mv (.t 8), none⟩])
 .ret))
theorem f_slices_Clip_byte_byte : aFun Try.prog 81 = some (9, [.tmp 2], c_slices_Clip_byte_byte) := by kernel_rfl
/-- raw.Uint -/
def c_raw_Uint : ACode := (.seq (.reg [⟨(some 4), .mv (.c (.sl 0 true [])), none⟩])
 (.seq (.block 0 (.loop (.seq (.seq (.reg [⟨(some 5), .mv (.t 1), none⟩,
  ⟨(some 6), .bin .geq (.t 5) (.c (.int .u64 (128))), none⟩])
 (.cond (.t 6)
   .skip
   (.exit 0)))
 (.block 1 (.seq (.reg [⟨(some 7), .mv (.t 0), none⟩,
  ⟨(some 8), .mv (.t 1), none⟩,
  ⟨(some 9), .cvt .u8 (.t 8), none⟩,
  ⟨(some 10), .bin .or (.t 9) (.c (.int .u8 (128))), none⟩,
  ⟨(some 11), .bldS 1 1 [(.int .u8 (0))] [(0, (.t 10))], none⟩,
  ⟨(some 12), .app 1 1 (.t 7) (.t 11), none⟩,
  ⟨(some 0), .mv (.t 12), none⟩])
 (.reg [⟨(some 13), .mv (.t 1), none⟩,
  ⟨(some 14), .bin .shr (.t 13) (.c (.int .u64 (7))), none⟩,
  ⟨(some 1), .mv (.t 14), none⟩]))))))
 (.seq (.reg [⟨(some 15), .mv (.t 0), none⟩,
  ⟨(some 16), .mv (.t 1), none⟩,
  ⟨(some 17), .cvt .u8 (.t 16), none⟩,
  ⟨(some 18), .bldS 1 1 [(.int .u8 (0))] [(0, (.t 17))], none⟩,
  ⟨(some 19), .app 1 1 (.t 15) (.t 18), none⟩,
  ⟨(some 4), .mv (.t 19), none⟩])
 .ret)))
theorem f_raw_Uint : aFun Try.prog 80 = some (20, [.tmp 4], c_raw_Uint) := by kernel_rfl
/-- codec.AppendUint -/
def c_codec_AppendUint : ACode := (.seq (.reg [⟨(some 4), .mv (.c (.sl 0 true [])), none⟩])
 (.seq (.reg [⟨(some 5), .mv (.t 0), none⟩,
  ⟨(some 6), .call (.c (.fn (.func 81) [])) [(.t 5)], none⟩,
  ⟨(some 7), .mv (.t 1), none⟩,
  ⟨(some 8), .call (.c (.fn (.func 80) [])) [(.t 6), (.t 7)], none⟩,
  ⟨(some 4), .mv (.t 8), none⟩])
 .ret))
theorem f_codec_AppendUint : aFun Try.prog 20 = some (9, [.tmp 4], c_codec_AppendUint) := by kernel_rfl
/-- slices.Clone[[]byte,byte] -/
def c_slices_Clone_byte_byte : ACode := (.seq (.reg [⟨(some 2), .mv (.c (.sl 0 true [])), none⟩])
 (.seq (.seq (.reg [⟨(some 3), .mv (.t 0), none⟩,
  ⟨(some 4), .isn false (.t 3), none⟩])
 (.cond (.t 4)
   (.seq (.reg [⟨(some 2), .mv (.c (.sl 0 true [])), none⟩])
   .ret)
   .skip))
 (.seq (.reg [⟨(some 5), .bldS 1 0 [(.int .u8 (0))] [], none⟩,
  ⟨(some 6), .mv (.t 0), none⟩,
  ⟨(some 7), .app 1 1 (.t 5) (.t 6), none⟩,
  ⟨(some 2), .mv (.t 7), none⟩])
 .ret)))
theorem f_slices_Clone_byte_byte : aFun Try.prog 96 = some (8, [.tmp 2], c_slices_Clone_byte_byte) := by kernel_rfl
/-- raw.New -/
def c_raw_New : ACode := (.seq (.reg [⟨(some 2), .mv (.c .nilp), none⟩])
 (.seq (.reg [⟨(some 3), .mv (.t 0), none⟩,
  ⟨(some 4), .bld [(.sl 0 true []), (.int .i64 (0))] [(0, 1, (.t 3))], none⟩,
  ⟨(some 5), .box 2 (.t 4), none⟩,
  ⟨(some 2), .mv (.t 5), none⟩])
 .ret))
theorem f_raw_New : aFun Try.prog 95 = some (6, [.tmp 2], c_raw_New) := by kernel_rfl
/-- codec.NewReader -/
def c_codec_NewReader : ACode := (.seq (.reg [⟨(some 2), .mv (.c .nilp), none⟩])
 (.seq (.reg [⟨(some 3), .mv (.t 0), none⟩,
  ⟨(some 4), .call (.c (.fn (.func 96) [])) [(.t 3)], none⟩,
  ⟨(some 5), .call (.c (.fn (.func 95) [])) [(.t 4)], none⟩,
  ⟨(some 6), .bld [.nilp] [(0, 1, (.t 5))], none⟩,
  ⟨(some 7), .box 1 (.t 6), none⟩,
  ⟨(some 2), .mv (.t 7), none⟩])
 .ret))
theorem f_codec_NewReader : aFun Try.prog 40 = some (8, [.tmp 2], c_codec_NewReader) := by kernel_rfl
/-- (*raw.Reader).Uint -/
def c_raw_Reader_Uint : ACode := (.seq (.reg [⟨(some 4), .mv (.c (.int .u64 (0))), none⟩])
 (.seq (.seq (.reg [⟨(some 8), .mv (.t 0), none⟩,
  ⟨(some 9), .nilc (.t 8), none⟩,
  ⟨(some 10), .fldA 1 (.t 9), none⟩,
  ⟨(some 11), .ld false 1 (.t 10), none⟩,
  ⟨(some 12), .bin .neq (.t 11) (.c (.int .i64 (0))), none⟩])
 (.cond (.t 12)
   (.seq (.reg [⟨(some 4), .mv (.c (.int .u64 (0))), none⟩])
   .ret)
   .skip))
 (.seq (.reg [⟨(some 14), .mv (.t 0), none⟩,
  ⟨(some 15), .call (.c (.fn (.func 98) [])) [(.t 14)], none⟩,
  ⟨(some 13), .mv (.t 15), none⟩,
  ⟨(some 16), .ext 0 (.t 13), none⟩,
  ⟨(some 17), .ext 1 (.t 13), none⟩,
  ⟨(some 18), .ext 2 (.t 13), none⟩,
  ⟨(some 5), .mv (.t 16), none⟩,
  ⟨(some 6), .mv (.t 17), none⟩,
  ⟨(some 7), .mv (.t 18), none⟩])
 (.seq (.seq (.reg [⟨(some 19), .mv (.t 7), none⟩,
  ⟨(some 20), .bin .eql (.t 19) (.c (.int .i64 (0))), none⟩,
  ⟨(some 21), .mv (.t 20), none⟩,
  ⟨(some 22), .mv (.t 5), (some (21, true))⟩,
  ⟨(some 23), .mv (.t 1), (some (21, true))⟩,
  ⟨(some 24), .bin .gtr (.t 22) (.t 23), (some (21, true))⟩,
  ⟨(some 25), .pick (.t 21) (.t 24) (.c (.bool false)), none⟩])
 (.cond (.t 25)
   (.reg [⟨(some 7), .mv (.c (.int .i64 (3))), none⟩])
   .skip))
 (.seq (.seq (.reg [⟨(some 26), .mv (.t 7), none⟩,
  ⟨(some 27), .bin .neq (.t 26) (.c (.int .i64 (0))), none⟩])
 (.cond (.t 27)
   (.seq (.reg [⟨(some 28), .mv (.t 0), none⟩,
    ⟨(some 29), .mv (.t 7), none⟩,
    ⟨(some 30), .call (.c (.fn (.func 97) [])) [(.t 28), (.t 29)], none⟩])
   (.seq (.reg [⟨(some 4), .mv (.c (.int .u64 (0))), none⟩])
   .ret))
   .skip))
 (.seq (.reg [⟨(some 31), .mv (.t 0), none⟩,
  ⟨(some 32), .mv (.t 0), none⟩,
  ⟨(some 33), .nilc (.t 32), none⟩,
  ⟨(some 34), .fldA 0 (.t 33), none⟩,
  ⟨(some 35), .ld false 1 (.t 34), none⟩,
  ⟨(some 36), .mv (.t 6), none⟩,
  ⟨(some 37), .sli 1 (.t 35) (some (.t 36)) none none, none⟩,
  ⟨(some 38), .nilc (.t 31), none⟩,
  ⟨(some 39), .fldA 0 (.t 38), none⟩,
  ⟨none, .sto 1 (.t 39) (.t 37), none⟩])
 (.seq (.reg [⟨(some 40), .mv (.t 5), none⟩,
  ⟨(some 4), .mv (.t 40), none⟩])
 .ret)))))))
theorem f_raw_Reader_Uint : aFun Try.prog 44 = some (41, [.tmp 4], c_raw_Reader_Uint) := by kernel_rfl
/-- (*raw.Reader).number -/
def c_raw_Reader_number : ACode := (.seq (.reg [⟨(some 2), .mv (.c (.int .u64 (0))), none⟩,
  ⟨(some 3), .mv (.c (.int .i64 (0))), none⟩,
  ⟨(some 4), .mv (.c (.int .i64 (0))), none⟩])
 (.seq (.reg [⟨(some 5), .mv (.c (.int .u64 (0))), none⟩])
 (.seq (.seq (.dreg [(⟨(some 8), .mv (.t 0), none⟩, 0),
  (⟨(some 9), .nilc (.t 8), none⟩, 1),
  (⟨(some 10), .fldA 0 (.t 9), none⟩, 3),
  (⟨(some 11), .ld false 1 (.t 10), none⟩, 7),
  (⟨(some 12), .mv (.t 0), none⟩, 0),
  (⟨(some 13), .nilc (.t 12), none⟩, 16),
  (⟨(some 14), .fldA 0 (.t 13), none⟩, 48),
  (⟨(some 15), .ld false 1 (.t 14), none⟩, 112),
  (⟨(some 16), .len false (.t 15), none⟩, 240),
  (⟨(some 17), .mn [(.t 16), (.c (.int .i64 (10)))], none⟩, 496),
  (⟨(some 18), .sli 1 (.t 11) none (some (.t 17)) none, none⟩, 1023),
  (⟨(some 19), .len false (.t 18), none⟩, 2047),
  (⟨(some 20), .mv (.c (.int .i64 (0))), none⟩, 0)])
 (.block 0 (.loop (.seq (.reg [⟨(some 21), .bin .lss (.t 20) (.t 19), none⟩])
 (.seq (.cond (.t 21)
   .skip
   (.exit 0))
 (.seq (.block 1 (.seq (.reg [⟨(some 22), .mv (.t 20), none⟩,
  ⟨(some 23), .idxS 1 (.t 18) (.t 20), none⟩,
  ⟨(some 24), .ld false 1 (.t 23), none⟩,
  ⟨(some 6), .mv (.t 22), none⟩,
  ⟨(some 7), .mv (.t 24), none⟩])
 (.seq (.seq (.reg [⟨(some 25), .mv (.t 6), none⟩,
  ⟨(some 26), .bin .eql (.t 25) (.c (.int .i64 (9))), none⟩,
  ⟨(some 27), .mv (.t 26), none⟩,
  ⟨(some 28), .mv (.t 7), (some (27, true))⟩,
  ⟨(some 29), .bin .gtr (.t 28) (.c (.int .u8 (1))), (some (27, true))⟩,
  ⟨(some 30), .pick (.t 27) (.t 29) (.c (.bool false)), none⟩])
 (.cond (.t 30)
   (.seq (.reg [⟨(some 2), .mv (.c (.int .u64 (0))), none⟩,
    ⟨(some 3), .mv (.c (.int .i64 (0))), none⟩,
    ⟨(some 4), .mv (.c (.int .i64 (2))), none⟩])
   .ret)
   .skip))
 (.seq (.reg [⟨(some 31), .mv (.t 5), none⟩,
  ⟨(some 32), .mv (.t 7), none⟩,
  ⟨(some 33), .bin .and (.t 32) (.c (.int .u8 (127))), none⟩,
  ⟨(some 34), .cvt .u64 (.t 33), none⟩,
  ⟨(some 35), .mv (.t 6), none⟩,
  ⟨(some 36), .bin .mul (.c (.int .i64 (7))) (.t 35), none⟩,
  ⟨(some 37), .bin .shl (.t 34) (.t 36), none⟩,
  ⟨(some 38), .bin .or (.t 31) (.t 37), none⟩,
  ⟨(some 5), .mv (.t 38), none⟩])
 (.seq (.reg [⟨(some 39), .mv (.t 7), none⟩,
  ⟨(some 40), .bin .lss (.t 39) (.c (.int .u8 (128))), none⟩])
 (.cond (.t 40)
   (.seq (.seq (.reg [⟨(some 41), .mv (.t 7), none⟩,
    ⟨(some 42), .bin .eql (.t 41) (.c (.int .u8 (0))), none⟩,
    ⟨(some 43), .mv (.t 42), none⟩,
    ⟨(some 44), .mv (.t 6), (some (43, true))⟩,
    ⟨(some 45), .bin .gtr (.t 44) (.c (.int .i64 (0))), (some (43, true))⟩,
    ⟨(some 46), .pick (.t 43) (.t 45) (.c (.bool false)), none⟩])
   (.cond (.t 46)
     (.seq (.reg [⟨(some 2), .mv (.c (.int .u64 (0))), none⟩,
      ⟨(some 3), .mv (.c (.int .i64 (0))), none⟩,
      ⟨(some 4), .mv (.c (.int .i64 (2))), none⟩])
     .ret)
     .skip))
   (.seq (.reg [⟨(some 47), .mv (.t 5), none⟩,
    ⟨(some 48), .mv (.t 6), none⟩,
    ⟨(some 49), .bin .add (.t 48) (.c (.int .i64 (1))), none⟩,
    ⟨(some 2), .mv (.t 47), none⟩,
    ⟨(some 3), .mv (.t 49), none⟩,
    ⟨(some 4), .mv (.c (.int .i64 (0))), none⟩])
   .ret))
   .skip))))))
 (.reg [⟨(some 50), .bin .add (.t 20) (.c (.int .i64 (1))), none⟩,
  ⟨(some 20), .mv (.t 50), none⟩])))))))
 (.seq (.reg [⟨(some 2), .mv (.c (.int .u64 (0))), none⟩,
  ⟨(some 3), .mv (.c (.int .i64 (0))), none⟩,
  ⟨(some 4), .mv (.c (.int .i64 (5))), none⟩])
 .ret))))
theorem f_raw_Reader_number : aFun Try.prog 98 = some (51, [.tmp 2, .tmp 3, .tmp 4], c_raw_Reader_number) := by kernel_rfl
/-- (*raw.Reader).fail -/
def c_raw_Reader_fail : ACode := (.reg [⟨(some 4), .mv (.t 0), none⟩,
  ⟨(some 5), .mv (.t 1), none⟩,
  ⟨(some 6), .nilc (.t 4), none⟩,
  ⟨(some 7), .fldA 1 (.t 6), none⟩,
  ⟨none, .sto 1 (.t 7) (.t 5), none⟩])
theorem f_raw_Reader_fail : aFun Try.prog 97 = some (8, [], c_raw_Reader_fail) := by kernel_rfl
/-- (*raw.Reader).Close -/
def c_raw_Reader_Close : ACode := (.seq (.reg [⟨(some 2), .mv (.c (.int .i64 (0))), none⟩])
 (.seq (.seq (.reg [⟨(some 3), .mv (.t 0), none⟩,
  ⟨(some 4), .nilc (.t 3), none⟩,
  ⟨(some 5), .fldA 1 (.t 4), none⟩,
  ⟨(some 6), .ld false 1 (.t 5), none⟩,
  ⟨(some 7), .bin .eql (.t 6) (.c (.int .i64 (0))), none⟩,
  ⟨(some 8), .mv (.t 7), none⟩,
  ⟨(some 9), .mv (.t 0), (some (8, true))⟩,
  ⟨(some 10), .nilc (.t 9), (some (8, true))⟩,
  ⟨(some 11), .fldA 0 (.t 10), (some (8, true))⟩,
  ⟨(some 12), .ld false 1 (.t 11), (some (8, true))⟩,
  ⟨(some 13), .len false (.t 12), (some (8, true))⟩,
  ⟨(some 14), .bin .gtr (.t 13) (.c (.int .i64 (0))), (some (8, true))⟩,
  ⟨(some 15), .pick (.t 8) (.t 14) (.c (.bool false)), none⟩])
 (.cond (.t 15)
   (.seq (.reg [⟨(some 2), .mv (.c (.int .i64 (2))), none⟩])
   .ret)
   .skip))
 (.seq (.reg [⟨(some 16), .mv (.t 0), none⟩,
  ⟨(some 17), .nilc (.t 16), none⟩,
  ⟨(some 18), .fldA 1 (.t 17), none⟩,
  ⟨(some 19), .ld false 1 (.t 18), none⟩,
  ⟨(some 2), .mv (.t 19), none⟩])
 .ret)))
theorem f_raw_Reader_Close : aFun Try.prog 49 = some (20, [.tmp 2], c_raw_Reader_Close) := by kernel_rfl
/-- law4.awake -/
def c_law4_awake : ACode := (.seq (.reg [⟨(some 0), .mv (.c (.bool false)), none⟩])
 (.seq (.reg [⟨(some 3), .call (.c (.fn (.func 20) [])) [(.c (.sl 0 true [])), (.c (.int .u64 (300)))], none⟩,
  ⟨(some 1), .mv (.t 3), none⟩])
 (.seq (.reg [⟨(some 4), .mv (.t 1), none⟩,
  ⟨(some 5), .call (.c (.fn (.func 40) [])) [(.t 4)], none⟩,
  ⟨(some 2), .mv (.t 5), none⟩])
 (.seq (.seq (.reg [⟨(some 6), .mv (.t 2), none⟩,
  ⟨(some 7), .eqv 2 false (.t 6) (.c .nilp), none⟩,
  ⟨(some 8), .mv (.t 7), none⟩,
  ⟨(some 9), .mv (.t 1), (some (8, false))⟩,
  ⟨(some 10), .b2s (.t 9), (some (8, false))⟩,
  ⟨(some 11), .bldS 1 2 [(.int .u8 (0))] [(0, (.c (.int .u8 (172)))), (1, (.c (.int .u8 (2))))], (some (8, false))⟩,
  ⟨(some 12), .b2s (.t 11), (some (8, false))⟩,
  ⟨(some 13), .eqv 1 true (.t 10) (.t 12), (some (8, false))⟩,
  ⟨(some 14), .pick (.t 8) (.c (.bool true)) (.t 13), none⟩])
 (.cond (.t 14)
   (.seq (.reg [⟨(some 0), .mv (.c (.bool false)), none⟩])
   .ret)
   .skip))
 (.seq (.reg [⟨(some 15), .mv (.t 2), none⟩,
  ⟨(some 16), .nilc (.t 15), none⟩,
  ⟨(some 17), .fldA 0 (.t 16), none⟩,
  ⟨(some 18), .ld false 1 (.t 17), none⟩,
  ⟨(some 19), .call (.c (.fn (.func 44) [])) [(.t 18), (.c (.int .u64 (1000)))], none⟩,
  ⟨(some 20), .bin .eql (.t 19) (.c (.int .u64 (300))), none⟩,
  ⟨(some 21), .mv (.t 20), none⟩,
  ⟨(some 22), .mv (.t 2), (some (21, true))⟩,
  ⟨(some 23), .nilc (.t 22), (some (21, true))⟩,
  ⟨(some 24), .fldA 0 (.t 23), (some (21, true))⟩,
  ⟨(some 25), .ld false 1 (.t 24), (some (21, true))⟩,
  ⟨(some 26), .call (.c (.fn (.func 49) [])) [(.t 25)], (some (21, true))⟩,
  ⟨(some 27), .bin .eql (.t 26) (.c (.int .i64 (0))), (some (21, true))⟩,
  ⟨(some 28), .pick (.t 21) (.t 27) (.c (.bool false)), none⟩,
  ⟨(some 29), .mv (.t 28), none⟩,
  ⟨(some 30), .call (.c (.fn (.func 18) [])) [(.c (.sl 0 true []))], (some (29, true))⟩,
  ⟨(some 31), .bin .eql (.t 30) (.c (.int .u64 (1))), (some (29, true))⟩,
  ⟨(some 32), .pick (.t 29) (.t 31) (.c (.bool false)), none⟩,
  ⟨(some 0), .mv (.t 32), none⟩])
 .ret)))))
theorem f_law4_awake : aFun Try.prog 17 = some (33, [.tmp 0], c_law4_awake) := by kernel_rfl
/-- law4.CodecSums -/
def c_law4_CodecSums : ACode := (.seq (.reg [⟨(some 2), .mv (.c (.bool false)), none⟩])
 (.seq (.seq (.reg [⟨(some 3), .mv (.t 0), none⟩,
  ⟨(some 4), .len false (.t 3), none⟩,
  ⟨(some 5), .bin .gtr (.t 4) (.c (.int .i64 (3000))), none⟩])
 (.cond (.t 5)
   (.seq (.reg [⟨(some 6), .call (.c (.fn (.func 17) [])) [], none⟩,
    ⟨(some 2), .mv (.t 6), none⟩])
   .ret)
   .skip))
 (.seq (.reg [⟨(some 7), .mv (.t 0), none⟩,
  ⟨(some 8), .call (.c (.fn (.func 18) [])) [(.t 7)], none⟩,
  ⟨(some 9), .mv (.t 0), none⟩,
  ⟨(some 10), .call (.c (.fn (.func 19) [])) [(.t 9)], none⟩,
  ⟨(some 11), .bin .eql (.t 8) (.t 10), none⟩,
  ⟨(some 12), .mv (.t 11), none⟩,
  ⟨(some 13), .call (.c (.fn (.func 17) [])) [], (some (12, true))⟩,
  ⟨(some 14), .pick (.t 12) (.t 13) (.c (.bool false)), none⟩,
  ⟨(some 2), .mv (.t 14), none⟩])
 .ret)))
theorem f_law4_CodecSums : aFun Try.prog 3 = some (15, [.tmp 2], c_law4_CodecSums) := by kernel_rfl
end Go.Proofs.Ytnhdmamfkdpmdaa
