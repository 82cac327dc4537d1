/-
  Abstract forms of bodies, each with its fact. Printed by a program of mine.
-/
import Derived.Test.YtdkahoohedljhaaMc
import Derived.Test.YtdkahoohedljhaaChecked
import Derived.KernelRfl
namespace Go.Proofs.Ytdkahoohedljhaa
open Go Go.FH

/-- law31.DeviceNew -/
def c_law31_DeviceNew : ACode := (.seq (.reg [⟨(some 4), .mv (.c (.bool false)), none⟩])
 (.seq (.seq (.reg [⟨(some 9), .mv (.t 1), none⟩,
  ⟨(some 10), .len false (.t 9), none⟩,
  ⟨(some 11), .bin .gtr (.t 10) (.c (.int .i64 (2000))), none⟩,
  ⟨(some 12), .mv (.t 11), none⟩,
  ⟨(some 13), .mv (.t 0), (some (12, false))⟩,
  ⟨(some 14), .bin .gtr (.t 13) (.c (.int .i64 (200))), (some (12, false))⟩,
  ⟨(some 15), .mv (.t 14), (some (12, false))⟩,
  ⟨(some 16), .mv (.t 0), (some (15, true))⟩,
  ⟨(some 17), .bin .leq (.t 16) (.c (.int .i64 (32768))), (some (15, true))⟩,
  ⟨(some 18), .pick (.t 15) (.t 17) (.c (.bool false)), (some (12, false))⟩,
  ⟨(some 19), .pick (.t 12) (.c (.bool true)) (.t 18), none⟩])
 (.cond (.t 19)
   (.seq (.reg [⟨(some 20), .call (.c (.fn (.func 38) [])) [], none⟩,
    ⟨(some 4), .mv (.t 20), none⟩])
   .ret)
   .skip))
 (.seq (.reg [⟨(some 22), .mv (.t 0), none⟩,
  ⟨(some 23), .call (.c (.fn (.func 29) [])) [(.t 22)], none⟩,
  ⟨(some 21), .mv (.t 23), none⟩,
  ⟨(some 24), .ext 0 (.t 21), none⟩,
  ⟨(some 25), .ext 1 (.t 21), none⟩,
  ⟨(some 5), .mv (.t 24), none⟩,
  ⟨(some 6), .mv (.t 25), none⟩])
 (.seq (.seq (.reg [⟨(some 26), .mv (.t 0), none⟩,
  ⟨(some 27), .bin .lss (.t 26) (.c (.int .i64 (1))), none⟩,
  ⟨(some 28), .mv (.t 27), none⟩,
  ⟨(some 29), .mv (.t 0), (some (28, false))⟩,
  ⟨(some 30), .bin .gtr (.t 29) (.c (.int .i64 (32768))), (some (28, false))⟩,
  ⟨(some 31), .pick (.t 28) (.c (.bool true)) (.t 30), none⟩])
 (.cond (.t 31)
   (.seq (.reg [⟨(some 32), .mv (.t 6), none⟩,
    ⟨(some 33), .bin .neq (.t 32) (.c (.int .i64 (3))), none⟩,
    ⟨(some 34), .mv (.t 33), none⟩,
    ⟨(some 35), .mv (.t 5), (some (34, false))⟩,
    ⟨(some 36), .eqv 2 true (.t 35) (.c .nilp), (some (34, false))⟩,
    ⟨(some 37), .pick (.t 34) (.c (.bool true)) (.t 36), none⟩])
   (.cond (.t 37)
     (.seq (.reg [⟨(some 4), .mv (.c (.bool false)), none⟩])
     .ret)
     .skip))
   (.seq (.dreg [(⟨(some 38), .mv (.t 6), none⟩, 0),
    (⟨(some 39), .bin .neq (.t 38) (.c (.int .i64 (0))), none⟩, 1),
    (⟨(some 40), .mv (.t 39), none⟩, 3),
    (⟨(some 41), .mv (.t 5), (some (40, false))⟩, 7),
    (⟨(some 42), .eqv 2 false (.t 41) (.c .nilp), (some (40, false))⟩, 15),
    (⟨(some 43), .pick (.t 40) (.c (.bool true)) (.t 42), none⟩, 31),
    (⟨(some 44), .mv (.t 43), none⟩, 63),
    (⟨(some 45), .mv (.t 5), (some (44, false))⟩, 127),
    (⟨(some 46), .call (.c (.fn (.func 36) [])) [(.t 45)], (some (44, false))⟩, 255),
    (⟨(some 47), .b2s (.t 46), (some (44, false))⟩, 511),
    (⟨(some 48), .mv (.t 0), (some (44, false))⟩, 127),
    (⟨(some 49), .bin .mul (.t 48) (.c (.int .i64 (64))), (some (44, false))⟩, 1151),
    (⟨(some 50), .mk 1 1 [(.int .u8 (0))] (.t 49) (.t 49), (some (44, false))⟩, 3199),
    (⟨(some 51), .b2s (.t 50), (some (44, false))⟩, 7295),
    (⟨(some 52), .eqv 1 true (.t 47) (.t 51), (some (44, false))⟩, 16383),
    (⟨(some 53), .pick (.t 44) (.c (.bool true)) (.t 52), none⟩, 32767),
    (⟨(some 54), .mv (.t 53), none⟩, 65535),
    (⟨(some 55), .mv (.t 5), (some (54, false))⟩, 131071),
    (⟨(some 56), .call (.c (.fn (.func 37) [])) [(.t 55)], (some (54, false))⟩, 262143),
    (⟨(some 57), .mv (.t 0), (some (54, false))⟩, 131071),
    (⟨(some 58), .bin .neq (.t 56) (.t 57), (some (54, false))⟩, 1048575),
    (⟨(some 59), .pick (.t 54) (.c (.bool true)) (.t 58), none⟩, 2097151)])
   (.cond (.t 59)
     (.seq (.reg [⟨(some 4), .mv (.c (.bool false)), none⟩])
     .ret)
     .skip))))
 (.seq (.reg [⟨(some 61), .mv (.t 1), none⟩,
  ⟨(some 62), .call (.c (.fn (.func 39) [])) [(.t 61)], none⟩,
  ⟨(some 60), .mv (.t 62), none⟩,
  ⟨(some 63), .ext 0 (.t 60), none⟩,
  ⟨(some 64), .ext 1 (.t 60), none⟩,
  ⟨(some 7), .mv (.t 63), none⟩,
  ⟨(some 8), .mv (.t 64), none⟩])
 (.seq (.seq (.reg [⟨(some 65), .mv (.t 1), none⟩,
  ⟨(some 66), .len false (.t 65), none⟩,
  ⟨(some 67), .bin .eql (.t 66) (.c (.int .i64 (0))), none⟩,
  ⟨(some 68), .mv (.t 67), none⟩,
  ⟨(some 69), .mv (.t 1), (some (68, false))⟩,
  ⟨(some 70), .len false (.t 69), (some (68, false))⟩,
  ⟨(some 71), .bin .rem (.t 70) (.c (.int .i64 (64))), (some (68, false))⟩,
  ⟨(some 72), .bin .neq (.t 71) (.c (.int .i64 (0))), (some (68, false))⟩,
  ⟨(some 73), .pick (.t 68) (.c (.bool true)) (.t 72), none⟩])
 (.cond (.t 73)
   (.seq (.reg [⟨(some 74), .mv (.t 8), none⟩,
    ⟨(some 75), .bin .eql (.t 74) (.c (.int .i64 (2))), none⟩,
    ⟨(some 76), .mv (.t 75), none⟩,
    ⟨(some 77), .mv (.t 7), (some (76, true))⟩,
    ⟨(some 78), .eqv 2 false (.t 77) (.c .nilp), (some (76, true))⟩,
    ⟨(some 79), .pick (.t 76) (.t 78) (.c (.bool false)), none⟩,
    ⟨(some 80), .mv (.t 79), none⟩,
    ⟨(some 81), .call (.c (.fn (.func 38) [])) [], (some (80, true))⟩,
    ⟨(some 82), .pick (.t 80) (.t 81) (.c (.bool false)), none⟩,
    ⟨(some 4), .mv (.t 82), none⟩])
   .ret)
   .skip))
 (.seq (.dreg [(⟨(some 83), .mv (.t 8), none⟩, 0),
  (⟨(some 84), .bin .eql (.t 83) (.c (.int .i64 (0))), none⟩, 1),
  (⟨(some 85), .mv (.t 84), none⟩, 3),
  (⟨(some 86), .mv (.t 7), (some (85, true))⟩, 7),
  (⟨(some 87), .eqv 2 true (.t 86) (.c .nilp), (some (85, true))⟩, 15),
  (⟨(some 88), .pick (.t 85) (.t 87) (.c (.bool false)), none⟩, 31),
  (⟨(some 89), .mv (.t 88), none⟩, 63),
  (⟨(some 90), .mv (.t 7), (some (89, true))⟩, 127),
  (⟨(some 91), .call (.c (.fn (.func 36) [])) [(.t 90)], (some (89, true))⟩, 255),
  (⟨(some 92), .b2s (.t 91), (some (89, true))⟩, 511),
  (⟨(some 93), .mv (.t 1), (some (89, true))⟩, 127),
  (⟨(some 94), .b2s (.t 93), (some (89, true))⟩, 1151),
  (⟨(some 95), .eqv 1 false (.t 92) (.t 94), (some (89, true))⟩, 4095),
  (⟨(some 96), .pick (.t 89) (.t 95) (.c (.bool false)), none⟩, 8191),
  (⟨(some 97), .mv (.t 96), none⟩, 16383),
  (⟨(some 98), .mv (.t 7), (some (97, true))⟩, 32767),
  (⟨(some 99), .call (.c (.fn (.func 37) [])) [(.t 98)], (some (97, true))⟩, 65535),
  (⟨(some 100), .mv (.t 1), (some (97, true))⟩, 32767),
  (⟨(some 101), .len false (.t 100), (some (97, true))⟩, 163839),
  (⟨(some 102), .bin .quo (.t 101) (.c (.int .i64 (64))), (some (97, true))⟩, 425983),
  (⟨(some 103), .bin .eql (.t 99) (.t 102), (some (97, true))⟩, 1048575),
  (⟨(some 104), .pick (.t 97) (.t 103) (.c (.bool false)), none⟩, 2097151),
  (⟨(some 105), .mv (.t 104), none⟩, 4194303),
  (⟨(some 106), .mv (.t 7), (some (105, true))⟩, 8388607),
  (⟨(some 107), .call (.c (.fn (.func 35) [])) [(.t 106)], (some (105, true))⟩, 16777215),
  (⟨(some 108), .un .not (.t 107), (some (105, true))⟩, 33554431),
  (⟨(some 109), .pick (.t 105) (.t 108) (.c (.bool false)), none⟩, 67108863),
  (⟨(some 110), .mv (.t 109), none⟩, 134217727),
  (⟨(some 111), .call (.c (.fn (.func 38) [])) [], (some (110, true))⟩, 268435455),
  (⟨(some 112), .pick (.t 110) (.t 111) (.c (.bool false)), none⟩, 536870911),
  (⟨(some 4), .mv (.t 112), none⟩, 1073741823)])
 .ret)))))))
theorem f_law31_DeviceNew : aFun Try.prog 11 = some (113, [.tmp 4], c_law31_DeviceNew) := by kernel_rfl
/-- law31.DevicePlays -/
def c_law31_DevicePlays : ACode := (.seq (.reg [⟨(some 4), .mv (.c (.bool false)), none⟩])
 (.seq (.reg [⟨(some 23), .mv (.t 1), none⟩,
  ⟨(some 24), .bin .and (.t 23) (.c (.int .i64 (7))), none⟩,
  ⟨(some 25), .bin .add (.c (.int .i64 (1))) (.t 24), none⟩,
  ⟨(some 1), .mv (.t 25), none⟩])
 (.seq (.reg [⟨(some 27), .mv (.t 1), none⟩,
  ⟨(some 28), .call (.c (.fn (.func 29) [])) [(.t 27)], none⟩,
  ⟨(some 26), .mv (.t 28), none⟩,
  ⟨(some 29), .ext 0 (.t 26), none⟩,
  ⟨(some 30), .ext 1 (.t 26), none⟩,
  ⟨(some 5), .mv (.t 29), none⟩,
  ⟨(some 6), .mv (.t 30), none⟩])
 (.seq (.seq (.reg [⟨(some 31), .mv (.t 6), none⟩,
  ⟨(some 32), .bin .neq (.t 31) (.c (.int .i64 (0))), none⟩,
  ⟨(some 33), .mv (.t 32), none⟩,
  ⟨(some 34), .mv (.t 5), (some (33, false))⟩,
  ⟨(some 35), .eqv 2 false (.t 34) (.c .nilp), (some (33, false))⟩,
  ⟨(some 36), .pick (.t 33) (.c (.bool true)) (.t 35), none⟩])
 (.cond (.t 36)
   (.seq (.reg [⟨(some 4), .mv (.c (.bool false)), none⟩])
   .ret)
   .skip))
 (.seq (.reg [⟨(some 37), .mv (.t 1), none⟩,
  ⟨(some 38), .bin .mul (.t 37) (.c (.int .i64 (64))), none⟩,
  ⟨(some 39), .mk 1 1 [(.int .u8 (0))] (.t 38) (.t 38), none⟩,
  ⟨(some 7), .mv (.t 39), none⟩])
 (.seq (.reg [⟨(some 8), .mv (.c (.bool false)), none⟩])
 (.seq (.reg [⟨(some 9), .new [(.bool false), (.int .i64 (0)), (.int .i64 (0))], none⟩])
 (.seq (.seq (.reg [⟨(some 10), .mv (.c (.int .i64 (0))), none⟩])
 (.block 0 (.loop (.seq (.seq (.reg [⟨(some 40), .mv (.t 10), none⟩,
  ⟨(some 41), .mv (.t 0), none⟩,
  ⟨(some 42), .len false (.t 41), none⟩,
  ⟨(some 43), .bin .lss (.t 40) (.t 42), none⟩,
  ⟨(some 44), .mv (.t 43), none⟩,
  ⟨(some 45), .mv (.t 10), (some (44, true))⟩,
  ⟨(some 46), .bin .lss (.t 45) (.c (.int .i64 (20))), (some (44, true))⟩,
  ⟨(some 47), .pick (.t 44) (.t 46) (.c (.bool false)), none⟩])
 (.cond (.t 47)
   .skip
   (.exit 0)))
 (.seq (.block 1 (.seq (.reg [⟨(some 50), .mv (.t 0), none⟩,
  ⟨(some 51), .mv (.t 10), none⟩,
  ⟨(some 52), .idxS 1 (.t 50) (.t 51), none⟩,
  ⟨(some 53), .ld false 1 (.t 52), none⟩,
  ⟨(some 54), .bin .and (.t 53) (.c (.int .i64 (16777215))), none⟩,
  ⟨(some 11), .mv (.t 54), none⟩])
 (.seq (.reg [⟨(some 55), .mv (.t 11), none⟩,
  ⟨(some 56), .bin .shr (.t 55) (.c (.int .u64 (3))), none⟩,
  ⟨(some 57), .bin .and (.t 56) (.c (.int .i64 (15))), none⟩,
  ⟨(some 58), .bin .sub (.t 57) (.c (.int .i64 (2))), none⟩,
  ⟨(some 59), .mv (.t 11), none⟩,
  ⟨(some 60), .bin .shr (.t 59) (.c (.int .u64 (7))), none⟩,
  ⟨(some 61), .bin .and (.t 60) (.c (.int .i64 (255))), none⟩,
  ⟨(some 12), .mv (.t 58), none⟩,
  ⟨(some 13), .mv (.t 61), none⟩])
 (.seq (.seq (.reg [⟨(some 62), .mv (.t 11), none⟩,
  ⟨(some 63), .bin .and (.t 62) (.c (.int .i64 (7))), none⟩])
 (.block 2 (.seq (.reg [⟨(some 134), .bin .eql (.t 63) (.c (.int .i64 (0))), none⟩,
  ⟨(some 133), .mv (.t 134), none⟩])
 (.cond (.t 133)
   (.seq (.reg [⟨(some 14), .mv (.c (.int .i64 (0))), none⟩])
   (.seq (.seq (.reg [⟨(some 135), .mv (.t 11), none⟩,
    ⟨(some 136), .bin .shr (.t 135) (.c (.int .u64 (15))), none⟩,
    ⟨(some 137), .bin .and (.t 136) (.c (.int .i64 (3))), none⟩,
    ⟨(some 138), .bin .eql (.t 137) (.c (.int .i64 (3))), none⟩])
   (.cond (.t 138)
     (.reg [⟨(some 14), .mv (.c (.int .i64 (3))), none⟩])
     .skip))
   (.seq (.reg [⟨(some 139), .mv (.t 11), none⟩,
    ⟨(some 140), .bin .shr (.t 139) (.c (.int .u64 (3))), none⟩,
    ⟨(some 141), .bin .and (.t 140) (.c (.int .i64 (3))), none⟩,
    ⟨(some 142), .mv (.t 11), none⟩,
    ⟨(some 143), .bin .shr (.t 142) (.c (.int .u64 (5))), none⟩,
    ⟨(some 144), .bin .and (.t 143) (.c (.int .i64 (3))), none⟩,
    ⟨(some 15), .mv (.t 141), none⟩,
    ⟨(some 16), .mv (.t 144), none⟩])
   (.seq (.seq (.reg [⟨(some 145), .mv (.t 14), none⟩,
    ⟨(some 146), .bin .eql (.t 145) (.c (.int .i64 (3))), none⟩])
   (.cond (.t 146)
     (.reg [⟨(some 15), .mv (.c (.int .i64 (-1))), none⟩])
     (.reg [⟨(some 147), .mv (.t 15), none⟩,
      ⟨(some 148), .mv (.t 16), none⟩,
      ⟨(some 149), .bld [(.bool false), (.int .i64 (0)), (.int .i64 (0))] [(0, 1, (.c (.bool true))), (1, 1, (.t 147)), (2, 1, (.t 148))], none⟩,
      ⟨none, .sto 3 (.t 9) (.t 149), none⟩])))
   (.seq (.reg [⟨(some 150), .mv (.t 5), none⟩,
    ⟨(some 151), .mv (.t 15), none⟩,
    ⟨(some 152), .mv (.t 16), none⟩,
    ⟨(some 153), .call (.c (.fn (.func 30) [])) [(.t 150), (.t 151), (.t 152)], none⟩,
    ⟨(some 154), .mv (.t 14), none⟩,
    ⟨(some 155), .bin .neq (.t 153) (.t 154), none⟩])
   (.cond (.t 155)
     (.seq (.reg [⟨(some 4), .mv (.c (.bool false)), none⟩])
     .ret)
     .skip))))))
   (.seq (.reg [⟨(some 157), .bin .eql (.t 63) (.c (.int .i64 (1))), none⟩,
    ⟨(some 156), .mv (.t 157), none⟩])
   (.cond (.t 156)
     (.seq (.reg [⟨(some 158), .mv (.t 5), none⟩,
      ⟨(some 159), .call (.c (.fn (.func 31) [])) [(.t 158)], none⟩])
     (.reg [⟨(some 160), .bld [(.bool false), (.int .i64 (0)), (.int .i64 (0))] [], none⟩,
      ⟨(some 8), .mv (.c (.bool false)), none⟩,
      ⟨none, .sto 3 (.t 9) (.t 160), none⟩]))
     (.seq (.seq (.reg [⟨(some 162), .bin .eql (.t 63) (.c (.int .i64 (2))), none⟩,
      ⟨(some 161), .mv (.t 162), none⟩])
     (.cond (.t 161)
       .skip
       (.reg [⟨(some 163), .bin .eql (.t 63) (.c (.int .i64 (3))), none⟩,
        ⟨(some 161), .mv (.t 163), none⟩])))
     (.cond (.t 161)
       (.seq (.reg [⟨(some 165), .mv (.t 5), none⟩,
        ⟨(some 166), .mv (.t 12), none⟩,
        ⟨(some 167), .mv (.t 13), none⟩,
        ⟨(some 168), .bin .and (.t 167) (.c (.int .i64 (7))), none⟩,
        ⟨(some 169), .call (.c (.fn (.func 32) [])) [(.t 165), (.t 166), (.t 168)], none⟩,
        ⟨(some 164), .mv (.t 169), none⟩,
        ⟨(some 170), .ext 0 (.t 164), none⟩,
        ⟨(some 171), .ext 1 (.t 164), none⟩,
        ⟨(some 17), .mv (.t 170), none⟩,
        ⟨(some 18), .mv (.t 171), none⟩])
       (.block 6 (.seq (.reg [⟨(some 173), .mv (.t 8), none⟩,
        ⟨(some 172), .mv (.t 173), none⟩])
       (.cond (.t 172)
         (.seq (.reg [⟨(some 174), .mv (.t 18), none⟩,
          ⟨(some 175), .bin .neq (.t 174) (.c (.int .i64 (24))), none⟩,
          ⟨(some 176), .mv (.t 175), none⟩,
          ⟨(some 177), .mv (.t 17), (some (176, false))⟩,
          ⟨(some 178), .len false (.t 177), (some (176, false))⟩,
          ⟨(some 179), .bin .neq (.t 178) (.c (.int .i64 (0))), (some (176, false))⟩,
          ⟨(some 180), .pick (.t 176) (.c (.bool true)) (.t 179), none⟩])
         (.cond (.t 180)
           (.seq (.reg [⟨(some 4), .mv (.c (.bool false)), none⟩])
           .ret)
           .skip))
         (.seq (.reg [⟨(some 182), .mv (.t 12), none⟩,
          ⟨(some 183), .bin .lss (.t 182) (.c (.int .i64 (0))), none⟩,
          ⟨(some 184), .mv (.t 183), none⟩,
          ⟨(some 185), .mv (.t 12), (some (184, false))⟩,
          ⟨(some 186), .mv (.t 13), (some (184, false))⟩,
          ⟨(some 187), .bin .and (.t 186) (.c (.int .i64 (7))), (some (184, false))⟩,
          ⟨(some 188), .bin .add (.t 185) (.t 187), (some (184, false))⟩,
          ⟨(some 189), .mv (.t 1), (some (184, false))⟩,
          ⟨(some 190), .bin .gtr (.t 188) (.t 189), (some (184, false))⟩,
          ⟨(some 191), .pick (.t 184) (.c (.bool true)) (.t 190), none⟩,
          ⟨(some 181), .mv (.t 191), none⟩])
         (.cond (.t 181)
           (.seq (.reg [⟨(some 192), .mv (.t 18), none⟩,
            ⟨(some 193), .bin .neq (.t 192) (.c (.int .i64 (3))), none⟩,
            ⟨(some 194), .mv (.t 193), none⟩,
            ⟨(some 195), .mv (.t 17), (some (194, false))⟩,
            ⟨(some 196), .len false (.t 195), (some (194, false))⟩,
            ⟨(some 197), .bin .neq (.t 196) (.c (.int .i64 (0))), (some (194, false))⟩,
            ⟨(some 198), .pick (.t 194) (.c (.bool true)) (.t 197), none⟩])
           (.cond (.t 198)
             (.seq (.reg [⟨(some 4), .mv (.c (.bool false)), none⟩])
             .ret)
             .skip))
           (.seq (.dreg [(⟨(some 200), .mv (.t 18), none⟩, 0),
            (⟨(some 201), .bin .neq (.t 200) (.c (.int .i64 (0))), none⟩, 1),
            (⟨(some 202), .mv (.t 201), none⟩, 3),
            (⟨(some 203), .mv (.t 17), (some (202, false))⟩, 7),
            (⟨(some 204), .b2s (.t 203), (some (202, false))⟩, 15),
            (⟨(some 205), .mv (.t 7), (some (202, false))⟩, 7),
            (⟨(some 206), .mv (.t 12), (some (202, false))⟩, 7),
            (⟨(some 207), .bin .mul (.t 206) (.c (.int .i64 (64))), (some (202, false))⟩, 71),
            (⟨(some 208), .mv (.t 12), (some (202, false))⟩, 7),
            (⟨(some 209), .mv (.t 13), (some (202, false))⟩, 7),
            (⟨(some 210), .bin .and (.t 209) (.c (.int .i64 (7))), (some (202, false))⟩, 519),
            (⟨(some 211), .bin .add (.t 208) (.t 210), (some (202, false))⟩, 1799),
            (⟨(some 212), .bin .mul (.t 211) (.c (.int .i64 (64))), (some (202, false))⟩, 3847),
            (⟨(some 213), .sli 1 (.t 205) (some (.t 207)) (some (.t 212)) none, (some (202, false))⟩, 8167),
            (⟨(some 214), .b2s (.t 213), (some (202, false))⟩, 16359),
            (⟨(some 215), .eqv 1 true (.t 204) (.t 214), (some (202, false))⟩, 32767),
            (⟨(some 216), .pick (.t 202) (.c (.bool true)) (.t 215), none⟩, 65535),
            (⟨(some 199), .mv (.t 216), none⟩, 131071)])
           (.cond (.t 199)
             (.seq (.reg [⟨(some 4), .mv (.c (.bool false)), none⟩])
             .ret)
             .skip))))))))
       (.seq (.reg [⟨(some 64), .mv (.t 13), none⟩,
        ⟨(some 65), .mk 1 1 [(.int .u8 (0))] (.t 64) (.t 64), none⟩,
        ⟨(some 19), .mv (.t 65), none⟩])
       (.seq (.seq (.reg [⟨(some 20), .mv (.c (.int .i64 (0))), none⟩])
       (.block 3 (.loop (.seq (.seq (.reg [⟨(some 66), .mv (.t 20), none⟩,
        ⟨(some 67), .mv (.t 13), none⟩,
        ⟨(some 68), .bin .lss (.t 66) (.t 67), none⟩])
       (.cond (.t 68)
         .skip
         (.exit 3)))
       (.seq (.block 4 (.reg [⟨(some 71), .mv (.t 19), none⟩,
        ⟨(some 72), .mv (.t 20), none⟩,
        ⟨(some 73), .mv (.t 11), none⟩,
        ⟨(some 74), .bin .shr (.t 73) (.c (.int .u64 (4))), none⟩,
        ⟨(some 75), .mv (.t 20), none⟩,
        ⟨(some 76), .bin .add (.t 74) (.t 75), none⟩,
        ⟨(some 77), .cvt .u8 (.t 76), none⟩,
        ⟨(some 78), .idxS 1 (.t 71) (.t 72), none⟩,
        ⟨none, .sto 1 (.t 78) (.t 77), none⟩]))
       (.reg [⟨(some 69), .mv (.t 20), none⟩,
        ⟨(some 70), .bin .add (.t 69) (.c (.int .i64 (1))), none⟩,
        ⟨(some 20), .mv (.t 70), none⟩]))))))
       (.seq (.reg [⟨(some 79), .mv (.t 13), none⟩,
        ⟨(some 80), .bin .add (.t 79) (.c (.int .i64 (64))), none⟩,
        ⟨(some 81), .bin .sub (.t 80) (.c (.int .i64 (1))), none⟩,
        ⟨(some 82), .bin .quo (.t 81) (.c (.int .i64 (64))), none⟩,
        ⟨(some 21), .mv (.t 82), none⟩])
       (.seq (.reg [⟨(some 83), .mv (.t 5), none⟩,
        ⟨(some 84), .mv (.t 12), none⟩,
        ⟨(some 85), .mv (.t 19), none⟩,
        ⟨(some 86), .call (.c (.fn (.func 33) [])) [(.t 83), (.t 84), (.t 85)], none⟩,
        ⟨(some 22), .mv (.t 86), none⟩])
       (.block 5 (.seq (.reg [⟨(some 98), .mv (.t 8), none⟩,
        ⟨(some 97), .mv (.t 98), none⟩])
       (.cond (.t 97)
         (.seq (.reg [⟨(some 99), .mv (.t 22), none⟩,
          ⟨(some 100), .bin .neq (.t 99) (.c (.int .i64 (24))), none⟩])
         (.cond (.t 100)
           (.seq (.reg [⟨(some 4), .mv (.c (.bool false)), none⟩])
           .ret)
           .skip))
         (.seq (.reg [⟨(some 102), .mv (.t 12), none⟩,
          ⟨(some 103), .bin .lss (.t 102) (.c (.int .i64 (0))), none⟩,
          ⟨(some 104), .mv (.t 103), none⟩,
          ⟨(some 105), .mv (.t 13), (some (104, false))⟩,
          ⟨(some 106), .bin .eql (.t 105) (.c (.int .i64 (0))), (some (104, false))⟩,
          ⟨(some 107), .pick (.t 104) (.c (.bool true)) (.t 106), none⟩,
          ⟨(some 108), .mv (.t 107), none⟩,
          ⟨(some 109), .mv (.t 12), (some (108, false))⟩,
          ⟨(some 110), .mv (.t 21), (some (108, false))⟩,
          ⟨(some 111), .bin .add (.t 109) (.t 110), (some (108, false))⟩,
          ⟨(some 112), .mv (.t 1), (some (108, false))⟩,
          ⟨(some 113), .bin .gtr (.t 111) (.t 112), (some (108, false))⟩,
          ⟨(some 114), .pick (.t 108) (.c (.bool true)) (.t 113), none⟩,
          ⟨(some 101), .mv (.t 114), none⟩])
         (.cond (.t 101)
           (.seq (.reg [⟨(some 115), .mv (.t 22), none⟩,
            ⟨(some 116), .bin .neq (.t 115) (.c (.int .i64 (3))), none⟩])
           (.cond (.t 116)
             (.seq (.reg [⟨(some 4), .mv (.c (.bool false)), none⟩])
             .ret)
             .skip))
           (.seq (.reg [⟨(some 118), .fldA 0 (.t 9), none⟩,
            ⟨(some 119), .ld false 1 (.t 118), none⟩,
            ⟨(some 120), .mv (.t 119), none⟩,
            ⟨(some 121), .fldA 1 (.t 9), (some (120, true))⟩,
            ⟨(some 122), .ld false 1 (.t 121), (some (120, true))⟩,
            ⟨(some 123), .bin .eql (.t 122) (.c (.int .i64 (0))), (some (120, true))⟩,
            ⟨(some 124), .pick (.t 120) (.t 123) (.c (.bool false)), none⟩,
            ⟨(some 117), .mv (.t 124), none⟩])
           (.cond (.t 117)
             (.seq (.reg [⟨(some 125), .mv (.t 7), none⟩,
              ⟨(some 126), .mv (.t 12), none⟩,
              ⟨(some 127), .mv (.t 19), none⟩,
              ⟨(some 128), .fldA 2 (.t 9), none⟩,
              ⟨(some 129), .ld false 1 (.t 128), none⟩,
              ⟨(some 130), .call (.c (.fn (.func 34) [])) [(.t 125), (.t 126), (.t 127), (.t 129)], none⟩,
              ⟨(some 7), .mv (.t 130), none⟩])
             (.seq (.reg [⟨(some 8), .mv (.c (.bool true)), none⟩])
             (.seq (.reg [⟨(some 131), .mv (.t 22), none⟩,
              ⟨(some 132), .bin .neq (.t 131) (.c (.int .i64 (24))), none⟩])
             (.cond (.t 132)
               (.seq (.reg [⟨(some 4), .mv (.c (.bool false)), none⟩])
               .ret)
               .skip))))
             (.seq (.reg [⟨(some 87), .mv (.t 7), none⟩,
              ⟨(some 88), .mv (.t 12), none⟩,
              ⟨(some 89), .mv (.t 19), none⟩,
              ⟨(some 90), .call (.c (.fn (.func 34) [])) [(.t 87), (.t 88), (.t 89), (.c (.int .i64 (-1)))], none⟩,
              ⟨(some 7), .mv (.t 90), none⟩])
             (.seq (.reg [⟨(some 91), .fldA 1 (.t 9), none⟩,
              ⟨(some 92), .ld false 1 (.t 91), none⟩,
              ⟨(some 93), .bin .sub (.t 92) (.c (.int .i64 (1))), none⟩,
              ⟨(some 94), .fldA 1 (.t 9), none⟩,
              ⟨none, .sto 1 (.t 94) (.t 93), none⟩])
             (.seq (.reg [⟨(some 95), .mv (.t 22), none⟩,
              ⟨(some 96), .bin .neq (.t 95) (.c (.int .i64 (0))), none⟩])
             (.cond (.t 96)
               (.seq (.reg [⟨(some 4), .mv (.c (.bool false)), none⟩])
               .ret)
               .skip)))))))))))))))))))))))
 (.seq (.dreg [(⟨(some 217), .mv (.t 5), none⟩, 0),
  (⟨(some 218), .call (.c (.fn (.func 35) [])) [(.t 217)], none⟩, 1),
  (⟨(some 219), .mv (.t 8), none⟩, 0),
  (⟨(some 220), .eqv 0 true (.t 218) (.t 219), none⟩, 7),
  (⟨(some 221), .mv (.t 220), none⟩, 15),
  (⟨(some 222), .mv (.t 5), (some (221, false))⟩, 31),
  (⟨(some 223), .call (.c (.fn (.func 36) [])) [(.t 222)], (some (221, false))⟩, 63),
  (⟨(some 224), .b2s (.t 223), (some (221, false))⟩, 127),
  (⟨(some 225), .mv (.t 7), (some (221, false))⟩, 31),
  (⟨(some 226), .b2s (.t 225), (some (221, false))⟩, 287),
  (⟨(some 227), .eqv 1 true (.t 224) (.t 226), (some (221, false))⟩, 1023),
  (⟨(some 228), .pick (.t 221) (.c (.bool true)) (.t 227), none⟩, 2047),
  (⟨(some 229), .mv (.t 228), none⟩, 4095),
  (⟨(some 230), .mv (.t 5), (some (229, false))⟩, 8191),
  (⟨(some 231), .call (.c (.fn (.func 37) [])) [(.t 230)], (some (229, false))⟩, 16383),
  (⟨(some 232), .mv (.t 1), (some (229, false))⟩, 8191),
  (⟨(some 233), .bin .neq (.t 231) (.t 232), (some (229, false))⟩, 65535),
  (⟨(some 234), .pick (.t 229) (.c (.bool true)) (.t 233), none⟩, 131071)])
 (.cond (.t 234)
   (.seq (.reg [⟨(some 4), .mv (.c (.bool false)), none⟩])
   .ret)
   .skip))))))
 (.reg [⟨(some 48), .mv (.t 10), none⟩,
  ⟨(some 49), .bin .add (.t 48) (.c (.int .i64 (1))), none⟩,
  ⟨(some 10), .mv (.t 49), none⟩]))))))
 (.seq (.reg [⟨(some 235), .call (.c (.fn (.func 38) [])) [], none⟩,
  ⟨(some 4), .mv (.t 235), none⟩])
 .ret)))))))))
theorem f_law31_DevicePlays : aFun Try.prog 8 = some (236, [.tmp 4], c_law31_DevicePlays) := by kernel_rfl
/-- law31.awake -/
def c_law31_awake : ACode := (.seq (.reg [⟨(some 0), .mv (.c (.bool false)), none⟩])
 (.seq (.reg [⟨(some 12), .call (.c (.fn (.func 29) [])) [(.c (.int .i64 (3)))], none⟩,
  ⟨(some 11), .mv (.t 12), none⟩,
  ⟨(some 13), .ext 0 (.t 11), none⟩,
  ⟨(some 14), .ext 1 (.t 11), none⟩,
  ⟨(some 1), .mv (.t 13), none⟩,
  ⟨(some 2), .mv (.t 14), none⟩])
 (.seq (.seq (.reg [⟨(some 15), .mv (.t 2), none⟩,
  ⟨(some 16), .bin .neq (.t 15) (.c (.int .i64 (0))), none⟩,
  ⟨(some 17), .mv (.t 16), none⟩,
  ⟨(some 18), .mv (.t 1), (some (17, false))⟩,
  ⟨(some 19), .eqv 2 false (.t 18) (.c .nilp), (some (17, false))⟩,
  ⟨(some 20), .pick (.t 17) (.c (.bool true)) (.t 19), none⟩])
 (.cond (.t 20)
   (.seq (.reg [⟨(some 0), .mv (.c (.bool false)), none⟩])
   .ret)
   .skip))
 (.seq (.reg [⟨(some 21), .mv (.t 1), none⟩,
  ⟨(some 22), .call (.c (.fn (.func 30) [])) [(.t 21), (.c (.int .i64 (0))), (.c (.int .i64 (1)))], none⟩,
  ⟨(some 3), .mv (.t 22), none⟩])
 (.seq (.reg [⟨(some 23), .mk 1 1 [(.int .u8 (0))] (.c (.int .i64 (128))) (.c (.int .i64 (128))), none⟩,
  ⟨(some 4), .mv (.t 23), none⟩])
 (.seq (.seq (.reg [⟨(some 5), .mv (.c (.int .i64 (0))), none⟩])
 (.block 0 (.loop (.seq (.seq (.reg [⟨(some 24), .mv (.t 5), none⟩,
  ⟨(some 25), .mv (.t 4), none⟩,
  ⟨(some 26), .len false (.t 25), none⟩,
  ⟨(some 27), .bin .lss (.t 24) (.t 26), none⟩])
 (.cond (.t 27)
   .skip
   (.exit 0)))
 (.seq (.block 1 (.reg [⟨(some 30), .mv (.t 4), none⟩,
  ⟨(some 31), .mv (.t 5), none⟩,
  ⟨(some 32), .idxS 1 (.t 30) (.t 31), none⟩,
  ⟨none, .sto 1 (.t 32) (.c (.int .u8 (7))), none⟩]))
 (.reg [⟨(some 28), .mv (.t 5), none⟩,
  ⟨(some 29), .bin .add (.t 28) (.c (.int .i64 (1))), none⟩,
  ⟨(some 5), .mv (.t 29), none⟩]))))))
 (.seq (.reg [⟨(some 33), .mv (.t 1), none⟩,
  ⟨(some 34), .mv (.t 4), none⟩,
  ⟨(some 35), .call (.c (.fn (.func 33) [])) [(.t 33), (.c (.int .i64 (1))), (.t 34)], none⟩,
  ⟨(some 6), .mv (.t 35), none⟩])
 (.seq (.reg [⟨(some 37), .mv (.t 1), none⟩,
  ⟨(some 38), .call (.c (.fn (.func 32) [])) [(.t 37), (.c (.int .i64 (0))), (.c (.int .i64 (1)))], none⟩,
  ⟨(some 36), .mv (.t 38), none⟩,
  ⟨(some 39), .ext 0 (.t 36), none⟩,
  ⟨(some 40), .ext 1 (.t 36), none⟩,
  ⟨(some 7), .mv (.t 39), none⟩,
  ⟨(some 8), .mv (.t 40), none⟩])
 (.seq (.reg [⟨(some 41), .mv (.t 1), none⟩,
  ⟨(some 42), .call (.c (.fn (.func 31) [])) [(.t 41)], none⟩])
 (.seq (.reg [⟨(some 44), .mv (.t 1), none⟩,
  ⟨(some 45), .call (.c (.fn (.func 32) [])) [(.t 44), (.c (.int .i64 (1))), (.c (.int .i64 (2)))], none⟩,
  ⟨(some 43), .mv (.t 45), none⟩,
  ⟨(some 46), .ext 0 (.t 43), none⟩,
  ⟨(some 47), .ext 1 (.t 43), none⟩,
  ⟨(some 9), .mv (.t 46), none⟩,
  ⟨(some 10), .mv (.t 47), none⟩])
 (.seq (.reg [⟨(some 48), .mv (.t 3), none⟩,
  ⟨(some 49), .bin .eql (.t 48) (.c (.int .i64 (0))), none⟩,
  ⟨(some 50), .mv (.t 49), none⟩,
  ⟨(some 51), .mv (.t 6), (some (50, true))⟩,
  ⟨(some 52), .bin .eql (.t 51) (.c (.int .i64 (24))), (some (50, true))⟩,
  ⟨(some 53), .pick (.t 50) (.t 52) (.c (.bool false)), none⟩,
  ⟨(some 54), .mv (.t 53), none⟩,
  ⟨(some 55), .mv (.t 8), (some (54, true))⟩,
  ⟨(some 56), .bin .eql (.t 55) (.c (.int .i64 (24))), (some (54, true))⟩,
  ⟨(some 57), .pick (.t 54) (.t 56) (.c (.bool false)), none⟩,
  ⟨(some 58), .mv (.t 57), none⟩,
  ⟨(some 59), .mv (.t 10), (some (58, true))⟩,
  ⟨(some 60), .bin .eql (.t 59) (.c (.int .i64 (0))), (some (58, true))⟩,
  ⟨(some 61), .pick (.t 58) (.t 60) (.c (.bool false)), none⟩,
  ⟨(some 62), .mv (.t 61), none⟩,
  ⟨(some 63), .mv (.t 9), (some (62, true))⟩,
  ⟨(some 64), .len false (.t 63), (some (62, true))⟩,
  ⟨(some 65), .bin .eql (.t 64) (.c (.int .i64 (128))), (some (62, true))⟩,
  ⟨(some 66), .pick (.t 62) (.t 65) (.c (.bool false)), none⟩,
  ⟨(some 67), .mv (.t 66), none⟩,
  ⟨(some 68), .mv (.t 9), (some (67, true))⟩,
  ⟨(some 69), .idxS 1 (.t 68) (.c (.int .i64 (0))), (some (67, true))⟩,
  ⟨(some 70), .ld false 1 (.t 69), (some (67, true))⟩,
  ⟨(some 71), .bin .eql (.t 70) (.c (.int .u8 (7))), (some (67, true))⟩,
  ⟨(some 72), .pick (.t 67) (.t 71) (.c (.bool false)), none⟩,
  ⟨(some 73), .mv (.t 72), none⟩,
  ⟨(some 74), .mv (.t 9), (some (73, true))⟩,
  ⟨(some 75), .idxS 1 (.t 74) (.c (.int .i64 (63))), (some (73, true))⟩,
  ⟨(some 76), .ld false 1 (.t 75), (some (73, true))⟩,
  ⟨(some 77), .bin .eql (.t 76) (.c (.int .u8 (7))), (some (73, true))⟩,
  ⟨(some 78), .pick (.t 73) (.t 77) (.c (.bool false)), none⟩,
  ⟨(some 79), .mv (.t 78), none⟩,
  ⟨(some 80), .mv (.t 9), (some (79, true))⟩,
  ⟨(some 81), .idxS 1 (.t 80) (.c (.int .i64 (64))), (some (79, true))⟩,
  ⟨(some 82), .ld false 1 (.t 81), (some (79, true))⟩,
  ⟨(some 83), .bin .eql (.t 82) (.c (.int .u8 (0))), (some (79, true))⟩,
  ⟨(some 84), .pick (.t 79) (.t 83) (.c (.bool false)), none⟩,
  ⟨(some 85), .mv (.t 84), none⟩,
  ⟨(some 86), .mv (.t 1), (some (85, true))⟩,
  ⟨(some 87), .call (.c (.fn (.func 37) [])) [(.t 86)], (some (85, true))⟩,
  ⟨(some 88), .bin .eql (.t 87) (.c (.int .i64 (3))), (some (85, true))⟩,
  ⟨(some 89), .pick (.t 85) (.t 88) (.c (.bool false)), none⟩,
  ⟨(some 0), .mv (.t 89), none⟩])
 .ret)))))))))))
theorem f_law31_awake : aFun Try.prog 38 = some (90, [.tmp 0], c_law31_awake) := by kernel_rfl
/-- device.New -/
def c_device_New : ACode := (.seq (.reg [⟨(some 2), .mv (.c .nilp), none⟩,
  ⟨(some 3), .mv (.c (.int .i64 (0))), none⟩])
 (.seq (.seq (.reg [⟨(some 4), .mv (.t 0), none⟩,
  ⟨(some 5), .bin .lss (.t 4) (.c (.int .i64 (1))), none⟩,
  ⟨(some 6), .mv (.t 5), none⟩,
  ⟨(some 7), .mv (.t 0), (some (6, false))⟩,
  ⟨(some 8), .bin .gtr (.t 7) (.c (.int .i64 (32768))), (some (6, false))⟩,
  ⟨(some 9), .pick (.t 6) (.c (.bool true)) (.t 8), none⟩])
 (.cond (.t 9)
   (.seq (.reg [⟨(some 2), .mv (.c .nilp), none⟩,
    ⟨(some 3), .mv (.c (.int .i64 (3))), none⟩])
   .ret)
   .skip))
 (.seq (.reg [⟨(some 10), .mv (.t 0), none⟩,
  ⟨(some 11), .bin .mul (.t 10) (.c (.int .i64 (64))), none⟩,
  ⟨(some 12), .mk 1 1 [(.int .u8 (0))] (.t 11) (.t 11), none⟩,
  ⟨(some 13), .bld [(.sl 0 true []), (.bool false), (.bool false), (.int .i64 (0)), (.int .i64 (0))] [(0, 1, (.t 12))], none⟩,
  ⟨(some 14), .box 5 (.t 13), none⟩,
  ⟨(some 2), .mv (.t 14), none⟩,
  ⟨(some 3), .mv (.c (.int .i64 (0))), none⟩])
 .ret)))
theorem f_device_New : aFun Try.prog 29 = some (15, [.tmp 2, .tmp 3], c_device_New) := by kernel_rfl
/-- device.Open -/
def c_device_Open : ACode := (.seq (.reg [⟨(some 2), .mv (.c .nilp), none⟩,
  ⟨(some 3), .mv (.c (.int .i64 (0))), none⟩])
 (.seq (.reg [⟨(some 5), .mv (.t 0), none⟩,
  ⟨(some 6), .len false (.t 5), none⟩,
  ⟨(some 7), .bin .quo (.t 6) (.c (.int .i64 (64))), none⟩,
  ⟨(some 4), .mv (.t 7), none⟩])
 (.seq (.seq (.reg [⟨(some 8), .mv (.t 0), none⟩,
  ⟨(some 9), .len false (.t 8), none⟩,
  ⟨(some 10), .bin .rem (.t 9) (.c (.int .i64 (64))), none⟩,
  ⟨(some 11), .bin .neq (.t 10) (.c (.int .i64 (0))), none⟩,
  ⟨(some 12), .mv (.t 11), none⟩,
  ⟨(some 13), .mv (.t 4), (some (12, false))⟩,
  ⟨(some 14), .bin .lss (.t 13) (.c (.int .i64 (1))), (some (12, false))⟩,
  ⟨(some 15), .pick (.t 12) (.c (.bool true)) (.t 14), none⟩,
  ⟨(some 16), .mv (.t 15), none⟩,
  ⟨(some 17), .mv (.t 4), (some (16, false))⟩,
  ⟨(some 18), .bin .gtr (.t 17) (.c (.int .i64 (32768))), (some (16, false))⟩,
  ⟨(some 19), .pick (.t 16) (.c (.bool true)) (.t 18), none⟩])
 (.cond (.t 19)
   (.seq (.reg [⟨(some 2), .mv (.c .nilp), none⟩,
    ⟨(some 3), .mv (.c (.int .i64 (2))), none⟩])
   .ret)
   .skip))
 (.seq (.reg [⟨(some 20), .mv (.t 0), none⟩,
  ⟨(some 21), .call (.c (.fn (.func 46) [])) [(.t 20)], none⟩,
  ⟨(some 22), .bld [(.sl 0 true []), (.bool false), (.bool false), (.int .i64 (0)), (.int .i64 (0))] [(0, 1, (.t 21))], none⟩,
  ⟨(some 23), .box 5 (.t 22), none⟩,
  ⟨(some 2), .mv (.t 23), none⟩,
  ⟨(some 3), .mv (.c (.int .i64 (0))), none⟩])
 .ret))))
theorem f_device_Open : aFun Try.prog 39 = some (24, [.tmp 2, .tmp 3], c_device_Open) := by kernel_rfl
/-- (*device.Device).Sectors -/
def c_device_Device_Sectors : ACode := (.seq (.reg [⟨(some 2), .mv (.c (.int .i64 (0))), none⟩])
 (.seq (.reg [⟨(some 3), .mv (.t 0), none⟩,
  ⟨(some 4), .nilc (.t 3), none⟩,
  ⟨(some 5), .fldA 0 (.t 4), none⟩,
  ⟨(some 6), .ld false 1 (.t 5), none⟩,
  ⟨(some 7), .len false (.t 6), none⟩,
  ⟨(some 8), .bin .quo (.t 7) (.c (.int .i64 (64))), none⟩,
  ⟨(some 2), .mv (.t 8), none⟩])
 .ret))
theorem f_device_Device_Sectors : aFun Try.prog 37 = some (9, [.tmp 2], c_device_Device_Sectors) := by kernel_rfl
/-- (*device.Device).Image -/
def c_device_Device_Image : ACode := (.seq (.reg [⟨(some 2), .mv (.c (.sl 0 true [])), none⟩])
 (.seq (.reg [⟨(some 3), .mv (.t 0), none⟩,
  ⟨(some 4), .nilc (.t 3), none⟩,
  ⟨(some 5), .fldA 0 (.t 4), none⟩,
  ⟨(some 6), .ld false 1 (.t 5), none⟩,
  ⟨(some 7), .call (.c (.fn (.func 46) [])) [(.t 6)], none⟩,
  ⟨(some 2), .mv (.t 7), none⟩])
 .ret))
theorem f_device_Device_Image : aFun Try.prog 36 = some (8, [.tmp 2], c_device_Device_Image) := by kernel_rfl
/-- (*device.Device).exist -/
def c_device_Device_exist : ACode := (.seq (.reg [⟨(some 6), .mv (.c (.bool false)), none⟩])
 (.seq (.reg [⟨(some 7), .mv (.t 1), none⟩,
  ⟨(some 8), .bin .geq (.t 7) (.c (.int .i64 (0))), none⟩,
  ⟨(some 9), .mv (.t 8), none⟩,
  ⟨(some 10), .mv (.t 2), (some (9, true))⟩,
  ⟨(some 11), .bin .geq (.t 10) (.c (.int .i64 (0))), (some (9, true))⟩,
  ⟨(some 12), .pick (.t 9) (.t 11) (.c (.bool false)), none⟩,
  ⟨(some 13), .mv (.t 12), none⟩,
  ⟨(some 14), .mv (.t 1), (some (13, true))⟩,
  ⟨(some 15), .mv (.t 0), (some (13, true))⟩,
  ⟨(some 16), .call (.c (.fn (.func 37) [])) [(.t 15)], (some (13, true))⟩,
  ⟨(some 17), .bin .leq (.t 14) (.t 16), (some (13, true))⟩,
  ⟨(some 18), .pick (.t 13) (.t 17) (.c (.bool false)), none⟩,
  ⟨(some 19), .mv (.t 18), none⟩,
  ⟨(some 20), .mv (.t 2), (some (19, true))⟩,
  ⟨(some 21), .mv (.t 0), (some (19, true))⟩,
  ⟨(some 22), .call (.c (.fn (.func 37) [])) [(.t 21)], (some (19, true))⟩,
  ⟨(some 23), .mv (.t 1), (some (19, true))⟩,
  ⟨(some 24), .bin .sub (.t 22) (.t 23), (some (19, true))⟩,
  ⟨(some 25), .bin .leq (.t 20) (.t 24), (some (19, true))⟩,
  ⟨(some 26), .pick (.t 19) (.t 25) (.c (.bool false)), none⟩,
  ⟨(some 6), .mv (.t 26), none⟩])
 .ret))
theorem f_device_Device_exist : aFun Try.prog 45 = some (27, [.tmp 6], c_device_Device_exist) := by kernel_rfl
/-- (*device.Device).Write -/
def c_device_Device_Write : ACode := (.seq (.reg [⟨(some 6), .mv (.c (.int .i64 (0))), none⟩])
 (.seq (.seq (.reg [⟨(some 9), .mv (.t 0), none⟩,
  ⟨(some 10), .nilc (.t 9), none⟩,
  ⟨(some 11), .fldA 1 (.t 10), none⟩,
  ⟨(some 12), .ld false 1 (.t 11), none⟩])
 (.cond (.t 12)
   (.seq (.reg [⟨(some 6), .mv (.c (.int .i64 (24))), none⟩])
   .ret)
   .skip))
 (.seq (.reg [⟨(some 13), .mv (.t 2), none⟩,
  ⟨(some 14), .len false (.t 13), none⟩,
  ⟨(some 15), .bin .add (.t 14) (.c (.int .i64 (64))), none⟩,
  ⟨(some 16), .bin .sub (.t 15) (.c (.int .i64 (1))), none⟩,
  ⟨(some 17), .bin .quo (.t 16) (.c (.int .i64 (64))), none⟩,
  ⟨(some 7), .mv (.t 17), none⟩])
 (.seq (.seq (.reg [⟨(some 18), .mv (.t 7), none⟩,
  ⟨(some 19), .bin .eql (.t 18) (.c (.int .i64 (0))), none⟩,
  ⟨(some 20), .mv (.t 19), none⟩,
  ⟨(some 21), .mv (.t 0), (some (20, false))⟩,
  ⟨(some 22), .mv (.t 1), (some (20, false))⟩,
  ⟨(some 23), .mv (.t 7), (some (20, false))⟩,
  ⟨(some 24), .call (.c (.fn (.func 45) [])) [(.t 21), (.t 22), (.t 23)], (some (20, false))⟩,
  ⟨(some 25), .un .not (.t 24), (some (20, false))⟩,
  ⟨(some 26), .pick (.t 20) (.c (.bool true)) (.t 25), none⟩])
 (.cond (.t 26)
   (.seq (.reg [⟨(some 6), .mv (.c (.int .i64 (3))), none⟩])
   .ret)
   .skip))
 (.seq (.reg [⟨(some 27), .mv (.t 7), none⟩,
  ⟨(some 28), .bin .mul (.t 27) (.c (.int .i64 (64))), none⟩,
  ⟨(some 29), .mk 1 1 [(.int .u8 (0))] (.t 28) (.t 28), none⟩,
  ⟨(some 8), .mv (.t 29), none⟩])
 (.seq (.reg [⟨(some 30), .mv (.t 8), none⟩,
  ⟨(some 31), .mv (.t 2), none⟩,
  ⟨(some 32), .cpy 1 (.t 30) (.t 31), none⟩])
 (.seq (.seq (.reg [⟨(some 33), .mv (.t 0), none⟩,
  ⟨(some 34), .nilc (.t 33), none⟩,
  ⟨(some 35), .fldA 2 (.t 34), none⟩,
  ⟨(some 36), .ld false 1 (.t 35), none⟩,
  ⟨(some 37), .mv (.t 36), none⟩,
  ⟨(some 38), .mv (.t 0), (some (37, true))⟩,
  ⟨(some 39), .nilc (.t 38), (some (37, true))⟩,
  ⟨(some 40), .fldA 3 (.t 39), (some (37, true))⟩,
  ⟨(some 41), .ld false 1 (.t 40), (some (37, true))⟩,
  ⟨(some 42), .bin .eql (.t 41) (.c (.int .i64 (0))), (some (37, true))⟩,
  ⟨(some 43), .pick (.t 37) (.t 42) (.c (.bool false)), none⟩])
 (.cond (.t 43)
   (.seq (.reg [⟨(some 44), .mv (.t 0), none⟩,
    ⟨(some 45), .nilc (.t 44), none⟩,
    ⟨(some 46), .fldA 1 (.t 45), none⟩,
    ⟨none, .sto 1 (.t 46) (.c (.bool true)), none⟩])
   (.reg [⟨(some 47), .mv (.t 8), none⟩,
    ⟨(some 48), .mv (.t 0), none⟩,
    ⟨(some 49), .nilc (.t 48), none⟩,
    ⟨(some 50), .fldA 4 (.t 49), none⟩,
    ⟨(some 51), .ld false 1 (.t 50), none⟩,
    ⟨(some 52), .mv (.t 7), none⟩,
    ⟨(some 53), .mn [(.t 51), (.t 52)], none⟩,
    ⟨(some 54), .bin .mul (.t 53) (.c (.int .i64 (64))), none⟩,
    ⟨(some 55), .sli 1 (.t 47) none (some (.t 54)) none, none⟩,
    ⟨(some 8), .mv (.t 55), none⟩]))
   .skip))
 (.seq (.reg [⟨(some 56), .mv (.t 0), none⟩,
  ⟨(some 57), .mv (.t 0), none⟩,
  ⟨(some 58), .nilc (.t 57), none⟩,
  ⟨(some 59), .fldA 3 (.t 58), none⟩,
  ⟨(some 60), .ld false 1 (.t 59), none⟩,
  ⟨(some 61), .bin .sub (.t 60) (.c (.int .i64 (1))), none⟩,
  ⟨(some 62), .mx [(.t 61), (.c (.int .i64 (0)))], none⟩,
  ⟨(some 63), .nilc (.t 56), none⟩,
  ⟨(some 64), .fldA 3 (.t 63), none⟩,
  ⟨none, .sto 1 (.t 64) (.t 62), none⟩])
 (.seq (.reg [⟨(some 65), .mv (.t 0), none⟩,
  ⟨(some 66), .nilc (.t 65), none⟩,
  ⟨(some 67), .fldA 0 (.t 66), none⟩,
  ⟨(some 68), .ld false 1 (.t 67), none⟩,
  ⟨(some 69), .mv (.t 1), none⟩,
  ⟨(some 70), .bin .mul (.t 69) (.c (.int .i64 (64))), none⟩,
  ⟨(some 71), .sli 1 (.t 68) (some (.t 70)) none none, none⟩,
  ⟨(some 72), .mv (.t 8), none⟩,
  ⟨(some 73), .cpy 1 (.t 71) (.t 72), none⟩])
 (.seq (.seq (.reg [⟨(some 74), .mv (.t 0), none⟩,
  ⟨(some 75), .nilc (.t 74), none⟩,
  ⟨(some 76), .fldA 1 (.t 75), none⟩,
  ⟨(some 77), .ld false 1 (.t 76), none⟩])
 (.cond (.t 77)
   (.seq (.reg [⟨(some 6), .mv (.c (.int .i64 (24))), none⟩])
   .ret)
   .skip))
 (.seq (.reg [⟨(some 6), .mv (.c (.int .i64 (0))), none⟩])
 .ret)))))))))))
theorem f_device_Device_Write : aFun Try.prog 33 = some (78, [.tmp 6], c_device_Device_Write) := by kernel_rfl
/-- (*device.Device).Read -/
def c_device_Device_Read : ACode := (.seq (.reg [⟨(some 6), .mv (.c (.sl 0 true [])), none⟩,
  ⟨(some 7), .mv (.c (.int .i64 (0))), none⟩])
 (.seq (.seq (.reg [⟨(some 8), .mv (.t 0), none⟩,
  ⟨(some 9), .nilc (.t 8), none⟩,
  ⟨(some 10), .fldA 1 (.t 9), none⟩,
  ⟨(some 11), .ld false 1 (.t 10), none⟩])
 (.cond (.t 11)
   (.seq (.reg [⟨(some 6), .mv (.c (.sl 0 true [])), none⟩,
    ⟨(some 7), .mv (.c (.int .i64 (24))), none⟩])
   .ret)
   .skip))
 (.seq (.seq (.reg [⟨(some 12), .mv (.t 0), none⟩,
  ⟨(some 13), .mv (.t 1), none⟩,
  ⟨(some 14), .mv (.t 2), none⟩,
  ⟨(some 15), .call (.c (.fn (.func 45) [])) [(.t 12), (.t 13), (.t 14)], none⟩,
  ⟨(some 16), .un .not (.t 15), none⟩])
 (.cond (.t 16)
   (.seq (.reg [⟨(some 6), .mv (.c (.sl 0 true [])), none⟩,
    ⟨(some 7), .mv (.c (.int .i64 (3))), none⟩])
   .ret)
   .skip))
 (.seq (.reg [⟨(some 17), .mv (.t 0), none⟩,
  ⟨(some 18), .nilc (.t 17), none⟩,
  ⟨(some 19), .fldA 0 (.t 18), none⟩,
  ⟨(some 20), .ld false 1 (.t 19), none⟩,
  ⟨(some 21), .mv (.t 1), none⟩,
  ⟨(some 22), .bin .mul (.t 21) (.c (.int .i64 (64))), none⟩,
  ⟨(some 23), .mv (.t 1), none⟩,
  ⟨(some 24), .mv (.t 2), none⟩,
  ⟨(some 25), .bin .add (.t 23) (.t 24), none⟩,
  ⟨(some 26), .bin .mul (.t 25) (.c (.int .i64 (64))), none⟩,
  ⟨(some 27), .sli 1 (.t 20) (some (.t 22)) (some (.t 26)) none, none⟩,
  ⟨(some 28), .call (.c (.fn (.func 46) [])) [(.t 27)], none⟩,
  ⟨(some 6), .mv (.t 28), none⟩,
  ⟨(some 7), .mv (.c (.int .i64 (0))), none⟩])
 .ret))))
theorem f_device_Device_Read : aFun Try.prog 32 = some (29, [.tmp 6, .tmp 7], c_device_Device_Read) := by kernel_rfl
/-- (*device.Device).Plan -/
def c_device_Device_Plan : ACode := (.seq (.reg [⟨(some 6), .mv (.c (.int .i64 (0))), none⟩])
 (.seq (.seq (.reg [⟨(some 7), .mv (.t 1), none⟩,
  ⟨(some 8), .bin .lss (.t 7) (.c (.int .i64 (0))), none⟩,
  ⟨(some 9), .mv (.t 8), none⟩,
  ⟨(some 10), .mv (.t 2), (some (9, false))⟩,
  ⟨(some 11), .bin .lss (.t 10) (.c (.int .i64 (0))), (some (9, false))⟩,
  ⟨(some 12), .pick (.t 9) (.c (.bool true)) (.t 11), none⟩])
 (.cond (.t 12)
   (.seq (.reg [⟨(some 6), .mv (.c (.int .i64 (3))), none⟩])
   .ret)
   .skip))
 (.seq (.reg [⟨(some 13), .mv (.t 0), none⟩,
  ⟨(some 14), .mv (.t 0), none⟩,
  ⟨(some 15), .mv (.t 0), none⟩,
  ⟨(some 16), .mv (.t 1), none⟩,
  ⟨(some 17), .mv (.t 2), none⟩,
  ⟨(some 18), .nilc (.t 13), none⟩,
  ⟨(some 19), .fldA 2 (.t 18), none⟩,
  ⟨none, .sto 1 (.t 19) (.c (.bool true)), none⟩,
  ⟨(some 20), .nilc (.t 14), none⟩,
  ⟨(some 21), .fldA 3 (.t 20), none⟩,
  ⟨none, .sto 1 (.t 21) (.t 16), none⟩,
  ⟨(some 22), .nilc (.t 15), none⟩,
  ⟨(some 23), .fldA 4 (.t 22), none⟩,
  ⟨none, .sto 1 (.t 23) (.t 17), none⟩])
 (.seq (.reg [⟨(some 6), .mv (.c (.int .i64 (0))), none⟩])
 .ret))))
theorem f_device_Device_Plan : aFun Try.prog 30 = some (24, [.tmp 6], c_device_Device_Plan) := by kernel_rfl
/-- (*device.Device).Crashed -/
def c_device_Device_Crashed : ACode := (.seq (.reg [⟨(some 2), .mv (.c (.bool false)), none⟩])
 (.seq (.reg [⟨(some 3), .mv (.t 0), none⟩,
  ⟨(some 4), .nilc (.t 3), none⟩,
  ⟨(some 5), .fldA 1 (.t 4), none⟩,
  ⟨(some 6), .ld false 1 (.t 5), none⟩,
  ⟨(some 2), .mv (.t 6), none⟩])
 .ret))
theorem f_device_Device_Crashed : aFun Try.prog 35 = some (7, [.tmp 2], c_device_Device_Crashed) := by kernel_rfl
/-- (*device.Device).Restart -/
def c_device_Device_Restart : ACode := (.reg [⟨(some 2), .mv (.t 0), none⟩,
  ⟨(some 3), .mv (.t 0), none⟩,
  ⟨(some 4), .mv (.t 0), none⟩,
  ⟨(some 5), .mv (.t 0), none⟩,
  ⟨(some 6), .nilc (.t 2), none⟩,
  ⟨(some 7), .fldA 1 (.t 6), none⟩,
  ⟨none, .sto 1 (.t 7) (.c (.bool false)), none⟩,
  ⟨(some 8), .nilc (.t 3), none⟩,
  ⟨(some 9), .fldA 2 (.t 8), none⟩,
  ⟨none, .sto 1 (.t 9) (.c (.bool false)), none⟩,
  ⟨(some 10), .nilc (.t 4), none⟩,
  ⟨(some 11), .fldA 3 (.t 10), none⟩,
  ⟨none, .sto 1 (.t 11) (.c (.int .i64 (0))), none⟩,
  ⟨(some 12), .nilc (.t 5), none⟩,
  ⟨(some 13), .fldA 4 (.t 12), none⟩,
  ⟨none, .sto 1 (.t 13) (.c (.int .i64 (0))), none⟩])
theorem f_device_Device_Restart : aFun Try.prog 31 = some (14, [], c_device_Device_Restart) := by kernel_rfl
/-- slices.Clone[[]byte,byte] -/
def c_slices_Clone_byte_byte : ACode := (.seq (.reg [⟨(some 2), .mv (.c (.sl 0 true [])), none⟩])
 (.seq (.seq (.reg [⟨(some 3), .mv (.t 0), none⟩,
  ⟨(some 4), .isn false (.t 3), none⟩])
 (.cond (.t 4)
   (.seq (.reg [⟨(some 2), .mv (.c (.sl 0 true [])), none⟩])
   .ret)
   .skip))
 (.seq (.reg [⟨(some 5), .bldS 1 0 [(.int .u8 (0))] [], none⟩,
  ⟨(some 6), .mv (.t 0), none⟩,
  ⟨(some 7), .app 1 1 (.t 5) (.t 6), none⟩,
  ⟨(some 2), .mv (.t 7), none⟩])
 .ret)))
theorem f_slices_Clone_byte_byte : aFun Try.prog 46 = some (8, [.tmp 2], c_slices_Clone_byte_byte) := by kernel_rfl
/-- ref31.Put -/
def c_ref31_Put : ACode := (.seq (.reg [⟨(some 8), .mv (.c (.sl 0 true [])), none⟩])
 (.seq (.reg [⟨(some 12), .mv (.t 0), none⟩,
  ⟨(some 13), .app 1 1 (.c (.sl 0 true [])) (.t 12), none⟩,
  ⟨(some 9), .mv (.t 13), none⟩])
 (.seq (.reg [⟨(some 14), .mv (.t 2), none⟩,
  ⟨(some 15), .app 1 1 (.c (.sl 0 true [])) (.t 14), none⟩,
  ⟨(some 10), .mv (.t 15), none⟩])
 (.seq (.block 0 (.loop (.seq (.seq (.reg [⟨(some 16), .mv (.t 10), none⟩,
  ⟨(some 17), .len false (.t 16), none⟩,
  ⟨(some 18), .bin .rem (.t 17) (.c (.int .i64 (64))), none⟩,
  ⟨(some 19), .bin .neq (.t 18) (.c (.int .i64 (0))), none⟩])
 (.cond (.t 19)
   .skip
   (.exit 0)))
 (.block 1 (.reg [⟨(some 20), .mv (.t 10), none⟩,
  ⟨(some 21), .bldS 1 1 [(.int .u8 (0))] [(0, (.c (.int .u8 (0))))], none⟩,
  ⟨(some 22), .app 1 1 (.t 20) (.t 21), none⟩,
  ⟨(some 10), .mv (.t 22), none⟩])))))
 (.seq (.seq (.reg [⟨(some 23), .mv (.t 3), none⟩,
  ⟨(some 24), .bin .geq (.t 23) (.c (.int .i64 (0))), none⟩,
  ⟨(some 25), .mv (.t 24), none⟩,
  ⟨(some 26), .mv (.t 3), (some (25, true))⟩,
  ⟨(some 27), .bin .mul (.t 26) (.c (.int .i64 (64))), (some (25, true))⟩,
  ⟨(some 28), .mv (.t 10), (some (25, true))⟩,
  ⟨(some 29), .len false (.t 28), (some (25, true))⟩,
  ⟨(some 30), .bin .lss (.t 27) (.t 29), (some (25, true))⟩,
  ⟨(some 31), .pick (.t 25) (.t 30) (.c (.bool false)), none⟩])
 (.cond (.t 31)
   (.reg [⟨(some 32), .mv (.t 10), none⟩,
    ⟨(some 33), .mv (.t 3), none⟩,
    ⟨(some 34), .bin .mul (.t 33) (.c (.int .i64 (64))), none⟩,
    ⟨(some 35), .sli 1 (.t 32) none (some (.t 34)) none, none⟩,
    ⟨(some 10), .mv (.t 35), none⟩])
   .skip))
 (.seq (.seq (.reg [⟨(some 11), .mv (.c (.int .i64 (0))), none⟩])
 (.block 2 (.loop (.seq (.seq (.reg [⟨(some 36), .mv (.t 11), none⟩,
  ⟨(some 37), .mv (.t 10), none⟩,
  ⟨(some 38), .len false (.t 37), none⟩,
  ⟨(some 39), .bin .lss (.t 36) (.t 38), none⟩])
 (.cond (.t 39)
   .skip
   (.exit 2)))
 (.seq (.block 3 (.reg [⟨(some 42), .mv (.t 9), none⟩,
  ⟨(some 43), .mv (.t 1), none⟩,
  ⟨(some 44), .bin .mul (.t 43) (.c (.int .i64 (64))), none⟩,
  ⟨(some 45), .mv (.t 11), none⟩,
  ⟨(some 46), .bin .add (.t 44) (.t 45), none⟩,
  ⟨(some 47), .mv (.t 10), none⟩,
  ⟨(some 48), .mv (.t 11), none⟩,
  ⟨(some 49), .idxS 1 (.t 47) (.t 48), none⟩,
  ⟨(some 50), .ld false 1 (.t 49), none⟩,
  ⟨(some 51), .idxS 1 (.t 42) (.t 46), none⟩,
  ⟨none, .sto 1 (.t 51) (.t 50), none⟩]))
 (.reg [⟨(some 40), .mv (.t 11), none⟩,
  ⟨(some 41), .bin .add (.t 40) (.c (.int .i64 (1))), none⟩,
  ⟨(some 11), .mv (.t 41), none⟩]))))))
 (.seq (.reg [⟨(some 52), .mv (.t 9), none⟩,
  ⟨(some 8), .mv (.t 52), none⟩])
 .ret)))))))
theorem f_ref31_Put : aFun Try.prog 34 = some (53, [.tmp 8], c_ref31_Put) := by kernel_rfl
end Go.Proofs.Ytdkahoohedljhaa
