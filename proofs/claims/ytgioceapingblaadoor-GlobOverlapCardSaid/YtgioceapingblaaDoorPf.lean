/-
  Chapter 32: overlapping, the fixed beginning.
-/
import Derived.Test.YtgioceapingblaaDoorPe
import Derived.Test.YtgioceapingblaaDoorPd

/-
  Chapter 32: what patterns have in common, in the form of the executor (printed by a program).
-/
namespace Qk
open Go Go.RowKit

def IT_glob_common : Nat → Option ITran := look [(4, T_glob_after_1)]
/-- quilt/glob.common -/
def ir_glob_common : IF := ⟨(.seq (.ops [⟨(some 3), none, .box (t 1)⟩,
    ⟨(some 4), none, .mov (.const (.bool false))⟩])
  (.seq (.ops [⟨(some 12), none, .mkmap false [some (some .i64), some (some .i64)]⟩,
    ⟨(some 13), none, .build 2 [.int .i64 0, .int .i64 0] []⟩,
    ⟨none, none, .mput false [some (some .i64), some (some .i64)] (t 12) (t 13) (.const (.bool true))⟩,
    ⟨(some 14), none, .mov (t 12)⟩,
    ⟨(some 5), none, .alloc [.raw (.map none)]⟩,
    ⟨none, none, .stor1 (t 5) (t 14)⟩])
  (.seq (.ops [⟨(some 15), none, .build 2 [.int .i64 0, .int .i64 0] []⟩,
    ⟨(some 16), none, .bslice 2 [.int .i64 0, .int .i64 0] 1 [(0, 2, (t 15))]⟩,
    ⟨(some 6), none, .alloc [.raw (.slice none 0 0)]⟩,
    ⟨none, none, .stor1 (t 6) (t 16)⟩])
  (.seq (.block 0 (.loop (.seq (.seq (.ops [⟨(some 17), none, .load1 (t 6)⟩,
    ⟨(some 18), none, .lenL (t 17)⟩,
    ⟨(some 19), none, .bin .gtr (t 18) (ci 0)⟩])
  (.cond (t 19) .skip
  (.exit 0)))
  (.block 1 (.seq (.ops [⟨(some 20), none, .load1 (t 6)⟩,
    ⟨(some 21), none, .load1 (t 6)⟩,
    ⟨(some 22), none, .lenL (t 21)⟩,
    ⟨(some 23), none, .bin .sub (t 22) (ci 1)⟩,
    ⟨(some 24), none, .idxL 2 (t 20) (t 23)⟩,
    ⟨(some 25), none, .loadN 2 (t 24)⟩,
    ⟨(some 7), none, .alloc [.int .i64 0, .int .i64 0]⟩,
    ⟨none, none, .storN 2 (t 7) (t 25)⟩])
  (.seq (.jn (.ops [⟨(some 26), none, .load1 (t 6)⟩,
    ⟨(some 27), none, .load1 (t 6)⟩,
    ⟨(some 28), none, .lenL (t 27)⟩,
    ⟨(some 29), none, .bin .sub (t 28) (ci 1)⟩,
    ⟨(some 30), none, .slL 2 (t 26) none (some (t 29))⟩,
    ⟨none, none, .stor1 (t 6) (t 30)⟩]))
  (.seq (.seq (.jn (.ops [⟨(some 31), none, .mov (t 0)⟩,
    ⟨(some 32), none, .fldA 0 (t 7)⟩,
    ⟨(some 33), none, .load1 (t 32)⟩,
    ⟨(some 34), none, .pcall C_glob_ended [(t 31), (t 33)]⟩,
    ⟨(some 35), none, .mov (t 34)⟩,
    ⟨(some 36), (some (35, true)), .load1 (t 3)⟩,
    ⟨(some 37), (some (35, true)), .fldA 1 (t 7)⟩,
    ⟨(some 38), (some (35, true)), .load1 (t 37)⟩,
    ⟨(some 39), (some (35, true)), .pcall C_glob_ended [(t 36), (t 38)]⟩,
    ⟨(some 40), none, .pick (t 35) (t 39) (.const (.bool false))⟩]))
  (.cond (t 40) (.seq (.ops [⟨(some 4), none, .mov (.const (.bool true))⟩])
  .ret)
  .skip))
  (.seq (.ops [⟨(some 41), none, .mov (ci 0)⟩])
  (.block 2 (.loop (.seq (.ops [⟨(some 42), none, .bin .lss (t 41) (ci 256)⟩])
  (.seq (.cond (t 42) .skip
  (.exit 2))
  (.seq (.jn (.block 3 (.seq (.ops [⟨(some 43), none, .mov (t 41)⟩,
    ⟨(some 8), none, .alloc [.int .i64 0]⟩,
    ⟨none, none, .stor1 (t 8) (t 43)⟩])
  (.seq (.seq (.ops [⟨(some 44), none, .load1 (t 8)⟩,
    ⟨(some 45), none, .bin .eql (t 44) (ci 47)⟩])
  (.cond (t 45) (.exit 3)
  .skip))
  (.seq (.ops [⟨(some 46), none, .mov (t 0)⟩,
    ⟨(some 47), none, .fldA 0 (t 7)⟩,
    ⟨(some 48), none, .load1 (t 47)⟩,
    ⟨(some 49), none, .load1 (t 8)⟩,
    ⟨(some 50), none, .conv .u8 (t 49)⟩,
    ⟨(some 51), none, .pcallB B_glob_after [(t 46), (t 48), (t 50)]⟩])
  (.block 4 (.rfunc IT_glob_common (t 51) [52] (.seq (.ops [⟨(some 9), none, .alloc [.int .i64 0]⟩,
    ⟨none, none, .stor1 (t 9) (t 52)⟩])
  (.block 5 (.seq (.ops [⟨(some 53), none, .load1 (t 3)⟩,
    ⟨(some 54), none, .fldA 1 (t 7)⟩,
    ⟨(some 55), none, .load1 (t 54)⟩,
    ⟨(some 56), none, .load1 (t 8)⟩,
    ⟨(some 57), none, .conv .u8 (t 56)⟩,
    ⟨(some 58), none, .pcallB B_glob_after [(t 53), (t 55), (t 57)]⟩])
  (.block 6 (.rfunc IT_glob_common (t 58) [59] (.seq (.ops [⟨(some 10), none, .mov (t 59)⟩])
  (.block 7 (.seq (.ops [⟨(some 60), none, .load1 (t 9)⟩,
    ⟨(some 61), none, .mov (t 10)⟩,
    ⟨(some 62), none, .build 2 [.int .i64 0, .int .i64 0] [(0, 1, (t 60)), (1, 1, (t 61))]⟩,
    ⟨(some 11), none, .alloc [.int .i64 0, .int .i64 0]⟩,
    ⟨none, none, .storN 2 (t 11) (t 62)⟩])
  (.seq (.jn (.ops [⟨(some 63), none, .load1 (t 5)⟩,
    ⟨(some 64), none, .loadN 2 (t 11)⟩,
    ⟨(some 65), none, .mlook false [some (some .i64), some (some .i64)] (.bool false) false (t 63) (t 64)⟩,
    ⟨(some 66), none, .not (t 65)⟩]))
  (.jn (.cond (t 66) (.seq (.ops [⟨(some 67), none, .load1 (t 5)⟩,
    ⟨(some 68), none, .loadN 2 (t 11)⟩,
    ⟨none, none, .mput false [some (some .i64), some (some .i64)] (t 67) (t 68) (.const (.bool true))⟩])
  (.ops [⟨(some 69), none, .load1 (t 6)⟩,
    ⟨(some 70), none, .loadN 2 (t 11)⟩,
    ⟨(some 71), none, .bslice 2 [.int .i64 0, .int .i64 0] 1 [(0, 2, (t 70))]⟩,
    ⟨(some 72), none, .app 2 16 (t 69) (t 71)⟩,
    ⟨none, none, .stor1 (t 6) (t 72)⟩]))
  .skip))))))))))))))))))
  (.ops [⟨(some 73), none, .bin .add (t 41) (ci 1)⟩,
    ⟨(some 41), none, .mov (t 73)⟩]))))))))))))))
  (.seq (.ops [⟨(some 4), none, .mov (.const (.bool false))⟩])
  .ret))))), [.tmp 4]⟩
/-- What Overlap puts at a place of its table. -/
def ov_ops : List IOp := [⟨(some 51), none, .mov (t 9)⟩,
    ⟨(some 52), none, .mov (t 10)⟩,
    ⟨(some 53), none, .idxL 1 (t 51) (t 52)⟩,
    ⟨(some 54), none, .load1 (t 53)⟩,
    ⟨(some 55), none, .mov (t 11)⟩,
    ⟨(some 56), none, .mov (t 10)⟩,
    ⟨(some 57), none, .mov (t 5)⟩,
    ⟨(some 58), none, .lenL (t 57)⟩,
    ⟨(some 59), none, .bin .eql (t 56) (t 58)⟩,
    ⟨(some 60), none, .mov (t 59)⟩,
    ⟨(some 61), (some (60, true)), .mov (t 11)⟩,
    ⟨(some 62), (some (60, true)), .mov (t 7)⟩,
    ⟨(some 63), (some (60, true)), .lenL (t 62)⟩,
    ⟨(some 64), (some (60, true)), .bin .eql (t 61) (t 63)⟩,
    ⟨(some 65), none, .pick (t 60) (t 64) (.const (.bool false))⟩,
    ⟨(some 66), none, .mov (t 65)⟩,
    ⟨(some 67), (some (66, false)), .mov (t 10)⟩,
    ⟨(some 68), (some (66, false)), .mov (t 5)⟩,
    ⟨(some 69), (some (66, false)), .lenL (t 68)⟩,
    ⟨(some 70), (some (66, false)), .bin .lss (t 67) (t 69)⟩,
    ⟨(some 71), (some (66, false)), .mov (t 70)⟩,
    ⟨(some 72), (some (71, true)), .mov (t 5)⟩,
    ⟨(some 73), (some (71, true)), .mov (t 10)⟩,
    ⟨(some 74), (some (71, true)), .idxL 2 (t 72) (t 73)⟩,
    ⟨(some 75), (some (71, true)), .fldA 0 (t 74)⟩,
    ⟨(some 76), (some (71, true)), .load1 (t 75)⟩,
    ⟨(some 77), (some (66, false)), .pick (t 71) (t 76) (.const (.bool false))⟩,
    ⟨(some 78), (some (66, false)), .mov (t 77)⟩,
    ⟨(some 79), (some (78, true)), .mov (t 9)⟩,
    ⟨(some 80), (some (78, true)), .mov (t 10)⟩,
    ⟨(some 81), (some (78, true)), .bin .add (t 80) (ci 1)⟩,
    ⟨(some 82), (some (78, true)), .idxL 1 (t 79) (t 81)⟩,
    ⟨(some 83), (some (78, true)), .load1 (t 82)⟩,
    ⟨(some 84), (some (78, true)), .mov (t 11)⟩,
    ⟨(some 85), (some (78, true)), .idxL 1 (t 83) (t 84)⟩,
    ⟨(some 86), (some (78, true)), .load1 (t 85)⟩,
    ⟨(some 87), (some (78, true)), .mov (t 86)⟩,
    ⟨(some 88), (some (87, false)), .mov (t 11)⟩,
    ⟨(some 89), (some (87, false)), .mov (t 7)⟩,
    ⟨(some 90), (some (87, false)), .lenL (t 89)⟩,
    ⟨(some 91), (some (87, false)), .bin .lss (t 88) (t 90)⟩,
    ⟨(some 92), (some (87, false)), .mov (t 91)⟩,
    ⟨(some 93), (some (92, true)), .mov (t 9)⟩,
    ⟨(some 94), (some (92, true)), .mov (t 10)⟩,
    ⟨(some 95), (some (92, true)), .idxL 1 (t 93) (t 94)⟩,
    ⟨(some 96), (some (92, true)), .load1 (t 95)⟩,
    ⟨(some 97), (some (92, true)), .mov (t 11)⟩,
    ⟨(some 98), (some (92, true)), .bin .add (t 97) (ci 1)⟩,
    ⟨(some 99), (some (92, true)), .idxL 1 (t 96) (t 98)⟩,
    ⟨(some 100), (some (92, true)), .load1 (t 99)⟩,
    ⟨(some 101), (some (87, false)), .pick (t 92) (t 100) (.const (.bool false))⟩,
    ⟨(some 102), (some (78, true)), .pick (t 87) (.const (.bool true)) (t 101)⟩,
    ⟨(some 103), (some (66, false)), .pick (t 78) (t 102) (.const (.bool false))⟩,
    ⟨(some 104), none, .pick (t 66) (.const (.bool true)) (t 103)⟩,
    ⟨(some 105), none, .mov (t 104)⟩,
    ⟨(some 106), (some (105, false)), .mov (t 11)⟩,
    ⟨(some 107), (some (105, false)), .mov (t 7)⟩,
    ⟨(some 108), (some (105, false)), .lenL (t 107)⟩,
    ⟨(some 109), (some (105, false)), .bin .lss (t 106) (t 108)⟩,
    ⟨(some 110), (some (105, false)), .mov (t 109)⟩,
    ⟨(some 111), (some (110, true)), .mov (t 7)⟩,
    ⟨(some 112), (some (110, true)), .mov (t 11)⟩,
    ⟨(some 113), (some (110, true)), .idxL 2 (t 111) (t 112)⟩,
    ⟨(some 114), (some (110, true)), .fldA 0 (t 113)⟩,
    ⟨(some 115), (some (110, true)), .load1 (t 114)⟩,
    ⟨(some 116), (some (105, false)), .pick (t 110) (t 115) (.const (.bool false))⟩,
    ⟨(some 117), (some (105, false)), .mov (t 116)⟩,
    ⟨(some 118), (some (117, true)), .mov (t 9)⟩,
    ⟨(some 119), (some (117, true)), .mov (t 10)⟩,
    ⟨(some 120), (some (117, true)), .idxL 1 (t 118) (t 119)⟩,
    ⟨(some 121), (some (117, true)), .load1 (t 120)⟩,
    ⟨(some 122), (some (117, true)), .mov (t 11)⟩,
    ⟨(some 123), (some (117, true)), .bin .add (t 122) (ci 1)⟩,
    ⟨(some 124), (some (117, true)), .idxL 1 (t 121) (t 123)⟩,
    ⟨(some 125), (some (117, true)), .load1 (t 124)⟩,
    ⟨(some 126), (some (117, true)), .mov (t 125)⟩,
    ⟨(some 127), (some (126, false)), .mov (t 10)⟩,
    ⟨(some 128), (some (126, false)), .mov (t 5)⟩,
    ⟨(some 129), (some (126, false)), .lenL (t 128)⟩,
    ⟨(some 130), (some (126, false)), .bin .lss (t 127) (t 129)⟩,
    ⟨(some 131), (some (126, false)), .mov (t 130)⟩,
    ⟨(some 132), (some (131, true)), .mov (t 9)⟩,
    ⟨(some 133), (some (131, true)), .mov (t 10)⟩,
    ⟨(some 134), (some (131, true)), .bin .add (t 133) (ci 1)⟩,
    ⟨(some 135), (some (131, true)), .idxL 1 (t 132) (t 134)⟩,
    ⟨(some 136), (some (131, true)), .load1 (t 135)⟩,
    ⟨(some 137), (some (131, true)), .mov (t 11)⟩,
    ⟨(some 138), (some (131, true)), .idxL 1 (t 136) (t 137)⟩,
    ⟨(some 139), (some (131, true)), .load1 (t 138)⟩,
    ⟨(some 140), (some (126, false)), .pick (t 131) (t 139) (.const (.bool false))⟩,
    ⟨(some 141), (some (117, true)), .pick (t 126) (.const (.bool true)) (t 140)⟩,
    ⟨(some 142), (some (105, false)), .pick (t 117) (t 141) (.const (.bool false))⟩,
    ⟨(some 143), none, .pick (t 105) (.const (.bool true)) (t 142)⟩,
    ⟨(some 144), none, .mov (t 143)⟩,
    ⟨(some 145), (some (144, false)), .mov (t 10)⟩,
    ⟨(some 146), (some (144, false)), .mov (t 5)⟩,
    ⟨(some 147), (some (144, false)), .lenL (t 146)⟩,
    ⟨(some 148), (some (144, false)), .bin .lss (t 145) (t 147)⟩,
    ⟨(some 149), (some (144, false)), .mov (t 148)⟩,
    ⟨(some 150), (some (149, true)), .mov (t 11)⟩,
    ⟨(some 151), (some (149, true)), .mov (t 7)⟩,
    ⟨(some 152), (some (149, true)), .lenL (t 151)⟩,
    ⟨(some 153), (some (149, true)), .bin .lss (t 150) (t 152)⟩,
    ⟨(some 154), (some (144, false)), .pick (t 149) (t 153) (.const (.bool false))⟩,
    ⟨(some 155), (some (144, false)), .mov (t 154)⟩,
    ⟨(some 156), (some (155, true)), .mov (t 5)⟩,
    ⟨(some 157), (some (155, true)), .mov (t 10)⟩,
    ⟨(some 158), (some (155, true)), .idxL 2 (t 156) (t 157)⟩,
    ⟨(some 159), (some (155, true)), .fldA 0 (t 158)⟩,
    ⟨(some 160), (some (155, true)), .load1 (t 159)⟩,
    ⟨(some 161), (some (155, true)), .not (t 160)⟩,
    ⟨(some 162), (some (144, false)), .pick (t 155) (t 161) (.const (.bool false))⟩,
    ⟨(some 163), (some (144, false)), .mov (t 162)⟩,
    ⟨(some 164), (some (163, true)), .mov (t 7)⟩,
    ⟨(some 165), (some (163, true)), .mov (t 11)⟩,
    ⟨(some 166), (some (163, true)), .idxL 2 (t 164) (t 165)⟩,
    ⟨(some 167), (some (163, true)), .fldA 0 (t 166)⟩,
    ⟨(some 168), (some (163, true)), .load1 (t 167)⟩,
    ⟨(some 169), (some (163, true)), .not (t 168)⟩,
    ⟨(some 170), (some (144, false)), .pick (t 163) (t 169) (.const (.bool false))⟩,
    ⟨(some 171), (some (144, false)), .mov (t 170)⟩,
    ⟨(some 172), (some (171, true)), .mov (t 9)⟩,
    ⟨(some 173), (some (171, true)), .mov (t 10)⟩,
    ⟨(some 174), (some (171, true)), .bin .add (t 173) (ci 1)⟩,
    ⟨(some 175), (some (171, true)), .idxL 1 (t 172) (t 174)⟩,
    ⟨(some 176), (some (171, true)), .load1 (t 175)⟩,
    ⟨(some 177), (some (171, true)), .mov (t 11)⟩,
    ⟨(some 178), (some (171, true)), .bin .add (t 177) (ci 1)⟩,
    ⟨(some 179), (some (171, true)), .idxL 1 (t 176) (t 178)⟩,
    ⟨(some 180), (some (171, true)), .load1 (t 179)⟩,
    ⟨(some 181), (some (144, false)), .pick (t 171) (t 180) (.const (.bool false))⟩,
    ⟨(some 182), (some (144, false)), .mov (t 181)⟩,
    ⟨(some 183), (some (182, true)), .mov (t 5)⟩,
    ⟨(some 184), (some (182, true)), .mov (t 10)⟩,
    ⟨(some 185), (some (182, true)), .idxL 2 (t 183) (t 184)⟩,
    ⟨(some 186), (some (182, true)), .fldA 1 (t 185)⟩,
    ⟨(some 187), (some (182, true)), .load1 (t 186)⟩,
    ⟨(some 188), (some (182, true)), .mov (t 7)⟩,
    ⟨(some 189), (some (182, true)), .mov (t 11)⟩,
    ⟨(some 190), (some (182, true)), .idxL 2 (t 188) (t 189)⟩,
    ⟨(some 191), (some (182, true)), .fldA 1 (t 190)⟩,
    ⟨(some 192), (some (182, true)), .load1 (t 191)⟩,
    ⟨(some 193), (some (182, true)), .pcall C_glob_common [(t 187), (t 192)]⟩,
    ⟨(some 194), (some (144, false)), .pick (t 182) (t 193) (.const (.bool false))⟩,
    ⟨(some 195), none, .pick (t 144) (.const (.bool true)) (t 194)⟩,
    ⟨(some 196), none, .idxL 1 (t 54) (t 55)⟩,
    ⟨none, none, .stor1 (t 196) (t 195)⟩]
/-- quilt/glob.Overlap -/
def ir_glob_Overlap : IF := ⟨(.seq (.ops [⟨(some 4), none, .mov (.const (.bool false))⟩])
  (.seq (.ops [⟨(some 13), none, .mov (t 0)⟩,
    ⟨(some 14), none, .pcall C_glob_parse [(t 13)]⟩,
    ⟨(some 12), none, .mov (t 14)⟩,
    ⟨(some 15), none, .extr (t 12) 0⟩,
    ⟨(some 16), none, .extr (t 12) 1⟩,
    ⟨(some 5), none, .mov (t 15)⟩,
    ⟨(some 6), none, .mov (t 16)⟩])
  (.seq (.ops [⟨(some 18), none, .mov (t 1)⟩,
    ⟨(some 19), none, .pcall C_glob_parse [(t 18)]⟩,
    ⟨(some 17), none, .mov (t 19)⟩,
    ⟨(some 20), none, .extr (t 17) 0⟩,
    ⟨(some 21), none, .extr (t 17) 1⟩,
    ⟨(some 7), none, .mov (t 20)⟩,
    ⟨(some 8), none, .mov (t 21)⟩])
  (.seq (.seq (.ops [⟨(some 22), none, .mov (t 6)⟩,
    ⟨(some 23), none, .bin .neq (t 22) (ci 0)⟩,
    ⟨(some 24), none, .mov (t 23)⟩,
    ⟨(some 25), (some (24, false)), .mov (t 8)⟩,
    ⟨(some 26), (some (24, false)), .bin .neq (t 25) (ci 0)⟩,
    ⟨(some 27), none, .pick (t 24) (.const (.bool true)) (t 26)⟩])
  (.cond (t 27) (.seq (.ops [⟨(some 4), none, .mov (.const (.bool false))⟩])
  .ret)
  .skip))
  (.seq (.ops [⟨(some 28), none, .mov (t 5)⟩,
    ⟨(some 29), none, .lenL (t 28)⟩,
    ⟨(some 30), none, .bin .add (t 29) (ci 1)⟩,
    ⟨(some 31), none, .mksl 1 24 [.raw (.slice none 0 0)] (t 30) (t 30)⟩,
    ⟨(some 9), none, .mov (t 31)⟩])
  (.seq (.seq (.ops [⟨(some 32), none, .mov (t 5)⟩,
    ⟨(some 33), none, .lenL (t 32)⟩,
    ⟨(some 10), none, .mov (t 33)⟩])
  (.block 0 (.loop (.seq (.seq (.ops [⟨(some 34), none, .mov (t 10)⟩,
    ⟨(some 35), none, .bin .geq (t 34) (ci 0)⟩])
  (.cond (t 35) .skip
  (.exit 0)))
  (.seq (.block 1 (.seq (.ops [⟨(some 38), none, .mov (t 9)⟩,
    ⟨(some 39), none, .mov (t 10)⟩,
    ⟨(some 40), none, .mov (t 7)⟩,
    ⟨(some 41), none, .lenL (t 40)⟩,
    ⟨(some 42), none, .bin .add (t 41) (ci 1)⟩,
    ⟨(some 43), none, .mksl 1 1 [.bool false] (t 42) (t 42)⟩,
    ⟨(some 44), none, .idxL 1 (t 38) (t 39)⟩,
    ⟨none, none, .stor1 (t 44) (t 43)⟩])
  (.seq (.ops [⟨(some 45), none, .mov (t 7)⟩,
    ⟨(some 46), none, .lenL (t 45)⟩,
    ⟨(some 11), none, .mov (t 46)⟩])
  (.block 2 (.loop (.seq (.jn (.seq (.ops [⟨(some 47), none, .mov (t 11)⟩,
    ⟨(some 48), none, .bin .geq (t 47) (ci 0)⟩])
  (.cond (t 48) .skip
  (.exit 2))))
  (.seq (.block 3 (.jn (.ops ov_ops)))
  (.ops [⟨(some 49), none, .mov (t 11)⟩,
    ⟨(some 50), none, .bin .sub (t 49) (ci 1)⟩,
    ⟨(some 11), none, .mov (t 50)⟩]))))))))
  (.ops [⟨(some 36), none, .mov (t 10)⟩,
    ⟨(some 37), none, .bin .sub (t 36) (ci 1)⟩,
    ⟨(some 10), none, .mov (t 37)⟩]))))))
  (.seq (.ops [⟨(some 197), none, .mov (t 9)⟩,
    ⟨(some 198), none, .idxL 1 (t 197) (ci 0)⟩,
    ⟨(some 199), none, .load1 (t 198)⟩,
    ⟨(some 200), none, .idxL 1 (t 199) (ci 0)⟩,
    ⟨(some 201), none, .load1 (t 200)⟩,
    ⟨(some 4), none, .mov (t 201)⟩])
  .ret))))))), [.tmp 4]⟩
/-- quilt/glob.Fixed -/
def ir_glob_Fixed : IF := ⟨(.seq (.ops [⟨(some 2), none, .mov (.const (.string ⟨#[]⟩))⟩])
  (.seq (.ops [⟨(some 13), none, .mov (t 0)⟩,
    ⟨(some 14), none, .pcall C_glob_parse [(t 13)]⟩,
    ⟨(some 12), none, .mov (t 14)⟩,
    ⟨(some 15), none, .extr (t 12) 0⟩,
    ⟨(some 16), none, .extr (t 12) 1⟩,
    ⟨(some 3), none, .mov (t 15)⟩,
    ⟨(some 4), none, .mov (t 16)⟩])
  (.seq (.seq (.ops [⟨(some 17), none, .mov (t 4)⟩,
    ⟨(some 18), none, .bin .neq (t 17) (ci 0)⟩])
  (.cond (t 18) (.seq (.ops [⟨(some 2), none, .mov (.const (.string ⟨#[]⟩))⟩])
  .ret)
  .skip))
  (.seq (.jn (.ops [⟨(some 5), none, .newb [.raw (.pointer none), .raw (.slice none 0 0)]⟩]))
  (.seq (.seq (.ops [⟨(some 19), none, .mov (t 3)⟩,
    ⟨(some 20), none, .lenL (t 19)⟩,
    ⟨(some 21), none, .mov (ci 0)⟩])
  (.block 0 (.loop (.seq (.ops [⟨(some 22), none, .bin .lss (t 21) (t 20)⟩])
  (.seq (.cond (t 22) .skip
  (.exit 0))
  (.seq (.block 1 (.seq (.ops [⟨(some 23), none, .mov (t 21)⟩,
    ⟨(some 24), none, .idxL 2 (t 19) (t 21)⟩,
    ⟨(some 25), none, .loadN 2 (t 24)⟩,
    ⟨(some 7), none, .alloc [.bool false, .raw (.slice none 0 0)]⟩,
    ⟨(some 6), none, .mov (t 23)⟩,
    ⟨none, none, .storN 2 (t 7) (t 25)⟩])
  (.seq (.seq (.ops [⟨(some 26), none, .fldA 0 (t 7)⟩,
    ⟨(some 27), none, .load1 (t 26)⟩])
  (.cond (t 27) (.seq (.seq (.ops [⟨(some 28), none, .mov (t 3)⟩,
    ⟨(some 29), none, .mov (t 6)⟩,
    ⟨(some 30), none, .slL 2 (t 28) (some (t 29)) none⟩,
    ⟨(some 31), none, .lenL (t 30)⟩,
    ⟨(some 32), none, .mov (ci 0)⟩])
  (.block 2 (.loop (.seq (.ops [⟨(some 33), none, .bin .lss (t 32) (t 31)⟩])
  (.seq (.cond (t 33) .skip
  (.exit 2))
  (.seq (.block 3 (.seq (.ops [⟨(some 34), none, .idxL 2 (t 30) (t 32)⟩,
    ⟨(some 35), none, .loadN 2 (t 34)⟩,
    ⟨(some 9), none, .alloc [.bool false, .raw (.slice none 0 0)]⟩,
    ⟨none, none, .storN 2 (t 9) (t 35)⟩])
  (.seq (.ops [⟨(some 36), none, .fldA 0 (t 9)⟩,
    ⟨(some 37), none, .load1 (t 36)⟩,
    ⟨(some 38), none, .not (t 37)⟩,
    ⟨(some 39), none, .mov (t 38)⟩,
    ⟨(some 40), (some (39, true)), .mov (t 6)⟩,
    ⟨(some 41), (some (39, true)), .bin .gtr (t 40) (ci 0)⟩,
    ⟨(some 42), none, .pick (t 39) (t 41) (.const (.bool false))⟩])
  (.cond (t 42) (.seq (.sops [.call none (some 43) H___strings_Builder__String [(t 5)],
    .op ⟨(some 44), none, .bin .add (t 43) (.const (.string ⟨#[47]⟩))⟩,
    .op ⟨(some 2), none, .mov (t 44)⟩])
  .ret)
  .skip))))
  (.ops [⟨(some 45), none, .bin .add (t 32) (ci 1)⟩,
    ⟨(some 32), none, .mov (t 45)⟩])))))))
  (.seq (.sops [.call none (some 46) H___strings_Builder__String [(t 5)],
    .op ⟨(some 2), none, .mov (t 46)⟩])
  .ret))
  .skip))
  (.seq (.seq (.ops [⟨(some 47), none, .mov (t 6)⟩,
    ⟨(some 48), none, .bin .gtr (t 47) (ci 0)⟩])
  (.jn (.cond (t 48) (.sops [.call none (some 49) H___strings_Builder__WriteByte [(t 5), (.const (.int .u8 47))]])
  .skip)))
  (.seq (.ops [⟨(some 50), none, .fldA 1 (t 7)⟩,
    ⟨(some 51), none, .load1 (t 50)⟩,
    ⟨(some 52), none, .lenL (t 51)⟩,
    ⟨(some 53), none, .mov (ci 0)⟩])
  (.block 4 (.loop (.seq (.ops [⟨(some 54), none, .bin .lss (t 53) (t 52)⟩])
  (.seq (.cond (t 54) .skip
  (.exit 4))
  (.seq (.block 5 (.seq (.ops [⟨(some 55), none, .idxL 4 (t 51) (t 53)⟩,
    ⟨(some 56), none, .loadN 4 (t 55)⟩,
    ⟨(some 11), none, .alloc [.bool false, .bool false, .int .u8 0, .raw .nilFunc]⟩,
    ⟨none, none, .storN 4 (t 11) (t 56)⟩])
  (.seq (.seq (.ops [⟨(some 57), none, .fldA 1 (t 11)⟩,
    ⟨(some 58), none, .load1 (t 57)⟩,
    ⟨(some 59), none, .not (t 58)⟩])
  (.cond (t 59) (.seq (.sops [.call none (some 60) H___strings_Builder__String [(t 5)],
    .op ⟨(some 2), none, .mov (t 60)⟩])
  .ret)
  .skip))
  (.sops [.op ⟨(some 61), none, .fldA 2 (t 11)⟩,
    .op ⟨(some 62), none, .load1 (t 61)⟩,
    .call none (some 63) H___strings_Builder__WriteByte [(t 5), (t 62)]]))))
  (.ops [⟨(some 64), none, .bin .add (t 53) (ci 1)⟩,
    ⟨(some 53), none, .mov (t 64)⟩])))))))))))
  (.ops [⟨(some 65), none, .bin .add (t 21) (ci 1)⟩,
    ⟨(some 21), none, .mov (t 65)⟩])))))))
  (.seq (.sops [.call none (some 66) H___strings_Builder__String [(t 5)],
    .op ⟨(some 2), none, .mov (t 66)⟩])
  .ret)))))), [.tmp 2]⟩

end Qk

/-
  Chapter 32: the search for a string that two component patterns have in common.
-/
namespace Qk
open Go Go.RowKit

def accS (a b : List El) (p : Nat × Nat) : Prop := ∃ s : List UInt8, (∀ c ∈ s, c ≠ 47) ∧ gm El.isStar El.fit (a.drop p.1) s = true ∧ gm El.isStar El.fit (b.drop p.2) s = true
def sucP (a b : List El) (c : UInt8) (p q : Nat × Nat) : Prop := q.1 ∈ aftE c p.1 (a.drop p.1) ∧ q.2 ∈ aftE c p.2 (b.drop p.2)
def endP (a b : List El) (p : Nat × Nat) : Prop := (a.drop p.1).all El.isStar = true ∧ (b.drop p.2).all El.isStar = true
def doneP (a b : List El) (M : List (Nat × Nat)) (p : Nat × Nat) : Prop := ¬ endP a b p ∧ ∀ c, c ≠ 47 → ∀ q, sucP a b c p q → q ∈ M

structure InvM (a b : List El) (x : Nat × Nat → Prop) (M W : List (Nat × Nat)) : Prop where
  w : ∀ p ∈ W, p ∈ M
  bd : ∀ p ∈ M, p.1 ≤ a.length ∧ p.2 ≤ b.length
  snd : ∀ p ∈ M, accS a b p → accS a b (0, 0)
  cl : ∀ p ∈ M, p ∈ W ∨ x p ∨ doneP a b M p
  zero : (0, 0) ∈ M

theorem acc_suc {a b : List El} {c : UInt8} {p q : Nat × Nat} (hc : c ≠ 47) (h : sucP a b c p q) (hq : accS a b q) : accS a b p := by
  obtain ⟨s, h1, h2, h3⟩ := hq
  refine ⟨c :: s, ?_, ?_, ?_⟩
  · intro d hd
    rcases List.mem_cons.1 hd with rfl | hd
    · exact hc
    · exact h1 d hd
  · rw [aft_ok c s a _ p.1 rfl, List.any_eq_true]
    exact ⟨q.1, h.1, h2⟩
  · rw [aft_ok c s b _ p.2 rfl, List.any_eq_true]
    exact ⟨q.2, h.2, h3⟩
theorem acc_end {a b : List El} {p : Nat × Nat} (h : endP a b p) : accS a b p := ⟨[], (fun c hc => by cases hc), by rw [gm_nil_all]; exact h.1, by rw [gm_nil_all]; exact h.2⟩

theorem InvM.start (a b : List El) : InvM a b (fun _ => False) [(0, 0)] [(0, 0)] :=
  ⟨fun _ h => h, fun p hp => by rw [List.mem_singleton.1 hp]; exact ⟨Nat.zero_le _, Nat.zero_le _⟩, fun p hp h => by rw [List.mem_singleton.1 hp] at h; exact h, fun p hp => .inl hp, by simp⟩
theorem InvM.pop {a b : List El} {M W : List (Nat × Nat)} {x : Nat × Nat} (h : InvM a b (fun _ => False) M (W ++ [x])) : InvM a b (fun p => p = x) M W ∧ x ∈ M := by
  refine ⟨⟨fun p hp => h.w p (by simp [hp]), h.bd, h.snd, fun p hp => ?_, h.zero⟩, h.w x (by simp)⟩
  rcases h.cl p hp with h1 | h1 | h1
  · rcases List.mem_append.1 h1 with h2 | h2
    · exact .inl h2
    · exact .inr (.inl (List.mem_singleton.1 h2))
  · exact h1.elim
  · exact .inr (.inr h1)
theorem InvM.add {a b : List El} {M W : List (Nat × Nat)} {x q : Nat × Nat} {c : UInt8} (h : InvM a b (fun p => p = x) M W) (hx : x ∈ M) (hc : c ≠ 47) (hs : sucP a b c x q) : InvM a b (fun p => p = x) (q :: M) (W ++ [q]) := by
  refine ⟨?_, ?_, ?_, ?_, by simp [h.zero]⟩
  · intro p hp
    rcases List.mem_append.1 hp with h1 | h1
    · simp [h.w p h1]
    · simp at h1; simp [h1]
  · intro p hp
    rcases List.mem_cons.1 hp with rfl | hp
    · have hb := h.bd x hx
      exact ⟨(aft_le hb.1 hs.1).2, (aft_le hb.2 hs.2).2⟩
    · exact h.bd p hp
  · intro p hp hacc
    rcases List.mem_cons.1 hp with rfl | hp
    · exact h.snd x hx (acc_suc hc hs hacc)
    · exact h.snd p hp hacc
  · intro p hp
    rcases List.mem_cons.1 hp with rfl | hp
    · exact .inl (by simp)
    · rcases h.cl p hp with h1 | h1 | h1
      · exact .inl (by simp [h1])
      · exact .inr (.inl h1)
      · exact .inr (.inr ⟨h1.1, fun c hc q hq => by simp [h1.2 c hc q hq]⟩)
theorem InvM.done {a b : List El} {M W : List (Nat × Nat)} {x : Nat × Nat} (h : InvM a b (fun p => p = x) M W) (hx : doneP a b M x) : InvM a b (fun _ => False) M W := by
  refine ⟨h.w, h.bd, h.snd, fun p hp => ?_, h.zero⟩
  rcases h.cl p hp with h1 | h1 | h1
  · exact .inl h1
  · subst h1; exact .inr (.inr hx)
  · exact .inr (.inr h1)
theorem InvM.none {a b : List El} {M : List (Nat × Nat)} (h : InvM a b (fun _ => False) M []) : ¬ accS a b (0, 0) := by
  have key : ∀ (s : List UInt8), (∀ c ∈ s, c ≠ 47) → ∀ p ∈ M, gm El.isStar El.fit (a.drop p.1) s = true → gm El.isStar El.fit (b.drop p.2) s = true → False := by
    intro s
    induction s with
    | nil =>
      intro _ p hp h1 h2
      rw [gm_nil_all] at h1 h2
      rcases h.cl p hp with h3 | h3 | h3
      · cases h3
      · exact h3
      · exact h3.1 ⟨h1, h2⟩
    | cons c s ih =>
      intro hs p hp h1 h2
      rw [aft_ok c s a _ p.1 rfl, List.any_eq_true] at h1
      rw [aft_ok c s b _ p.2 rfl, List.any_eq_true] at h2
      obtain ⟨i, hi, g1⟩ := h1
      obtain ⟨j, hj, g2⟩ := h2
      rcases h.cl p hp with h3 | h3 | h3
      · cases h3
      · exact h3
      · exact ih (fun d hd => hs d (by simp [hd])) (i, j) (h3.2 c (hs c (by simp)) (i, j) ⟨hi, hj⟩) g1 g2
  rintro ⟨s, h1, h2, h3⟩
  exact key s h1 (0, 0) h.zero h2 h3

theorem acc_gov {a b : List El} (ha : ∀ e ∈ a, e.good ∧ ∀ c, e.fit c = true → c ≠ 47) (hb : ∀ e ∈ b, e.good ∧ ∀ c, e.fit c = true → c ≠ 47) : accS a b (0, 0) ↔ gov El.isStar El.meet a b = true := by
  unfold accS
  constructor
  · rintro ⟨s, _, h2, h3⟩
    refine gov_of _ a b s (Nat.le_refl _) ?_ h2 h3
    intro e he f hf c _ _ _ h4 h5
    exact someB_iff.2 ⟨c, by rw [h4, h5]; rfl⟩
  · intro h
    obtain ⟨s, h1, h2, h3⟩ := gov_common (fun c : UInt8 => c ≠ 47) _ a b (Nat.le_refl _) (fun e he hs => by obtain ⟨c, hc⟩ := (ha e he).1 hs; exact ⟨c, (ha e he).2 c hc, hc⟩)
      (fun e he hs => by obtain ⟨c, hc⟩ := (hb e he).1 hs; exact ⟨c, (hb e he).2 c hc, hc⟩)
      (fun e he f hf hm => by
        obtain ⟨c, hc⟩ := someB_iff.1 hm
        rw [Bool.and_eq_true] at hc
        exact ⟨c, (ha e he).2 c hc.1, hc.1, hc.2⟩) h
    exact ⟨s, h1, h2, h3⟩

/-- How many pairs are left. -/
def allP (na nb : Nat) : List (Nat × Nat) := (List.range (na + 1)).flatMap fun i => (List.range (nb + 1)).map fun j => (i, j)
def leftM (na nb : Nat) (M : List (Nat × Nat)) : Nat := ((allP na nb).filter fun p => !decide (p ∈ M)).length
theorem allP_mem {na nb : Nat} {p : Nat × Nat} (h : p.1 ≤ na ∧ p.2 ≤ nb) : p ∈ allP na nb := by
  unfold allP
  rw [List.mem_flatMap]
  exact ⟨p.1, List.mem_range.2 (by omega), List.mem_map.2 ⟨p.2, List.mem_range.2 (by omega), rfl⟩⟩
theorem leftM_lt {na nb : Nat} {M : List (Nat × Nat)} {q : Nat × Nat} (h : q.1 ≤ na ∧ q.2 ≤ nb) (hq : q ∉ M) : leftM na nb (q :: M) < leftM na nb M := by
  apply filter_lt
  · intro x _ h
    simp only [List.mem_cons, Bool.not_eq_true', decide_eq_false_iff_not] at h ⊢
    exact fun h2 => h (.inr h2)
  · exact ⟨q, allP_mem h, by simpa using hq, by simp⟩
theorem allP_len (na nb : Nat) : (allP na nb).length = (na + 1) * (nb + 1) := by
  unfold allP
  generalize na + 1 = k
  induction k with
  | zero => simp
  | succ k ih => rw [List.range_succ (n := k), List.flatMap_append, List.length_append, ih, Nat.succ_mul]; simp
theorem leftM_le (na nb : Nat) (M : List (Nat × Nat)) : leftM na nb M ≤ (na + 1) * (nb + 1) := by
  rw [← allP_len]
  exact List.length_filter_le _ _
def muM (na nb : Nat) (M W : List (Nat × Nat)) : Nat := 2 * leftM na nb M + W.length

/-- The map of the pairs that have been met. -/
def kp (p : Nat × Nat) : AV := .agg [ki p.1, ki p.2]
theorem kp_inj {p q : Nat × Nat} : kp p = kp q ↔ p = q := by
  constructor
  · intro h
    obtain ⟨a, b⟩ := p
    obtain ⟨c, d⟩ := q
    simp only [kp, AV.agg.injEq, List.cons.injEq, and_true] at h
    rw [ki_inj.1 h.1, ki_inj.1 h.2]
  · intro h; rw [h]
def mtM (M : List (Nat × Nat)) : AV → AV → Prop := fun k v => ∃ p, p ∈ M ∧ k = kp p ∧ v = .bool true
def mtO (M : List (Nat × Nat)) : AO := .opq (mapR ⟨false, [some (some .i64), some (some .i64)], mtM M⟩)
theorem putM_mt (M : List (Nat × Nat)) (q : Nat × Nat) : putM (mtM M) (kp q) (.bool true) = mtM (q :: M) := by
  funext k v
  apply propext
  unfold putM mtM
  constructor
  · rintro (⟨rfl, rfl⟩ | ⟨h, p, hp, rfl, rfl⟩)
    · exact ⟨q, by simp, rfl, rfl⟩
    · exact ⟨p, by simp [hp], rfl, rfl⟩
  · rintro ⟨p, hp, rfl, rfl⟩
    by_cases h : p = q
    · subst h; exact .inl ⟨rfl, rfl⟩
    · rcases List.mem_cons.1 hp with h2 | h2
      · exact absurd h2 h
      · exact .inr ⟨fun e => h (kp_inj.1 e), p, h2, rfl, rfl⟩
theorem noM_mt : noM = mtM [] := by
  funext k v
  apply propext
  unfold noM mtM
  constructor
  · intro h; exact h.elim
  · rintro ⟨_, h, _⟩; cases h
def flatW (W : List (Nat × Nat)) : List AV := W.flatMap fun p => [ki p.1, ki p.2]
theorem flatW_len (W : List (Nat × Nat)) : (flatW W).length = W.length * 2 := by
  induction W with
  | nil => rfl
  | cons p W ih => rw [flatW, List.flatMap_cons, List.length_append]; unfold flatW at ih; rw [ih, List.length_cons]; simp; omega
theorem flatW_app (W : List (Nat × Nat)) (p : Nat × Nat) : flatW (W ++ [p]) = flatW W ++ [ki p.1, ki p.2] := by simp [flatW]
theorem nnl_flatW (W : List (Nat × Nat)) : NNL (flatW W) := nnl_flat (fun _ => nnl_cons (plain_int _ _).nn (nnl_one (plain_int _ _).nn)) W
theorem kp_ok (p : Nat × Nat) : kOk false [some (some .i64), some (some .i64)] (kp p) := ⟨_, rfl, rfl, rfl, trivial⟩

end Qk

/-
  Chapter 32: what two component patterns have in common.
-/
namespace Qk
open Go Go.RowKit

abbrev Pairs := List (Nat × Nat)
def CB (b : List El) (M : Pairs) : List (Nat × AO) := [(0, .cl false [elsA b]), (1, mtO M), (2, .cl false [.hnd 1])]
/-- At the head of the search. -/
def CH0 (b : List El) (s : Pairs × Pairs) : List (Nat × AO) := [(0, .cl false [elsA b]), (1, mtO s.1), (2, .cl false [.hnd 1]), (3, .ls false 2 (flatW s.2)), (4, .cl false [.sl 3 0 s.2.length])]
def CH1 (b : List El) (x : Nat × Nat) (s : Pairs × Pairs) : List (Nat × AO) := [(0, .cl false [elsA b]), (1, mtO s.1), (2, .cl false [.hnd 1]), (3, .ls false 2 (flatW s.2)), (4, .cl false [.sl 3 0 s.2.length]), (5, .cl false [ki x.1, ki x.2])]
/-- Within the outer range. -/
def CHo (b : List El) (x : Nat × Nat) (c : Nat) (s : Pairs × Pairs) (i : Nat) : List (Nat × AO) := [(0, .cl false [elsA b]), (1, mtO s.1), (2, .cl false [.hnd 1]), (4, .cl false [.sl 8 0 s.2.length]), (5, .cl false [ki x.1, ki x.2]),
  (6, .cl false [ki c]), (7, .cl false [.int .i64 i]), (8, .ls false 2 (flatW s.2))]
/-- Within the inner range. -/
def CHi (b : List El) (x : Nat × Nat) (c : Nat) (i j : Nat) (s : Pairs × Pairs) (k : Nat) : List (Nat × AO) := [(0, .cl false [elsA b]), (1, mtO s.1), (2, .cl false [.hnd 1]), (4, .cl false [.sl 11 0 s.2.length]), (5, .cl false [ki x.1, ki x.2]),
  (6, .cl false [ki c]), (7, .cl false [.int .i64 i]), (9, .cl false [ki j]), (10, .cl false [.int .i64 k]), (11, .ls false 2 (flatW s.2))]

/-- A pair at hand. -/
def CHk (b : List El) (x : Nat × Nat) (c : Nat) (i j : Nat) (s : Pairs × Pairs) (k k2 : Nat) : List (Nat × AO) := [(0, .cl false [elsA b]), (1, mtO s.1), (2, .cl false [.hnd 1]), (4, .cl false [.sl 11 0 s.2.length]), (5, .cl false [ki x.1, ki x.2]),
  (6, .cl false [ki c]), (7, .cl false [.int .i64 i]), (9, .cl false [ki j]), (10, .cl false [.int .i64 k]), (11, .ls false 2 (flatW s.2)), (12, .cl false [ki j, ki k2])]

theorem allTwo {a b : AV} (h1 : a.isOne = true) (h2 : b.isOne = true) : AllOne [a, b] := by
  intro x hx
  simp only [List.mem_cons, List.not_mem_nil, or_false] at hx
  rcases hx with rfl | rfl <;> assumption
theorem nnl_ki (i : Nat) : NNL [ki i] := nnl_one (plain_int _ _).nn
theorem nnl_kis (i j : Nat) : NNL [ki i, ki j] := nnl_cons (plain_int _ _).nn (nnl_ki j)
theorem u8k {c : Nat} (h : c < 256) : AV.int .u8 ((c : Int) % 256) = .int .u8 ((UInt8.ofNat c).toNat : Int) := by
  rw [ofNat_toNat' h]
  have : (c : Int) % 256 = c := by omega
  rw [this]
where ofNat_toNat' {i : Nat} (h : i < 256) : (UInt8.ofNat i).toNat = i := by simp; omega

/-- What holds while a pair is at hand. -/
def okX (a b : List El) (x : Nat × Nat) (B : Nat) (s : Pairs × Pairs) : Prop := InvM a b (fun p => p = x) s.1 s.2 ∧ x ∈ s.1 ∧ muM a.length b.length s.1 s.2 ≤ B

set_option maxRecDepth 4000 in
set_option maxHeartbeats 10000000 in
theorem d_common : Does ir_glob_common C_glob_common := by
  rintro ⟨a, b⟩ ⟨⟨⟨hwa, hla0⟩, hla, hga⟩, ⟨⟨hwb, hlb0⟩, hlb, hgb⟩⟩
  dsimp only at hwa hla0 hla hga hwb hlb0 hlb hgb
  have acc := acc_gov hga hgb
  have hbig : (a.length + 1) * (b.length + 1) ≤ 1001 * 1001 := Nat.mul_le_mul (by omega) (by omega)
  refine And.intro rfl ?_
  refine ⟨noM, ⟨rfl, ⟨_, rfl, rfl, rfl, trivial⟩, (plain_bool true).nn⟩, ?_⟩
  refine And.intro (show 0 < 1 by decide) ?_
  refine And.intro rfl ?_
  refine And.intro (show 0 < 1 by decide) ?_
  have e0 : AO.opq (mapR ⟨false, [some (some .i64), some (some .i64)], putM noM (kp (0, 0)) (.bool true)⟩) = mtO [(0, 0)] := by rw [noM_mt, putM_mt]; rfl
  refine ⟨Pairs × Pairs, fun s => InvM a b (fun _ => False) s.1 s.2 ∧ muM a.length b.length s.1 s.2 ≤ 2004003, fun s => mks [(0, elsA a), (3, .ref 0 0), (5, .ref 2 0), (6, .ref 4 0)] (CH0 b s) 5,
    fun s => muM a.length b.length s.1 s.2, ([(0, 0)], [(0, 0)]), ⟨InvM.start a b, ?_⟩, ?_, ?_⟩
  · have := leftM_le a.length b.length [(0, 0)]
    show 2 * leftM a.length b.length [(0, 0)] + 1 ≤ _
    omega
  · refine sub_ren [0, 1, 2, 3, 4] rfl (by decide) ⟨⟨_, rfl, rfl⟩, ⟨_, rfl, ⟨0, rfl, rfl⟩⟩, ⟨_, rfl, ⟨2, rfl, rfl⟩⟩, ⟨_, rfl, ⟨4, rfl, rfl⟩⟩, trivial⟩ ⟨⟨0, _, rfl, rfl, ?_⟩, ⟨1, _, rfl, rfl, ?_⟩, ⟨2, _, rfl, rfl, ?_⟩, ⟨3, _, rfl, rfl, ?_⟩, ⟨4, _, rfl, rfl, ?_⟩, trivial⟩
    · exact ⟨_, rfl, eN (nnl_one (nn_ilist _ _ _)) rfl⟩
    · exact .inl ⟨e0, _, rfl⟩
    · exact ⟨_, rfl, .inr ⟨_, _, rfl, ⟨1, rfl, rfl⟩, rfl⟩⟩
    · exact ⟨_, rfl, eN (nnl_flatW _) rfl⟩
    · exact ⟨_, rfl, .inr ⟨_, _, rfl, ⟨3, rfl, rfl⟩, rfl⟩⟩
  · rintro ⟨M, W⟩ ⟨inv, hmu⟩
    dsimp only at inv hmu
    refine ⟨_, rfl, ?_⟩
    refine cond_split (fun h => ?_) (fun h => ?_)
    · have hT : (0 : Int) < W.length := of_decide_eq_true h
      obtain ⟨W', x, rfl⟩ : ∃ W' x, W = W' ++ [x] := by
        rcases List.eq_nil_or_concat W with h | ⟨W', x, h⟩
        · rw [h] at hT; simp at hT
        · exact ⟨W', x, by rw [h]; simp⟩
      have hwl : (W' ++ [x]).length = W'.length + 1 := by simp
      obtain ⟨inv, hxM⟩ := inv.pop
      have hxb := inv.bd x hxM
      have hmu2 : muM a.length b.length M W' + 1 ≤ muM a.length b.length M (W' ++ [x]) := by unfold muM; rw [hwl]; omega
      have lW := flatW_len (W' ++ [x])
      have lW' := flatW_len W'
      have hWb : W'.length ≤ 2004003 := by unfold muM at hmu2 hmu; omega
      refine ⟨_, rfl, ?_⟩
      refine ⟨_, rfl, ?_⟩
      refine And.intro (by dsimp only; omega) ?_
      refine And.intro ⟨rfl, by dsimp only; omega, by dsimp only; omega⟩ ?_
      refine ⟨[ki x.1, ki x.2], ⟨?_, rfl⟩, ?_⟩
      · have e1 : (0 + (((W' ++ [x]).length : Int) - 1).toNat) * 2 = W'.length * 2 := by rw [hwl]; omega
        dsimp only
        rw [e1]
        exact (flat_take (n := 2) (f := fun p : Nat × Nat => [ki p.1, ki p.2]) (fun _ => rfl) (W' ++ [x]) W'.length x (by simp)).symm
      refine And.intro ⟨rfl, allTwo rfl rfl⟩ ?_
      refine And.intro (Nat.le_refl 2) ?_
      refine ⟨_, lay_all rfl, ?_⟩
      refine jn_to ?_
      refine ⟨_, rfl, ?_⟩
      refine ⟨_, rfl, ?_⟩
      refine And.intro (by dsimp only; omega) ?_
      refine And.intro ⟨rfl, by decide, by dsimp only; omega, by dsimp only; omega⟩ ?_
      refine And.intro (show 0 < 1 by decide) ?_
      refine ⟨mks [(0, elsA a), (3, .ref 0 0), (5, .ref 2 0), (6, .ref 4 0), (7, .ref 5 0)] (CH1 b x (M, W')) 6, ?_, ?_⟩
      · refine SubSt.trans (sub_trim (m := 0) 3 (W'.length * 2) (τ := false) (e := 2) (cs := flatW (W' ++ [x])) rfl) ?_
        refine sub_to ⟨rfl, rfl, rfl, rfl, rfl, trivial⟩ ?_ (Nat.le_refl 6)
        refine heap_is [0, 1, 2, 3, 4, 5] (fun _ => none) (by (try dsimp only [St.set, mks]); (repeat (first | exact out_mkh rfl | refine out_upd ?_ (by decide)))) (out_mkh rfl) ⟨rfl, rfl, rfl, ?_, ?_, rfl, trivial⟩
        · show some (AO.ls false 2 ((flatW (W' ++ [x])).take (W'.length * 2))) = some (AO.ls false 2 (flatW W'))
          rw [flatW_app, List.take_append_of_le_length (by omega), List.take_of_length_le (by omega)]
        · show some (AO.cl false [.sl 3 (0 + (0 : Int).toNat) ((((W' ++ [x]).length : Int) - 1).toNat - (0 : Int).toNat)]) = some (AO.cl false [.sl 3 0 W'.length])
          have e1 : (((W' ++ [x]).length : Int) - 1).toNat - (0 : Int).toNat = W'.length := by rw [hwl]; omega
          rw [e1]; rfl
      obtain ⟨E, hE⟩ : ∃ E, E = ((a.drop x.1).all El.isStar && (b.drop x.2).all El.isStar) := ⟨_, rfl⟩
      refine jn_at (fun _ : Unit => mks [(0, elsA a), (3, .ref 0 0), (5, .ref 2 0), (6, .ref 4 0), (7, .ref 5 0), (40, .bool E)] (CH1 b x (M, W')) 6) (fun _ => True) ?_ ?_
      · refine ⟨_, rfl, ?_⟩
        refine ⟨(a, x.1), rfl, ⟨⟨hwa, hla0⟩, hxb.1⟩, ?_⟩
        refine cond_split (fun h => ?_) (fun h => ?_)
        · have h1 : (a.drop x.1).all El.isStar = true := h
          refine ⟨_, rfl, ?_⟩
          iterate 2 (refine cond_t h ?_)
          refine ⟨_, rfl, ?_⟩
          iterate 1 (refine cond_t h ?_)
          refine ⟨(b, x.2), rfl, ⟨⟨hwb, hlb0⟩, hxb.2⟩, ?_⟩
          refine ⟨(), trivial, sub_to ⟨rfl, rfl, rfl, rfl, rfl, congrArg some (eBo ?_), trivial⟩ rfl (Nat.le_refl 6)⟩
          show cond ((a.drop x.1).all El.isStar) ((b.drop x.2).all El.isStar) false = E
          rw [hE, h1]; rfl
        · have h1 : (a.drop x.1).all El.isStar = false := h
          iterate 4 (refine cond_f h ?_)
          refine ⟨(), trivial, sub_to ⟨rfl, rfl, rfl, rfl, rfl, congrArg some (eBo ?_), trivial⟩ rfl (Nat.le_refl 6)⟩
          rw [hE, h1]; rfl
      rintro _ _
      refine cond_split (fun h => ?_) (fun h => ?_)
      · have h1 : E = true := h
        rw [hE, Bool.and_eq_true] at h1
        refine ⟨_, (by first | exact SubSt.refl _ | exact SubTop.refl _), ?_⟩
        show AV.bool true = AV.bool (gov El.isStar El.meet a b)
        rw [acc.1 (inv.snd x hxM (acc_end h1))]
      have hne : ¬ endP a b x := by
        intro h2
        have h1 : E = false := h
        rw [hE, h2.1, h2.2] at h1
        cases h1
      obtain ⟨B0, hB0⟩ : ∃ B0, B0 = muM a.length b.length M W' := ⟨_, rfl⟩
      refine ⟨Nat × (Pairs × Pairs), fun y => y.1 ≤ 256 ∧ okX a b x B0 y.2 ∧ ∀ c, c < y.1 → c ≠ 47 → ∀ q, sucP a b (UInt8.ofNat c) x q → q ∈ y.2.1,
        fun y => mks [(0, elsA a), (3, .ref 0 0), (5, .ref 2 0), (6, .ref 4 0), (7, .ref 5 0), (41, ki y.1)] (CH1 b x y.2) 6, fun y => 256 - y.1, (0, (M, W')), ⟨Nat.zero_le _, ⟨inv, hxM, by rw [hB0]; exact Nat.le_refl _⟩, fun c h => absurd h (Nat.not_lt_zero _)⟩, ?_, ?_⟩
      · exact sub_to ⟨rfl, rfl, rfl, rfl, rfl, rfl, trivial⟩ rfl (Nat.le_refl 6)
      · rintro ⟨c, s⟩ ⟨hc, hs, hall⟩
        dsimp only at hc hs hall
        refine cond_split (fun h => ?_) (fun h => ?_)
        · have hT2 : (c : Int) < 256 := of_decide_eq_true h
          have hc2 : c < 256 := by omega
          refine jn_at (fun s' : Pairs × Pairs => mks [(0, elsA a), (3, .ref 0 0), (5, .ref 2 0), (6, .ref 4 0), (7, .ref 5 0), (41, ki c)] (CH1 b x s') 6)
            (fun s' => okX a b x B0 s' ∧ (∀ p ∈ s.1, p ∈ s'.1) ∧ (c ≠ 47 → ∀ q, sucP a b (UInt8.ofNat c) x q → q ∈ s'.1)) ?_ ?_
          · refine And.intro (show 0 < 1 by decide) ?_
            refine ⟨_, rfl, ?_⟩
            refine cond_split (fun h => ?_) (fun h => ?_)
            · have h47 : (c : Int) = 47 := of_decide_eq_true h
              refine ⟨s, ⟨hs, fun p hp => hp, fun h2 => absurd (by omega) h2⟩, ?_⟩
              refine sub_ren [0, 1, 2, 3, 4, 5] rfl (by decide) ⟨⟨_, rfl, rfl⟩, ⟨_, rfl, ⟨0, rfl, rfl⟩⟩, ⟨_, rfl, ⟨2, rfl, rfl⟩⟩, ⟨_, rfl, ⟨4, rfl, rfl⟩⟩, ⟨_, rfl, ⟨5, rfl, rfl⟩⟩, ⟨_, rfl, rfl⟩, trivial⟩ ⟨⟨0, _, rfl, rfl, ?_⟩, ⟨1, _, rfl, rfl, ?_⟩, ⟨2, _, rfl, rfl, ?_⟩, ⟨3, _, rfl, rfl, ?_⟩, ⟨4, _, rfl, rfl, ?_⟩, ⟨5, _, rfl, rfl, ?_⟩, trivial⟩
              · exact ⟨_, rfl, eN (nnl_one (nn_ilist _ _ _)) rfl⟩
              · exact .inl ⟨rfl, _, rfl⟩
              · exact ⟨_, rfl, .inr ⟨_, _, rfl, ⟨1, rfl, rfl⟩, rfl⟩⟩
              · exact ⟨_, rfl, eN (nnl_flatW _) rfl⟩
              · exact ⟨_, rfl, .inr ⟨_, _, rfl, ⟨3, rfl, rfl⟩, rfl⟩⟩
              · exact ⟨_, rfl, eN (nnl_kis _ _) rfl⟩
            · have h47 : ¬ (c : Int) = 47 := of_decide_eq_false h
              obtain ⟨cc, hcc⟩ : ∃ cc, cc = UInt8.ofNat c := ⟨_, rfl⟩
              have hc47 : cc ≠ 47 := by
                intro e
                have h2 : cc.toNat = c := by rw [hcc]; simp; omega
                rw [e] at h2
                have h3 : (47 : UInt8).toNat = 47 := rfl
                omega
              refine ⟨_, rfl, ?_⟩
              refine ⟨_, rfl, ?_⟩
              refine ⟨(a, x.1, cc), ?_, trivial, ?_⟩
              · show [elsA a, ki x.1, AV.int .u8 ((c : Int) % 256)] = [elsA a, AV.int .i64 x.1, AV.int .u8 (cc.toNat : Int)]
                rw [u8k hc2, ← hcc]; rfl
              refine t_after (n := 7) (i0 := x.1) (N1 := 9) (fun s1 i => mkh (CHo b x c s1 i)) (fun done s1 => okX a b x B0 s1 ∧ (∀ p ∈ s.1, p ∈ s1.1) ∧ ∀ i ∈ done, ∀ j ∈ aftE cc x.2 (b.drop x.2), (i, j) ∈ s1.1)
                hla0 hwa hxb.1 (fun _ _ => rfl) ?_ s ⟨hs, fun p hp => hp, fun i hi => by cases hi⟩ ?_ ?_ ?_
              · intro s1 i k
                exact heap_is [0, 1, 2, 3, 4, 5, 6, 7, 8] (fun _ => none) (out_upd (out_mkh rfl) (by decide)) (out_mkh rfl) ⟨rfl, rfl, rfl, rfl, rfl, rfl, rfl, rfl, rfl, trivial⟩
              · intro l
                show SubSt 8 _ (mks (EA 7 a cc l) (CHo b x c s x.1) 9)
                refine sub_renG [0, 1, 2, 3, 4, 5, 6, 7, 3] _ rfl (hfixOf 8 rfl (by decide)) rfl rfl ⟨⟨_, rfl, rfl⟩, ⟨_, rfl, ⟨7, rfl, rfl⟩⟩, ⟨_, rfl, rfl⟩, ⟨_, rfl, rfl⟩, trivial⟩ ⟨⟨0, _, rfl, rfl, ?_⟩, ⟨1, _, rfl, rfl, ?_⟩, ⟨2, _, rfl, rfl, ?_⟩, ⟨4, _, rfl, rfl, ?_⟩, ⟨5, _, rfl, rfl, ?_⟩, ⟨6, _, rfl, rfl, ?_⟩, ⟨7, _, rfl, rfl, ?_⟩, ⟨3, _, rfl, rfl, ?_⟩, trivial⟩
                · exact ⟨_, rfl, eN (nnl_one (nn_ilist _ _ _)) rfl⟩
                · exact .inl ⟨rfl, _, rfl⟩
                · exact ⟨_, rfl, .inr ⟨_, _, rfl, ⟨1, rfl, rfl⟩, rfl⟩⟩
                · exact ⟨_, rfl, .inr ⟨_, _, rfl, ⟨3, rfl, rfl⟩, rfl⟩⟩
                · exact ⟨_, rfl, eN (nnl_kis _ _) rfl⟩
                · exact ⟨_, rfl, eN (nnl_ki _) rfl⟩
                · exact ⟨_, rfl, eN (nnl_ki _) rfl⟩
                · exact ⟨_, rfl, eN (nnl_flatW _) rfl⟩
              · rintro done s1 i j J ⟨hs1, hsub1, hd1⟩ ⟨r, hr⟩ hJ
                have hjm : j ∈ aftE cc x.1 (a.drop x.1) := by rw [← hr]; simp
                refine And.intro rfl ?_
                refine And.intro (show 0 < 1 by decide) ?_
                refine ⟨_, rfl, ?_⟩
                refine ⟨_, rfl, ?_⟩
                refine ⟨_, rfl, ?_⟩
                refine ⟨(b, x.2, cc), ?_, trivial, ?_⟩
                · show [elsA b, ki x.2, AV.int .u8 ((c : Int) % 256)] = [elsA b, AV.int .i64 x.2, AV.int .u8 (cc.toNat : Int)]
                  rw [u8k hc2, ← hcc]; rfl
                refine t_after (n := 10) (i0 := x.2) (N1 := 12) (fun s2 k => mkh (CHi b x c i j s2 k)) (fun done2 s2 => okX a b x B0 s2 ∧ (∀ p ∈ s1.1, p ∈ s2.1) ∧ ∀ k ∈ done2, (j, k) ∈ s2.1)
                  hlb0 hwb hxb.2 (fun _ _ => rfl) ?_ s1 ⟨hs1, fun p hp => hp, fun k hk => by cases hk⟩ ?_ ?_ ?_
                · intro s2 k k2
                  exact heap_is [0, 1, 2, 3, 4, 5, 6, 7, 8, 9, 10, 11] (fun _ => none) (out_upd (out_mkh rfl) (by decide)) (out_mkh rfl) ⟨rfl, rfl, rfl, rfl, rfl, rfl, rfl, rfl, rfl, rfl, rfl, rfl, trivial⟩
                · intro l
                  show SubSt 11 _ (mks (EA 10 b cc l) (CHi b x c i j s1 x.2) 12)
                  refine sub_renG [0, 1, 2, 3, 4, 5, 6, 7, 8, 9, 10, 8] _ rfl (hfixOf 11 rfl (by decide)) rfl rfl ⟨⟨_, rfl, rfl⟩, ⟨_, rfl, ⟨10, rfl, rfl⟩⟩, ⟨_, rfl, rfl⟩, ⟨_, rfl, rfl⟩, trivial⟩ ⟨⟨0, _, rfl, rfl, ?_⟩, ⟨1, _, rfl, rfl, ?_⟩, ⟨2, _, rfl, rfl, ?_⟩, ⟨4, _, rfl, rfl, ?_⟩, ⟨5, _, rfl, rfl, ?_⟩, ⟨6, _, rfl, rfl, ?_⟩, ⟨7, _, rfl, rfl, ?_⟩, ⟨9, _, rfl, rfl, ?_⟩, ⟨10, _, rfl, rfl, ?_⟩, ⟨8, _, rfl, rfl, ?_⟩, trivial⟩
                  · exact ⟨_, rfl, eN (nnl_one (nn_ilist _ _ _)) rfl⟩
                  · exact .inl ⟨rfl, _, rfl⟩
                  · exact ⟨_, rfl, .inr ⟨_, _, rfl, ⟨1, rfl, rfl⟩, rfl⟩⟩
                  · exact ⟨_, rfl, .inr ⟨_, _, rfl, ⟨8, rfl, rfl⟩, rfl⟩⟩
                  · exact ⟨_, rfl, eN (nnl_kis _ _) rfl⟩
                  · exact ⟨_, rfl, eN (nnl_ki _) rfl⟩
                  · exact ⟨_, rfl, eN (nnl_ki _) rfl⟩
                  · exact ⟨_, rfl, eN (nnl_ki _) rfl⟩
                  · exact ⟨_, rfl, eN (nnl_ki _) rfl⟩
                  · exact ⟨_, rfl, eN (nnl_flatW _) rfl⟩
                · rintro done2 s2 i2 k J2 ⟨hs2, hsub2, hd2⟩ ⟨r2, hr2⟩ hJ2
                  have hkm : k ∈ aftE cc x.2 (b.drop x.2) := by rw [← hr2]; simp
                  have lW2 := flatW_len s2.2
                  have hsuc : sucP a b cc x (j, k) := ⟨hjm, hkm⟩
                  refine And.intro rfl ?_
                  refine ⟨_, rfl, ?_⟩
                  refine And.intro rfl ?_
                  refine And.intro ⟨rfl, allTwo rfl rfl⟩ ?_
                  refine And.intro (Nat.le_refl 2) ?_
                  refine ⟨_, lay_all rfl, ?_⟩
                  refine jn_at (fun _ : Unit => mks [(5, .ref 2 0), (6, .ref 4 0), (11, .ref 12 0), (66, .bool (!decide ((j, k) ∈ s2.1)))] (CHk b x c i j s2 i2 k) 13) (fun _ => True) ?_ ?_
                  · refine ⟨_, rfl, ?_⟩
                    refine ⟨[ki j, ki k], ⟨rfl, rfl⟩, ?_⟩
                    refine ⟨mtM s2.1, rfl, kp_ok (j, k), ?_⟩
                    by_cases hm : (j, k) ∈ s2.1
                    · refine ⟨some (.bool true), ⟨(j, k), hm, rfl, rfl⟩, ?_⟩
                      refine ⟨(), trivial, sub_to ⟨rfl, rfl, rfl, congrArg some (eBo ?_), trivial⟩ ?_ (Nat.le_refl 13)⟩
                      · rw [decide_eq_true hm]
                      · exact heap_is [0, 1, 2, 4, 5, 6, 7, 9, 10, 11, 12] (fun _ => none) (by (try dsimp only [St.set, mks]); (repeat (first | exact out_mkh rfl | refine out_upd ?_ (by decide)))) (out_mkh rfl) ⟨rfl, rfl, rfl, rfl, rfl, rfl, rfl, rfl, rfl, rfl, rfl, trivial⟩
                    · refine ⟨none, ?_, ?_⟩
                      · rintro v ⟨p, hp, e, _⟩
                        rw [← (kp_inj (p := (j, k))).1 e] at hp
                        exact hm hp
                      refine ⟨(), trivial, sub_to ⟨rfl, rfl, rfl, congrArg some (eBo ?_), trivial⟩ ?_ (Nat.le_refl 13)⟩
                      · rw [decide_eq_false hm]
                      · exact heap_is [0, 1, 2, 4, 5, 6, 7, 9, 10, 11, 12] (fun _ => none) (by (try dsimp only [St.set, mks]); (repeat (first | exact out_mkh rfl | refine out_upd ?_ (by decide)))) (out_mkh rfl) ⟨rfl, rfl, rfl, rfl, rfl, rfl, rfl, rfl, rfl, rfl, rfl, trivial⟩
                  rintro _ _
                  refine jn_plain ?_
                  refine cond_split (fun h => ?_) (fun h => ?_)
                  · have hm : ¬ (j, k) ∈ s2.1 := by
                      have h' : (!decide ((j, k) ∈ s2.1)) = true := h
                      simpa using h'
                    have hqb := (hs2.1.add hs2.2.1 hc47 hsuc).bd (j, k) (by simp)
                    have hlt := leftM_lt hqb hm
                    have hmu3 := hs2.2.2
                    have hWb2 : s2.2.length ≤ 2004003 := by unfold muM at hmu3 hmu hmu2 hB0; omega
                    refine ⟨_, rfl, ?_⟩
                    refine ⟨[ki j, ki k], ⟨rfl, rfl⟩, ?_⟩
                    refine ⟨mtM s2.1, ⟨rfl, kp_ok (j, k), (plain_bool true).nn⟩, ?_⟩
                    refine ⟨_, rfl, ?_⟩
                    refine ⟨[ki j, ki k], ⟨rfl, rfl⟩, ?_⟩
                    refine And.intro ⟨(show (11 : Nat) ≠ 13 by decide), rfl, rfl, rfl, lW2, (show (0 + 1) * 2 ≤ 2 by decide), allTwo rfl rfl, by omega⟩ ?_
                    refine ⟨_, rfl, ?_⟩
                    refine And.intro (show 0 < 1 by decide) ?_
                    refine hJ2 _ _ ((j, k) :: s2.1, s2.2 ++ [(j, k)]) ⟨⟨hs2.1.add hs2.2.1 hc47 hsuc, by simp [hs2.2.1], ?_⟩, fun p hp => by simp [hsub2 p hp], ?_⟩ (fun l => ?_)
                    · unfold muM at hmu3 ⊢
                      simp only [List.length_append, List.length_singleton]
                      omega
                    · intro k' hk'
                      rcases List.mem_append.1 hk' with h | h
                      · simp [hd2 k' h]
                      · rw [List.mem_singleton.1 h]; simp
                    · show SubSt 11 _ (mks (EA 10 b cc l) (CHi b x c i j ((j, k) :: s2.1, s2.2 ++ [(j, k)]) i2) 12)
                      refine sub_renG [0, 1, 2, 3, 4, 5, 6, 7, 8, 9, 10, 14] _ rfl (hfixOf 11 rfl (by decide)) rfl rfl ⟨⟨_, rfl, rfl⟩, ⟨_, rfl, ⟨10, rfl, rfl⟩⟩, ⟨_, rfl, rfl⟩, ⟨_, rfl, rfl⟩, trivial⟩ ⟨⟨0, _, rfl, rfl, ?_⟩, ⟨1, _, rfl, rfl, ?_⟩, ⟨2, _, rfl, rfl, ?_⟩, ⟨4, _, rfl, rfl, ?_⟩, ⟨5, _, rfl, rfl, ?_⟩, ⟨6, _, rfl, rfl, ?_⟩, ⟨7, _, rfl, rfl, ?_⟩, ⟨9, _, rfl, rfl, ?_⟩, ⟨10, _, rfl, rfl, ?_⟩, ⟨14, _, rfl, rfl, ?_⟩, trivial⟩
                      · exact ⟨_, rfl, eN (nnl_one (nn_ilist _ _ _)) rfl⟩
                      · refine .inl ⟨?_, _, rfl⟩
                        show AO.opq (mapR ⟨false, [some (some .i64), some (some .i64)], putM (mtM s2.1) (kp (j, k)) (.bool true)⟩) = mtO ((j, k) :: s2.1)
                        rw [putM_mt]; rfl
                      · exact ⟨_, rfl, .inr ⟨_, _, rfl, ⟨1, rfl, rfl⟩, rfl⟩⟩
                      · refine ⟨_, rfl, .inr ⟨_, _, rfl, ⟨14, rfl, ?_⟩, rfl⟩⟩
                        show AV.sl 14 0 (s2.2.length + 1) = AV.sl 14 0 (s2.2 ++ [(j, k)]).length
                        rw [List.length_append]; rfl
                      · exact ⟨_, rfl, eN (nnl_kis _ _) rfl⟩
                      · exact ⟨_, rfl, eN (nnl_ki _) rfl⟩
                      · exact ⟨_, rfl, eN (nnl_ki _) rfl⟩
                      · exact ⟨_, rfl, eN (nnl_ki _) rfl⟩
                      · exact ⟨_, rfl, eN (nnl_ki _) rfl⟩
                      · refine ⟨_, rfl, eN (nnl_flatW _) ?_⟩
                        show flatW s2.2 ++ [ki j, ki k] = flatW (s2.2 ++ [(j, k)])
                        exact (flatW_app s2.2 (j, k)).symm
                  · have hm : (j, k) ∈ s2.1 := by
                      have h' : (!decide ((j, k) ∈ s2.1)) = false := h
                      simpa using h'
                    refine hJ2 _ _ s2 ⟨hs2, hsub2, ?_⟩ (fun l => ?_)
                    · intro k' hk'
                      rcases List.mem_append.1 hk' with h | h
                      · exact hd2 k' h
                      · rw [List.mem_singleton.1 h]; exact hm
                    · show SubSt 11 _ (mks (EA 10 b cc l) (CHi b x c i j s2 i2) 12)
                      refine sub_renG [0, 1, 2, 3, 4, 5, 6, 7, 8, 9, 10, 11] _ rfl (hfixOf 11 rfl (by decide)) rfl rfl ⟨⟨_, rfl, rfl⟩, ⟨_, rfl, ⟨10, rfl, rfl⟩⟩, ⟨_, rfl, rfl⟩, ⟨_, rfl, rfl⟩, trivial⟩ ⟨⟨0, _, rfl, rfl, ?_⟩, ⟨1, _, rfl, rfl, ?_⟩, ⟨2, _, rfl, rfl, ?_⟩, ⟨4, _, rfl, rfl, ?_⟩, ⟨5, _, rfl, rfl, ?_⟩, ⟨6, _, rfl, rfl, ?_⟩, ⟨7, _, rfl, rfl, ?_⟩, ⟨9, _, rfl, rfl, ?_⟩, ⟨10, _, rfl, rfl, ?_⟩, ⟨11, _, rfl, rfl, ?_⟩, trivial⟩
                      · exact ⟨_, rfl, eN (nnl_one (nn_ilist _ _ _)) rfl⟩
                      · exact .inl ⟨rfl, _, rfl⟩
                      · exact ⟨_, rfl, .inr ⟨_, _, rfl, ⟨1, rfl, rfl⟩, rfl⟩⟩
                      · exact ⟨_, rfl, .inr ⟨_, _, rfl, ⟨11, rfl, rfl⟩, rfl⟩⟩
                      · exact ⟨_, rfl, eN (nnl_kis _ _) rfl⟩
                      · exact ⟨_, rfl, eN (nnl_ki _) rfl⟩
                      · exact ⟨_, rfl, eN (nnl_ki _) rfl⟩
                      · exact ⟨_, rfl, eN (nnl_ki _) rfl⟩
                      · exact ⟨_, rfl, eN (nnl_ki _) rfl⟩
                      · exact ⟨_, rfl, eN (nnl_flatW _) rfl⟩
                · rintro s2 i2 ⟨hs2, hsub2, hd2⟩
                  refine hJ _ _ s2 ⟨hs2, fun p hp => hsub2 p (hsub1 p hp), ?_⟩ (fun l => ?_)
                  · intro i' hi' j' hj'
                    rcases List.mem_append.1 hi' with h | h
                    · exact hsub2 _ (hd1 i' h j' hj')
                    · rw [List.mem_singleton.1 h]; exact hd2 j' hj'
                  · show SubSt 8 _ (mks (EA 7 a cc l) (CHo b x c s2 i) 9)
                    refine sub_renG [0, 1, 2, 3, 4, 5, 6, 7, 11] _ rfl (hfixOf 8 rfl (by decide)) rfl rfl ⟨⟨_, rfl, rfl⟩, ⟨_, rfl, ⟨7, rfl, rfl⟩⟩, ⟨_, rfl, rfl⟩, ⟨_, rfl, rfl⟩, trivial⟩ ⟨⟨0, _, rfl, rfl, ?_⟩, ⟨1, _, rfl, rfl, ?_⟩, ⟨2, _, rfl, rfl, ?_⟩, ⟨4, _, rfl, rfl, ?_⟩, ⟨5, _, rfl, rfl, ?_⟩, ⟨6, _, rfl, rfl, ?_⟩, ⟨7, _, rfl, rfl, ?_⟩, ⟨11, _, rfl, rfl, ?_⟩, trivial⟩
                    · exact ⟨_, rfl, eN (nnl_one (nn_ilist _ _ _)) rfl⟩
                    · exact .inl ⟨rfl, _, rfl⟩
                    · exact ⟨_, rfl, .inr ⟨_, _, rfl, ⟨1, rfl, rfl⟩, rfl⟩⟩
                    · exact ⟨_, rfl, .inr ⟨_, _, rfl, ⟨11, rfl, rfl⟩, rfl⟩⟩
                    · exact ⟨_, rfl, eN (nnl_kis _ _) rfl⟩
                    · exact ⟨_, rfl, eN (nnl_ki _) rfl⟩
                    · exact ⟨_, rfl, eN (nnl_ki _) rfl⟩
                    · exact ⟨_, rfl, eN (nnl_flatW _) rfl⟩
              · rintro s' i ⟨hs', hsub', hd'⟩
                refine ⟨s', ⟨hs', hsub', fun _ q hq => ?_⟩, ?_⟩
                · rw [← hcc] at hq
                  exact hd' q.1 hq.1 q.2 hq.2
                · refine sub_ren [0, 1, 2, 8, 4, 5] rfl (by decide) ⟨⟨_, rfl, rfl⟩, ⟨_, rfl, ⟨0, rfl, rfl⟩⟩, ⟨_, rfl, ⟨2, rfl, rfl⟩⟩, ⟨_, rfl, ⟨4, rfl, rfl⟩⟩, ⟨_, rfl, ⟨5, rfl, rfl⟩⟩, ⟨_, rfl, rfl⟩, trivial⟩ ⟨⟨0, _, rfl, rfl, ?_⟩, ⟨1, _, rfl, rfl, ?_⟩, ⟨2, _, rfl, rfl, ?_⟩, ⟨8, _, rfl, rfl, ?_⟩, ⟨4, _, rfl, rfl, ?_⟩, ⟨5, _, rfl, rfl, ?_⟩, trivial⟩
                  · exact ⟨_, rfl, eN (nnl_one (nn_ilist _ _ _)) rfl⟩
                  · exact .inl ⟨rfl, _, rfl⟩
                  · exact ⟨_, rfl, .inr ⟨_, _, rfl, ⟨1, rfl, rfl⟩, rfl⟩⟩
                  · exact ⟨_, rfl, eN (nnl_flatW _) rfl⟩
                  · exact ⟨_, rfl, .inr ⟨_, _, rfl, ⟨8, rfl, rfl⟩, rfl⟩⟩
                  · exact ⟨_, rfl, eN (nnl_kis _ _) rfl⟩
          · rintro s' ⟨hs', hsub, hnew⟩
            refine And.intro (by omega) ?_
            refine ⟨(c + 1, s'), ⟨by dsimp only; omega, hs', ?_⟩, by dsimp only; omega, sub_to ⟨rfl, rfl, rfl, rfl, rfl, rfl, trivial⟩ rfl (Nat.le_refl 6)⟩
            intro c' hc' hn q hq
            try dsimp only at hc'
            by_cases e : c' = c
            · subst e; exact hnew hn q hq
            · exact hsub q (hall c' (by omega) hn q hq)
        · have hF2 : ¬ (c : Int) < 256 := of_decide_eq_false h
          have hc3 : c = 256 := by omega
          subst hc3
          refine ⟨s, ⟨hs.1.done ⟨hne, fun c' hc' q hq => hall c'.toNat c'.toNat_lt (fun e => hc' ?_) q ?_⟩, ?_⟩, ?_, ?_⟩
          · exact UInt8.toNat_inj.1 e
          · rw [UInt8.ofNat_toNat]; exact hq
          · have := hs.2.2
            try dsimp only
            omega
          · have := hs.2.2
            try dsimp only
            omega
          · refine sub_ren [0, 1, 2, 3, 4] rfl (by decide) ⟨⟨_, rfl, rfl⟩, ⟨_, rfl, ⟨0, rfl, rfl⟩⟩, ⟨_, rfl, ⟨2, rfl, rfl⟩⟩, ⟨_, rfl, ⟨4, rfl, rfl⟩⟩, trivial⟩ ⟨⟨0, _, rfl, rfl, ?_⟩, ⟨1, _, rfl, rfl, ?_⟩, ⟨2, _, rfl, rfl, ?_⟩, ⟨3, _, rfl, rfl, ?_⟩, ⟨4, _, rfl, rfl, ?_⟩, trivial⟩
            · exact ⟨_, rfl, eN (nnl_one (nn_ilist _ _ _)) rfl⟩
            · exact .inl ⟨rfl, _, rfl⟩
            · exact ⟨_, rfl, .inr ⟨_, _, rfl, ⟨1, rfl, rfl⟩, rfl⟩⟩
            · exact ⟨_, rfl, eN (nnl_flatW _) rfl⟩
            · exact ⟨_, rfl, .inr ⟨_, _, rfl, ⟨3, rfl, rfl⟩, rfl⟩⟩
    · have hF : ¬ (0 : Int) < W.length := of_decide_eq_false h
      have hW : W = [] := List.length_eq_zero_iff.1 (by omega)
      subst hW
      refine ⟨_, (by first | exact SubSt.refl _ | exact SubTop.refl _), ?_⟩
      show AV.bool false = AV.bool (gov El.isStar El.meet a b)
      cases hg : gov El.isStar El.meet a b with
      | false => rfl
      | true => exact absurd (acc.2 hg) inv.none

end Qk

/-
  Chapter 32: do two globs overlap?
-/
namespace Qk
open Go Go.RowKit

theorem comps_els_len : ∀ {ps : List (List UInt8)} {l : List Comp} {n : Nat}, (∀ p ∈ ps, p.length ≤ n) → compsL ps = some l → ∀ c ∈ l, c.els.length ≤ n
  | [], l, n, _, h => by simp only [compsL, Option.some.injEq] at h; subst h; intro c hc; cases hc
  | s :: ps, l, n, hp, h => by
    rw [compsL] at h
    split at h
    · cases h
    · rename_i c hc
      split at h
      · cases h
      · rename_i m hm
        cases h
        intro x hx
        rcases List.mem_cons.1 hx with rfl | hx
        · unfold compL at hc
          split at hc
          · cases hc; exact Nat.zero_le _
          · split at hc
            · cases hc
            · cases hl : elsL s.length s with
              | none => rw [hl] at hc; cases hc
              | some l =>
                rw [hl] at hc
                cases hc
                have := (els_wf hl).2
                have := hp s (by simp)
                dsimp only
                omega
        · exact comps_els_len (fun p h => hp p (by simp [h])) hm x hx
theorem glob_okS {g : List UInt8} {l : List Comp} (h : globL g = some l) : ∀ c ∈ l, okS c.els := by
  intro c hc
  have h1 := (glob_ok h).1 c hc
  have h2 := (glob_good h).1 c hc
  have h3 : ∀ c ∈ l, ∀ e ∈ c.els, ∀ b, e.fit b = true → b ≠ 47 := by
    unfold globL at h
    split at h
    · cases h
    · exact comps_slash (splitS_noSl g) h
  have h4 : ∀ c ∈ l, c.els.length ≤ g.length := by
    unfold globL at h
    split at h
    · cases h
    · exact comps_els_len (splitS_le g).1 h
  have h5 := (glob_good h).2.2
  have h6 := h4 c hc
  exact ⟨h1, by omega, fun e he => ⟨h2 e he, h3 c hc e he⟩⟩

def nil0 : AV := .raw (.slice none 0 0)
/-- The rows of the table that are still to be made, and the last one that was made. -/
def outC (n m k : Nat) (nm : Nat) : List AV := List.replicate k nil0 ++ (if k = n + 1 then [] else [.sl nm 0 (m + 1)])
theorem outC_get {n m k nm : Nat} (hk : k ≤ n) : (outC n m k nm)[k]? = some (.sl nm 0 (m + 1)) := by
  unfold outC
  rw [List.getElem?_append_right (by simp), if_neg (by omega)]
  simp
theorem outC_len {n m k nm : Nat} (_hk : k ≤ n + 1) : k ≤ (outC n m k nm).length := by
  unfold outC; rw [List.length_append, List.length_replicate]; omega
/-- With the row at hand. -/
def outD (n m i : Nat) : List AV := List.replicate i nil0 ++ .sl 2 0 (m + 1) :: (if i = n then [] else [.sl 1 0 (m + 1)])
theorem outD_of {n m i : Nat} (_hi : i ≤ n) : (outC n m (i + 1) 1).set i (.sl 2 0 (m + 1)) = outD n m i := by
  unfold outC outD
  rw [List.replicate_succ', List.append_assoc, List.set_append_right _ _ (by simp)]
  have : (if i + 1 = n + 1 then ([] : List AV) else [.sl 1 0 (m + 1)]) = if i = n then [] else [.sl 1 0 (m + 1)] := by
    by_cases h : i = n
    · rw [if_pos h, if_pos (by omega)]
    · rw [if_neg h, if_neg (by omega)]
  rw [this]
  simp
theorem outD_at {n m i : Nat} : (outD n m i)[i]? = some (.sl 2 0 (m + 1)) := by
  unfold outD
  rw [List.getElem?_append_right (by simp)]
  simp
theorem outD_next {n m i : Nat} (hi : i < n) : (outD n m i)[i + 1]? = some (.sl 1 0 (m + 1)) := by
  unfold outD
  rw [List.getElem?_append_right (by simp), if_neg (by omega)]
  simp
theorem outD_take {n m i : Nat} (hi : i ≤ n) : (outD n m i).take (i + 1) = outC n m i 2 := by
  unfold outD outC
  rw [show (if i = n + 1 then ([] : List AV) else [.sl 2 0 (m + 1)]) = [.sl 2 0 (m + 1)] from if_neg (by omega)]
  have : i + 1 - i = 1 := by omega
  rw [List.take_append, List.length_replicate, this, List.take_of_length_le (by simp)]
  rfl
theorem ren_nils {τ : List Nat} : ∀ (k : Nat) (xs ys : List AV), RenL τ xs ys → RenL τ (List.replicate k nil0 ++ xs) (List.replicate k nil0 ++ ys)
  | 0, _, _, h => h
  | k + 1, xs, ys, h => ⟨_, _, rfl, rfl, ren_nils k xs ys h⟩
theorem repl_boos' (n : Nat) : repl n [AV.bool false] = boos (List.replicate n false) := repl_boos n
theorem repl_nil0 (n : Nat) : repl n [AV.raw (.slice none 0 0)] = List.replicate n nil0 := by
  induction n with
  | zero => rfl
  | succ n ih => rw [repl, ih]; rfl

/-- A name for a slice that is not there. -/
theorem sub_ghost {m : Nat} {S : St} (tau : Bool) (esz : Nat) : SubSt m S ⟨S.env, upd S.heap S.next (some (.ls tau esz [])), S.next + 1⟩ := by
  rintro G B X Φ0 w0 N D a w hm ⟨B1, X1, w1, ρ, Φ, a1, a2, a3, a4, a5, a6⟩
  have hle := NmLe.upd a6.none_next (nilHd esz)
  exact ⟨B1, X1, w1, upd ρ S.next (some (nilHd esz)), Φ, a1, a2.le hle (fun b o e => .inl e), a3, a4, fun i v hi => (a5.mono (PhiLe.refl _) hle) i v hi, wf_nil a6 tau esz⟩

end Qk

/-
  Chapter 32: what Overlap puts at a place of its table.
-/
namespace Qk
open Go Go.RowKit

def OE (n m i j : Nat) (X Y : List AV) : List (Nat × AV) := [(5, .ilist 2 n X), (7, .ilist 2 m Y), (9, .sl 0 0 (n + 1)), (10, .int .i64 i), (11, .int .i64 j)]
def OV (C R1 R2 : List AV) : List (Nat × AO) := [(0, .ls false 1 C), (1, .ls false 1 R1), (2, .ls false 1 R2)]

set_option maxRecDepth 4000 in
set_option maxHeartbeats 10000000 in
theorem t_ov {K : St → Prop} {X Y C R1 R2 : List AV} {n m i j : Nat} {xa ya b1 b2 b3 v : Bool} {el em : List El} (hi : i ≤ n) (hj : j ≤ m) (hn : n ≤ 1000000000) (hm : m ≤ 1000000000)
    (hl2 : R2.length = m + 1)
    (hN0 : C[(0 + (i : Int).toNat) * 1]? = some (.sl 2 0 (m + 1)))
    (hN1 : i < n → C[(0 + ((i : Int) + 1).toNat) * 1]? = some (.sl 1 0 (m + 1)))
    (hX : i < n → X[(i : Int).toNat * 2 + 0]? = some (.bool xa) ∧ X[(i : Int).toNat * 2 + 1]? = some (elsA el) ∧ okS el)
    (hY : j < m → Y[(j : Int).toNat * 2 + 0]? = some (.bool ya) ∧ Y[(j : Int).toNat * 2 + 1]? = some (elsA em) ∧ okS em)
    (h1 : i < n → R1[(0 + (j : Int).toNat) * 1]? = some (.bool b1))
    (h2 : j < m → R2[(0 + ((j : Int) + 1).toNat) * 1]? = some (.bool b2))
    (h3 : i < n → j < m → R1[(0 + ((j : Int) + 1).toNat) * 1]? = some (.bool b3))
    (hv : v = (match decide (i < n), decide (j < m) with | false, false => true | true, false => xa && b1 | false, true => ya && b2 | true, true => bif xa || ya then b1 || b2 else gov El.isStar El.meet el em && b3))
    (hK : ∀ S' w, HasE S' (OE n m i j X Y) → S'.heap = upd (mkh (OV C R1 R2)) 2 (some (.ls false 1 (R2.set ((0 + (j : Int).toNat) * 1) (.bool w)))) → S'.next = 3 → w = v → K S') :
    exOs ov_ops (mks (OE n m i j X Y) (OV C R1 R2) 3) K := by
  have fin : ∀ S' w, HasE S' (OE n m i j X Y) ∧ S'.heap = upd (mkh (OV C R1 R2)) 2 (some (.ls false 1 (R2.set ((0 + (j : Int).toNat) * 1) (.bool w)))) ∧ S'.next = 3 → w = v → K S' := fun S' w h hw => hK S' w h.1 h.2.1 h.2.2 hw
  clear hK
  by_cases hi2 : i < n
  · have A1 : decide ((i : Int) = n) = false := decide_eq_false (by omega)
    have L1 : decide ((i : Int) < n) = true := decide_eq_true (by omega)
    replace hN1 := hN1 hi2
    obtain ⟨hXa, hXe, hXk⟩ := hX hi2
    replace h1 := h1 hi2
    rw [decide_eq_true hi2] at hv
    by_cases hj2 : j < m
    · have A2 : decide ((j : Int) = m) = false := decide_eq_false (by omega)
      have L2 : decide ((j : Int) < m) = true := decide_eq_true (by omega)
      obtain ⟨hYa, hYe, hYk⟩ := hY hj2
      replace h2 := h2 hj2
      replace h3 := h3 hi2 hj2
      rw [decide_eq_true hj2] at hv
      dsimp only at hv
      cases xa with
      | true =>
        cases b1 with
        | true =>
          repeat ((conv => whnf); first | refine cond_t (by first | (simp only [A1,   L1,  cond_true, cond_false, eq_self]; done) | fail) ?_ | refine cond_f (by first | (simp only [A1,    eq_self]; done) | fail) ?_ | refine And.intro (by omega) ?_ | refine And.intro ⟨rfl, by omega, by omega⟩ ?_ | refine And.intro ⟨rfl, by decide, by omega, by omega⟩ ?_ | refine ⟨_, hN0, ?_⟩ | refine ⟨_, hN1, ?_⟩ | refine ⟨_, hXa, ?_⟩ | refine ⟨_, hYa, ?_⟩ | refine ⟨_, h1, ?_⟩ | refine ⟨_, h2, ?_⟩ | refine ⟨_, h3, ?_⟩ | refine ⟨_, hXe, ?_⟩ | refine ⟨_, hYe, ?_⟩)
          exact fin _ _ ⟨⟨rfl, rfl, rfl, rfl, rfl, trivial⟩, rfl, rfl⟩ (by subst hv; first | rfl | (simp [A1, A2, L1, L2, hi2, hj2]; done))
        | false =>
          cases b2 with
          | true =>
            repeat ((conv => whnf); first | refine cond_t (by first | (simp only [A1,   L1,  L2, cond_true, cond_false, eq_self]; done) | fail) ?_ | refine cond_f (by first | (simp only [A1,    eq_self]; done) | fail) ?_ | refine And.intro (by omega) ?_ | refine And.intro ⟨rfl, by omega, by omega⟩ ?_ | refine And.intro ⟨rfl, by decide, by omega, by omega⟩ ?_ | refine ⟨_, hN0, ?_⟩ | refine ⟨_, hN1, ?_⟩ | refine ⟨_, hXa, ?_⟩ | refine ⟨_, hYa, ?_⟩ | refine ⟨_, h1, ?_⟩ | refine ⟨_, h2, ?_⟩ | refine ⟨_, h3, ?_⟩ | refine ⟨_, hXe, ?_⟩ | refine ⟨_, hYe, ?_⟩)
            exact fin _ _ ⟨⟨rfl, rfl, rfl, rfl, rfl, trivial⟩, rfl, rfl⟩ (by subst hv; first | rfl | (simp [A1, A2, L1, L2, hi2, hj2]; done))
          | false =>
            cases ya with
            | true =>
              repeat ((conv => whnf); first | refine cond_t (by first | (simp only [A1,   L1,  L2, cond_true, cond_false, Bool.not_true, eq_self]; done) | fail) ?_ | refine cond_f (by first | (simp only [A1,   L1,  L2, cond_true, cond_false, Bool.not_true, eq_self]; done) | fail) ?_ | refine And.intro (by omega) ?_ | refine And.intro ⟨rfl, by omega, by omega⟩ ?_ | refine And.intro ⟨rfl, by decide, by omega, by omega⟩ ?_ | refine ⟨_, hN0, ?_⟩ | refine ⟨_, hN1, ?_⟩ | refine ⟨_, hXa, ?_⟩ | refine ⟨_, hYa, ?_⟩ | refine ⟨_, h1, ?_⟩ | refine ⟨_, h2, ?_⟩ | refine ⟨_, h3, ?_⟩ | refine ⟨_, hXe, ?_⟩ | refine ⟨_, hYe, ?_⟩)
              exact fin _ _ ⟨⟨rfl, rfl, rfl, rfl, rfl, trivial⟩, rfl, rfl⟩ (by subst hv; first | rfl | (simp [hi2, hj2]; done))
            | false =>
              repeat ((conv => whnf); first | refine cond_t (by first | (simp only [A1,   L1,  L2, cond_true, cond_false, Bool.not_true, eq_self]; done) | fail) ?_ | refine cond_f (by first | (simp only [A1,   L1,  L2, cond_true, cond_false, Bool.not_true, eq_self]; done) | fail) ?_ | refine And.intro (by omega) ?_ | refine And.intro ⟨rfl, by omega, by omega⟩ ?_ | refine And.intro ⟨rfl, by decide, by omega, by omega⟩ ?_ | refine ⟨_, hN0, ?_⟩ | refine ⟨_, hN1, ?_⟩ | refine ⟨_, hXa, ?_⟩ | refine ⟨_, hYa, ?_⟩ | refine ⟨_, h1, ?_⟩ | refine ⟨_, h2, ?_⟩ | refine ⟨_, h3, ?_⟩ | refine ⟨_, hXe, ?_⟩ | refine ⟨_, hYe, ?_⟩)
              exact fin _ _ ⟨⟨rfl, rfl, rfl, rfl, rfl, trivial⟩, rfl, rfl⟩ (by subst hv; first | rfl | (simp [hi2, hj2]; done))
      | false =>
        cases ya with
        | true =>
          cases b2 with
          | true =>
            repeat ((conv => whnf); first | refine cond_t (by first | (simp only [A1,   L1,  L2, cond_true, cond_false, eq_self]; done) | fail) ?_ | refine cond_f (by first | (simp only [A1,   L1,  cond_true, eq_self]; done) | fail) ?_ | refine And.intro (by omega) ?_ | refine And.intro ⟨rfl, by omega, by omega⟩ ?_ | refine And.intro ⟨rfl, by decide, by omega, by omega⟩ ?_ | refine ⟨_, hN0, ?_⟩ | refine ⟨_, hN1, ?_⟩ | refine ⟨_, hXa, ?_⟩ | refine ⟨_, hYa, ?_⟩ | refine ⟨_, h1, ?_⟩ | refine ⟨_, h2, ?_⟩ | refine ⟨_, h3, ?_⟩ | refine ⟨_, hXe, ?_⟩ | refine ⟨_, hYe, ?_⟩)
            exact fin _ _ ⟨⟨rfl, rfl, rfl, rfl, rfl, trivial⟩, rfl, rfl⟩ (by subst hv; first | rfl | (simp []; done))
          | false =>
            cases b1 with
            | true =>
              repeat ((conv => whnf); first | refine cond_t (by first | (simp only [A1,   L1,  L2, cond_true, cond_false, eq_self]; done) | fail) ?_ | refine cond_f (by first | (simp only [A1,   L1,  cond_true, eq_self]; done) | fail) ?_ | refine And.intro (by omega) ?_ | refine And.intro ⟨rfl, by omega, by omega⟩ ?_ | refine And.intro ⟨rfl, by decide, by omega, by omega⟩ ?_ | refine ⟨_, hN0, ?_⟩ | refine ⟨_, hN1, ?_⟩ | refine ⟨_, hXa, ?_⟩ | refine ⟨_, hYa, ?_⟩ | refine ⟨_, h1, ?_⟩ | refine ⟨_, h2, ?_⟩ | refine ⟨_, h3, ?_⟩ | refine ⟨_, hXe, ?_⟩ | refine ⟨_, hYe, ?_⟩)
              exact fin _ _ ⟨⟨rfl, rfl, rfl, rfl, rfl, trivial⟩, rfl, rfl⟩ (by subst hv; first | rfl | (simp [A1, A2, L1, L2, hi2, hj2]; done))
            | false =>
              repeat ((conv => whnf); first | refine cond_t (by first | (simp only [A1,   L1,  L2, cond_true, cond_false, Bool.not_true, Bool.not_false, eq_self]; done) | fail) ?_ | refine cond_f (by first | (simp only [A1,   L1,  L2, cond_true, cond_false, Bool.not_true, Bool.not_false, eq_self]; done) | fail) ?_ | refine And.intro (by omega) ?_ | refine And.intro ⟨rfl, by omega, by omega⟩ ?_ | refine And.intro ⟨rfl, by decide, by omega, by omega⟩ ?_ | refine ⟨_, hN0, ?_⟩ | refine ⟨_, hN1, ?_⟩ | refine ⟨_, hXa, ?_⟩ | refine ⟨_, hYa, ?_⟩ | refine ⟨_, h1, ?_⟩ | refine ⟨_, h2, ?_⟩ | refine ⟨_, h3, ?_⟩ | refine ⟨_, hXe, ?_⟩ | refine ⟨_, hYe, ?_⟩)
              exact fin _ _ ⟨⟨rfl, rfl, rfl, rfl, rfl, trivial⟩, rfl, rfl⟩ (by subst hv; first | rfl | (simp [hi2, hj2]; done))
        | false =>
          cases b3 with
          | true =>
            repeat ((conv => whnf); first | refine cond_t (by first | (simp only [A1,   L1,  L2, cond_true, Bool.not_false, eq_self]; done) | fail) ?_ | refine cond_f (by first | (simp only [A1,   L1,  L2, cond_true, eq_self]; done) | fail) ?_ | refine And.intro (by omega) ?_ | refine And.intro ⟨rfl, by omega, by omega⟩ ?_ | refine And.intro ⟨rfl, by decide, by omega, by omega⟩ ?_ | refine ⟨_, hN0, ?_⟩ | refine ⟨_, hN1, ?_⟩ | refine ⟨_, hXa, ?_⟩ | refine ⟨_, hYa, ?_⟩ | refine ⟨_, h1, ?_⟩ | refine ⟨_, h2, ?_⟩ | refine ⟨_, h3, ?_⟩ | refine ⟨_, hXe, ?_⟩ | refine ⟨_, hYe, ?_⟩)
            refine ⟨(el, em), rfl, ⟨hXk, hYk⟩, ?_⟩
            repeat ((conv => whnf); first | refine cond_t (by first | (simp only [A1,  A2,  L1,  L2, cond_true, cond_false, Bool.not_true, Bool.not_false, eq_self, decide_true, decide_false]; done) | fail) ?_ | refine cond_f (by first | (simp only [A1,  A2,  L1,  L2, cond_true, cond_false, Bool.not_true, Bool.not_false, eq_self, decide_true, decide_false]; done) | fail) ?_ | refine And.intro (by omega) ?_ | refine And.intro ⟨rfl, by omega, by omega⟩ ?_ | refine And.intro ⟨rfl, by decide, by omega, by omega⟩ ?_ | refine ⟨_, hN0, ?_⟩ | refine ⟨_, hN1, ?_⟩ | refine ⟨_, hXa, ?_⟩ | refine ⟨_, hYa, ?_⟩ | refine ⟨_, h1, ?_⟩ | refine ⟨_, h2, ?_⟩ | refine ⟨_, h3, ?_⟩ | refine ⟨_, hXe, ?_⟩ | refine ⟨_, hYe, ?_⟩)
            exact fin _ _ ⟨⟨rfl, rfl, rfl, rfl, rfl, trivial⟩, rfl, rfl⟩ (by subst hv; first | rfl | (simp [hi2, hj2]; done))
          | false =>
            repeat ((conv => whnf); first | refine cond_t (by first | (simp only [A1,   L1,  L2, cond_true, Bool.not_false, eq_self]; done) | fail) ?_ | refine cond_f (by first | (simp only [A1,   L1,  L2, cond_true, Bool.not_false, eq_self]; done) | fail) ?_ | refine And.intro (by omega) ?_ | refine And.intro ⟨rfl, by omega, by omega⟩ ?_ | refine And.intro ⟨rfl, by decide, by omega, by omega⟩ ?_ | refine ⟨_, hN0, ?_⟩ | refine ⟨_, hN1, ?_⟩ | refine ⟨_, hXa, ?_⟩ | refine ⟨_, hYa, ?_⟩ | refine ⟨_, h1, ?_⟩ | refine ⟨_, h2, ?_⟩ | refine ⟨_, h3, ?_⟩ | refine ⟨_, hXe, ?_⟩ | refine ⟨_, hYe, ?_⟩)
            exact fin _ _ ⟨⟨rfl, rfl, rfl, rfl, rfl, trivial⟩, rfl, rfl⟩ (by subst hv; first | rfl | (simp []; done))
    · have A2 : decide ((j : Int) = m) = true := decide_eq_true (by omega)
      have L2 : decide ((j : Int) < m) = false := decide_eq_false (by omega)
      rw [decide_eq_false hj2] at hv
      dsimp only at hv
      cases xa with
      | true =>
        cases b1 with
        | true =>
          repeat ((conv => whnf); first | refine cond_t (by first | (simp only [A1,   L1,  cond_true, cond_false, eq_self]; done) | fail) ?_ | refine cond_f (by first | (simp only [A1,    eq_self]; done) | fail) ?_ | refine And.intro (by omega) ?_ | refine And.intro ⟨rfl, by omega, by omega⟩ ?_ | refine And.intro ⟨rfl, by decide, by omega, by omega⟩ ?_ | refine ⟨_, hN0, ?_⟩ | refine ⟨_, hN1, ?_⟩ | refine ⟨_, hXa, ?_⟩ | refine ⟨_, h1, ?_⟩)
          exact fin _ _ ⟨⟨rfl, rfl, rfl, rfl, rfl, trivial⟩, rfl, rfl⟩ (by subst hv; first | rfl | (simp [A1, A2, L1, L2, hi2, hj2]; done))
        | false =>
          repeat ((conv => whnf); first | refine cond_t (by first | (simp only [A1,   L1,  L2, cond_true, cond_false, eq_self]; done) | fail) ?_ | refine cond_f (by first | (simp only [A1,   L1,  L2, cond_true, cond_false, eq_self]; done) | fail) ?_ | refine And.intro (by omega) ?_ | refine And.intro ⟨rfl, by omega, by omega⟩ ?_ | refine And.intro ⟨rfl, by decide, by omega, by omega⟩ ?_ | refine ⟨_, hN0, ?_⟩ | refine ⟨_, hN1, ?_⟩ | refine ⟨_, hXa, ?_⟩ | refine ⟨_, h1, ?_⟩)
          exact fin _ _ ⟨⟨rfl, rfl, rfl, rfl, rfl, trivial⟩, rfl, rfl⟩ (by subst hv; first | rfl | (simp [hi2]; done))
      | false =>
        repeat ((conv => whnf); first | refine cond_t (by first | (simp only [A1,   L1,  L2, cond_true, eq_self]; done) | fail) ?_ | refine cond_f (by first | (simp only [A1,   L1,  L2, cond_true, eq_self]; done) | fail) ?_ | refine And.intro (by omega) ?_ | refine And.intro ⟨rfl, by omega, by omega⟩ ?_ | refine And.intro ⟨rfl, by decide, by omega, by omega⟩ ?_ | refine ⟨_, hN0, ?_⟩ | refine ⟨_, hN1, ?_⟩ | refine ⟨_, hXa, ?_⟩ | refine ⟨_, h1, ?_⟩)
        exact fin _ _ ⟨⟨rfl, rfl, rfl, rfl, rfl, trivial⟩, rfl, rfl⟩ (by subst hv; first | rfl | (simp [A1, A2, L1, L2, hi2, hj2]; done))
  · have A1 : decide ((i : Int) = n) = true := decide_eq_true (by omega)
    have L1 : decide ((i : Int) < n) = false := decide_eq_false (by omega)
    rw [decide_eq_false hi2] at hv
    by_cases hj2 : j < m
    · have A2 : decide ((j : Int) = m) = false := decide_eq_false (by omega)
      have L2 : decide ((j : Int) < m) = true := decide_eq_true (by omega)
      obtain ⟨hYa, hYe, hYk⟩ := hY hj2
      replace h2 := h2 hj2
      rw [decide_eq_true hj2] at hv
      dsimp only at hv
      cases ya with
      | true =>
        cases b2 with
        | true =>
          repeat ((conv => whnf); first | refine cond_t (by first | (simp only [A1,  A2,  L1,  L2, cond_true, cond_false, eq_self]; done) | fail) ?_ | refine cond_f (by first | (simp only [A1,  A2,  L1,  cond_true, cond_false, eq_self]; done) | fail) ?_ | refine And.intro (by omega) ?_ | refine And.intro ⟨rfl, by omega, by omega⟩ ?_ | refine And.intro ⟨rfl, by decide, by omega, by omega⟩ ?_ | refine ⟨_, hN0, ?_⟩ | refine ⟨_, hYa, ?_⟩ | refine ⟨_, h2, ?_⟩)
          exact fin _ _ ⟨⟨rfl, rfl, rfl, rfl, rfl, trivial⟩, rfl, rfl⟩ (by subst hv; first | rfl | (simp [A1, A2, L1, L2, hi2, hj2]; done))
        | false =>
          repeat ((conv => whnf); first | refine cond_t (by first | (simp only [A1,  A2,  L1,  L2, cond_true, cond_false, eq_self]; done) | fail) ?_ | refine cond_f (by first | (simp only [A1,  A2,  L1,  L2, cond_true, cond_false, eq_self]; done) | fail) ?_ | refine And.intro (by omega) ?_ | refine And.intro ⟨rfl, by omega, by omega⟩ ?_ | refine And.intro ⟨rfl, by decide, by omega, by omega⟩ ?_ | refine ⟨_, hN0, ?_⟩ | refine ⟨_, hYa, ?_⟩ | refine ⟨_, h2, ?_⟩)
          exact fin _ _ ⟨⟨rfl, rfl, rfl, rfl, rfl, trivial⟩, rfl, rfl⟩ (by subst hv; first | rfl | (simp [A1, A2, hj2]; done))
      | false =>
        repeat ((conv => whnf); first | refine cond_t (by first | (simp only [A1,  A2,  L1,  L2, cond_true, cond_false, eq_self]; done) | fail) ?_ | refine cond_f (by first | (simp only [A1,  A2,  L1,  L2, cond_true, cond_false, eq_self]; done) | fail) ?_ | refine And.intro (by omega) ?_ | refine And.intro ⟨rfl, by omega, by omega⟩ ?_ | refine And.intro ⟨rfl, by decide, by omega, by omega⟩ ?_ | refine ⟨_, hN0, ?_⟩ | refine ⟨_, hYa, ?_⟩ | refine ⟨_, h2, ?_⟩)
        exact fin _ _ ⟨⟨rfl, rfl, rfl, rfl, rfl, trivial⟩, rfl, rfl⟩ (by subst hv; first | rfl | (simp [A1, A2]; done))
    · have A2 : decide ((j : Int) = m) = true := decide_eq_true (by omega)
      have L2 : decide ((j : Int) < m) = false := decide_eq_false (by omega)
      rw [decide_eq_false hj2] at hv
      dsimp only at hv
      repeat ((conv => whnf); first | refine cond_t (by first | (simp only [A1,  A2,   cond_true, eq_self]; done) | fail) ?_ | refine cond_f (by first | (simp only [A1,  A2,  L1,  L2, cond_true, cond_false, Bool.not_true, Bool.not_false, eq_self, decide_true, decide_false]; done) | fail) ?_ | refine And.intro (by omega) ?_ | refine And.intro ⟨rfl, by omega, by omega⟩ ?_ | refine And.intro ⟨rfl, by decide, by omega, by omega⟩ ?_ | refine ⟨_, hN0, ?_⟩)
      exact fin _ _ ⟨⟨rfl, rfl, rfl, rfl, rfl, trivial⟩, rfl, rfl⟩ (by subst hv; first | rfl | (simp [A1, A2, L1, L2, hi2, hj2]; done))

end Qk

/-
  Chapter 32: do two globs overlap?
-/
namespace Qk
open Go Go.RowKit

/-- One less, and -1 at the end. -/
def pI : Nat → Int
  | 0 => -1
  | i + 1 => i
theorem pI_pred (i : Nat) : (i : Int) - 1 = pI i := by cases i <;> simp [pI]
def prevR (x y : List Comp) (k : Nat) : List Bool := if k = x.length + 1 then [] else tbR Comp.any Comp.meet x y k 0
theorem els_cell {l : List Comp} {i : Nat} (h : i < l.length) : (flatC l)[i * 2 + 1]? = some (elsA (l[i]'h).els) := by
  rw [flatC, flat_cell (n := 2) (fun _ => rfl) l i 1 _ (List.getElem?_eq_getElem h) (by decide)]
  rfl

def OO (x y : List Comp) (k : Nat) : St := mks [(5, cpsA x), (7, cpsA y), (9, .sl 0 0 (x.length + 1)), (10, .int .i64 (pI k))] [(0, .ls false 1 (outC x.length y.length k 1)), (1, .ls false 1 (boos (prevR x y k)))] 2
def OI (x y : List Comp) (i k : Nat) : St := mks [(5, cpsA x), (7, cpsA y), (9, .sl 0 0 (x.length + 1)), (10, .int .i64 i), (11, .int .i64 (pI k))] (OV (outD x.length y.length i) (boos (prevR x y (i + 1))) (boos (tbR Comp.any Comp.meet x y i k))) 3

set_option maxRecDepth 4000 in
set_option maxHeartbeats 1000000 in
theorem d_overlap : Does ir_glob_Overlap C_glob_Overlap := by
  rintro ⟨a, b⟩ ⟨ha, hb⟩
  dsimp only at ha hb
  refine ⟨a, rfl, ha, ?_⟩
  have res1 : ∀ (g : List UInt8) (l : List Comp), parseR g = (l, 0) → C_glob_parse.res g = .tup [cpsA l, .int .i64 0] := by
    intro g l h; show parseA (parseR g) = _; rw [h]; rfl
  have res2 : ∀ (g : List UInt8) (e : Int), parseR g = ([], e) → e ≠ 0 → C_glob_parse.res g = .tup [.raw (.slice none 0 0), .int .i64 e] := by
    intro g e h he; show parseA (parseR g) = _; rw [h]; unfold parseA; rw [if_neg he]
  rcases parse_of (g := a) with ⟨x, hga, hpa⟩ | ⟨hga, e, hpa, he, _⟩
  · rw [res1 a x hpa]
    refine ⟨_, rfl, ?_⟩
    refine ⟨_, rfl, ?_⟩
    refine ⟨b, rfl, hb, ?_⟩
    rcases parse_of (g := b) with ⟨y, hgb, hpb⟩ | ⟨hgb, f, hpb, hf, _⟩
    · rw [res1 b y hpb]
      refine ⟨_, rfl, ?_⟩
      refine ⟨_, rfl, ?_⟩
      have og : overG a b = gov Comp.any Comp.meet x y := by unfold overG; rw [hga, hgb]; rfl
      have hx2 := (glob_ok hga).2
      have hy2 := (glob_ok hgb).2
      have okx := glob_okS hga
      have oky := glob_okS hgb
      clear hpa hpb hga hgb res1 res2
      refine And.intro (by omega) ?_
      refine And.intro ⟨by omega, Int.le_refl _, by omega, by omega⟩ ?_
      refine ⟨_, rfl, ?_⟩
      refine ⟨Nat, fun k => k ≤ x.length + 1, OO x y, fun k => k, x.length + 1, Nat.le_refl _, ?_, ?_⟩
      · refine (sub_ghost false 1).trans ?_
        refine sub_to ⟨rfl, rfl, congrArg some (eSl (by omega)), rfl, trivial⟩ ?_ (Nat.le_refl 2)
        refine heap_is [0, 1] (fun _ => none) (out_upd (out_upd (fun _ _ => rfl) List.mem_cons_self) (List.mem_cons_of_mem _ List.mem_cons_self)) (out_mkh rfl) ⟨?_, ?_, trivial⟩
        · show some (AO.ls false 1 (repl ((x.length : Int) + 1).toNat [AV.raw (.slice none 0 0)])) = some (AO.ls false 1 (outC x.length y.length (x.length + 1) 1))
          have : ((x.length : Int) + 1).toNat = x.length + 1 := by omega
          rw [this, repl_nil0]; unfold outC; rw [if_pos rfl, List.append_nil]
        · show some (AO.ls false 1 []) = some (AO.ls false 1 (boos (prevR x y (x.length + 1))))
          unfold prevR; rw [if_pos rfl]; rfl
      · intro k hk
        cases k with
        | zero =>
          refine And.intro ⟨rfl, by omega, by omega⟩ ?_
          refine ⟨_, outC_get (k := 0) (Nat.zero_le _), ?_⟩
          refine And.intro ⟨rfl, by omega, by omega⟩ ?_
          have e0 : prevR x y 0 = tbR Comp.any Comp.meet x y 0 0 := by unfold prevR; rw [if_neg (by omega)]
          refine ⟨_, boos_get (i := 0) (by rw [e0, tbR_len]; omega), ?_⟩
          refine ⟨_, (by first | exact SubSt.refl _ | exact SubTop.refl _), ?_⟩
          show AV.bool ((prevR x y 0).getD 0 false) = AV.bool (overG a b)
          rw [og, e0, tbR_get (Nat.zero_le _) (Nat.le_refl _), List.drop_zero, List.drop_zero]
        | succ i =>
          have hi : i ≤ x.length := by omega
          have pe : pI (i + 1) = (i : Int) := rfl
          have lenC := outC_len (n := x.length) (m := y.length) (k := i + 1) (nm := 1) hk
          refine And.intro (by omega) ?_
          refine And.intro ⟨by omega, Int.le_refl _, by omega, by omega⟩ ?_
          refine ⟨_, rfl, ?_⟩
          refine And.intro ⟨rfl, by omega, by omega⟩ ?_
          refine And.intro (show (0 + (i : Int).toNat) * 1 < (outC x.length y.length (i + 1) 1).length by omega) ?_
          refine ⟨Nat, fun k => k ≤ y.length + 1, OI x y i, fun k => k, y.length + 1, Nat.le_refl _, ?_, ?_⟩
          · refine sub_to ⟨rfl, rfl, rfl, rfl, rfl, trivial⟩ ?_ (Nat.le_refl 3)
            refine heap_is [0, 1, 2] (fun _ => none) (by (try dsimp only [St.set, mks, OO]); (repeat (first | exact out_mkh rfl | refine out_upd ?_ (by decide)))) (out_mkh rfl) ⟨?_, rfl, ?_, trivial⟩
            · show some (AO.ls false 1 ((outC x.length y.length (i + 1) 1).set ((0 + (i : Int).toNat) * 1) (.sl 2 0 ((y.length : Int) + 1).toNat))) = some (AO.ls false 1 (outD x.length y.length i))
              have e1 : ((y.length : Int) + 1).toNat = y.length + 1 := by omega
              have e2 : (0 + (i : Int).toNat) * 1 = i := by omega
              rw [e1, e2, outD_of hi]
            · show some (AO.ls false 1 (repl ((y.length : Int) + 1).toNat [AV.bool false])) = some (AO.ls false 1 (boos (tbR Comp.any Comp.meet x y i (y.length + 1))))
              have e1 : ((y.length : Int) + 1).toNat = y.length + 1 := by omega
              rw [e1, repl_boos, tbR_top]
          · intro k2 hk2
            cases k2 with
            | zero =>
              refine jn_to ?_
              refine And.intro (by omega) ?_
              refine ⟨i, by show i ≤ _; omega, by show i < i + 1; omega, ?_⟩
              refine SubSt.trans (sub_trim 0 (i + 1) (τ := false) (e := 1) (cs := outD x.length y.length i) rfl) ?_
              rw [outD_take hi]
              refine sub_ren [0, 2] rfl (by decide) ⟨⟨_, rfl, rfl⟩, ⟨_, rfl, rfl⟩, ⟨_, rfl, ⟨0, rfl, rfl⟩⟩, ⟨_, rfl, eI ?_⟩, trivial⟩ ⟨⟨0, _, rfl, rfl, ?_⟩, ⟨2, _, rfl, rfl, ?_⟩, trivial⟩
              · exact pI_pred i
              · refine ⟨_, rfl, .inr ?_⟩
                show RenL [0, 2] (outC x.length y.length i 1) (outC x.length y.length i 2)
                unfold outC
                have e1 : ∀ q, (if i = x.length + 1 then ([] : List AV) else [.sl q 0 (y.length + 1)]) = [.sl q 0 (y.length + 1)] := fun q => if_neg (by omega)
                rw [e1, e1]
                exact ren_nils _ _ _ ⟨_, _, rfl, ⟨2, rfl, rfl⟩, rfl⟩
              · refine ⟨_, rfl, .inl ⟨?_, nnl_boos _⟩⟩
                have e1 : prevR x y i = tbR Comp.any Comp.meet x y i 0 := by unfold prevR; rw [if_neg (by omega)]
                rw [e1]
            | succ j =>
              have hj : j ≤ y.length := by omega
              have pf : pI (j + 1) = (j : Int) := rfl
              refine jn_to ?_
              refine ⟨mks (OE x.length y.length i j (flatC x) (flatC y)) (OV (outD x.length y.length i) (boos (prevR x y (i + 1))) (boos (tbR Comp.any Comp.meet x y i (j + 1)))) 3, sub_to ⟨rfl, rfl, rfl, rfl, rfl, trivial⟩ rfl (Nat.le_refl 3), ?_⟩
              refine jn_at (fun _ : Unit => mks (OE x.length y.length i j (flatC x) (flatC y)) (OV (outD x.length y.length i) (boos (prevR x y (i + 1))) (boos (tbR Comp.any Comp.meet x y i j))) 3) (fun _ => True) ?_ ?_
              · have e1 : (0 + (i : Int).toNat) * 1 = i := by omega
                have e2 : (0 + ((i : Int) + 1).toNat) * 1 = i + 1 := by omega
                have e3 : (0 + (j : Int).toNat) * 1 = j := by omega
                have e4 : (0 + ((j : Int) + 1).toNat) * 1 = j + 1 := by omega
                have e5 : (i : Int).toNat = i := by omega
                have e6 : (j : Int).toNat = j := by omega
                have hp : i < x.length → prevR x y (i + 1) = tbR Comp.any Comp.meet x y (i + 1) 0 := fun h => by unfold prevR; rw [if_neg (by omega)]
                refine t_ov (xa := (x.getD i default).any) (ya := (y.getD j default).any) (el := (x.getD i default).els) (em := (y.getD j default).els)
                  (b1 := gov Comp.any Comp.meet (x.drop (i + 1)) (y.drop j)) (b2 := gov Comp.any Comp.meet (x.drop i) (y.drop (j + 1))) (b3 := gov Comp.any Comp.meet (x.drop (i + 1)) (y.drop (j + 1)))
                  (v := gov Comp.any Comp.meet (x.drop i) (y.drop j)) hi hj hx2 hy2 (by rw [boos_length, tbR_len]) ?_ ?_ ?_ ?_ ?_ ?_ ?_ ?_ ?_
                · rw [e1]; exact outD_at
                · intro h; rw [e2]; exact outD_next h
                · intro h
                  have e7 : x.getD i default = x[i]'h := by simp [List.getD, h]
                  rw [e5, e7]
                  exact ⟨any_cell h, els_cell h, okx _ (List.getElem_mem _)⟩
                · intro h
                  have e7 : y.getD j default = y[j]'h := by simp [List.getD, h]
                  rw [e6, e7]
                  exact ⟨any_cell h, els_cell h, oky _ (List.getElem_mem _)⟩
                · intro h
                  rw [e3, hp h, boos_get (by rw [tbR_len]; omega), tbR_get hj (Nat.zero_le _)]
                · intro h
                  rw [e4, boos_get (by rw [tbR_len]; omega), tbR_get h (Nat.le_refl _)]
                · intro h h'
                  rw [e4, hp h, boos_get (by rw [tbR_len]; omega), tbR_get h' (Nat.zero_le _)]
                · by_cases h : i < x.length
                  · have e7 : x.getD i default = x[i]'h := by simp [List.getD, h]
                    rw [decide_eq_true h, e7]
                    by_cases h' : j < y.length
                    · have e8 : y.getD j default = y[j]'h' := by simp [List.getD, h']
                      rw [decide_eq_true h', e8, gov_both_at h h']
                      cases (x[i]'h).any <;> cases (y[j]'h').any <;> rfl
                    · rw [decide_eq_false h', gov_left_at h (by omega)]
                  · rw [decide_eq_false h]
                    by_cases h' : j < y.length
                    · have e8 : y.getD j default = y[j]'h' := by simp [List.getD, h']
                      rw [decide_eq_true h', e8, gov_right_at (by omega) h']
                    · rw [decide_eq_false h', gov_nil_at (by omega) (by omega)]
                · intro S' w hE hh hn hw
                  refine ⟨(), trivial, sub_to hE ?_ (by rw [hn]; exact Nat.le_refl 3)⟩
                  rw [hh, hw, e3, boos_set, tbR_set hj]
                  exact heap_is [0, 1, 2] (fun _ => none) (by (try dsimp only [St.set, mks]); (repeat (first | exact out_mkh rfl | refine out_upd ?_ (by decide)))) (out_mkh rfl) ⟨rfl, rfl, rfl, trivial⟩
              · rintro _ _
                refine And.intro (by omega) ?_
                refine ⟨j, by show j ≤ _; omega, by show j < j + 1; omega, ?_⟩
                refine sub_to ⟨rfl, rfl, rfl, rfl, congrArg some (eI (pI_pred j)), trivial⟩ rfl (Nat.le_refl 3)
    · rw [res2 b f hpb hf]
      refine ⟨_, rfl, ?_⟩
      refine ⟨_, rfl, ?_⟩
      have hb2 : (!decide (f = 0)) = true := by simpa using hf
      iterate 1 (refine cond_t hb2 ?_)
      refine ⟨_, (by first | exact SubSt.refl _ | exact SubTop.refl _), ?_⟩
      show AV.bool false = AV.bool (overG a b)
      unfold overG
      rw [hga, hgb]
  · rw [res2 a e hpa he]
    refine ⟨_, rfl, ?_⟩
    refine ⟨_, rfl, ?_⟩
    refine ⟨b, rfl, hb, ?_⟩
    have hb2 : (!decide (e = 0)) = true := by simpa using he
    have hv : overG a b = false := by unfold overG; rw [hga]
    obtain ⟨v1, f, hf⟩ : ∃ v1 f, C_glob_parse.res b = .tup [v1, .int .i64 f] := ⟨_, _, rfl⟩
    rw [hf]
    refine ⟨_, rfl, ?_⟩
    refine ⟨_, rfl, ?_⟩
    iterate 3 (refine cond_t hb2 ?_)
    refine ⟨_, (by first | exact SubSt.refl _ | exact SubTop.refl _), ?_⟩
    show AV.bool false = AV.bool (overG a b)
    rw [hv]

end Qk

/-
  Chapter 32: Check and Fixed.
-/
namespace Qk
open Go Go.RowKit

theorem parse_second (g : List UInt8) : (parseR g).2 = checkG g := by
  rcases parse_of (g := g) with ⟨l, h1, h2⟩ | ⟨h1, e, h2, _, h3⟩
  · rw [h2]; exact (check_zero.2 ⟨l, h1⟩).symm
  · rw [h2, h3]

theorem d_check : Does ir_glob_Check C_glob_Check := by
  intro (g : List UInt8) hg
  replace hg : g.length ≤ 1000000000 := hg
  refine ⟨g, rfl, hg, ?_⟩
  refine ⟨_, rfl, ?_⟩
  refine ⟨_, rfl, ?_⟩
  refine ⟨_, (by first | exact SubSt.refl _ | exact SubTop.refl _), ?_⟩
  show AV.int .i64 (parseR g).2 = AV.int .i64 (checkG g)
  rw [parse_second]

/-- The builder's own pointer. -/
def pP (p : Bool) : AV := bif p then .ref 0 0 else .raw (.pointer none)
theorem pP_or (p : Bool) : pP p = .raw (.pointer none) ∨ pP p = .ref 0 0 := by cases p; exact .inl rfl; exact .inr rfl
def FB (out : List UInt8) (p : Bool) : List (Nat × AO) := [(0, .cl true [pP p, .sl 1 0 out.length]), (1, .ls true 1 (bys out))]
/-- A builder, its bytes under another name. -/
theorem ren_b {τ : List Nat} {p : Bool} {out out' : List UInt8} {m : Nat} (h0 : τ[0]? = some 0) (h1 : τ[1]? = some m) (h : out = out') : RenO τ (.cl true [pP p, .sl 1 0 out'.length]) (.cl true [pP p, .sl m 0 out.length]) := by
  subst h
  refine ⟨_, rfl, .inr ⟨_, _, rfl, ?_, _, _, rfl, ⟨m, h1, rfl⟩, rfl⟩⟩
  cases p
  · exact rfl
  · exact ⟨0, h0, rfl⟩

theorem lits_drop {l : List El} {k : Nat} (h : k < l.length) : lits (l.drop k) = match l[k]'h with
    | .lit c => (c :: (lits (l.drop (k + 1))).1, (lits (l.drop (k + 1))).2)
    | _ => ([], false) := by
  rw [List.drop_eq_getElem_cons h]
  cases l[k]'h <;> rfl
theorem elA_one (e : El) : AllOne (elA e) := by
  cases e <;> exact allOne4 rfl rfl rfl rfl
theorem elA_lit (e : El) : (elA e)[0 + 1]? = some (.bool e.isLit) := by cases e <;> rfl
theorem flatC_sub (l : List Comp) (i : Nat) (hi : i ≤ l.length) : AV.ilist 2 ((l.length : Int).toNat - (i : Int).toNat) (((flatC l).drop ((i : Int).toNat * 2)).take (((l.length : Int).toNat - (i : Int).toNat) * 2)) = cpsA (l.drop i) := by
  have e1 : (l.length : Int).toNat = l.length := by omega
  have e2 : (i : Int).toNat = i := by omega
  rw [e1, e2]
  unfold cpsA
  have e3 : (l.drop i).length = l.length - i := by simp
  have e4 : ((flatC l).drop (i * 2)).take ((l.length - i) * 2) = flatC (l.drop i) := by
    have e5 : flatC l = flatC (l.take i) ++ flatC (l.drop i) := by
      unfold flatC; rw [← List.flatMap_append, List.take_append_drop]
    have l1 := flatC_len (l.take i)
    have l2 := flatC_len (l.drop i)
    have l3 : (l.take i).length = i := by simp; omega
    rw [l3] at l1
    rw [e5, List.drop_left' l1, List.take_of_length_le (by omega)]
  rw [e3, e4]

set_option maxRecDepth 4000 in
set_option maxHeartbeats 1000000 in
theorem d_fixed : Does ir_glob_Fixed C_glob_Fixed := by
  intro (g : List UInt8) hg
  replace hg : g.length ≤ 1000000000 := hg
  refine ⟨g, rfl, hg, ?_⟩
  rcases parse_of (g := g) with ⟨l, hgl, hpr⟩ | ⟨hgl, e, hpr, he, _⟩
  · have hres : C_glob_parse.res g = .tup [cpsA l, .int .i64 0] := by show parseA (parseR g) = _; rw [hpr]; rfl
    rw [hres]
    refine ⟨_, rfl, ?_⟩
    refine ⟨_, rfl, ?_⟩
    have hfx : fixG g = fixL true l := by unfold fixG; rw [hgl]
    have okS := glob_okS hgl
    have hl : l.length ≤ 201 := by
      have h1 : compsL (splitS g) = some l := by
        unfold globL at hgl
        split at hgl
        · cases hgl
        · exact hgl
      have := (splitS_le g).2
      have := (glob_good hgl).2.2
      rw [comps_len h1]; omega
    clear hpr hgl hres
    refine jn_to ?_
    refine ⟨_, sub_nil 0 1 true 1 rfl rfl, ?_⟩
    refine ⟨Nat × List UInt8 × Bool, fun x => x.1 ≤ l.length ∧ fixG g = x.2.1 ++ fixL (decide (x.1 = 0)) (l.drop x.1) ∧ x.2.1.length ≤ x.1 * 1001,
      fun x => mks [(3, cpsA l), (5, .ref 0 0), (19, cpsA l), (20, .int .i64 l.length), (21, .int .i64 x.1)] (FB x.2.1 x.2.2) 2, fun x => l.length - x.1, (0, [], false), ⟨Nat.zero_le _, hfx, Nat.le_refl _⟩, ?_, ?_⟩
    · refine sub_ren [0, 1] rfl (by decide) ⟨⟨_, rfl, rfl⟩, ⟨_, rfl, ⟨0, rfl, rfl⟩⟩, ⟨_, rfl, rfl⟩, ⟨_, rfl, rfl⟩, ⟨_, rfl, rfl⟩, trivial⟩ ⟨⟨0, _, rfl, rfl, ?_⟩, ⟨1, _, rfl, rfl, ?_⟩, trivial⟩
      · exact ren_b (out := []) rfl rfl rfl
      · exact ⟨_, rfl, eB rfl⟩
    · rintro ⟨i, out, p⟩ ⟨hi, hf, hlen⟩
      dsimp only at hi hf hlen
      have hob : out.length ≤ 201 * 1001 := Nat.le_trans hlen (Nat.mul_le_mul_right _ (by omega))
      refine cond_split (fun h => ?_) (fun h => ?_)
      · have hT : (i : Int) < l.length := of_decide_eq_true h
        have hlt : i < l.length := by omega
        obtain ⟨c, hc⟩ : ∃ c, c = l[i]'hlt := ⟨_, rfl⟩
        have hci : l[i]? = some c := by rw [List.getElem?_eq_getElem hlt, hc]
        have hdr : l.drop i = c :: l.drop (i + 1) := by rw [List.drop_eq_getElem_cons hlt, hc]
        have hck := okS c (by rw [hc]; exact List.getElem_mem _)
        have e0 : (i : Int).toNat = i := by omega
        refine And.intro ⟨rfl, by decide, by omega, by omega⟩ ?_
        refine And.intro (nnl_flatC l) ?_
        refine ⟨cpA c, ⟨by rw [e0]; exact (flat_take (n := 2) (fun _ => rfl) l i _ hci).symm, rfl⟩, ?_⟩
        refine And.intro ⟨rfl, allTwo rfl rfl⟩ ?_
        refine And.intro (Nat.le_refl 2) ?_
        refine ⟨_, lay_all rfl, ?_⟩
        refine ⟨_, rfl, ?_⟩
        refine cond_split (fun h => ?_) (fun h => ?_)
        · have ha : c.any = true := h
          refine And.intro ⟨rfl, by omega, by omega, Int.le_refl _⟩ ?_
          refine ⟨Nat, fun k => k ≤ (l.drop i).length ∧ (0 < i → ((l.drop i).take k).any (fun d => !d.any) = false),
            fun k => mks [(5, .ref 0 0), (6, .int .i64 i), (30, cpsA (l.drop i)), (31, .int .i64 (l.drop i).length), (32, .int .i64 k)] (FB out p) 2, fun k => (l.drop i).length - k, 0, ⟨Nat.zero_le _, fun _ => rfl⟩, ?_, ?_⟩
          · refine sub_ren [0, 1] rfl (by decide) ⟨⟨_, rfl, ⟨0, rfl, rfl⟩⟩, ⟨_, rfl, rfl⟩, ⟨_, rfl, ?_⟩, ⟨_, rfl, ?_⟩, ⟨_, rfl, rfl⟩, trivial⟩ ⟨⟨0, _, rfl, rfl, ?_⟩, ⟨1, _, rfl, rfl, ?_⟩, trivial⟩
            · exact flatC_sub l i hi
            · show AV.int .i64 (((l.length : Int).toNat - (i : Int).toNat : Nat) : Int) = AV.int .i64 ((l.drop i).length : Int)
              rw [List.length_drop]; rfl
            · exact ren_b (out := out) rfl rfl rfl
            · exact ⟨_, rfl, eB rfl⟩
          · rintro k ⟨hk, hno⟩
            have hll : (l.drop i).length ≤ 201 := by rw [List.length_drop]; omega
            have fx : fixL (decide (i = 0)) (l.drop i) = if !(decide (i = 0)) && (l.drop i).any (fun d => !d.any) then [47] else [] := by
              rw [hdr, fixL, if_pos ha, List.any_cons, ha]; rfl
            refine cond_split (fun h => ?_) (fun h => ?_)
            · have hTk : (k : Int) < (l.drop i).length := of_decide_eq_true h
              have hkt : k < (l.drop i).length := by omega
              obtain ⟨d, hd⟩ : ∃ d, d = (l.drop i)[k]'hkt := ⟨_, rfl⟩
              have hdi : (l.drop i)[k]? = some d := by rw [List.getElem?_eq_getElem hkt, hd]
              have e1 : (k : Int).toNat = k := by omega
              refine And.intro ⟨rfl, by decide, by omega, by omega⟩ ?_
              refine And.intro (nnl_flatC _) ?_
              refine ⟨cpA d, ⟨by rw [e1]; exact (flat_take (n := 2) (fun _ => rfl) (l.drop i) k _ hdi).symm, rfl⟩, ?_⟩
              refine And.intro ⟨rfl, allTwo rfl rfl⟩ ?_
              refine And.intro (Nat.le_refl 2) ?_
              refine ⟨_, lay_all rfl, ?_⟩
              refine ⟨_, rfl, ?_⟩
              by_cases hda : d.any = true
              · have hb : (!d.any) = false := by rw [hda]; rfl
                iterate 3 (refine cond_f hb ?_)
                refine And.intro (by omega) ?_
                refine ⟨k + 1, ⟨by omega, fun h0 => ?_⟩, by dsimp only; omega, ?_⟩
                · rw [any_take_succ hkt, hno h0, ← hd, hb]; rfl
                · refine sub_ren [0, 1] rfl (by decide) ⟨⟨_, rfl, ⟨0, rfl, rfl⟩⟩, ⟨_, rfl, rfl⟩, ⟨_, rfl, rfl⟩, ⟨_, rfl, rfl⟩, ⟨_, rfl, rfl⟩, trivial⟩ ⟨⟨0, _, rfl, rfl, ?_⟩, ⟨1, _, rfl, rfl, ?_⟩, trivial⟩
                  · exact ren_b (out := out) rfl rfl rfl
                  · exact ⟨_, rfl, eB rfl⟩
              · have hb : (!d.any) = true := by simpa using hda
                iterate 2 (refine cond_t hb ?_)
                by_cases h0 : 0 < i
                · have hg0 : cond (!d.any) (decide ((0 : Int) < i)) false = true := by rw [hb]; simp; omega
                  refine cond_t hg0 ?_
                  refine ⟨0, 1, _, out, rfl, by decide, rfl, rfl, by omega, ?_⟩
                  refine And.intro (by dsimp only; simp; omega) ?_
                  refine ⟨_, (by first | exact SubSt.refl _ | exact SubTop.refl _), ?_⟩
                  show AV.str (out ++ [47]) = AV.str (fixG g)
                  have hany : (l.drop i).any (fun d => !d.any) = true := List.any_eq_true.2 ⟨d, List.mem_of_getElem? hdi, hb⟩
                  rw [hf, fx, hany]
                  have : (!decide (i = 0)) = true := by simp; omega
                  rw [this]; rfl
                · have hg0 : cond (!d.any) (decide ((0 : Int) < i)) false = false := by rw [hb]; simp; omega
                  refine cond_f hg0 ?_
                  refine And.intro (by omega) ?_
                  refine ⟨k + 1, ⟨by omega, fun h1 => absurd h1 h0⟩, by dsimp only; omega, ?_⟩
                  refine sub_ren [0, 1] rfl (by decide) ⟨⟨_, rfl, ⟨0, rfl, rfl⟩⟩, ⟨_, rfl, rfl⟩, ⟨_, rfl, rfl⟩, ⟨_, rfl, rfl⟩, ⟨_, rfl, rfl⟩, trivial⟩ ⟨⟨0, _, rfl, rfl, ?_⟩, ⟨1, _, rfl, rfl, ?_⟩, trivial⟩
                  · exact ren_b (out := out) rfl rfl rfl
                  · exact ⟨_, rfl, eB rfl⟩
            · have hF : ¬ (k : Int) < (l.drop i).length := of_decide_eq_false h
              refine ⟨0, 1, _, out, rfl, by decide, rfl, rfl, by omega, ?_⟩
              refine ⟨_, (by first | exact SubSt.refl _ | exact SubTop.refl _), ?_⟩
              show AV.str out = AV.str (fixG g)
              rw [hf, fx]
              by_cases h0 : 0 < i
              · have := hno h0
                rw [List.take_of_length_le (by omega)] at this
                rw [this]; simp
              · have : i = 0 := by omega
                rw [this]; simp
        · have ha : c.any = false := h
          have fx : fixL (decide (i = 0)) (l.drop i) = (if decide (i = 0) then [] else [47]) ++ (if (lits c.els).2 then (lits c.els).1 ++ fixL false (l.drop (i + 1)) else (lits c.els).1) := by
            rw [hdr, fixL, if_neg (by rw [ha]; decide)]
          obtain ⟨pre, hpre⟩ : ∃ pre : List UInt8, pre = out ++ (if decide (i = 0) then [] else [47]) := ⟨_, rfl⟩
          have hpl : pre.length ≤ out.length + 1 := by rw [hpre]; split <;> simp
          refine jn_at (fun p' : Bool => mks [(3, cpsA l), (5, .ref 0 0), (7, .ref 2 0), (19, cpsA l), (20, .int .i64 l.length), (21, .int .i64 i)] ([(0, .cl true [pP p', .sl 1 0 pre.length]), (1, .ls true 1 (bys pre)), (2, .cl false (cpA c))]) 3) (fun _ => True) ?_ ?_
          · refine cond_split (fun h => ?_) (fun h => ?_)
            · have h0 : (0 : Int) < i := of_decide_eq_true h
              refine ⟨0, 1, out, 47, rfl, ⟨by decide, _, rfl, rfl, pP_or p⟩, (show 0 < 3 by decide), (show 1 < 3 by decide), by omega, ?_⟩
              refine ⟨true, trivial, ?_⟩
              have e1 : out ++ [47] = pre := by rw [hpre, if_neg (by simp; omega)]
              refine sub_ren [0, 4, 2] rfl (by decide) ⟨⟨_, rfl, rfl⟩, ⟨_, rfl, ⟨0, rfl, rfl⟩⟩, ⟨_, rfl, ⟨2, rfl, rfl⟩⟩, ⟨_, rfl, rfl⟩, ⟨_, rfl, rfl⟩, ⟨_, rfl, rfl⟩, trivial⟩ ⟨⟨0, _, rfl, rfl, ?_⟩, ⟨4, _, rfl, rfl, ?_⟩, ⟨2, _, rfl, rfl, ?_⟩, trivial⟩
              · exact ren_b (p := true) rfl rfl e1
              · exact ⟨_, rfl, eB (congrArg bys e1)⟩
              · exact ⟨_, rfl, eN (nnl_cpA _) rfl⟩
            · have h0 : ¬ (0 : Int) < i := of_decide_eq_false h
              have e1 : out = pre := by rw [hpre, if_pos (by simp; omega)]; simp
              refine ⟨p, trivial, ?_⟩
              refine sub_ren [0, 1, 2] rfl (by decide) ⟨⟨_, rfl, rfl⟩, ⟨_, rfl, ⟨0, rfl, rfl⟩⟩, ⟨_, rfl, ⟨2, rfl, rfl⟩⟩, ⟨_, rfl, rfl⟩, ⟨_, rfl, rfl⟩, ⟨_, rfl, rfl⟩, trivial⟩ ⟨⟨0, _, rfl, rfl, ?_⟩, ⟨1, _, rfl, rfl, ?_⟩, ⟨2, _, rfl, rfl, ?_⟩, trivial⟩
              · exact ren_b rfl rfl e1
              · exact ⟨_, rfl, eB (congrArg bys e1)⟩
              · exact ⟨_, rfl, eN (nnl_cpA _) rfl⟩
          · intro p' _
            refine ⟨_, rfl, ?_⟩
            refine ⟨Nat × List UInt8 × Bool, fun x => x.1 ≤ c.els.length ∧ x.2.1.length = x.1 ∧ (lits c.els).1 = x.2.1 ++ (lits (c.els.drop x.1)).1 ∧ (lits c.els).2 = (lits (c.els.drop x.1)).2,
              fun x => mks [(3, cpsA l), (5, .ref 0 0), (19, cpsA l), (20, .int .i64 l.length), (21, .int .i64 i), (51, elsA c.els), (52, .int .i64 c.els.length), (53, .int .i64 x.1)] (FB (pre ++ x.2.1) x.2.2) 2,
              fun x => c.els.length - x.1, (0, [], p'), ⟨Nat.zero_le _, rfl, rfl, rfl⟩, ?_, ?_⟩
            · refine sub_ren [0, 1] rfl (by decide) ⟨⟨_, rfl, rfl⟩, ⟨_, rfl, ⟨0, rfl, rfl⟩⟩, ⟨_, rfl, rfl⟩, ⟨_, rfl, rfl⟩, ⟨_, rfl, rfl⟩, ⟨_, rfl, rfl⟩, ⟨_, rfl, rfl⟩, ⟨_, rfl, rfl⟩, trivial⟩ ⟨⟨0, _, rfl, rfl, ?_⟩, ⟨1, _, rfl, rfl, ?_⟩, trivial⟩
              · exact ren_b rfl rfl (List.append_nil _).symm
              · exact ⟨_, rfl, eB (congrArg bys (List.append_nil pre).symm)⟩
            · rintro ⟨k, w, p2⟩ ⟨hk, hwl, h1, h2⟩
              dsimp only at hk hwl h1 h2
              have hel := hck.2.1
              have hpw : (pre ++ w).length ≤ 300000 := by rw [List.length_append]; omega
              refine cond_split (fun h => ?_) (fun h => ?_)
              · have hTk : (k : Int) < c.els.length := of_decide_eq_true h
                have hkt : k < c.els.length := by omega
                obtain ⟨e, he⟩ : ∃ e, e = c.els[k]'hkt := ⟨_, rfl⟩
                have hei : c.els[k]? = some e := by rw [List.getElem?_eq_getElem hkt, he]
                have e1 : (k : Int).toNat = k := by omega
                have ld := lits_drop hkt
                rw [← he] at ld
                refine And.intro ⟨rfl, by decide, by omega, by omega⟩ ?_
                refine And.intro (nnl_flatE _) ?_
                refine ⟨elA e, ⟨by rw [e1]; exact (flat_take (n := 4) elA_len c.els k _ hei).symm, elA_len e⟩, ?_⟩
                refine And.intro ⟨elA_len e, elA_one e⟩ ?_
                refine And.intro (Nat.le_refl 4) ?_
                refine ⟨_, lay_all (elA_len e), ?_⟩
                refine ⟨_, elA_lit e, ?_⟩
                refine cond_split (fun h => ?_) (fun h => ?_)
                · have hlit : e.isLit = false := by simpa using h
                  refine ⟨0, 1, _, pre ++ w, rfl, by decide, rfl, rfl, by omega, ?_⟩
                  refine ⟨_, (by first | exact SubSt.refl _ | exact SubTop.refl _), ?_⟩
                  show AV.str (pre ++ w) = AV.str (fixG g)
                  have ld2 : lits (c.els.drop k) = ([], false) := by
                    rw [ld]
                    cases e <;> first | rfl | cases hlit
                  rw [ld2] at h1 h2
                  rw [hf, fx, h1, h2, hpre]
                  simp
                · have hlit : e.isLit = true := by simpa using h
                  obtain ⟨b, rfl⟩ : ∃ b, e = .lit b := by
                    cases e with
                    | lit b => exact ⟨b, rfl⟩
                    | star => cases hlit
                    | any => cases hlit
                    | cls _ _ => cases hlit
                  refine ⟨_, rfl, ?_⟩
                  refine ⟨0, 1, pre ++ w, b, rfl, ⟨by decide, _, rfl, rfl, pP_or p2⟩, (show 0 < 3 by decide), (show 1 < 3 by decide), by omega, ?_⟩
                  refine And.intro (by omega) ?_
                  dsimp only at ld
                  rw [ld] at h1 h2
                  refine ⟨(k + 1, w ++ [b], true), ⟨by dsimp only; omega, by simp [hwl], by rw [h1]; simp, h2⟩, by dsimp only; omega, ?_⟩
                  refine sub_ren [0, 4] rfl (by decide) ⟨⟨_, rfl, rfl⟩, ⟨_, rfl, ⟨0, rfl, rfl⟩⟩, ⟨_, rfl, rfl⟩, ⟨_, rfl, rfl⟩, ⟨_, rfl, rfl⟩, ⟨_, rfl, rfl⟩, ⟨_, rfl, rfl⟩, ⟨_, rfl, eI (by omega)⟩, trivial⟩ ⟨⟨0, _, rfl, rfl, ?_⟩, ⟨4, _, rfl, rfl, ?_⟩, trivial⟩
                  · exact ren_b (p := true) rfl rfl (List.append_assoc _ _ _)
                  · exact ⟨_, rfl, eB (congrArg bys (List.append_assoc pre w [b]))⟩
              · have hFk : ¬ (k : Int) < c.els.length := of_decide_eq_false h
                rw [List.drop_of_length_le (by omega)] at h1 h2
                have e1 : (lits c.els).1 = w := by rw [h1]; simp [lits]
                refine And.intro (by omega) ?_
                refine ⟨(i + 1, pre ++ w, p2), ⟨hlt, ?_, ?_⟩, by dsimp only; omega, ?_⟩
                · dsimp only
                  rw [hf, fx, h2, e1, hpre]
                  simp [lits]
                · rw [List.length_append]; dsimp only; omega
                · refine sub_ren [0, 1] rfl (by decide) ⟨⟨_, rfl, rfl⟩, ⟨_, rfl, ⟨0, rfl, rfl⟩⟩, ⟨_, rfl, rfl⟩, ⟨_, rfl, rfl⟩, ⟨_, rfl, eI (by omega)⟩, trivial⟩ ⟨⟨0, _, rfl, rfl, ?_⟩, ⟨1, _, rfl, rfl, ?_⟩, trivial⟩
                  · exact ren_b rfl rfl rfl
                  · exact ⟨_, rfl, eB rfl⟩
      · have hF : ¬ (i : Int) < l.length := of_decide_eq_false h
        refine ⟨0, 1, _, out, rfl, by decide, rfl, rfl, by omega, ?_⟩
        refine ⟨_, (by first | exact SubSt.refl _ | exact SubTop.refl _), ?_⟩
        show AV.str out = AV.str (fixG g)
        rw [hf, List.drop_of_length_le (by omega)]
        simp [fixL]
  · have hres : C_glob_parse.res g = .tup [.raw (.slice none 0 0), .int .i64 e] := by
      show parseA (parseR g) = _
      rw [hpr]; unfold parseA; rw [if_neg he]
    rw [hres]
    refine ⟨_, rfl, ?_⟩
    refine ⟨_, rfl, ?_⟩
    have hb : (!decide (e = 0)) = true := by simpa using he
    iterate 1 (refine cond_t hb ?_)
    refine ⟨_, (by first | exact SubSt.refl _ | exact SubTop.refl _), ?_⟩
    show AV.str [] = AV.str (fixG g)
    unfold fixG
    rw [hgl]

end Qk
