/-
  Chapter 32: the reference: overlapping.
-/
import Derived.Test.YtgioceapingblaaDoorPh
import Derived.Test.YtgioceapingblaaDoorPg
import Derived.Test.YtgioceapingblaaDoorPd
import Derived.Test.YtgioceapingblaaDoorPf

/-
  Chapter 32: the reference's common and Overlap in the executor's form.
-/
namespace Qk
open Go Go.RowKit

def cm_body : IC := (.seq (.ops [⟨(some 31), none, .mov (t 7)⟩,
    ⟨(some 32), none, .mov (t 0)⟩,
    ⟨(some 33), none, .lenL (t 32)⟩,
    ⟨(some 34), none, .bin .eql (t 31) (t 33)⟩,
    ⟨(some 35), none, .mov (t 34)⟩,
    ⟨(some 36), (some (35, true)), .mov (t 8)⟩,
    ⟨(some 37), (some (35, true)), .mov (t 1)⟩,
    ⟨(some 38), (some (35, true)), .lenL (t 37)⟩,
    ⟨(some 39), (some (35, true)), .bin .eql (t 36) (t 38)⟩,
    ⟨(some 40), none, .pick (t 35) (t 39) (.const (.bool false))⟩,
    ⟨(some 9), none, .mov (t 40)⟩])
  (.seq (.seq (.ops [⟨(some 41), none, .mov (t 7)⟩,
    ⟨(some 42), none, .mov (t 0)⟩,
    ⟨(some 43), none, .lenL (t 42)⟩,
    ⟨(some 44), none, .bin .lss (t 41) (t 43)⟩,
    ⟨(some 45), none, .mov (t 44)⟩,
    ⟨(some 46), (some (45, true)), .mov (t 0)⟩,
    ⟨(some 47), (some (45, true)), .mov (t 7)⟩,
    ⟨(some 48), (some (45, true)), .idxL 258 (t 46) (t 47)⟩,
    ⟨(some 49), (some (45, true)), .fldA 0 (t 48)⟩,
    ⟨(some 50), (some (45, true)), .load1 (t 49)⟩,
    ⟨(some 51), none, .pick (t 45) (t 50) (.const (.bool false))⟩])
  (.cond (t 51) (.ops [⟨(some 52), none, .mov (t 9)⟩,
    ⟨(some 53), none, .mov (t 52)⟩,
    ⟨(some 54), (some (53, false)), .mov (t 6)⟩,
    ⟨(some 55), (some (53, false)), .mov (t 7)⟩,
    ⟨(some 56), (some (53, false)), .bin .add (t 55) (ci 1)⟩,
    ⟨(some 57), (some (53, false)), .mov (t 5)⟩,
    ⟨(some 58), (some (53, false)), .bin .mul (t 56) (t 57)⟩,
    ⟨(some 59), (some (53, false)), .mov (t 8)⟩,
    ⟨(some 60), (some (53, false)), .bin .add (t 58) (t 59)⟩,
    ⟨(some 61), (some (53, false)), .idxL 1 (t 54) (t 60)⟩,
    ⟨(some 62), (some (53, false)), .load1 (t 61)⟩,
    ⟨(some 63), none, .pick (t 53) (.const (.bool true)) (t 62)⟩,
    ⟨(some 64), none, .mov (t 63)⟩,
    ⟨(some 65), (some (64, false)), .mov (t 8)⟩,
    ⟨(some 66), (some (64, false)), .mov (t 1)⟩,
    ⟨(some 67), (some (64, false)), .lenL (t 66)⟩,
    ⟨(some 68), (some (64, false)), .bin .lss (t 65) (t 67)⟩,
    ⟨(some 69), (some (64, false)), .mov (t 68)⟩,
    ⟨(some 70), (some (69, true)), .mov (t 1)⟩,
    ⟨(some 71), (some (69, true)), .mov (t 8)⟩,
    ⟨(some 72), (some (69, true)), .idxL 258 (t 70) (t 71)⟩,
    ⟨(some 73), (some (69, true)), .fldA 0 (t 72)⟩,
    ⟨(some 74), (some (69, true)), .load1 (t 73)⟩,
    ⟨(some 75), (some (69, true)), .not (t 74)⟩,
    ⟨(some 76), (some (64, false)), .pick (t 69) (t 75) (.const (.bool false))⟩,
    ⟨(some 77), (some (64, false)), .mov (t 76)⟩,
    ⟨(some 78), (some (77, true)), .mov (t 6)⟩,
    ⟨(some 79), (some (77, true)), .mov (t 7)⟩,
    ⟨(some 80), (some (77, true)), .mov (t 5)⟩,
    ⟨(some 81), (some (77, true)), .bin .mul (t 79) (t 80)⟩,
    ⟨(some 82), (some (77, true)), .mov (t 8)⟩,
    ⟨(some 83), (some (77, true)), .bin .add (t 81) (t 82)⟩,
    ⟨(some 84), (some (77, true)), .bin .add (t 83) (ci 1)⟩,
    ⟨(some 85), (some (77, true)), .idxL 1 (t 78) (t 84)⟩,
    ⟨(some 86), (some (77, true)), .load1 (t 85)⟩,
    ⟨(some 87), (some (64, false)), .pick (t 77) (t 86) (.const (.bool false))⟩,
    ⟨(some 88), none, .pick (t 64) (.const (.bool true)) (t 87)⟩,
    ⟨(some 9), none, .mov (t 88)⟩])
  .skip))
  (.seq (.seq (.ops [⟨(some 89), none, .mov (t 8)⟩,
    ⟨(some 90), none, .mov (t 1)⟩,
    ⟨(some 91), none, .lenL (t 90)⟩,
    ⟨(some 92), none, .bin .lss (t 89) (t 91)⟩,
    ⟨(some 93), none, .mov (t 92)⟩,
    ⟨(some 94), (some (93, true)), .mov (t 1)⟩,
    ⟨(some 95), (some (93, true)), .mov (t 8)⟩,
    ⟨(some 96), (some (93, true)), .idxL 258 (t 94) (t 95)⟩,
    ⟨(some 97), (some (93, true)), .fldA 0 (t 96)⟩,
    ⟨(some 98), (some (93, true)), .load1 (t 97)⟩,
    ⟨(some 99), none, .pick (t 93) (t 98) (.const (.bool false))⟩])
  (.cond (t 99) (.ops [⟨(some 100), none, .mov (t 9)⟩,
    ⟨(some 101), none, .mov (t 100)⟩,
    ⟨(some 102), (some (101, false)), .mov (t 6)⟩,
    ⟨(some 103), (some (101, false)), .mov (t 7)⟩,
    ⟨(some 104), (some (101, false)), .mov (t 5)⟩,
    ⟨(some 105), (some (101, false)), .bin .mul (t 103) (t 104)⟩,
    ⟨(some 106), (some (101, false)), .mov (t 8)⟩,
    ⟨(some 107), (some (101, false)), .bin .add (t 105) (t 106)⟩,
    ⟨(some 108), (some (101, false)), .bin .add (t 107) (ci 1)⟩,
    ⟨(some 109), (some (101, false)), .idxL 1 (t 102) (t 108)⟩,
    ⟨(some 110), (some (101, false)), .load1 (t 109)⟩,
    ⟨(some 111), none, .pick (t 101) (.const (.bool true)) (t 110)⟩,
    ⟨(some 112), none, .mov (t 111)⟩,
    ⟨(some 113), (some (112, false)), .mov (t 7)⟩,
    ⟨(some 114), (some (112, false)), .mov (t 0)⟩,
    ⟨(some 115), (some (112, false)), .lenL (t 114)⟩,
    ⟨(some 116), (some (112, false)), .bin .lss (t 113) (t 115)⟩,
    ⟨(some 117), (some (112, false)), .mov (t 116)⟩,
    ⟨(some 118), (some (117, true)), .mov (t 0)⟩,
    ⟨(some 119), (some (117, true)), .mov (t 7)⟩,
    ⟨(some 120), (some (117, true)), .idxL 258 (t 118) (t 119)⟩,
    ⟨(some 121), (some (117, true)), .fldA 0 (t 120)⟩,
    ⟨(some 122), (some (117, true)), .load1 (t 121)⟩,
    ⟨(some 123), (some (117, true)), .not (t 122)⟩,
    ⟨(some 124), (some (112, false)), .pick (t 117) (t 123) (.const (.bool false))⟩,
    ⟨(some 125), (some (112, false)), .mov (t 124)⟩,
    ⟨(some 126), (some (125, true)), .mov (t 6)⟩,
    ⟨(some 127), (some (125, true)), .mov (t 7)⟩,
    ⟨(some 128), (some (125, true)), .bin .add (t 127) (ci 1)⟩,
    ⟨(some 129), (some (125, true)), .mov (t 5)⟩,
    ⟨(some 130), (some (125, true)), .bin .mul (t 128) (t 129)⟩,
    ⟨(some 131), (some (125, true)), .mov (t 8)⟩,
    ⟨(some 132), (some (125, true)), .bin .add (t 130) (t 131)⟩,
    ⟨(some 133), (some (125, true)), .idxL 1 (t 126) (t 132)⟩,
    ⟨(some 134), (some (125, true)), .load1 (t 133)⟩,
    ⟨(some 135), (some (112, false)), .pick (t 125) (t 134) (.const (.bool false))⟩,
    ⟨(some 136), none, .pick (t 112) (.const (.bool true)) (t 135)⟩,
    ⟨(some 9), none, .mov (t 136)⟩])
  .skip))
  (.seq (.seq (.ops [⟨(some 137), none, .mov (t 7)⟩,
    ⟨(some 138), none, .mov (t 0)⟩,
    ⟨(some 139), none, .lenL (t 138)⟩,
    ⟨(some 140), none, .bin .lss (t 137) (t 139)⟩,
    ⟨(some 141), none, .mov (t 140)⟩,
    ⟨(some 142), (some (141, true)), .mov (t 8)⟩,
    ⟨(some 143), (some (141, true)), .mov (t 1)⟩,
    ⟨(some 144), (some (141, true)), .lenL (t 143)⟩,
    ⟨(some 145), (some (141, true)), .bin .lss (t 142) (t 144)⟩,
    ⟨(some 146), none, .pick (t 141) (t 145) (.const (.bool false))⟩,
    ⟨(some 147), none, .mov (t 146)⟩,
    ⟨(some 148), (some (147, true)), .mov (t 0)⟩,
    ⟨(some 149), (some (147, true)), .mov (t 7)⟩,
    ⟨(some 150), (some (147, true)), .idxL 258 (t 148) (t 149)⟩,
    ⟨(some 151), (some (147, true)), .fldA 0 (t 150)⟩,
    ⟨(some 152), (some (147, true)), .load1 (t 151)⟩,
    ⟨(some 153), (some (147, true)), .not (t 152)⟩,
    ⟨(some 154), none, .pick (t 147) (t 153) (.const (.bool false))⟩,
    ⟨(some 155), none, .mov (t 154)⟩,
    ⟨(some 156), (some (155, true)), .mov (t 1)⟩,
    ⟨(some 157), (some (155, true)), .mov (t 8)⟩,
    ⟨(some 158), (some (155, true)), .idxL 258 (t 156) (t 157)⟩,
    ⟨(some 159), (some (155, true)), .fldA 0 (t 158)⟩,
    ⟨(some 160), (some (155, true)), .load1 (t 159)⟩,
    ⟨(some 161), (some (155, true)), .not (t 160)⟩,
    ⟨(some 162), none, .pick (t 155) (t 161) (.const (.bool false))⟩])
  (.cond (t 162) (.ops [⟨(some 163), none, .mov (t 9)⟩,
    ⟨(some 164), none, .mov (t 163)⟩,
    ⟨(some 165), (some (164, false)), .mov (t 0)⟩,
    ⟨(some 166), (some (164, false)), .mov (t 7)⟩,
    ⟨(some 167), (some (164, false)), .idxL 258 (t 165) (t 166)⟩,
    ⟨(some 168), (some (164, false)), .loadN 258 (t 167)⟩,
    ⟨(some 169), (some (164, false)), .mov (t 1)⟩,
    ⟨(some 170), (some (164, false)), .mov (t 8)⟩,
    ⟨(some 171), (some (164, false)), .idxL 258 (t 169) (t 170)⟩,
    ⟨(some 172), (some (164, false)), .loadN 258 (t 171)⟩,
    ⟨(some 173), (some (164, false)), .pcall C_quiltref32_meet [(t 168), (t 172)]⟩,
    ⟨(some 174), (some (164, false)), .mov (t 173)⟩,
    ⟨(some 175), (some (174, true)), .mov (t 6)⟩,
    ⟨(some 176), (some (174, true)), .mov (t 7)⟩,
    ⟨(some 177), (some (174, true)), .bin .add (t 176) (ci 1)⟩,
    ⟨(some 178), (some (174, true)), .mov (t 5)⟩,
    ⟨(some 179), (some (174, true)), .bin .mul (t 177) (t 178)⟩,
    ⟨(some 180), (some (174, true)), .mov (t 8)⟩,
    ⟨(some 181), (some (174, true)), .bin .add (t 179) (t 180)⟩,
    ⟨(some 182), (some (174, true)), .bin .add (t 181) (ci 1)⟩,
    ⟨(some 183), (some (174, true)), .idxL 1 (t 175) (t 182)⟩,
    ⟨(some 184), (some (174, true)), .load1 (t 183)⟩,
    ⟨(some 185), (some (164, false)), .pick (t 174) (t 184) (.const (.bool false))⟩,
    ⟨(some 186), none, .pick (t 164) (.const (.bool true)) (t 185)⟩,
    ⟨(some 9), none, .mov (t 186)⟩])
  .skip))
  (.ops [⟨(some 187), none, .mov (t 6)⟩,
    ⟨(some 188), none, .mov (t 7)⟩,
    ⟨(some 189), none, .mov (t 5)⟩,
    ⟨(some 190), none, .bin .mul (t 188) (t 189)⟩,
    ⟨(some 191), none, .mov (t 8)⟩,
    ⟨(some 192), none, .bin .add (t 190) (t 191)⟩,
    ⟨(some 193), none, .mov (t 9)⟩,
    ⟨(some 194), none, .idxL 1 (t 187) (t 192)⟩,
    ⟨none, none, .stor1 (t 194) (t 193)⟩])))))
/-- quilt/quiltref32.common -/
def irq_common : IF := ⟨(.seq (.ops [⟨(some 4), none, .mov (.const (.bool false))⟩])
  (.seq (.ops [⟨(some 10), none, .mov (t 1)⟩,
    ⟨(some 11), none, .lenL (t 10)⟩,
    ⟨(some 12), none, .bin .add (t 11) (ci 1)⟩,
    ⟨(some 5), none, .mov (t 12)⟩])
  (.seq (.ops [⟨(some 13), none, .mov (t 0)⟩,
    ⟨(some 14), none, .lenL (t 13)⟩,
    ⟨(some 15), none, .bin .add (t 14) (ci 1)⟩,
    ⟨(some 16), none, .mov (t 5)⟩,
    ⟨(some 17), none, .bin .mul (t 15) (t 16)⟩,
    ⟨(some 18), none, .mksl 1 1 [.bool false] (t 17) (t 17)⟩,
    ⟨(some 6), none, .mov (t 18)⟩])
  (.seq (.seq (.ops [⟨(some 19), none, .mov (t 0)⟩,
    ⟨(some 20), none, .lenL (t 19)⟩,
    ⟨(some 7), none, .mov (t 20)⟩])
  (.block 0 (.loop (.seq (.seq (.ops [⟨(some 21), none, .mov (t 7)⟩,
    ⟨(some 22), none, .bin .geq (t 21) (ci 0)⟩])
  (.cond (t 22) .skip
  (.exit 0)))
  (.seq (.block 1 (.seq (.ops [⟨(some 25), none, .mov (t 1)⟩,
    ⟨(some 26), none, .lenL (t 25)⟩,
    ⟨(some 8), none, .mov (t 26)⟩])
  (.block 2 (.loop (.seq (.jn (.seq (.ops [⟨(some 27), none, .mov (t 8)⟩,
    ⟨(some 28), none, .bin .geq (t 27) (ci 0)⟩])
  (.cond (t 28) .skip
  (.exit 2))))
  (.seq (.block 3 (.jn cm_body))
  (.ops [⟨(some 29), none, .mov (t 8)⟩,
    ⟨(some 30), none, .bin .sub (t 29) (ci 1)⟩,
    ⟨(some 8), none, .mov (t 30)⟩])))))))
  (.ops [⟨(some 23), none, .mov (t 7)⟩,
    ⟨(some 24), none, .bin .sub (t 23) (ci 1)⟩,
    ⟨(some 7), none, .mov (t 24)⟩]))))))
  (.seq (.ops [⟨(some 195), none, .mov (t 6)⟩,
    ⟨(some 196), none, .idxL 1 (t 195) (ci 0)⟩,
    ⟨(some 197), none, .load1 (t 196)⟩,
    ⟨(some 4), none, .mov (t 197)⟩])
  .ret))))), [.tmp 4]⟩
def om_body : IC := (.seq (.ops [⟨(some 51), none, .mov (t 11)⟩,
    ⟨(some 52), none, .mov (t 5)⟩,
    ⟨(some 53), none, .lenL (t 52)⟩,
    ⟨(some 54), none, .bin .eql (t 51) (t 53)⟩,
    ⟨(some 55), none, .mov (t 54)⟩,
    ⟨(some 56), (some (55, true)), .mov (t 12)⟩,
    ⟨(some 57), (some (55, true)), .mov (t 7)⟩,
    ⟨(some 58), (some (55, true)), .lenL (t 57)⟩,
    ⟨(some 59), (some (55, true)), .bin .eql (t 56) (t 58)⟩,
    ⟨(some 60), none, .pick (t 55) (t 59) (.const (.bool false))⟩,
    ⟨(some 13), none, .mov (t 60)⟩])
  (.seq (.seq (.ops [⟨(some 61), none, .mov (t 11)⟩,
    ⟨(some 62), none, .mov (t 5)⟩,
    ⟨(some 63), none, .lenL (t 62)⟩,
    ⟨(some 64), none, .bin .lss (t 61) (t 63)⟩,
    ⟨(some 65), none, .mov (t 64)⟩,
    ⟨(some 66), (some (65, true)), .mov (t 5)⟩,
    ⟨(some 67), (some (65, true)), .mov (t 11)⟩,
    ⟨(some 68), (some (65, true)), .idxL 2 (t 66) (t 67)⟩,
    ⟨(some 69), (some (65, true)), .fldA 0 (t 68)⟩,
    ⟨(some 70), (some (65, true)), .load1 (t 69)⟩,
    ⟨(some 71), none, .pick (t 65) (t 70) (.const (.bool false))⟩])
  (.cond (t 71) (.ops [⟨(some 72), none, .mov (t 13)⟩,
    ⟨(some 73), none, .mov (t 72)⟩,
    ⟨(some 74), (some (73, false)), .mov (t 10)⟩,
    ⟨(some 75), (some (73, false)), .mov (t 11)⟩,
    ⟨(some 76), (some (73, false)), .bin .add (t 75) (ci 1)⟩,
    ⟨(some 77), (some (73, false)), .mov (t 9)⟩,
    ⟨(some 78), (some (73, false)), .bin .mul (t 76) (t 77)⟩,
    ⟨(some 79), (some (73, false)), .mov (t 12)⟩,
    ⟨(some 80), (some (73, false)), .bin .add (t 78) (t 79)⟩,
    ⟨(some 81), (some (73, false)), .idxL 1 (t 74) (t 80)⟩,
    ⟨(some 82), (some (73, false)), .load1 (t 81)⟩,
    ⟨(some 83), none, .pick (t 73) (.const (.bool true)) (t 82)⟩,
    ⟨(some 84), none, .mov (t 83)⟩,
    ⟨(some 85), (some (84, false)), .mov (t 12)⟩,
    ⟨(some 86), (some (84, false)), .mov (t 7)⟩,
    ⟨(some 87), (some (84, false)), .lenL (t 86)⟩,
    ⟨(some 88), (some (84, false)), .bin .lss (t 85) (t 87)⟩,
    ⟨(some 89), (some (84, false)), .mov (t 88)⟩,
    ⟨(some 90), (some (89, true)), .mov (t 7)⟩,
    ⟨(some 91), (some (89, true)), .mov (t 12)⟩,
    ⟨(some 92), (some (89, true)), .idxL 2 (t 90) (t 91)⟩,
    ⟨(some 93), (some (89, true)), .fldA 0 (t 92)⟩,
    ⟨(some 94), (some (89, true)), .load1 (t 93)⟩,
    ⟨(some 95), (some (89, true)), .not (t 94)⟩,
    ⟨(some 96), (some (84, false)), .pick (t 89) (t 95) (.const (.bool false))⟩,
    ⟨(some 97), (some (84, false)), .mov (t 96)⟩,
    ⟨(some 98), (some (97, true)), .mov (t 10)⟩,
    ⟨(some 99), (some (97, true)), .mov (t 11)⟩,
    ⟨(some 100), (some (97, true)), .mov (t 9)⟩,
    ⟨(some 101), (some (97, true)), .bin .mul (t 99) (t 100)⟩,
    ⟨(some 102), (some (97, true)), .mov (t 12)⟩,
    ⟨(some 103), (some (97, true)), .bin .add (t 101) (t 102)⟩,
    ⟨(some 104), (some (97, true)), .bin .add (t 103) (ci 1)⟩,
    ⟨(some 105), (some (97, true)), .idxL 1 (t 98) (t 104)⟩,
    ⟨(some 106), (some (97, true)), .load1 (t 105)⟩,
    ⟨(some 107), (some (84, false)), .pick (t 97) (t 106) (.const (.bool false))⟩,
    ⟨(some 108), none, .pick (t 84) (.const (.bool true)) (t 107)⟩,
    ⟨(some 13), none, .mov (t 108)⟩])
  .skip))
  (.seq (.seq (.ops [⟨(some 109), none, .mov (t 12)⟩,
    ⟨(some 110), none, .mov (t 7)⟩,
    ⟨(some 111), none, .lenL (t 110)⟩,
    ⟨(some 112), none, .bin .lss (t 109) (t 111)⟩,
    ⟨(some 113), none, .mov (t 112)⟩,
    ⟨(some 114), (some (113, true)), .mov (t 7)⟩,
    ⟨(some 115), (some (113, true)), .mov (t 12)⟩,
    ⟨(some 116), (some (113, true)), .idxL 2 (t 114) (t 115)⟩,
    ⟨(some 117), (some (113, true)), .fldA 0 (t 116)⟩,
    ⟨(some 118), (some (113, true)), .load1 (t 117)⟩,
    ⟨(some 119), none, .pick (t 113) (t 118) (.const (.bool false))⟩])
  (.cond (t 119) (.ops [⟨(some 120), none, .mov (t 13)⟩,
    ⟨(some 121), none, .mov (t 120)⟩,
    ⟨(some 122), (some (121, false)), .mov (t 10)⟩,
    ⟨(some 123), (some (121, false)), .mov (t 11)⟩,
    ⟨(some 124), (some (121, false)), .mov (t 9)⟩,
    ⟨(some 125), (some (121, false)), .bin .mul (t 123) (t 124)⟩,
    ⟨(some 126), (some (121, false)), .mov (t 12)⟩,
    ⟨(some 127), (some (121, false)), .bin .add (t 125) (t 126)⟩,
    ⟨(some 128), (some (121, false)), .bin .add (t 127) (ci 1)⟩,
    ⟨(some 129), (some (121, false)), .idxL 1 (t 122) (t 128)⟩,
    ⟨(some 130), (some (121, false)), .load1 (t 129)⟩,
    ⟨(some 131), none, .pick (t 121) (.const (.bool true)) (t 130)⟩,
    ⟨(some 132), none, .mov (t 131)⟩,
    ⟨(some 133), (some (132, false)), .mov (t 11)⟩,
    ⟨(some 134), (some (132, false)), .mov (t 5)⟩,
    ⟨(some 135), (some (132, false)), .lenL (t 134)⟩,
    ⟨(some 136), (some (132, false)), .bin .lss (t 133) (t 135)⟩,
    ⟨(some 137), (some (132, false)), .mov (t 136)⟩,
    ⟨(some 138), (some (137, true)), .mov (t 5)⟩,
    ⟨(some 139), (some (137, true)), .mov (t 11)⟩,
    ⟨(some 140), (some (137, true)), .idxL 2 (t 138) (t 139)⟩,
    ⟨(some 141), (some (137, true)), .fldA 0 (t 140)⟩,
    ⟨(some 142), (some (137, true)), .load1 (t 141)⟩,
    ⟨(some 143), (some (137, true)), .not (t 142)⟩,
    ⟨(some 144), (some (132, false)), .pick (t 137) (t 143) (.const (.bool false))⟩,
    ⟨(some 145), (some (132, false)), .mov (t 144)⟩,
    ⟨(some 146), (some (145, true)), .mov (t 10)⟩,
    ⟨(some 147), (some (145, true)), .mov (t 11)⟩,
    ⟨(some 148), (some (145, true)), .bin .add (t 147) (ci 1)⟩,
    ⟨(some 149), (some (145, true)), .mov (t 9)⟩,
    ⟨(some 150), (some (145, true)), .bin .mul (t 148) (t 149)⟩,
    ⟨(some 151), (some (145, true)), .mov (t 12)⟩,
    ⟨(some 152), (some (145, true)), .bin .add (t 150) (t 151)⟩,
    ⟨(some 153), (some (145, true)), .idxL 1 (t 146) (t 152)⟩,
    ⟨(some 154), (some (145, true)), .load1 (t 153)⟩,
    ⟨(some 155), (some (132, false)), .pick (t 145) (t 154) (.const (.bool false))⟩,
    ⟨(some 156), none, .pick (t 132) (.const (.bool true)) (t 155)⟩,
    ⟨(some 13), none, .mov (t 156)⟩])
  .skip))
  (.seq (.seq (.ops [⟨(some 157), none, .mov (t 11)⟩,
    ⟨(some 158), none, .mov (t 5)⟩,
    ⟨(some 159), none, .lenL (t 158)⟩,
    ⟨(some 160), none, .bin .lss (t 157) (t 159)⟩,
    ⟨(some 161), none, .mov (t 160)⟩,
    ⟨(some 162), (some (161, true)), .mov (t 12)⟩,
    ⟨(some 163), (some (161, true)), .mov (t 7)⟩,
    ⟨(some 164), (some (161, true)), .lenL (t 163)⟩,
    ⟨(some 165), (some (161, true)), .bin .lss (t 162) (t 164)⟩,
    ⟨(some 166), none, .pick (t 161) (t 165) (.const (.bool false))⟩,
    ⟨(some 167), none, .mov (t 166)⟩,
    ⟨(some 168), (some (167, true)), .mov (t 5)⟩,
    ⟨(some 169), (some (167, true)), .mov (t 11)⟩,
    ⟨(some 170), (some (167, true)), .idxL 2 (t 168) (t 169)⟩,
    ⟨(some 171), (some (167, true)), .fldA 0 (t 170)⟩,
    ⟨(some 172), (some (167, true)), .load1 (t 171)⟩,
    ⟨(some 173), (some (167, true)), .not (t 172)⟩,
    ⟨(some 174), none, .pick (t 167) (t 173) (.const (.bool false))⟩,
    ⟨(some 175), none, .mov (t 174)⟩,
    ⟨(some 176), (some (175, true)), .mov (t 7)⟩,
    ⟨(some 177), (some (175, true)), .mov (t 12)⟩,
    ⟨(some 178), (some (175, true)), .idxL 2 (t 176) (t 177)⟩,
    ⟨(some 179), (some (175, true)), .fldA 0 (t 178)⟩,
    ⟨(some 180), (some (175, true)), .load1 (t 179)⟩,
    ⟨(some 181), (some (175, true)), .not (t 180)⟩,
    ⟨(some 182), none, .pick (t 175) (t 181) (.const (.bool false))⟩])
  (.cond (t 182) (.ops [⟨(some 183), none, .mov (t 13)⟩,
    ⟨(some 184), none, .mov (t 183)⟩,
    ⟨(some 185), (some (184, false)), .mov (t 5)⟩,
    ⟨(some 186), (some (184, false)), .mov (t 11)⟩,
    ⟨(some 187), (some (184, false)), .idxL 2 (t 185) (t 186)⟩,
    ⟨(some 188), (some (184, false)), .fldA 1 (t 187)⟩,
    ⟨(some 189), (some (184, false)), .load1 (t 188)⟩,
    ⟨(some 190), (some (184, false)), .mov (t 7)⟩,
    ⟨(some 191), (some (184, false)), .mov (t 12)⟩,
    ⟨(some 192), (some (184, false)), .idxL 2 (t 190) (t 191)⟩,
    ⟨(some 193), (some (184, false)), .fldA 1 (t 192)⟩,
    ⟨(some 194), (some (184, false)), .load1 (t 193)⟩,
    ⟨(some 195), (some (184, false)), .pcall C_quiltref32_common [(t 189), (t 194)]⟩,
    ⟨(some 196), (some (184, false)), .mov (t 195)⟩,
    ⟨(some 197), (some (196, true)), .mov (t 10)⟩,
    ⟨(some 198), (some (196, true)), .mov (t 11)⟩,
    ⟨(some 199), (some (196, true)), .bin .add (t 198) (ci 1)⟩,
    ⟨(some 200), (some (196, true)), .mov (t 9)⟩,
    ⟨(some 201), (some (196, true)), .bin .mul (t 199) (t 200)⟩,
    ⟨(some 202), (some (196, true)), .mov (t 12)⟩,
    ⟨(some 203), (some (196, true)), .bin .add (t 201) (t 202)⟩,
    ⟨(some 204), (some (196, true)), .bin .add (t 203) (ci 1)⟩,
    ⟨(some 205), (some (196, true)), .idxL 1 (t 197) (t 204)⟩,
    ⟨(some 206), (some (196, true)), .load1 (t 205)⟩,
    ⟨(some 207), (some (184, false)), .pick (t 196) (t 206) (.const (.bool false))⟩,
    ⟨(some 208), none, .pick (t 184) (.const (.bool true)) (t 207)⟩,
    ⟨(some 13), none, .mov (t 208)⟩])
  .skip))
  (.ops [⟨(some 209), none, .mov (t 10)⟩,
    ⟨(some 210), none, .mov (t 11)⟩,
    ⟨(some 211), none, .mov (t 9)⟩,
    ⟨(some 212), none, .bin .mul (t 210) (t 211)⟩,
    ⟨(some 213), none, .mov (t 12)⟩,
    ⟨(some 214), none, .bin .add (t 212) (t 213)⟩,
    ⟨(some 215), none, .mov (t 13)⟩,
    ⟨(some 216), none, .idxL 1 (t 209) (t 214)⟩,
    ⟨none, none, .stor1 (t 216) (t 215)⟩])))))
/-- quilt/quiltref32.Overlap -/
def irq_Overlap : IF := ⟨(.seq (.ops [⟨(some 4), none, .mov (.const (.bool false))⟩])
  (.seq (.ops [⟨(some 15), none, .mov (t 0)⟩,
    ⟨(some 16), none, .pcall C_quiltref32_glob [(t 15)]⟩,
    ⟨(some 14), none, .mov (t 16)⟩,
    ⟨(some 17), none, .extr (t 14) 0⟩,
    ⟨(some 18), none, .extr (t 14) 1⟩,
    ⟨(some 5), none, .mov (t 17)⟩,
    ⟨(some 6), none, .mov (t 18)⟩])
  (.seq (.ops [⟨(some 20), none, .mov (t 1)⟩,
    ⟨(some 21), none, .pcall C_quiltref32_glob [(t 20)]⟩,
    ⟨(some 19), none, .mov (t 21)⟩,
    ⟨(some 22), none, .extr (t 19) 0⟩,
    ⟨(some 23), none, .extr (t 19) 1⟩,
    ⟨(some 7), none, .mov (t 22)⟩,
    ⟨(some 8), none, .mov (t 23)⟩])
  (.seq (.seq (.ops [⟨(some 24), none, .mov (t 6)⟩,
    ⟨(some 25), none, .not (t 24)⟩,
    ⟨(some 26), none, .mov (t 25)⟩,
    ⟨(some 27), (some (26, false)), .mov (t 8)⟩,
    ⟨(some 28), (some (26, false)), .not (t 27)⟩,
    ⟨(some 29), none, .pick (t 26) (.const (.bool true)) (t 28)⟩])
  (.cond (t 29) (.seq (.ops [⟨(some 4), none, .mov (.const (.bool false))⟩])
  .ret)
  .skip))
  (.seq (.ops [⟨(some 30), none, .mov (t 7)⟩,
    ⟨(some 31), none, .lenL (t 30)⟩,
    ⟨(some 32), none, .bin .add (t 31) (ci 1)⟩,
    ⟨(some 9), none, .mov (t 32)⟩])
  (.seq (.ops [⟨(some 33), none, .mov (t 5)⟩,
    ⟨(some 34), none, .lenL (t 33)⟩,
    ⟨(some 35), none, .bin .add (t 34) (ci 1)⟩,
    ⟨(some 36), none, .mov (t 9)⟩,
    ⟨(some 37), none, .bin .mul (t 35) (t 36)⟩,
    ⟨(some 38), none, .mksl 1 1 [.bool false] (t 37) (t 37)⟩,
    ⟨(some 10), none, .mov (t 38)⟩])
  (.seq (.seq (.ops [⟨(some 39), none, .mov (t 5)⟩,
    ⟨(some 40), none, .lenL (t 39)⟩,
    ⟨(some 11), none, .mov (t 40)⟩])
  (.block 0 (.loop (.seq (.seq (.ops [⟨(some 41), none, .mov (t 11)⟩,
    ⟨(some 42), none, .bin .geq (t 41) (ci 0)⟩])
  (.cond (t 42) .skip
  (.exit 0)))
  (.seq (.block 1 (.seq (.ops [⟨(some 45), none, .mov (t 7)⟩,
    ⟨(some 46), none, .lenL (t 45)⟩,
    ⟨(some 12), none, .mov (t 46)⟩])
  (.block 2 (.loop (.seq (.jn (.seq (.ops [⟨(some 47), none, .mov (t 12)⟩,
    ⟨(some 48), none, .bin .geq (t 47) (ci 0)⟩])
  (.cond (t 48) .skip
  (.exit 2))))
  (.seq (.block 3 (.jn om_body))
  (.ops [⟨(some 49), none, .mov (t 12)⟩,
    ⟨(some 50), none, .bin .sub (t 49) (ci 1)⟩,
    ⟨(some 12), none, .mov (t 50)⟩])))))))
  (.ops [⟨(some 43), none, .mov (t 11)⟩,
    ⟨(some 44), none, .bin .sub (t 43) (ci 1)⟩,
    ⟨(some 11), none, .mov (t 44)⟩]))))))
  (.seq (.ops [⟨(some 217), none, .mov (t 10)⟩,
    ⟨(some 218), none, .idxL 1 (t 217) (ci 0)⟩,
    ⟨(some 219), none, .load1 (t 218)⟩,
    ⟨(some 4), none, .mov (t 219)⟩])
  .ret)))))))), [.tmp 4]⟩



end Qk

/-
  Chapter 32: the reference: meet.
-/
namespace Qk
open Go Go.RowKit

theorem refA_fit {e : El} {k : Nat} (h : k < 256) : (refA e)[0 + 2 + (k : Int).toNat * 1]? = some (.bool (e.fit (UInt8.ofNat k))) := by
  have h1 := setB_at e (UInt8.ofNat k)
  rw [ofNat_toNat h] at h1
  have e1 : 0 + 2 + (k : Int).toNat * 1 = k + 1 + 1 := by omega
  rw [e1]
  exact h1

set_option maxRecDepth 4000 in
theorem d_ref_meet : Does ir_quiltref32_meet C_quiltref32_meet := by
  rintro ⟨e, f⟩ _
  show awp _ _ _ (entry [.agg (refA e), .agg (refA f)])
  refine ⟨Nat, fun k => k ≤ 256 ∧ (List.range k).any (fun j => e.fit (UInt8.ofNat j) && f.fit (UInt8.ofNat j)) = false, fun k => mks [(2, .ref 0 0), (3, .ref 1 0), (5, .int .i64 k)] [(0, .cl false (refA e)), (1, .cl false (refA f))] 2, fun k => 256 - k, 0, ⟨Nat.zero_le _, rfl⟩, ?_, ?_⟩
  · refine sub_ren [0, 1] rfl (by decide) ⟨⟨_, rfl, ⟨0, rfl, rfl⟩⟩, ⟨_, rfl, ⟨1, rfl, rfl⟩⟩, ⟨_, rfl, rfl⟩, trivial⟩ ⟨⟨0, _, rfl, rfl, ?_⟩, ⟨1, _, rfl, rfl, ?_⟩, trivial⟩
    · exact ⟨_, rfl, eN (nnl_refA _) rfl⟩
    · exact ⟨_, rfl, eN (nnl_refA _) rfl⟩
  · rintro k ⟨hk, hno⟩
    show awp _ _ _ (mks [(2, .ref 0 0), (3, .ref 1 0), (5, .int .i64 k)] [(0, .cl false (refA e)), (1, .cl false (refA f))] 2)
    refine cond_split (fun h => ?_) (fun h => ?_)
    · have hlt : k < 256 := by have := of_decide_eq_true h; omega
      have he := refA_fit (e := e) hlt
      have hf := refA_fit (e := f) hlt
      have next : (e.fit (UInt8.ofNat k) && f.fit (UInt8.ofNat k)) = false → (List.range (k + 1)).any (fun j => e.fit (UInt8.ofNat j) && f.fit (UInt8.ofNat j)) = false := by
        intro h
        rw [List.range_succ, List.any_append, hno]
        simp only [List.any_cons, List.any_nil, h]; rfl
      cases h1 : e.fit (UInt8.ofNat k) with
      | false =>
        rw [h1] at he next
        repeat ((conv => whnf); first | refine And.intro ⟨by omega, by omega⟩ ?_ | refine cond_t (by first | (simp only [cond_true, cond_false, Bool.not_true, Bool.not_false, eq_self, decide_true, decide_false]; done) | fail) ?_ | refine cond_f (by first | (simp only [cond_true, cond_false, Bool.not_true, Bool.not_false, eq_self, decide_true, decide_false]; done) | fail) ?_ | refine And.intro (by omega) ?_ | refine And.intro ⟨rfl, by omega, by omega⟩ ?_ | refine And.intro ⟨rfl, by decide, by omega, by omega⟩ ?_ | refine ⟨_, he, ?_⟩ | refine ⟨_, hf, ?_⟩)
        refine ⟨k + 1, ⟨hlt, next rfl⟩, by show 256 - (k + 1) < 256 - k; omega, ?_⟩
        refine sub_ren [0, 1] rfl (by decide) ⟨⟨_, rfl, ⟨0, rfl, rfl⟩⟩, ⟨_, rfl, ⟨1, rfl, rfl⟩⟩, ⟨_, rfl, rfl⟩, trivial⟩ ⟨⟨0, _, rfl, rfl, ?_⟩, ⟨1, _, rfl, rfl, ?_⟩, trivial⟩
        · exact ⟨_, rfl, eN (nnl_refA _) rfl⟩
        · exact ⟨_, rfl, eN (nnl_refA _) rfl⟩
      | true =>
        cases h2 : f.fit (UInt8.ofNat k) with
        | false =>
          rw [h1] at he next
          rw [h2] at hf next
          repeat ((conv => whnf); first | refine And.intro ⟨by omega, by omega⟩ ?_ | refine cond_t (by first | (simp only [cond_true, cond_false, Bool.not_true, Bool.not_false, eq_self, decide_true, decide_false]; done) | fail) ?_ | refine cond_f (by first | (simp only [cond_true, cond_false, Bool.not_true, Bool.not_false, eq_self, decide_true, decide_false]; done) | fail) ?_ | refine And.intro (by omega) ?_ | refine And.intro ⟨rfl, by omega, by omega⟩ ?_ | refine And.intro ⟨rfl, by decide, by omega, by omega⟩ ?_ | refine ⟨_, he, ?_⟩ | refine ⟨_, hf, ?_⟩)
          refine ⟨k + 1, ⟨hlt, next rfl⟩, by show 256 - (k + 1) < 256 - k; omega, ?_⟩
          refine sub_ren [0, 1] rfl (by decide) ⟨⟨_, rfl, ⟨0, rfl, rfl⟩⟩, ⟨_, rfl, ⟨1, rfl, rfl⟩⟩, ⟨_, rfl, rfl⟩, trivial⟩ ⟨⟨0, _, rfl, rfl, ?_⟩, ⟨1, _, rfl, rfl, ?_⟩, trivial⟩
          · exact ⟨_, rfl, eN (nnl_refA _) rfl⟩
          · exact ⟨_, rfl, eN (nnl_refA _) rfl⟩
        | true =>
          rw [h1] at he
          rw [h2] at hf
          repeat ((conv => whnf); first | refine And.intro ⟨by omega, by omega⟩ ?_ | refine cond_t (by first | (simp only [cond_true, cond_false, Bool.not_true, Bool.not_false, eq_self, decide_true, decide_false]; done) | fail) ?_ | refine cond_f (by first | (simp only [cond_true, cond_false, Bool.not_true, Bool.not_false, eq_self, decide_true, decide_false]; done) | fail) ?_ | refine And.intro (by omega) ?_ | refine And.intro ⟨rfl, by omega, by omega⟩ ?_ | refine And.intro ⟨rfl, by decide, by omega, by omega⟩ ?_ | refine ⟨_, he, ?_⟩ | refine ⟨_, hf, ?_⟩)
          refine ⟨_, (by first | exact SubSt.refl _ | exact SubTop.refl _), ?_⟩
          show AV.bool true = AV.bool (e.meet f)
          have : e.meet f = true := List.any_eq_true.2 ⟨k, List.mem_range.2 hlt, by show (e.fit (UInt8.ofNat k) && f.fit (UInt8.ofNat k)) = true; rw [h1, h2]; rfl⟩
          rw [this]
    · have hF : k = 256 := by have := of_decide_eq_false h; omega
      refine ⟨_, (by first | exact SubSt.refl _ | exact SubTop.refl _), ?_⟩
      show AV.bool false = AV.bool (e.meet f)
      subst hF
      have : e.meet f = false := hno
      rw [this]

end Qk

/-
  Chapter 32: the reference's table of what two rows have in common: one row of cells.
-/
namespace Qk
open Go Go.RowKit

/-- The table, from the place p on. -/
def flT {ε : Type} (star : ε → Bool) (meet : ε → ε → Bool) (x y : List ε) (p : Nat) : List Bool :=
  (List.range ((x.length + 1) * (y.length + 1))).map fun q => decide (p ≤ q) && gov star meet (x.drop (q / (y.length + 1))) (y.drop (q % (y.length + 1)))
section
variable {ε : Type} {star : ε → Bool} {meet : ε → ε → Bool} {x y : List ε}
theorem flT_len (p : Nat) : (flT star meet x y p).length = (x.length + 1) * (y.length + 1) := by simp [flT]
theorem flT_in {i j : Nat} (hi : i ≤ x.length) (hj : j ≤ y.length) : i * (y.length + 1) + j < (x.length + 1) * (y.length + 1) := by
  have h1 : i * (y.length + 1) ≤ x.length * (y.length + 1) := Nat.mul_le_mul_right _ hi
  have h2 : (x.length + 1) * (y.length + 1) = x.length * (y.length + 1) + (y.length + 1) := Nat.succ_mul _ _
  omega
theorem flT_at {i j : Nat} (hj : j ≤ y.length) : gov star meet (x.drop ((i * (y.length + 1) + j) / (y.length + 1))) (y.drop ((i * (y.length + 1) + j) % (y.length + 1))) = gov star meet (x.drop i) (y.drop j) := by
  have h1 : (i * (y.length + 1) + j) / (y.length + 1) = i := by
    rw [Nat.mul_comm, Nat.mul_add_div (by omega), Nat.div_eq_of_lt (by omega), Nat.add_zero]
  have h2 : (i * (y.length + 1) + j) % (y.length + 1) = j := by
    rw [Nat.mul_comm, Nat.mul_add_mod, Nat.mod_eq_of_lt (by omega)]
  rw [h1, h2]
theorem flT_get {i j p : Nat} (hi : i ≤ x.length) (hj : j ≤ y.length) (hp : p ≤ i * (y.length + 1) + j) : (flT star meet x y p).getD (i * (y.length + 1) + j) false = gov star meet (x.drop i) (y.drop j) := by
  have h := flT_in hi hj
  rw [List.getD, List.getElem?_eq_getElem (by rw [flT_len]; exact h)]
  simp only [flT, List.getElem_map, List.getElem_range, Option.getD_some]
  rw [decide_eq_true hp, Bool.true_and, flT_at hj]
theorem flT_top : flT star meet x y ((x.length + 1) * (y.length + 1)) = List.replicate ((x.length + 1) * (y.length + 1)) false := by
  apply List.ext_getElem
  · rw [flT_len, List.length_replicate]
  · intro q h1 h2
    rw [flT_len] at h1
    simp only [flT, List.getElem_map, List.getElem_range, List.getElem_replicate]
    rw [decide_eq_false (by omega)]; rfl
theorem flT_set {i j : Nat} (hj : j ≤ y.length) : (flT star meet x y (i * (y.length + 1) + j + 1)).set (i * (y.length + 1) + j) (gov star meet (x.drop i) (y.drop j)) = flT star meet x y (i * (y.length + 1) + j) := by
  apply List.ext_getElem
  · rw [List.length_set, flT_len, flT_len]
  · intro q h1 h2
    rw [List.getElem_set]
    simp only [flT, List.getElem_map, List.getElem_range]
    split
    · rename_i e; subst e; rw [flT_at hj, decide_eq_true (Nat.le_refl _)]; rfl
    · rename_i e
      have : decide (i * (y.length + 1) + j + 1 ≤ q) = decide (i * (y.length + 1) + j ≤ q) := by
        by_cases h : i * (y.length + 1) + j ≤ q
        · rw [decide_eq_true h, decide_eq_true (by omega)]
        · rw [decide_eq_false h, decide_eq_false (by omega)]
      rw [this]
end

end Qk

/-
  Chapter 32: the reference: a place of common's table.
-/
namespace Qk
open Go Go.RowKit

def CME (n m i j W : Nat) (X Y : List AV) : List (Nat × AV) := [(0, .ilist 258 n X), (1, .ilist 258 m Y), (5, .int .i64 ((m : Int) + 1)), (6, .sl 0 0 W), (7, .int .i64 i), (8, .int .i64 j)]
def CMV (T : List AV) : List (Nat × AO) := [(0, .ls false 1 T)]

set_option maxRecDepth 4000 in
set_option maxHeartbeats 10000000 in
theorem t_cm {K : Exit → St → Prop} {X Y T : List AV} {n m i j W p q : Nat} {xs ys b1 b2 b3 v : Bool} {ex ey : El} (hi : i ≤ n) (hj : j ≤ m) (hn : n ≤ 1000) (hm : m ≤ 1000)
    (hp : (i : Int) * ((m : Int) + 1) = p) (hq : ((i : Int) + 1) * ((m : Int) + 1) = q) (hqp : q = p + m + 1) (hW : p + m + 1 ≤ W) (hW2 : i < n → q + m + 1 ≤ W) (hWs : W ≤ 2000000) (hl : T.length = W)
    (hX : i < n → X[(i : Int).toNat * 258 + 0]? = some (.bool xs))
    (hY : j < m → Y[(j : Int).toNat * 258 + 0]? = some (.bool ys))
    (hXe : i < n → (X.drop ((i : Int).toNat * 258)).take 258 = refA ex) (hYe : j < m → (Y.drop ((j : Int).toNat * 258)).take 258 = refA ey)
    (nX : NNL X) (nY : NNL Y)
    (h1 : i < n → T[(0 + (((i : Int) + 1) * ((m : Int) + 1) + j).toNat) * 1]? = some (.bool b1))
    (h2 : j < m → T[(0 + ((i : Int) * ((m : Int) + 1) + j + 1).toNat) * 1]? = some (.bool b2))
    (h3 : i < n → j < m → T[(0 + (((i : Int) + 1) * ((m : Int) + 1) + j + 1).toNat) * 1]? = some (.bool b3))
    (hv : v = (match decide (i < n), decide (j < m) with | false, false => true | true, false => xs && b1 | false, true => ys && b2 | true, true => bif xs || ys then b1 || b2 else ex.meet ey && b3))
    (hK : ∀ S' w, HasE S' (CME n m i j W X Y) → S'.heap = upd (mkh (CMV T)) 0 (some (.ls false 1 (T.set ((0 + ((i : Int) * ((m : Int) + 1) + j).toNat) * 1) (.bool w)))) → S'.next = 1 → w = v → K .normal S') :
    awp Cx.top cm_body K (mks (CME n m i j W X Y) (CMV T) 1) := by
  have fin : ∀ S' w, HasE S' (CME n m i j W X Y) ∧ S'.heap = upd (mkh (CMV T)) 0 (some (.ls false 1 (T.set ((0 + ((i : Int) * ((m : Int) + 1) + j).toNat) * 1) (.bool w)))) ∧ S'.next = 1 → w = v → K .normal S' := fun S' w h hw => hK S' w h.1 h.2.1 h.2.2 hw
  clear hK
  by_cases hi2 : i < n
  · have A1 : decide ((i : Int) = n) = false := decide_eq_false (by omega)
    have L1 : decide ((i : Int) < n) = true := decide_eq_true (by omega)
    replace h1 := h1 hi2
    replace hX := hX hi2
    replace hXe := hXe hi2
    rw [decide_eq_true hi2] at hv
    by_cases hj2 : j < m
    · have A2 : decide ((j : Int) = m) = false := decide_eq_false (by omega)
      have L2 : decide ((j : Int) < m) = true := decide_eq_true (by omega)
      replace h2 := h2 hj2
      replace h3 := h3 hi2 hj2
      replace hY := hY hj2
      replace hYe := hYe hj2
      rw [decide_eq_true hj2] at hv
      dsimp only at hv
      cases xs with
      | true =>
        cases b1 <;> cases ys <;> cases b2
        all_goals
          repeat ((conv => whnf); first | refine cond_t (by first | (simp only [A1,   L1,  L2, cond_true, Bool.not_true, Bool.not_false, eq_self]; done) | fail) ?_ | refine cond_f (by first | (simp only [A1,   L1,  L2, cond_true, Bool.not_true, eq_self]; done) | fail) ?_ | refine And.intro (by omega) ?_ | refine And.intro ⟨rfl, by omega, by omega⟩ ?_ | refine And.intro ⟨rfl, by decide, by omega, by omega⟩ ?_ | refine ⟨_, hX, ?_⟩ | refine ⟨_, hY, ?_⟩ | refine ⟨_, h1, ?_⟩ | refine ⟨_, h2, ?_⟩ | refine ⟨_, h3, ?_⟩)
          exact fin _ _ ⟨⟨rfl, rfl, rfl, rfl, rfl, rfl, trivial⟩, rfl, rfl⟩ (by subst hv; first | rfl | (simp [hj2]; done))
      | false =>
        cases ys with
        | true =>
          cases b2 <;> cases b1
          all_goals
            repeat ((conv => whnf); first | refine cond_t (by first | (simp only [A1,   L1,  L2, cond_true, Bool.not_true, Bool.not_false, eq_self]; done) | fail) ?_ | refine cond_f (by first | (simp only [A1,   L1,  L2, cond_true, Bool.not_true, Bool.not_false, eq_self]; done) | fail) ?_ | refine And.intro (by omega) ?_ | refine And.intro ⟨rfl, by omega, by omega⟩ ?_ | refine And.intro ⟨rfl, by decide, by omega, by omega⟩ ?_ | refine ⟨_, hX, ?_⟩ | refine ⟨_, hY, ?_⟩ | refine ⟨_, h1, ?_⟩ | refine ⟨_, h2, ?_⟩ | refine ⟨_, h3, ?_⟩)
            exact fin _ _ ⟨⟨rfl, rfl, rfl, rfl, rfl, rfl, trivial⟩, rfl, rfl⟩ (by subst hv; first | rfl | (simp [hi2]; done))
        | false =>
          cases hmt : ex.meet ey with
          | true =>
            rw [hmt] at hv
            have hres : C_quiltref32_meet.res (ex, ey) = .bool true := congrArg AV.bool hmt
            repeat ((conv => whnf); first | refine And.intro nX ?_ | refine And.intro nY ?_ | refine And.intro (nn_agg (nnl_refA _)) ?_ | refine ⟨refA ex, ⟨hXe.symm, refA_len _⟩, ?_⟩ | refine ⟨refA ey, ⟨hYe.symm, refA_len _⟩, ?_⟩ | (refine ⟨(ex, ey), rfl, trivial, ?_⟩; rw [hres]) | refine cond_t (by first | (simp only [A1,   L1,  L2, cond_true, Bool.not_false, eq_self]; done) | fail) ?_ | refine cond_f (by first | (simp only [A1,   L1,  L2, cond_true, eq_self]; done) | fail) ?_ | refine And.intro (by omega) ?_ | refine And.intro ⟨rfl, by omega, by omega⟩ ?_ | refine And.intro ⟨rfl, by decide, by omega, by omega⟩ ?_ | refine ⟨_, hX, ?_⟩ | refine ⟨_, hY, ?_⟩ | refine ⟨_, h1, ?_⟩ | refine ⟨_, h2, ?_⟩ | refine ⟨_, h3, ?_⟩)
            exact fin _ _ ⟨⟨rfl, rfl, rfl, rfl, rfl, rfl, trivial⟩, rfl, rfl⟩ (by subst hv; first | rfl | (simp [A1, A2, L1, L2, hi2, hj2]; done))
          | false =>
            rw [hmt] at hv
            have hres : C_quiltref32_meet.res (ex, ey) = .bool false := congrArg AV.bool hmt
            repeat ((conv => whnf); first | refine And.intro nX ?_ | refine And.intro nY ?_ | refine And.intro (nn_agg (nnl_refA _)) ?_ | refine ⟨refA ex, ⟨hXe.symm, refA_len _⟩, ?_⟩ | refine ⟨refA ey, ⟨hYe.symm, refA_len _⟩, ?_⟩ | (refine ⟨(ex, ey), rfl, trivial, ?_⟩; rw [hres]) | refine cond_t (by first | (simp only [A1,   L1,  L2, cond_true, Bool.not_false, eq_self]; done) | fail) ?_ | refine cond_f (by first | (simp only [A1,   L1,  L2, cond_true, eq_self]; done) | fail) ?_ | refine And.intro (by omega) ?_ | refine And.intro ⟨rfl, by omega, by omega⟩ ?_ | refine And.intro ⟨rfl, by decide, by omega, by omega⟩ ?_ | refine ⟨_, hX, ?_⟩ | refine ⟨_, hY, ?_⟩ | refine ⟨_, h1, ?_⟩ | refine ⟨_, h2, ?_⟩ | refine ⟨_, h3, ?_⟩)
            exact fin _ _ ⟨⟨rfl, rfl, rfl, rfl, rfl, rfl, trivial⟩, rfl, rfl⟩ (by subst hv; first | rfl | (simp [A1, A2, L1, L2, hi2, hj2]; done))
    · have A2 : decide ((j : Int) = m) = true := decide_eq_true (by omega)
      have L2 : decide ((j : Int) < m) = false := decide_eq_false (by omega)
      rw [decide_eq_false hj2] at hv
      dsimp only at hv
      cases xs <;> cases b1
      all_goals
        repeat ((conv => whnf); first | refine cond_t (by first | (simp only [A1,   L1,  L2, cond_true, eq_self]; done) | fail) ?_ | refine cond_f (by first | (simp only [A1,   L1,  L2, cond_true, eq_self]; done) | fail) ?_ | refine And.intro (by omega) ?_ | refine And.intro ⟨rfl, by omega, by omega⟩ ?_ | refine And.intro ⟨rfl, by decide, by omega, by omega⟩ ?_ | refine ⟨_, hX, ?_⟩ | refine ⟨_, h1, ?_⟩)
        exact fin _ _ ⟨⟨rfl, rfl, rfl, rfl, rfl, rfl, trivial⟩, rfl, rfl⟩ (by subst hv; first | rfl | (simp [A1, A2, L1, L2, hi2, hj2]; done))
  · have A1 : decide ((i : Int) = n) = true := decide_eq_true (by omega)
    have L1 : decide ((i : Int) < n) = false := decide_eq_false (by omega)
    rw [decide_eq_false hi2] at hv
    by_cases hj2 : j < m
    · have A2 : decide ((j : Int) = m) = false := decide_eq_false (by omega)
      have L2 : decide ((j : Int) < m) = true := decide_eq_true (by omega)
      replace h2 := h2 hj2
      replace hY := hY hj2
      rw [decide_eq_true hj2] at hv
      dsimp only at hv
      cases ys <;> cases b2
      all_goals
        repeat ((conv => whnf); first | refine cond_t (by first | (simp only [A1,  A2,  L1,  L2, cond_true, cond_false, eq_self]; done) | fail) ?_ | refine cond_f (by first | (simp only [A1,  A2,  L1,  L2, cond_true, cond_false, eq_self]; done) | fail) ?_ | refine And.intro (by omega) ?_ | refine And.intro ⟨rfl, by omega, by omega⟩ ?_ | refine And.intro ⟨rfl, by decide, by omega, by omega⟩ ?_ | refine ⟨_, hY, ?_⟩ | refine ⟨_, h2, ?_⟩)
        exact fin _ _ ⟨⟨rfl, rfl, rfl, rfl, rfl, rfl, trivial⟩, rfl, rfl⟩ (by subst hv; first | rfl | (simp [A1, A2]; done))
    · have A2 : decide ((j : Int) = m) = true := decide_eq_true (by omega)
      have L2 : decide ((j : Int) < m) = false := decide_eq_false (by omega)
      rw [decide_eq_false hj2] at hv
      dsimp only at hv
      repeat ((conv => whnf); first | refine cond_t (by first | (simp only [A1,   L1,  L2, eq_self]; done) | fail) ?_ | refine cond_f (by first | (simp only [  L1,  L2, eq_self]; done) | fail) ?_ | refine And.intro (by omega) ?_ | refine And.intro ⟨rfl, by omega, by omega⟩ ?_ | refine And.intro ⟨rfl, by decide, by omega, by omega⟩ ?_ | refine ⟨_, hp, ?_⟩)
      exact fin _ _ ⟨⟨rfl, rfl, rfl, rfl, rfl, rfl, trivial⟩, rfl, rfl⟩ (by subst hv; first | rfl | (simp [A1, A2]; done))

end Qk

/-
  Chapter 32: the reference: common.
-/
namespace Qk
open Go Go.RowKit

def CO (x y : List El) (k : Nat) : St := mks [(0, rElsA x), (1, rElsA y), (5, .int .i64 ((y.length : Int) + 1)), (6, .sl 0 0 ((x.length + 1) * (y.length + 1))), (7, .int .i64 (pI k))] (CMV (boos (flT El.isStar El.meet x y (k * (y.length + 1))))) 1
def CI (x y : List El) (i k : Nat) : St := mks [(0, rElsA x), (1, rElsA y), (5, .int .i64 ((y.length : Int) + 1)), (6, .sl 0 0 ((x.length + 1) * (y.length + 1))), (7, .int .i64 i), (8, .int .i64 (pI k))] (CMV (boos (flT El.isStar El.meet x y (i * (y.length + 1) + k)))) 1
theorem flT_w {x y : List El} (hx : x.length ≤ 1000) (hy : y.length ≤ 1000) : (x.length + 1) * (y.length + 1) ≤ 2000000 :=
  Nat.le_trans (Nat.mul_le_mul (show x.length + 1 ≤ 1001 by omega) (show y.length + 1 ≤ 1001 by omega)) (by decide)

set_option maxRecDepth 4000 in
set_option maxHeartbeats 4000000 in
theorem d_ref_common : Does irq_common C_quiltref32_common := by
  rintro ⟨x, y⟩ ⟨hx, hy⟩
  dsimp only at hx hy
  have hW := flT_w hx hy
  have hw1 : ((x.length : Int) + 1) * ((y.length : Int) + 1) = (((x.length + 1) * (y.length + 1) : Nat) : Int) := by simp
  have hw2 : (((x.length : Int) + 1) * ((y.length : Int) + 1)).toNat = (x.length + 1) * (y.length + 1) := by rw [hw1]; exact Int.toNat_natCast _
  have hw3 : (y.length + 1) ≤ (x.length + 1) * (y.length + 1) := Nat.le_mul_of_pos_left _ (by omega)
  show awp _ _ _ (entry [rElsA x, rElsA y])
  repeat ((conv => whnf); first | refine And.intro ⟨by omega, Int.le_refl _, by omega, by omega⟩ ?_ | refine cond_t (by first | (simp only [cond_true, cond_false, Bool.not_true, Bool.not_false, eq_self, decide_true, decide_false]; done) | fail) ?_ | refine cond_f (by first | (simp only [cond_true, cond_false, Bool.not_true, Bool.not_false, eq_self, decide_true, decide_false]; done) | fail) ?_ | refine And.intro (by omega) ?_ | refine And.intro ⟨rfl, by omega, by omega⟩ ?_ | refine And.intro ⟨rfl, by decide, by omega, by omega⟩ ?_)
  refine ⟨_, rfl, ?_⟩
  refine ⟨Nat, fun k => k ≤ x.length + 1, CO x y, fun k => k, x.length + 1, Nat.le_refl _, ?_, ?_⟩
  · refine sub_to ⟨rfl, rfl, rfl, congrArg some (eSl hw2), rfl, trivial⟩ ?_ (Nat.le_refl 1)
    refine heap_is [0] (fun _ => none) (out_upd (fun _ _ => rfl) List.mem_cons_self) (out_mkh rfl) ⟨?_, trivial⟩
    show some (AO.ls false 1 (repl (((x.length : Int) + 1) * ((y.length : Int) + 1)).toNat [AV.bool false])) = some (AO.ls false 1 (boos (flT El.isStar El.meet x y ((x.length + 1) * (y.length + 1)))))
    rw [hw2, repl_boos, flT_top]
  · intro k hk
    cases k with
    | zero =>
      refine And.intro ⟨rfl, by omega, by omega⟩ ?_
      refine ⟨_, boos_get (i := 0) (by rw [flT_len]; omega), ?_⟩
      refine ⟨_, (by first | exact SubSt.refl _ | exact SubTop.refl _), ?_⟩
      show AV.bool ((flT El.isStar El.meet x y (0 * (y.length + 1))).getD 0 false) = AV.bool (gov El.isStar El.meet x y)
      have := flT_get (star := El.isStar) (meet := El.meet) (x := x) (y := y) (i := 0) (j := 0) (p := 0 * (y.length + 1)) (Nat.zero_le _) (Nat.zero_le _) (by omega)
      rw [show 0 * (y.length + 1) + 0 = 0 from by omega] at this
      rw [this]; rfl
    | succ i =>
      have hi : i ≤ x.length := by omega
      show awp _ _ _ (mks [(0, rElsA x), (1, rElsA y), (5, .int .i64 ((y.length : Int) + 1)), (6, .sl 0 0 ((x.length + 1) * (y.length + 1))), (7, .int .i64 (i : Int))] (CMV (boos (flT El.isStar El.meet x y ((i + 1) * (y.length + 1))))) 1)
      refine ⟨Nat, fun k => k ≤ y.length + 1, CI x y i, fun k => k, y.length + 1, Nat.le_refl _, ?_, ?_⟩
      · refine sub_to ⟨rfl, rfl, rfl, rfl, rfl, rfl, trivial⟩ ?_ (Nat.le_refl 1)
        refine heap_is [0] (fun _ => none) (by (try dsimp only [St.set, mks, CO]); (repeat (first | exact out_mkh rfl | refine out_upd ?_ (by decide)))) (out_mkh rfl) ⟨?_, trivial⟩
        show some (AO.ls false 1 (boos (flT El.isStar El.meet x y ((i + 1) * (y.length + 1))))) = some (AO.ls false 1 (boos (flT El.isStar El.meet x y (i * (y.length + 1) + (y.length + 1)))))
        rw [Nat.succ_mul]
      · intro k2 hk2
        cases k2 with
        | zero =>
          refine jn_to ?_
          refine And.intro (by omega) ?_
          refine ⟨i, by show i ≤ _; omega, by show i < i + 1; omega, ?_⟩
          exact sub_to ⟨rfl, rfl, rfl, rfl, congrArg some (eI (pI_pred i)), trivial⟩ rfl (Nat.le_refl 1)
        | succ j =>
          have hj : j ≤ y.length := by omega
          have hpw : (i : Int) * ((y.length : Int) + 1) = ((i * (y.length + 1) : Nat) : Int) := by simp
          have hqw : ((i : Int) + 1) * ((y.length : Int) + 1) = (((i + 1) * (y.length + 1) : Nat) : Int) := by simp
          have hqp : (i + 1) * (y.length + 1) = i * (y.length + 1) + y.length + 1 := by rw [Nat.succ_mul]; omega
          obtain ⟨p, hp⟩ : ∃ p, p = i * (y.length + 1) := ⟨_, rfl⟩
          obtain ⟨q, hq⟩ : ∃ q, q = (i + 1) * (y.length + 1) := ⟨_, rfl⟩
          have in1 := flT_in (x := x) (y := y) hi (Nat.le_refl _)
          have in2 : i < x.length → (i + 1) * (y.length + 1) + y.length < (x.length + 1) * (y.length + 1) := fun h => flT_in (x := x) (y := y) h (Nat.le_refl _)
          obtain ⟨W, hWW⟩ : ∃ W, W = (x.length + 1) * (y.length + 1) := ⟨_, rfl⟩
          have lT : (boos (flT El.isStar El.meet x y (i * (y.length + 1) + (j + 1)))).length = (x.length + 1) * (y.length + 1) := by rw [boos_length, flT_len]
          have hle1 : i * (y.length + 1) + (j + 1) ≤ (i + 1) * (y.length + 1) + j := by rw [hqp]; omega
          have hle2 : i * (y.length + 1) + (j + 1) ≤ (i + 1) * (y.length + 1) + (j + 1) := by rw [hqp]; omega
          have e5 : (i : Int).toNat = i := by omega
          have e6 : (j : Int).toNat = j := by omega
          refine jn_to ?_
          refine ⟨mks (CME x.length y.length i j ((x.length + 1) * (y.length + 1)) (flatR x) (flatR y)) (CMV (boos (flT El.isStar El.meet x y (i * (y.length + 1) + (j + 1))))) 1, sub_to ⟨rfl, rfl, rfl, rfl, rfl, rfl, trivial⟩ rfl (Nat.le_refl 1), ?_⟩
          refine jn_at (fun _ : Unit => mks (CME x.length y.length i j ((x.length + 1) * (y.length + 1)) (flatR x) (flatR y)) (CMV (boos (flT El.isStar El.meet x y (i * (y.length + 1) + j)))) 1) (fun _ => True) ?_ ?_
          · refine t_cm (W := (x.length + 1) * (y.length + 1)) (p := i * (y.length + 1)) (q := (i + 1) * (y.length + 1)) (xs := (x.getD i default).isStar) (ys := (y.getD j default).isStar) (ex := x.getD i default) (ey := y.getD j default)
              (b1 := gov El.isStar El.meet (x.drop (i + 1)) (y.drop j)) (b2 := gov El.isStar El.meet (x.drop i) (y.drop (j + 1))) (b3 := gov El.isStar El.meet (x.drop (i + 1)) (y.drop (j + 1)))
              (v := gov El.isStar El.meet (x.drop i) (y.drop j)) hi hj hx hy hpw hqw hqp (by omega) (fun h => by have := in2 h; omega) hW lT (fun h => flatR_star h) (fun h => flatR_star h) ?_ ?_ (nnl_flatR _) (nnl_flatR _) ?_ ?_ ?_ ?_ ?_
            · intro h; rw [e5]; exact flat_take (n := 258) refA_len x i _ (by rw [List.getElem?_eq_getElem h, getD_at h])
            · intro h; rw [e6]; exact flat_take (n := 258) refA_len y j _ (by rw [List.getElem?_eq_getElem h, getD_at h])
            · intro h
              have ei : (0 + (((i : Int) + 1) * ((y.length : Int) + 1) + j).toNat) * 1 = (i + 1) * (y.length + 1) + j := by rw [hqw, ← hq]; omega
              rw [ei, boos_get (by rw [flT_len]; exact flT_in h hj), flT_get h hj hle1]
            · intro h
              have ei : (0 + ((i : Int) * ((y.length : Int) + 1) + j + 1).toNat) * 1 = i * (y.length + 1) + (j + 1) := by rw [hpw, ← hp]; omega
              rw [ei, boos_get (by rw [flT_len]; exact flT_in hi h), flT_get hi h (by omega)]
            · intro h h'
              have ei : (0 + (((i : Int) + 1) * ((y.length : Int) + 1) + j + 1).toNat) * 1 = (i + 1) * (y.length + 1) + (j + 1) := by rw [hqw, ← hq]; omega
              rw [ei, boos_get (by rw [flT_len]; exact flT_in h h'), flT_get h h' hle2]
            · by_cases h : i < x.length
              · rw [decide_eq_true h, getD_at h]
                by_cases h' : j < y.length
                · rw [decide_eq_true h', getD_at h', gov_both_at h h']
                  cases (x[i]'h).isStar <;> cases (y[j]'h').isStar <;> rfl
                · rw [decide_eq_false h', gov_left_at h (by omega)]
              · rw [decide_eq_false h]
                by_cases h' : j < y.length
                · rw [decide_eq_true h', getD_at h', gov_right_at (by omega) h']
                · rw [decide_eq_false h', gov_nil_at (by omega) (by omega)]
            · intro S' w hE hh hn hw
              refine ⟨(), trivial, sub_to hE ?_ (by rw [hn]; exact Nat.le_refl 1)⟩
              have ei : (0 + ((i : Int) * ((y.length : Int) + 1) + j).toNat) * 1 = i * (y.length + 1) + j := by rw [hpw, ← hp]; omega
              rw [hh, hw, ei, boos_set, ← Nat.add_assoc, flT_set hj]
              exact heap_is [0] (fun _ => none) (by (try dsimp only [St.set, mks, CMV]); (repeat (first | exact out_mkh rfl | refine out_upd ?_ (by decide)))) (out_mkh rfl) ⟨rfl, trivial⟩
          · rintro _ _
            refine And.intro (by omega) ?_
            refine ⟨j, by show j ≤ _; omega, by show j < j + 1; omega, ?_⟩
            exact sub_to ⟨rfl, rfl, rfl, rfl, rfl, congrArg some (eI (pI_pred j)), trivial⟩ rfl (Nat.le_refl 1)

end Qk

/-
  Chapter 32: the reference: a place of Overlap's table.
-/
namespace Qk
open Go Go.RowKit

def OME (n m i j W : Nat) (X Y : List AV) : List (Nat × AV) := [(5, .ilist 2 n X), (7, .ilist 2 m Y), (9, .int .i64 ((m : Int) + 1)), (10, .sl 0 0 W), (11, .int .i64 i), (12, .int .i64 j)]

set_option maxRecDepth 4000 in
set_option maxHeartbeats 10000000 in
theorem t_om {K : Exit → St → Prop} {X Y T : List AV} {n m i j W p q : Nat} {xs ys b1 b2 b3 v : Bool} {ex ey : List El} (hi : i ≤ n) (hj : j ≤ m) (hn : n ≤ 1000) (hm : m ≤ 1000)
    (hp : (i : Int) * ((m : Int) + 1) = p) (hq : ((i : Int) + 1) * ((m : Int) + 1) = q) (hqp : q = p + m + 1) (hW : p + m + 1 ≤ W) (hW2 : i < n → q + m + 1 ≤ W) (hWs : W ≤ 2000000) (hl : T.length = W)
    (hX : i < n → X[(i : Int).toNat * 2 + 0]? = some (.bool xs))
    (hY : j < m → Y[(j : Int).toNat * 2 + 0]? = some (.bool ys))
    (hXe : i < n → X[(i : Int).toNat * 2 + 1]? = some (rElsA ex) ∧ ex.length ≤ 1000) (hYe : j < m → Y[(j : Int).toNat * 2 + 1]? = some (rElsA ey) ∧ ey.length ≤ 1000)
    (h1 : i < n → T[(0 + (((i : Int) + 1) * ((m : Int) + 1) + j).toNat) * 1]? = some (.bool b1))
    (h2 : j < m → T[(0 + ((i : Int) * ((m : Int) + 1) + j + 1).toNat) * 1]? = some (.bool b2))
    (h3 : i < n → j < m → T[(0 + (((i : Int) + 1) * ((m : Int) + 1) + j + 1).toNat) * 1]? = some (.bool b3))
    (hv : v = (match decide (i < n), decide (j < m) with | false, false => true | true, false => xs && b1 | false, true => ys && b2 | true, true => bif xs || ys then b1 || b2 else gov El.isStar El.meet ex ey && b3))
    (hK : ∀ S' w, HasE S' (OME n m i j W X Y) → S'.heap = upd (mkh (CMV T)) 0 (some (.ls false 1 (T.set ((0 + ((i : Int) * ((m : Int) + 1) + j).toNat) * 1) (.bool w)))) → S'.next = 1 → w = v → K .normal S') :
    awp Cx.top om_body K (mks (OME n m i j W X Y) (CMV T) 1) := by
  have fin : ∀ S' w, HasE S' (OME n m i j W X Y) ∧ S'.heap = upd (mkh (CMV T)) 0 (some (.ls false 1 (T.set ((0 + ((i : Int) * ((m : Int) + 1) + j).toNat) * 1) (.bool w)))) ∧ S'.next = 1 → w = v → K .normal S' := fun S' w h hw => hK S' w h.1 h.2.1 h.2.2 hw
  clear hK
  by_cases hi2 : i < n
  · have A1 : decide ((i : Int) = n) = false := decide_eq_false (by omega)
    have L1 : decide ((i : Int) < n) = true := decide_eq_true (by omega)
    replace h1 := h1 hi2
    replace hX := hX hi2
    replace hXe := hXe hi2
    rw [decide_eq_true hi2] at hv
    by_cases hj2 : j < m
    · have A2 : decide ((j : Int) = m) = false := decide_eq_false (by omega)
      have L2 : decide ((j : Int) < m) = true := decide_eq_true (by omega)
      replace h2 := h2 hj2
      replace h3 := h3 hi2 hj2
      replace hY := hY hj2
      replace hYe := hYe hj2
      rw [decide_eq_true hj2] at hv
      dsimp only at hv
      cases xs with
      | true =>
        cases b1 <;> cases ys <;> cases b2
        all_goals
          repeat ((conv => whnf); first | refine cond_t (by first | (simp only [A1,   L1,  L2, cond_true, Bool.not_true, Bool.not_false, eq_self]; done) | fail) ?_ | refine cond_f (by first | (simp only [A1,   L1,  L2, cond_true, Bool.not_true, eq_self]; done) | fail) ?_ | refine And.intro (by omega) ?_ | refine And.intro ⟨rfl, by omega, by omega⟩ ?_ | refine And.intro ⟨rfl, by decide, by omega, by omega⟩ ?_ | refine ⟨_, hX, ?_⟩ | refine ⟨_, hY, ?_⟩ | refine ⟨_, h1, ?_⟩ | refine ⟨_, h2, ?_⟩ | refine ⟨_, h3, ?_⟩)
          exact fin _ _ ⟨⟨rfl, rfl, rfl, rfl, rfl, rfl, trivial⟩, rfl, rfl⟩ (by subst hv; first | rfl | (simp [hj2]; done))
      | false =>
        cases ys with
        | true =>
          cases b2 <;> cases b1
          all_goals
            repeat ((conv => whnf); first | refine cond_t (by first | (simp only [A1,   L1,  L2, cond_true, Bool.not_true, Bool.not_false, eq_self]; done) | fail) ?_ | refine cond_f (by first | (simp only [A1,   L1,  L2, cond_true, Bool.not_true, Bool.not_false, eq_self]; done) | fail) ?_ | refine And.intro (by omega) ?_ | refine And.intro ⟨rfl, by omega, by omega⟩ ?_ | refine And.intro ⟨rfl, by decide, by omega, by omega⟩ ?_ | refine ⟨_, hX, ?_⟩ | refine ⟨_, hY, ?_⟩ | refine ⟨_, h1, ?_⟩ | refine ⟨_, h2, ?_⟩ | refine ⟨_, h3, ?_⟩)
            exact fin _ _ ⟨⟨rfl, rfl, rfl, rfl, rfl, rfl, trivial⟩, rfl, rfl⟩ (by subst hv; first | rfl | (simp [hi2]; done))
        | false =>
          cases hmt : gov El.isStar El.meet ex ey with
          | true =>
            rw [hmt] at hv
            have hres : C_quiltref32_common.res (ex, ey) = .bool true := congrArg AV.bool hmt
            repeat ((conv => whnf); first | (refine ⟨(ex, ey), rfl, ⟨hXe.2, hYe.2⟩, ?_⟩; rw [hres]) | refine cond_t (by first | (simp only [A1,   L1,  L2, cond_true, Bool.not_false, eq_self]; done) | fail) ?_ | refine cond_f (by first | (simp only [A1,   L1,  L2, cond_true, eq_self]; done) | fail) ?_ | refine And.intro (by omega) ?_ | refine And.intro ⟨rfl, by omega, by omega⟩ ?_ | refine And.intro ⟨rfl, by decide, by omega, by omega⟩ ?_ | refine ⟨_, hX, ?_⟩ | refine ⟨_, hY, ?_⟩ | refine ⟨_, h1, ?_⟩ | refine ⟨_, h2, ?_⟩ | refine ⟨_, h3, ?_⟩ | refine ⟨_, hXe.1, ?_⟩ | refine ⟨_, hYe.1, ?_⟩)
            exact fin _ _ ⟨⟨rfl, rfl, rfl, rfl, rfl, rfl, trivial⟩, rfl, rfl⟩ (by subst hv; first | rfl | (simp [A1, A2, L1, L2, hi2, hj2]; done))
          | false =>
            rw [hmt] at hv
            have hres : C_quiltref32_common.res (ex, ey) = .bool false := congrArg AV.bool hmt
            repeat ((conv => whnf); first | (refine ⟨(ex, ey), rfl, ⟨hXe.2, hYe.2⟩, ?_⟩; rw [hres]) | refine cond_t (by first | (simp only [A1,   L1,  L2, cond_true, Bool.not_false, eq_self]; done) | fail) ?_ | refine cond_f (by first | (simp only [A1,   L1,  L2, cond_true, eq_self]; done) | fail) ?_ | refine And.intro (by omega) ?_ | refine And.intro ⟨rfl, by omega, by omega⟩ ?_ | refine And.intro ⟨rfl, by decide, by omega, by omega⟩ ?_ | refine ⟨_, hX, ?_⟩ | refine ⟨_, hY, ?_⟩ | refine ⟨_, h1, ?_⟩ | refine ⟨_, h2, ?_⟩ | refine ⟨_, h3, ?_⟩ | refine ⟨_, hXe.1, ?_⟩ | refine ⟨_, hYe.1, ?_⟩)
            exact fin _ _ ⟨⟨rfl, rfl, rfl, rfl, rfl, rfl, trivial⟩, rfl, rfl⟩ (by subst hv; first | rfl | (simp [A1, A2, L1, L2, hi2, hj2]; done))
    · have A2 : decide ((j : Int) = m) = true := decide_eq_true (by omega)
      have L2 : decide ((j : Int) < m) = false := decide_eq_false (by omega)
      rw [decide_eq_false hj2] at hv
      dsimp only at hv
      cases xs <;> cases b1
      all_goals
        repeat ((conv => whnf); first | refine cond_t (by first | (simp only [A1,   L1,  L2, cond_true, eq_self]; done) | fail) ?_ | refine cond_f (by first | (simp only [A1,   L1,  L2, cond_true, eq_self]; done) | fail) ?_ | refine And.intro (by omega) ?_ | refine And.intro ⟨rfl, by omega, by omega⟩ ?_ | refine And.intro ⟨rfl, by decide, by omega, by omega⟩ ?_ | refine ⟨_, hX, ?_⟩ | refine ⟨_, h1, ?_⟩)
        exact fin _ _ ⟨⟨rfl, rfl, rfl, rfl, rfl, rfl, trivial⟩, rfl, rfl⟩ (by subst hv; first | rfl | (simp [A1, A2, L1, L2, hi2, hj2]; done))
  · have A1 : decide ((i : Int) = n) = true := decide_eq_true (by omega)
    have L1 : decide ((i : Int) < n) = false := decide_eq_false (by omega)
    rw [decide_eq_false hi2] at hv
    by_cases hj2 : j < m
    · have A2 : decide ((j : Int) = m) = false := decide_eq_false (by omega)
      have L2 : decide ((j : Int) < m) = true := decide_eq_true (by omega)
      replace h2 := h2 hj2
      replace hY := hY hj2
      rw [decide_eq_true hj2] at hv
      dsimp only at hv
      cases ys <;> cases b2
      all_goals
        repeat ((conv => whnf); first | refine cond_t (by first | (simp only [A1,  A2,  L1,  L2, cond_true, cond_false, eq_self]; done) | fail) ?_ | refine cond_f (by first | (simp only [A1,  A2,  L1,  L2, cond_true, cond_false, eq_self]; done) | fail) ?_ | refine And.intro (by omega) ?_ | refine And.intro ⟨rfl, by omega, by omega⟩ ?_ | refine And.intro ⟨rfl, by decide, by omega, by omega⟩ ?_ | refine ⟨_, hY, ?_⟩ | refine ⟨_, h2, ?_⟩)
        exact fin _ _ ⟨⟨rfl, rfl, rfl, rfl, rfl, rfl, trivial⟩, rfl, rfl⟩ (by subst hv; first | rfl | (simp [A1, A2]; done))
    · have A2 : decide ((j : Int) = m) = true := decide_eq_true (by omega)
      have L2 : decide ((j : Int) < m) = false := decide_eq_false (by omega)
      rw [decide_eq_false hj2] at hv
      dsimp only at hv
      repeat ((conv => whnf); first | refine cond_t (by first | (simp only [A1,   L1,  L2, eq_self]; done) | fail) ?_ | refine cond_f (by first | (simp only [  L1,  L2, eq_self]; done) | fail) ?_ | refine And.intro (by omega) ?_ | refine And.intro ⟨rfl, by omega, by omega⟩ ?_ | refine And.intro ⟨rfl, by decide, by omega, by omega⟩ ?_ | refine ⟨_, hp, ?_⟩)
      exact fin _ _ ⟨⟨rfl, rfl, rfl, rfl, rfl, rfl, trivial⟩, rfl, rfl⟩ (by subst hv; first | rfl | (simp [A1, A2]; done))

end Qk

/-
  Chapter 32: the reference: Overlap.
-/
namespace Qk
open Go Go.RowKit

def XO (x y : List Comp) (k : Nat) : St := mks [(5, rCpsA x), (7, rCpsA y), (9, .int .i64 ((y.length : Int) + 1)), (10, .sl 0 0 ((x.length + 1) * (y.length + 1))), (11, .int .i64 (pI k))] (CMV (boos (flT Comp.any Comp.meet x y (k * (y.length + 1))))) 1
def XI (x y : List Comp) (i k : Nat) : St := mks [(5, rCpsA x), (7, rCpsA y), (9, .int .i64 ((y.length : Int) + 1)), (10, .sl 0 0 ((x.length + 1) * (y.length + 1))), (11, .int .i64 i), (12, .int .i64 (pI k))] (CMV (boos (flT Comp.any Comp.meet x y (i * (y.length + 1) + k)))) 1

theorem flT_w2 {x y : List Comp} (hx : x.length ≤ 1000) (hy : y.length ≤ 1000) : (x.length + 1) * (y.length + 1) ≤ 2000000 :=
  Nat.le_trans (Nat.mul_le_mul (show x.length + 1 ≤ 1001 by omega) (show y.length + 1 ≤ 1001 by omega)) (by decide)
theorem globs_le {g : List UInt8} {l : List Comp} (hgl : globL g = some l) : l.length ≤ 1000 := by
  have h1 : compsL (splitS g) = some l := by
    unfold globL at hgl
    split at hgl
    · cases hgl
    · exact hgl
  have := (splitS_le g).2
  have := (glob_good hgl).2.2
  rw [comps_len h1]; omega

set_option maxRecDepth 4000 in
set_option maxHeartbeats 4000000 in
theorem d_ref_Overlap : Does irq_Overlap C_quiltref32_Overlap := by
  rintro ⟨a, b⟩ ⟨ha, hb⟩
  dsimp only at ha hb
  refine ⟨a, rfl, ha, ?_⟩
  have res1 : ∀ (g : List UInt8) (l : List Comp), globP g = (l, true) → C_quiltref32_glob.res g = .tup [rCpsA l, .bool true] := by
    intro g l h; show AV.tup [rCpsA (globP g).1, .bool (globP g).2] = _; rw [h]
  rcases globP_cases a with ⟨x, hga, hpa⟩ | ⟨hga, hpa⟩
  · rw [res1 a x hpa]
    refine ⟨_, rfl, ?_⟩
    refine ⟨_, rfl, ?_⟩
    refine ⟨b, rfl, hb, ?_⟩
    rcases globP_cases b with ⟨y, hgb, hpb⟩ | ⟨hgb, hpb⟩
    · rw [res1 b y hpb]
      refine ⟨_, rfl, ?_⟩
      refine ⟨_, rfl, ?_⟩
      have og : overG a b = gov Comp.any Comp.meet x y := by unfold overG; rw [hga, hgb]; rfl
      have hx : x.length ≤ 1000 := globs_le hga
      have hy : y.length ≤ 1000 := globs_le hgb
      have okx := glob_okS hga
      have oky := glob_okS hgb
      clear hpa hpb hga hgb res1
      have hW := flT_w2 hx hy
      have hw1 : ((x.length : Int) + 1) * ((y.length : Int) + 1) = (((x.length + 1) * (y.length + 1) : Nat) : Int) := by simp
      have hw2 : (((x.length : Int) + 1) * ((y.length : Int) + 1)).toNat = (x.length + 1) * (y.length + 1) := by rw [hw1]; exact Int.toNat_natCast _
      have hw3 : (y.length + 1) ≤ (x.length + 1) * (y.length + 1) := Nat.le_mul_of_pos_left _ (by omega)
      repeat ((conv => whnf); first | refine And.intro ⟨by omega, Int.le_refl _, by omega, by omega⟩ ?_ | refine cond_t (by first | (simp only [cond_true, cond_false, Bool.not_true, Bool.not_false, eq_self, decide_true, decide_false]; done) | fail) ?_ | refine cond_f (by first | (simp only [cond_true, cond_false, Bool.not_true, Bool.not_false, eq_self, decide_true, decide_false]; done) | fail) ?_ | refine And.intro (by omega) ?_ | refine And.intro ⟨rfl, by omega, by omega⟩ ?_ | refine And.intro ⟨rfl, by decide, by omega, by omega⟩ ?_)
      refine ⟨_, rfl, ?_⟩
      refine ⟨Nat, fun k => k ≤ x.length + 1, XO x y, fun k => k, x.length + 1, Nat.le_refl _, ?_, ?_⟩
      · refine sub_to ⟨rfl, rfl, rfl, congrArg some (eSl hw2), rfl, trivial⟩ ?_ (Nat.le_refl 1)
        refine heap_is [0] (fun _ => none) (out_upd (fun _ _ => rfl) List.mem_cons_self) (out_mkh rfl) ⟨?_, trivial⟩
        show some (AO.ls false 1 (repl (((x.length : Int) + 1) * ((y.length : Int) + 1)).toNat [AV.bool false])) = some (AO.ls false 1 (boos (flT Comp.any Comp.meet x y ((x.length + 1) * (y.length + 1)))))
        rw [hw2, repl_boos, flT_top]
      · intro k hk
        cases k with
        | zero =>
          refine And.intro ⟨rfl, by omega, by omega⟩ ?_
          refine ⟨_, boos_get (i := 0) (by rw [flT_len]; omega), ?_⟩
          refine ⟨_, (by first | exact SubSt.refl _ | exact SubTop.refl _), ?_⟩
          show AV.bool ((flT Comp.any Comp.meet x y (0 * (y.length + 1))).getD 0 false) = AV.bool (overG a b)
          rw [og]
          have := flT_get (star := Comp.any) (meet := Comp.meet) (x := x) (y := y) (i := 0) (j := 0) (p := 0 * (y.length + 1)) (Nat.zero_le _) (Nat.zero_le _) (by omega)
          rw [show 0 * (y.length + 1) + 0 = 0 from by omega] at this
          rw [this]; rfl
        | succ i =>
          have hi : i ≤ x.length := by omega
          show awp _ _ _ (mks [(5, rCpsA x), (7, rCpsA y), (9, .int .i64 ((y.length : Int) + 1)), (10, .sl 0 0 ((x.length + 1) * (y.length + 1))), (11, .int .i64 (i : Int))] (CMV (boos (flT Comp.any Comp.meet x y ((i + 1) * (y.length + 1))))) 1)
          refine ⟨Nat, fun k => k ≤ y.length + 1, XI x y i, fun k => k, y.length + 1, Nat.le_refl _, ?_, ?_⟩
          · refine sub_to ⟨rfl, rfl, rfl, rfl, rfl, rfl, trivial⟩ ?_ (Nat.le_refl 1)
            refine heap_is [0] (fun _ => none) (by (try dsimp only [St.set, mks, XO]); (repeat (first | exact out_mkh rfl | refine out_upd ?_ (by decide)))) (out_mkh rfl) ⟨?_, trivial⟩
            show some (AO.ls false 1 (boos (flT Comp.any Comp.meet x y ((i + 1) * (y.length + 1))))) = some (AO.ls false 1 (boos (flT Comp.any Comp.meet x y (i * (y.length + 1) + (y.length + 1)))))
            rw [Nat.succ_mul]
          · intro k2 hk2
            cases k2 with
            | zero =>
              refine jn_to ?_
              refine And.intro (by omega) ?_
              refine ⟨i, by show i ≤ _; omega, by show i < i + 1; omega, ?_⟩
              exact sub_to ⟨rfl, rfl, rfl, rfl, congrArg some (eI (pI_pred i)), trivial⟩ rfl (Nat.le_refl 1)
            | succ j =>
              have hj : j ≤ y.length := by omega
              have hpw : (i : Int) * ((y.length : Int) + 1) = ((i * (y.length + 1) : Nat) : Int) := by simp
              have hqw : ((i : Int) + 1) * ((y.length : Int) + 1) = (((i + 1) * (y.length + 1) : Nat) : Int) := by simp
              have hqp : (i + 1) * (y.length + 1) = i * (y.length + 1) + y.length + 1 := by rw [Nat.succ_mul]; omega
              obtain ⟨p, hp⟩ : ∃ p, p = i * (y.length + 1) := ⟨_, rfl⟩
              obtain ⟨q, hq⟩ : ∃ q, q = (i + 1) * (y.length + 1) := ⟨_, rfl⟩
              have in1 := flT_in (x := x) (y := y) hi (Nat.le_refl _)
              have in2 : i < x.length → (i + 1) * (y.length + 1) + y.length < (x.length + 1) * (y.length + 1) := fun h => flT_in (x := x) (y := y) h (Nat.le_refl _)
              obtain ⟨W, hWW⟩ : ∃ W, W = (x.length + 1) * (y.length + 1) := ⟨_, rfl⟩
              have lT : (boos (flT Comp.any Comp.meet x y (i * (y.length + 1) + (j + 1)))).length = (x.length + 1) * (y.length + 1) := by rw [boos_length, flT_len]
              have hle1 : i * (y.length + 1) + (j + 1) ≤ (i + 1) * (y.length + 1) + j := by rw [hqp]; omega
              have hle2 : i * (y.length + 1) + (j + 1) ≤ (i + 1) * (y.length + 1) + (j + 1) := by rw [hqp]; omega
              have e5 : (i : Int).toNat = i := by omega
              have e6 : (j : Int).toNat = j := by omega
              refine jn_to ?_
              refine ⟨mks (OME x.length y.length i j ((x.length + 1) * (y.length + 1)) (flatRC x) (flatRC y)) (CMV (boos (flT Comp.any Comp.meet x y (i * (y.length + 1) + (j + 1))))) 1, sub_to ⟨rfl, rfl, rfl, rfl, rfl, rfl, trivial⟩ rfl (Nat.le_refl 1), ?_⟩
              refine jn_at (fun _ : Unit => mks (OME x.length y.length i j ((x.length + 1) * (y.length + 1)) (flatRC x) (flatRC y)) (CMV (boos (flT Comp.any Comp.meet x y (i * (y.length + 1) + j)))) 1) (fun _ => True) ?_ ?_
              · refine t_om (W := (x.length + 1) * (y.length + 1)) (p := i * (y.length + 1)) (q := (i + 1) * (y.length + 1)) (xs := (x.getD i default).any) (ys := (y.getD j default).any) (ex := (x.getD i default).els) (ey := (y.getD j default).els)
                  (b1 := gov Comp.any Comp.meet (x.drop (i + 1)) (y.drop j)) (b2 := gov Comp.any Comp.meet (x.drop i) (y.drop (j + 1))) (b3 := gov Comp.any Comp.meet (x.drop (i + 1)) (y.drop (j + 1)))
                  (v := gov Comp.any Comp.meet (x.drop i) (y.drop j)) hi hj hx hy hpw hqw hqp (by omega) (fun h => by have := in2 h; omega) hW lT (fun h => flatRC_any h) (fun h => flatRC_any h) ?_ ?_ ?_ ?_ ?_ ?_ ?_
                · intro h; exact ⟨flatRC_els h, by rw [getD_at h]; exact (okx _ (List.getElem_mem _)).2.1⟩
                · intro h; exact ⟨flatRC_els h, by rw [getD_at h]; exact (oky _ (List.getElem_mem _)).2.1⟩
                · intro h
                  have ei : (0 + (((i : Int) + 1) * ((y.length : Int) + 1) + j).toNat) * 1 = (i + 1) * (y.length + 1) + j := by rw [hqw, ← hq]; omega
                  rw [ei, boos_get (by rw [flT_len]; exact flT_in h hj), flT_get h hj hle1]
                · intro h
                  have ei : (0 + ((i : Int) * ((y.length : Int) + 1) + j + 1).toNat) * 1 = i * (y.length + 1) + (j + 1) := by rw [hpw, ← hp]; omega
                  rw [ei, boos_get (by rw [flT_len]; exact flT_in hi h), flT_get hi h (by omega)]
                · intro h h'
                  have ei : (0 + (((i : Int) + 1) * ((y.length : Int) + 1) + j + 1).toNat) * 1 = (i + 1) * (y.length + 1) + (j + 1) := by rw [hqw, ← hq]; omega
                  rw [ei, boos_get (by rw [flT_len]; exact flT_in h h'), flT_get h h' hle2]
                · by_cases h : i < x.length
                  · rw [decide_eq_true h, getD_at h]
                    by_cases h' : j < y.length
                    · rw [decide_eq_true h', getD_at h', gov_both_at h h']
                      cases (x[i]'h).any <;> cases (y[j]'h').any <;> rfl
                    · rw [decide_eq_false h', gov_left_at h (by omega)]
                  · rw [decide_eq_false h]
                    by_cases h' : j < y.length
                    · rw [decide_eq_true h', getD_at h', gov_right_at (by omega) h']
                    · rw [decide_eq_false h', gov_nil_at (by omega) (by omega)]
                · intro S' w hE hh hn hw
                  refine ⟨(), trivial, sub_to hE ?_ (by rw [hn]; exact Nat.le_refl 1)⟩
                  have ei : (0 + ((i : Int) * ((y.length : Int) + 1) + j).toNat) * 1 = i * (y.length + 1) + j := by rw [hpw, ← hp]; omega
                  rw [hh, hw, ei, boos_set, ← Nat.add_assoc, flT_set hj]
                  exact heap_is [0] (fun _ => none) (by (try dsimp only [St.set, mks, CMV]); (repeat (first | exact out_mkh rfl | refine out_upd ?_ (by decide)))) (out_mkh rfl) ⟨rfl, trivial⟩
              · rintro _ _
                refine And.intro (by omega) ?_
                refine ⟨j, by show j ≤ _; omega, by show j < j + 1; omega, ?_⟩
                exact sub_to ⟨rfl, rfl, rfl, rfl, rfl, congrArg some (eI (pI_pred j)), trivial⟩ rfl (Nat.le_refl 1)
    · have hres : C_quiltref32_glob.res b = .tup [rCpsA (globP b).1, .bool false] := by show AV.tup [rCpsA (globP b).1, .bool (globP b).2] = _; rw [hpb]
      rw [hres]
      refine ⟨_, rfl, ?_⟩
      refine ⟨_, rfl, ?_⟩
      refine ⟨_, (by first | exact SubSt.refl _ | exact SubTop.refl _), ?_⟩
      show AV.bool false = AV.bool (overG a b)
      unfold overG; rw [hga, hgb]
  · have hres : C_quiltref32_glob.res a = .tup [rCpsA (globP a).1, .bool false] := by show AV.tup [rCpsA (globP a).1, .bool (globP a).2] = _; rw [hpa]
    rw [hres]
    refine ⟨_, rfl, ?_⟩
    refine ⟨_, rfl, ?_⟩
    refine ⟨b, rfl, hb, ?_⟩
    have hres2 : C_quiltref32_glob.res b = .tup [rCpsA (globP b).1, .bool (globP b).2] := rfl
    rw [hres2]
    refine ⟨_, rfl, ?_⟩
    refine ⟨_, rfl, ?_⟩
    refine ⟨_, (by first | exact SubSt.refl _ | exact SubTop.refl _), ?_⟩
    show AV.bool false = AV.bool (overG a b)
    unfold overG; rw [hga]

end Qk
