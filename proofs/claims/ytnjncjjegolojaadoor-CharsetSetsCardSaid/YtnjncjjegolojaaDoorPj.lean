/-
  Chapter 57: the statements on inverses.
-/
import Derived.Test.YtnjncjjegolojaaDoorPi
import Derived.Test.YtnjncjjegolojaaDoorPg
import Derived.Test.YtnjncjjegolojaaDoorPh

/-
  Chapter 57: contracts of the statements without the reference.
-/
namespace Qk
open Go Go.RowKit

def C_strings_IndexByte : PC := ⟨List UInt8 × UInt8, fun x => [.str x.1, .int .u8 x.2.toNat], fun x => x.1.length ≤ 1000000000, fun x => .int .i64 (indexB x.1 x.2)⟩
def C_quiltlaw57_CharsetInverse : PC := ⟨Int × List UInt8, fun x => [.int .i64 x.1, .str x.2], fun _ => True, fun _ => .bool true⟩
def C_quiltlaw57_CharsetRepoInverse : PC := ⟨List Att × List UInt8 × List UInt8, fun x => [attsA x.1, .str x.2.1, .str x.2.2], fun x => x.1.length ≤ 9223372036854775807, fun _ => .bool true⟩
def C_quiltlaw57_CharsetSets : PC := ⟨List UInt8, fun x => [.str x], fun _ => True, fun _ => .bool true⟩
def C_quiltlaw57_CharsetLines : PC := ⟨List UInt8, fun x => [.str x], fun _ => True, fun _ => .bool true⟩

end Qk

/-
  Chapter 57: the statements without the reference in the executor's form (printed).
-/
namespace Qk
open Go Go.RowKit

/-- quilt/quiltlaw57.CharsetInverse -/
def ir_quiltlaw57_CharsetInverse : IF := ⟨(.seq (.ops [⟨(some 4), none, .mov (.const (.bool false))⟩])
  (.seq (.seq (.ops [⟨(some 13), none, .mov (t 1)⟩,
    ⟨(some 14), none, .lenS (t 13)⟩,
    ⟨(some 15), none, .bin .gtr (t 14) (ci 300)⟩])
  (.cond (t 15) (.seq (.ops [⟨(some 16), none, .pcall C_quiltlaw57_awake []⟩,
    ⟨(some 4), none, .mov (t 16)⟩])
  .ret)
  .skip))
  (.seq (.seq (.ops [⟨(some 18), none, .mov (t 0)⟩,
    ⟨(some 19), none, .mov (t 1)⟩,
    ⟨(some 20), none, .pcall C_charset_Decode [(t 18), (t 19)]⟩,
    ⟨(some 17), none, .mov (t 20)⟩,
    ⟨(some 21), none, .extr (t 17) 0⟩,
    ⟨(some 22), none, .extr (t 17) 1⟩,
    ⟨(some 5), none, .mov (t 21)⟩,
    ⟨(some 6), none, .mov (t 22)⟩])
  (.seq (.ops [⟨(some 23), none, .mov (t 6)⟩,
    ⟨(some 24), none, .bin .eql (t 23) (ci 0)⟩])
  (.jn (.cond (t 24) (.seq (.ops [⟨(some 26), none, .mov (t 0)⟩,
    ⟨(some 27), none, .mov (t 5)⟩,
    ⟨(some 28), none, .pcall C_charset_Encode [(t 26), (t 27)]⟩,
    ⟨(some 25), none, .mov (t 28)⟩,
    ⟨(some 29), none, .extr (t 25) 0⟩,
    ⟨(some 30), none, .extr (t 25) 1⟩,
    ⟨(some 7), none, .mov (t 29)⟩,
    ⟨(some 8), none, .mov (t 30)⟩])
  (.seq (.ops [⟨(some 31), none, .mov (t 8)⟩,
    ⟨(some 32), none, .bin .neq (t 31) (ci 0)⟩,
    ⟨(some 33), none, .mov (t 32)⟩,
    ⟨(some 34), (some (33, false)), .mov (t 7)⟩,
    ⟨(some 35), (some (33, false)), .mov (t 1)⟩,
    ⟨(some 36), (some (33, false)), .bin .neq (t 34) (t 35)⟩,
    ⟨(some 37), none, .pick (t 33) (.const (.bool true)) (t 36)⟩])
  (.cond (t 37) (.seq (.ops [⟨(some 4), none, .mov (.const (.bool false))⟩])
  .ret)
  .skip)))
  (.seq (.ops [⟨(some 38), none, .mov (t 5)⟩,
    ⟨(some 39), none, .bin .neq (t 38) (.const (.string ⟨#[]⟩))⟩])
  (.cond (t 39) (.seq (.ops [⟨(some 4), none, .mov (.const (.bool false))⟩])
  .ret)
  .skip))))))
  (.seq (.seq (.ops [⟨(some 41), none, .mov (t 0)⟩,
    ⟨(some 42), none, .mov (t 1)⟩,
    ⟨(some 43), none, .pcall C_charset_Encode [(t 41), (t 42)]⟩,
    ⟨(some 40), none, .mov (t 43)⟩,
    ⟨(some 44), none, .extr (t 40) 0⟩,
    ⟨(some 45), none, .extr (t 40) 1⟩,
    ⟨(some 9), none, .mov (t 44)⟩,
    ⟨(some 10), none, .mov (t 45)⟩])
  (.seq (.ops [⟨(some 46), none, .mov (t 10)⟩,
    ⟨(some 47), none, .bin .eql (t 46) (ci 0)⟩])
  (.jn (.cond (t 47) (.seq (.ops [⟨(some 49), none, .mov (t 0)⟩,
    ⟨(some 50), none, .mov (t 9)⟩,
    ⟨(some 51), none, .pcall C_charset_Decode [(t 49), (t 50)]⟩,
    ⟨(some 48), none, .mov (t 51)⟩,
    ⟨(some 52), none, .extr (t 48) 0⟩,
    ⟨(some 53), none, .extr (t 48) 1⟩,
    ⟨(some 11), none, .mov (t 52)⟩,
    ⟨(some 12), none, .mov (t 53)⟩])
  (.seq (.ops [⟨(some 54), none, .mov (t 12)⟩,
    ⟨(some 55), none, .bin .neq (t 54) (ci 0)⟩,
    ⟨(some 56), none, .mov (t 55)⟩,
    ⟨(some 57), (some (56, false)), .mov (t 11)⟩,
    ⟨(some 58), (some (56, false)), .mov (t 1)⟩,
    ⟨(some 59), (some (56, false)), .bin .neq (t 57) (t 58)⟩,
    ⟨(some 60), none, .pick (t 56) (.const (.bool true)) (t 59)⟩])
  (.cond (t 60) (.seq (.ops [⟨(some 4), none, .mov (.const (.bool false))⟩])
  .ret)
  .skip)))
  (.seq (.ops [⟨(some 61), none, .mov (t 9)⟩,
    ⟨(some 62), none, .bin .neq (t 61) (.const (.string ⟨#[]⟩))⟩])
  (.cond (t 62) (.seq (.ops [⟨(some 4), none, .mov (.const (.bool false))⟩])
  .ret)
  .skip))))))
  (.seq (.ops [⟨(some 63), none, .pcall C_quiltlaw57_awake []⟩,
    ⟨(some 4), none, .mov (t 63)⟩])
  .ret))))), [.tmp 4]⟩
/-- quilt/quiltlaw57.CharsetRepoInverse -/
def ir_quiltlaw57_CharsetRepoInverse : IF := ⟨(.seq (.ops [⟨(some 6), none, .mov (.const (.bool false))⟩])
  (.seq (.seq (.ops [⟨(some 15), none, .mov (t 0)⟩,
    ⟨(some 16), none, .pcall C_quiltref57_Great [(t 15)]⟩,
    ⟨(some 17), none, .mov (t 16)⟩,
    ⟨(some 18), (some (17, false)), .mov (t 1)⟩,
    ⟨(some 19), (some (17, false)), .lenS (t 18)⟩,
    ⟨(some 20), (some (17, false)), .bin .gtr (t 19) (ci 60)⟩,
    ⟨(some 21), none, .pick (t 17) (.const (.bool true)) (t 20)⟩,
    ⟨(some 22), none, .mov (t 21)⟩,
    ⟨(some 23), (some (22, false)), .mov (t 2)⟩,
    ⟨(some 24), (some (22, false)), .lenS (t 23)⟩,
    ⟨(some 25), (some (22, false)), .bin .gtr (t 24) (ci 300)⟩,
    ⟨(some 26), none, .pick (t 22) (.const (.bool true)) (t 25)⟩])
  (.cond (t 26) (.seq (.ops [⟨(some 27), none, .pcall C_quiltlaw57_awake []⟩,
    ⟨(some 6), none, .mov (t 27)⟩])
  .ret)
  .skip))
  (.seq (.seq (.ops [⟨(some 29), none, .mov (t 0)⟩,
    ⟨(some 30), none, .mov (t 1)⟩,
    ⟨(some 31), none, .mov (t 2)⟩,
    ⟨(some 32), none, .pcall C_charset_ToRepo [(t 29), (t 30), (t 31)]⟩,
    ⟨(some 28), none, .mov (t 32)⟩,
    ⟨(some 33), none, .extr (t 28) 0⟩,
    ⟨(some 34), none, .extr (t 28) 1⟩,
    ⟨(some 7), none, .mov (t 33)⟩,
    ⟨(some 8), none, .mov (t 34)⟩])
  (.seq (.ops [⟨(some 35), none, .mov (t 8)⟩,
    ⟨(some 36), none, .bin .eql (t 35) (ci 0)⟩])
  (.jn (.cond (t 36) (.seq (.ops [⟨(some 38), none, .mov (t 0)⟩,
    ⟨(some 39), none, .mov (t 1)⟩,
    ⟨(some 40), none, .mov (t 7)⟩,
    ⟨(some 41), none, .pcall C_charset_FromRepo [(t 38), (t 39), (t 40)]⟩,
    ⟨(some 37), none, .mov (t 41)⟩,
    ⟨(some 42), none, .extr (t 37) 0⟩,
    ⟨(some 43), none, .extr (t 37) 1⟩,
    ⟨(some 9), none, .mov (t 42)⟩,
    ⟨(some 10), none, .mov (t 43)⟩])
  (.seq (.ops [⟨(some 44), none, .mov (t 10)⟩,
    ⟨(some 45), none, .bin .neq (t 44) (ci 0)⟩,
    ⟨(some 46), none, .mov (t 45)⟩,
    ⟨(some 47), (some (46, false)), .mov (t 9)⟩,
    ⟨(some 48), (some (46, false)), .mov (t 2)⟩,
    ⟨(some 49), (some (46, false)), .bin .neq (t 47) (t 48)⟩,
    ⟨(some 50), none, .pick (t 46) (.const (.bool true)) (t 49)⟩])
  (.cond (t 50) (.seq (.ops [⟨(some 6), none, .mov (.const (.bool false))⟩])
  .ret)
  .skip)))
  .skip))))
  (.seq (.seq (.ops [⟨(some 52), none, .mov (t 0)⟩,
    ⟨(some 53), none, .mov (t 1)⟩,
    ⟨(some 54), none, .mov (t 2)⟩,
    ⟨(some 55), none, .pcall C_charset_FromRepo [(t 52), (t 53), (t 54)]⟩,
    ⟨(some 51), none, .mov (t 55)⟩,
    ⟨(some 56), none, .extr (t 51) 0⟩,
    ⟨(some 57), none, .extr (t 51) 1⟩,
    ⟨(some 11), none, .mov (t 56)⟩,
    ⟨(some 12), none, .mov (t 57)⟩])
  (.seq (.ops [⟨(some 58), none, .mov (t 12)⟩,
    ⟨(some 59), none, .bin .eql (t 58) (ci 0)⟩])
  (.jn (.cond (t 59) (.seq (.ops [⟨(some 61), none, .mov (t 0)⟩,
    ⟨(some 62), none, .mov (t 1)⟩,
    ⟨(some 63), none, .mov (t 11)⟩,
    ⟨(some 64), none, .pcall C_charset_ToRepo [(t 61), (t 62), (t 63)]⟩,
    ⟨(some 60), none, .mov (t 64)⟩,
    ⟨(some 65), none, .extr (t 60) 0⟩,
    ⟨(some 66), none, .extr (t 60) 1⟩,
    ⟨(some 13), none, .mov (t 65)⟩,
    ⟨(some 14), none, .mov (t 66)⟩])
  (.seq (.ops [⟨(some 67), none, .mov (t 14)⟩,
    ⟨(some 68), none, .bin .neq (t 67) (ci 0)⟩,
    ⟨(some 69), none, .mov (t 68)⟩,
    ⟨(some 70), (some (69, false)), .mov (t 13)⟩,
    ⟨(some 71), (some (69, false)), .mov (t 2)⟩,
    ⟨(some 72), (some (69, false)), .bin .neq (t 70) (t 71)⟩,
    ⟨(some 73), none, .pick (t 69) (.const (.bool true)) (t 72)⟩])
  (.cond (t 73) (.seq (.ops [⟨(some 6), none, .mov (.const (.bool false))⟩])
  .ret)
  .skip)))
  .skip))))
  (.seq (.ops [⟨(some 74), none, .pcall C_quiltlaw57_awake []⟩,
    ⟨(some 6), none, .mov (t 74)⟩])
  .ret))))), [.tmp 6]⟩
/-- quilt/quiltlaw57.CharsetLines -/
def ir_quiltlaw57_CharsetLines : IF := ⟨(.seq (.ops [⟨(some 2), none, .mov (.const (.bool false))⟩])
  (.seq (.seq (.ops [⟨(some 15), none, .mov (t 0)⟩,
    ⟨(some 16), none, .lenS (t 15)⟩,
    ⟨(some 17), none, .bin .gtr (t 16) (ci 300)⟩])
  (.cond (t 17) (.seq (.ops [⟨(some 18), none, .pcall C_quiltlaw57_awake []⟩,
    ⟨(some 2), none, .mov (t 18)⟩])
  .ret)
  .skip))
  (.seq (.ops [⟨(some 19), none, .mov (t 0)⟩,
    ⟨(some 20), none, .pcall C_strings_IndexByte [(t 19), (.const (.int .u8 13))]⟩,
    ⟨(some 21), none, .bin .geq (t 20) (ci 0)⟩,
    ⟨(some 3), none, .mov (t 21)⟩])
  (.seq (.seq (.ops [⟨(some 22), none, .bslice 1 [.int .i64 0] 2 [(0, 1, (ci 0)), (1, 1, (ci 1))]⟩,
    ⟨(some 23), none, .lenL (t 22)⟩,
    ⟨(some 24), none, .mov (ci 0)⟩])
  (.block 0 (.loop (.seq (.ops [⟨(some 25), none, .bin .lss (t 24) (t 23)⟩])
  (.seq (.cond (t 25) .skip
  (.exit 0))
  (.seq (.block 1 (.seq (.ops [⟨(some 26), none, .idxL 1 (t 22) (t 24)⟩,
    ⟨(some 27), none, .load1 (t 26)⟩,
    ⟨(some 5), none, .mov (t 27)⟩])
  (.seq (.ops [⟨(some 28), none, .mov (t 5)⟩,
    ⟨(some 29), none, .build 3 [.str [], .int .i64 0, .int .i64 0] [(0, 1, (.const (.string ⟨#[42, 42]⟩))), (2, 1, (t 28))]⟩,
    ⟨(some 30), none, .bslice 3 [.str [], .int .i64 0, .int .i64 0] 1 [(0, 3, (t 29))]⟩,
    ⟨(some 6), none, .mov (t 30)⟩])
  (.seq (.ops [⟨(some 32), none, .mov (t 6)⟩,
    ⟨(some 33), none, .mov (t 0)⟩,
    ⟨(some 34), none, .pcall C_charset_ToRepo [(t 32), (.const (.string ⟨#[97, 47, 98]⟩)), (t 33)]⟩,
    ⟨(some 31), none, .mov (t 34)⟩,
    ⟨(some 35), none, .extr (t 31) 0⟩,
    ⟨(some 36), none, .extr (t 31) 1⟩,
    ⟨(some 7), none, .mov (t 35)⟩,
    ⟨(some 8), none, .mov (t 36)⟩])
  (.seq (.ops [⟨(some 38), none, .mov (t 6)⟩,
    ⟨(some 39), none, .mov (t 0)⟩,
    ⟨(some 40), none, .pcall C_charset_FromRepo [(t 38), (.const (.string ⟨#[97, 47, 98]⟩)), (t 39)]⟩,
    ⟨(some 37), none, .mov (t 40)⟩,
    ⟨(some 41), none, .extr (t 37) 0⟩,
    ⟨(some 42), none, .extr (t 37) 1⟩,
    ⟨(some 9), none, .mov (t 41)⟩,
    ⟨(some 10), none, .mov (t 42)⟩])
  (.seq (.ops [⟨(some 43), none, .mov (t 5)⟩,
    ⟨(some 44), none, .bin .eql (t 43) (ci 0)⟩,
    ⟨(some 45), none, .mov (t 44)⟩,
    ⟨(some 46), (some (45, false)), .mov (t 3)⟩,
    ⟨(some 47), (some (45, false)), .not (t 46)⟩,
    ⟨(some 48), none, .pick (t 45) (.const (.bool true)) (t 47)⟩,
    ⟨(some 11), none, .mov (t 48)⟩])
  (.seq (.ops [⟨(some 49), none, .mov (t 11)⟩,
    ⟨(some 50), none, .mov (t 8)⟩,
    ⟨(some 51), none, .bin .eql (t 50) (ci 0)⟩,
    ⟨(some 52), none, .beq true (t 49) (t 51)⟩,
    ⟨(some 53), none, .mov (t 52)⟩,
    ⟨(some 54), (some (53, false)), .mov (t 11)⟩,
    ⟨(some 55), (some (53, false)), .mov (t 10)⟩,
    ⟨(some 56), (some (53, false)), .bin .eql (t 55) (ci 0)⟩,
    ⟨(some 57), (some (53, false)), .beq true (t 54) (t 56)⟩,
    ⟨(some 58), none, .pick (t 53) (.const (.bool true)) (t 57)⟩,
    ⟨(some 59), none, .mov (t 58)⟩,
    ⟨(some 60), (some (59, false)), .mov (t 11)⟩,
    ⟨(some 61), (some (59, false)), .mov (t 60)⟩,
    ⟨(some 62), (some (61, true)), .mov (t 7)⟩,
    ⟨(some 63), (some (61, true)), .mov (t 0)⟩,
    ⟨(some 64), (some (61, true)), .bin .neq (t 62) (t 63)⟩,
    ⟨(some 65), (some (61, true)), .mov (t 64)⟩,
    ⟨(some 66), (some (65, false)), .mov (t 9)⟩,
    ⟨(some 67), (some (65, false)), .mov (t 0)⟩,
    ⟨(some 68), (some (65, false)), .bin .neq (t 66) (t 67)⟩,
    ⟨(some 69), (some (61, true)), .pick (t 65) (.const (.bool true)) (t 68)⟩,
    ⟨(some 70), (some (59, false)), .pick (t 61) (t 69) (.const (.bool false))⟩,
    ⟨(some 71), none, .pick (t 59) (.const (.bool true)) (t 70)⟩])
  (.cond (t 71) (.seq (.ops [⟨(some 2), none, .mov (.const (.bool false))⟩])
  .ret)
  .skip))))))))
  (.ops [⟨(some 72), none, .bin .add (t 24) (ci 1)⟩,
    ⟨(some 24), none, .mov (t 72)⟩])))))))
  (.seq (.ops [⟨(some 73), none, .build 3 [.str [], .int .i64 0, .int .i64 0] [(0, 1, (.const (.string ⟨#[42, 42]⟩))), (2, 1, (ci 2))]⟩,
    ⟨(some 74), none, .bslice 3 [.str [], .int .i64 0, .int .i64 0] 1 [(0, 3, (t 73))]⟩,
    ⟨(some 12), none, .mov (t 74)⟩])
  (.seq (.ops [⟨(some 76), none, .mov (t 12)⟩,
    ⟨(some 77), none, .mov (t 0)⟩,
    ⟨(some 78), none, .pcall C_charset_FromRepo [(t 76), (.const (.string ⟨#[97, 47, 98]⟩)), (t 77)]⟩,
    ⟨(some 75), none, .mov (t 78)⟩,
    ⟨(some 79), none, .extr (t 75) 0⟩,
    ⟨(some 80), none, .extr (t 75) 1⟩,
    ⟨(some 13), none, .mov (t 79)⟩,
    ⟨(some 14), none, .mov (t 80)⟩])
  (.seq (.seq (.ops [⟨(some 81), none, .mov (t 3)⟩])
  (.cond (t 81) (.seq (.ops [⟨(some 82), none, .mov (t 14)⟩,
    ⟨(some 83), none, .bin .eql (t 82) (ci 24)⟩,
    ⟨(some 84), none, .mov (t 83)⟩,
    ⟨(some 85), (some (84, true)), .pcall C_quiltlaw57_awake []⟩,
    ⟨(some 86), none, .pick (t 84) (t 85) (.const (.bool false))⟩,
    ⟨(some 2), none, .mov (t 86)⟩])
  .ret)
  .skip))
  (.seq (.ops [⟨(some 87), none, .mov (t 14)⟩,
    ⟨(some 88), none, .bin .eql (t 87) (ci 0)⟩,
    ⟨(some 89), none, .mov (t 88)⟩,
    ⟨(some 90), (some (89, true)), .mov (t 13)⟩,
    ⟨(some 91), (some (89, true)), .mov (t 0)⟩,
    ⟨(some 92), (some (89, true)), .pcall C_strings_ReplaceAll [(t 91), (.const (.string ⟨#[10]⟩)), (.const (.string ⟨#[13, 10]⟩))]⟩,
    ⟨(some 93), (some (89, true)), .bin .eql (t 90) (t 92)⟩,
    ⟨(some 94), none, .pick (t 89) (t 93) (.const (.bool false))⟩,
    ⟨(some 95), none, .mov (t 94)⟩,
    ⟨(some 96), (some (95, true)), .pcall C_quiltlaw57_awake []⟩,
    ⟨(some 97), none, .pick (t 95) (t 96) (.const (.bool false))⟩,
    ⟨(some 2), none, .mov (t 97)⟩])
  .ret)))))))), [.tmp 2]⟩
/-- quilt/quiltlaw57.CharsetSets -/
def ir_quiltlaw57_CharsetSets : IF := ⟨(.seq (.ops [⟨(some 2), none, .mov (.const (.bool false))⟩])
  (.seq (.seq (.ops [⟨(some 17), none, .mov (t 0)⟩,
    ⟨(some 18), none, .lenS (t 17)⟩,
    ⟨(some 19), none, .bin .gtr (t 18) (ci 300)⟩])
  (.cond (t 19) (.seq (.ops [⟨(some 20), none, .pcall C_quiltlaw57_awake []⟩,
    ⟨(some 2), none, .mov (t 20)⟩])
  .ret)
  .skip))
  (.seq (.ops [⟨(some 3), none, .mov (ci 0)⟩,
    ⟨(some 4), none, .mov (ci 0)⟩,
    ⟨(some 5), none, .mov (.const (.bool true))⟩])
  (.seq (.seq (.sops [.op ⟨(some 21), none, .mov (t 0)⟩,
    .rngS (some 22) (t 21)])
  (.block 0 (.loop (.seq (.sops [.nxtS (some 23) (t 22),
    .op ⟨(some 24), none, .extr (t 23) 0⟩])
  (.seq (.cond (t 24) .skip
  (.exit 0))
  (.block 1 (.seq (.ops [⟨(some 25), none, .extr (t 23) 1⟩,
    ⟨(some 26), none, .extr (t 23) 2⟩,
    ⟨(some 6), none, .mov (t 25)⟩,
    ⟨(some 7), none, .mov (t 26)⟩])
  (.seq (.seq (.ops [⟨(some 27), none, .mov (t 7)⟩,
    ⟨(some 28), none, .bin .eql (t 27) (.const (.int .i32 65533))⟩,
    ⟨(some 29), none, .mov (t 28)⟩,
    ⟨(some 30), (some (29, true)), .mov (t 0)⟩,
    ⟨(some 31), (some (29, true)), .mov (t 6)⟩,
    ⟨(some 32), (some (29, true)), .slS (t 30) (some (t 31)) none⟩,
    ⟨(some 33), (some (29, true)), .pcall C_strings_HasPrefix [(t 32), (.const (.string ⟨#[239, 191, 189]⟩))]⟩,
    ⟨(some 34), (some (29, true)), .not (t 33)⟩,
    ⟨(some 35), none, .pick (t 29) (t 34) (.const (.bool false))⟩])
  (.jn (.cond (t 35) (.ops [⟨(some 5), none, .mov (.const (.bool false))⟩])
  .skip)))
  (.seq (.ops [⟨(some 36), none, .mov (t 3)⟩,
    ⟨(some 37), none, .bin .add (t 36) (ci 1)⟩,
    ⟨(some 3), none, .mov (t 37)⟩])
  (.seq (.ops [⟨(some 38), none, .mov (t 7)⟩,
    ⟨(some 39), none, .bin .gtr (t 38) (.const (.int .i32 65535))⟩])
  (.jn (.cond (t 39) (.ops [⟨(some 40), none, .mov (t 4)⟩,
    ⟨(some 41), none, .bin .add (t 40) (ci 1)⟩,
    ⟨(some 4), none, .mov (t 41)⟩])
  .skip))))))))))))
  (.seq (.ops [⟨(some 43), none, .mov (t 0)⟩,
    ⟨(some 44), none, .pcall C_charset_Decode [(ci 1), (t 43)]⟩,
    ⟨(some 42), none, .mov (t 44)⟩,
    ⟨(some 45), none, .extr (t 42) 0⟩,
    ⟨(some 46), none, .extr (t 42) 1⟩,
    ⟨(some 8), none, .mov (t 45)⟩,
    ⟨(some 9), none, .mov (t 46)⟩])
  (.seq (.seq (.ops [⟨(some 47), none, .mov (t 5)⟩,
    ⟨(some 48), none, .mov (t 9)⟩,
    ⟨(some 49), none, .bin .eql (t 48) (ci 0)⟩,
    ⟨(some 50), none, .beq true (t 47) (t 49)⟩,
    ⟨(some 51), none, .mov (t 50)⟩,
    ⟨(some 52), (some (51, false)), .mov (t 5)⟩,
    ⟨(some 53), (some (51, false)), .mov (t 52)⟩,
    ⟨(some 54), (some (53, true)), .mov (t 8)⟩,
    ⟨(some 55), (some (53, true)), .mov (t 0)⟩,
    ⟨(some 56), (some (53, true)), .bin .neq (t 54) (t 55)⟩,
    ⟨(some 57), (some (51, false)), .pick (t 53) (t 56) (.const (.bool false))⟩,
    ⟨(some 58), none, .pick (t 51) (.const (.bool true)) (t 57)⟩])
  (.cond (t 58) (.seq (.ops [⟨(some 2), none, .mov (.const (.bool false))⟩])
  .ret)
  .skip))
  (.seq (.ops [⟨(some 60), none, .mov (t 0)⟩,
    ⟨(some 61), none, .pcall C_charset_Decode [(ci 2), (t 60)]⟩,
    ⟨(some 59), none, .mov (t 61)⟩,
    ⟨(some 62), none, .extr (t 59) 0⟩,
    ⟨(some 63), none, .extr (t 59) 1⟩,
    ⟨(some 10), none, .mov (t 62)⟩,
    ⟨(some 11), none, .mov (t 63)⟩])
  (.seq (.ops [⟨(some 12), none, .mov (ci 0)⟩])
  (.seq (.seq (.sops [.op ⟨(some 64), none, .mov (t 10)⟩,
    .rngS (some 65) (t 64)])
  (.block 2 (.loop (.seq (.sops [.nxtS (some 66) (t 65),
    .op ⟨(some 67), none, .extr (t 66) 0⟩])
  (.seq (.cond (t 67) .skip
  (.exit 2))
  (.block 3 (.seq (.ops [⟨(some 68), none, .extr (t 66) 2⟩,
    ⟨(some 14), none, .mov (t 68)⟩])
  (.seq (.seq (.ops [⟨(some 69), none, .mov (t 12)⟩,
    ⟨(some 70), none, .mov (t 0)⟩,
    ⟨(some 71), none, .lenS (t 70)⟩,
    ⟨(some 72), none, .bin .geq (t 69) (t 71)⟩,
    ⟨(some 73), none, .mov (t 72)⟩,
    ⟨(some 74), (some (73, false)), .mov (t 14)⟩,
    ⟨(some 75), (some (73, false)), .conv .i64 (t 74)⟩,
    ⟨(some 76), (some (73, false)), .mov (t 0)⟩,
    ⟨(some 77), (some (73, false)), .mov (t 12)⟩,
    ⟨(some 78), (some (73, false)), .idxS (t 76) (t 77)⟩,
    ⟨(some 79), (some (73, false)), .conv .i64 (t 78)⟩,
    ⟨(some 80), (some (73, false)), .bin .neq (t 75) (t 79)⟩,
    ⟨(some 81), none, .pick (t 73) (.const (.bool true)) (t 80)⟩])
  (.cond (t 81) (.seq (.ops [⟨(some 2), none, .mov (.const (.bool false))⟩])
  .ret)
  .skip))
  (.ops [⟨(some 82), none, .mov (t 12)⟩,
    ⟨(some 83), none, .bin .add (t 82) (ci 1)⟩,
    ⟨(some 12), none, .mov (t 83)⟩])))))))))
  (.seq (.seq (.ops [⟨(some 84), none, .mov (t 11)⟩,
    ⟨(some 85), none, .bin .neq (t 84) (ci 0)⟩,
    ⟨(some 86), none, .mov (t 85)⟩,
    ⟨(some 87), (some (86, false)), .mov (t 12)⟩,
    ⟨(some 88), (some (86, false)), .mov (t 0)⟩,
    ⟨(some 89), (some (86, false)), .lenS (t 88)⟩,
    ⟨(some 90), (some (86, false)), .bin .neq (t 87) (t 89)⟩,
    ⟨(some 91), none, .pick (t 86) (.const (.bool true)) (t 90)⟩])
  (.cond (t 91) (.seq (.ops [⟨(some 2), none, .mov (.const (.bool false))⟩])
  .ret)
  .skip))
  (.seq (.ops [⟨(some 93), none, .mov (t 0)⟩,
    ⟨(some 94), none, .pcall C_charset_Encode [(ci 3), (t 93)]⟩,
    ⟨(some 92), none, .mov (t 94)⟩,
    ⟨(some 95), none, .extr (t 92) 0⟩,
    ⟨(some 96), none, .extr (t 92) 1⟩,
    ⟨(some 15), none, .mov (t 95)⟩,
    ⟨(some 16), none, .mov (t 96)⟩])
  (.seq (.seq (.ops [⟨(some 97), none, .mov (t 5)⟩,
    ⟨(some 98), none, .not (t 97)⟩])
  (.cond (t 98) (.seq (.ops [⟨(some 99), none, .mov (t 16)⟩,
    ⟨(some 100), none, .bin .eql (t 99) (ci 24)⟩,
    ⟨(some 101), none, .mov (t 100)⟩,
    ⟨(some 102), (some (101, true)), .pcall C_quiltlaw57_awake []⟩,
    ⟨(some 103), none, .pick (t 101) (t 102) (.const (.bool false))⟩,
    ⟨(some 2), none, .mov (t 103)⟩])
  .ret)
  .skip))
  (.seq (.ops [⟨(some 104), none, .mov (t 16)⟩,
    ⟨(some 105), none, .bin .eql (t 104) (ci 0)⟩,
    ⟨(some 106), none, .mov (t 105)⟩,
    ⟨(some 107), (some (106, true)), .mov (t 0)⟩,
    ⟨(some 108), (some (106, true)), .bin .eql (t 107) (.const (.string ⟨#[]⟩))⟩,
    ⟨(some 109), (some (106, true)), .mov (t 108)⟩,
    ⟨(some 110), (some (109, true)), .mov (t 15)⟩,
    ⟨(some 111), (some (109, true)), .bin .eql (t 110) (.const (.string ⟨#[]⟩))⟩,
    ⟨(some 112), (some (106, true)), .pick (t 109) (t 111) (.const (.bool false))⟩,
    ⟨(some 113), (some (106, true)), .mov (t 112)⟩,
    ⟨(some 114), (some (113, false)), .mov (t 0)⟩,
    ⟨(some 115), (some (113, false)), .bin .neq (t 114) (.const (.string ⟨#[]⟩))⟩,
    ⟨(some 116), (some (113, false)), .mov (t 115)⟩,
    ⟨(some 117), (some (116, true)), .mov (t 15)⟩,
    ⟨(some 118), (some (116, true)), .lenS (t 117)⟩,
    ⟨(some 119), (some (116, true)), .mov (t 3)⟩,
    ⟨(some 120), (some (116, true)), .mov (t 4)⟩,
    ⟨(some 121), (some (116, true)), .bin .add (t 119) (t 120)⟩,
    ⟨(some 122), (some (116, true)), .bin .mul (ci 2) (t 121)⟩,
    ⟨(some 123), (some (116, true)), .bin .add (ci 2) (t 122)⟩,
    ⟨(some 124), (some (116, true)), .bin .eql (t 118) (t 123)⟩,
    ⟨(some 125), (some (113, false)), .pick (t 116) (t 124) (.const (.bool false))⟩,
    ⟨(some 126), (some (106, true)), .pick (t 113) (.const (.bool true)) (t 125)⟩,
    ⟨(some 127), none, .pick (t 106) (t 126) (.const (.bool false))⟩,
    ⟨(some 128), none, .mov (t 127)⟩,
    ⟨(some 129), (some (128, true)), .pcall C_quiltlaw57_awake []⟩,
    ⟨(some 130), none, .pick (t 128) (t 129) (.const (.bool false))⟩,
    ⟨(some 2), none, .mov (t 130)⟩])
  .ret))))))))))))), [.tmp 2]⟩

end Qk

/-
  Chapter 57, plain: the codings are inverse to each other.
-/
namespace Qk
open Go

def unitsC (c : Nat) : List Nat := if c < 65536 then [c] else [55296 + (c - 65536) / 1024, 56320 + (c - 65536) % 1024]
theorem wide_units (c : Nat) : wide c = (unitsC c).flatMap two := by
  unfold wide unitsC
  split <;> simp
theorem words_two : ∀ (ws : List Nat), (∀ w ∈ ws, w < 65536) → wordsL (ws.flatMap two) = some ws
  | [], _ => rfl
  | w :: ws, h => by
    have hw := h w (by simp)
    have ih := words_two ws (fun x hx => h x (by simp [hx]))
    show (wordsL (ws.flatMap two)).map (((w.toUInt8).toNat + 256 * ((w / 256).toUInt8).toNat) :: ·) = some (w :: ws)
    have e1 : (w.toUInt8).toNat = w % 256 := by show (UInt8.ofNat w).toNat = _; simp
    have e2 : ((w / 256).toUInt8).toNat = w / 256 := toNat_u8 (by omega)
    rw [ih, e1, e2, show w % 256 + 256 * (w / 256) = w by omega]
    rfl
theorem words_inv : ∀ (r : List UInt8) (ws : List Nat), wordsL r = some ws → r = ws.flatMap two ∧ ∀ w ∈ ws, w < 65536
  | [], ws, h => by cases h; exact ⟨rfl, fun w hw => by cases hw⟩
  | [_], ws, h => by cases h
  | a :: b :: r, ws, h => by
    have h' : (wordsL r).map ((a.toNat + 256 * b.toNat) :: ·) = some ws := h
    cases hr : wordsL r with
    | none => rw [hr] at h'; cases h'
    | some vs =>
      rw [hr] at h'
      cases h'
      obtain ⟨h1, h2⟩ := words_inv r vs hr
      have ha := a.toNat_lt
      have hb := b.toNat_lt
      refine ⟨?_, ?_⟩
      · have e1 : (a.toNat + 256 * b.toNat).toUInt8 = a := UInt8.toNat_inj.1 (by
          show (UInt8.ofNat (a.toNat + 256 * b.toNat)).toNat = _
          rw [UInt8.toNat_ofNat']; omega)
        have e2 : ((a.toNat + 256 * b.toNat) / 256).toUInt8 = b := UInt8.toNat_inj.1 (by rw [toNat_u8 (by omega)]; omega)
        show a :: b :: r = (a.toNat + 256 * b.toNat).toUInt8 :: ((a.toNat + 256 * b.toNat) / 256).toUInt8 :: vs.flatMap two
        rw [e1, e2, ← h1]
      · intro w hw
        rcases List.mem_cons.1 hw with rfl | hw
        · omega
        · exact h2 w hw
theorem surr_cons (c : Nat) (r : List Nat) : surr (c :: r) = if 56320 ≤ c ∧ c < 57344 then none else if 55296 ≤ c ∧ c < 56320 then (match r with
      | [] => none
      | d :: r' => if d < 56320 ∨ 57344 ≤ d then none else (surr r').map ((65536 + (c - 55296) * 1024 + d - 56320) :: ·)) else (surr r).map (c :: ·) := by rw [surr.eq_def]; rfl
theorem surr_units : ∀ (cs : List Nat), (∀ c ∈ cs, Sc c) → surr (cs.flatMap unitsC) = some cs
  | [], _ => by simp [surr]
  | c :: cs, h => by
    have hc := h c (by simp)
    have ih := surr_units cs (fun x hx => h x (by simp [hx]))
    unfold Sc at hc
    rw [List.flatMap_cons]
    by_cases h1 : c < 65536
    · have e : unitsC c = [c] := if_pos h1
      rw [e]
      show surr (c :: cs.flatMap unitsC) = _
      rw [surr_cons, if_neg (by omega), if_neg (by omega), ih]; rfl
    · have e : unitsC c = [55296 + (c - 65536) / 1024, 56320 + (c - 65536) % 1024] := if_neg h1
      rw [e]
      show surr ((55296 + (c - 65536) / 1024) :: (56320 + (c - 65536) % 1024) :: cs.flatMap unitsC) = _
      rw [surr_cons, if_neg (by omega), if_pos (by omega)]
      dsimp only
      rw [if_neg (by omega), ih, show 65536 + (55296 + (c - 65536) / 1024 - 55296) * 1024 + (56320 + (c - 65536) % 1024) - 56320 = c by omega]
      rfl
theorem surr_inv : ∀ (n : Nat) (ws cs : List Nat), ws.length ≤ n → (∀ w ∈ ws, w < 65536) → surr ws = some cs → ws = cs.flatMap unitsC ∧ ∀ c ∈ cs, Sc c
  | _, [], cs, _, _, h => by
    have : cs = [] := by simp [surr] at h; exact h
    subst this
    exact ⟨rfl, fun c hc => by cases hc⟩
  | n + 1, c :: r, cs, hn, hw, h => by
    have hc := hw c (by simp)
    rw [surr_cons] at h
    by_cases h1 : 56320 ≤ c ∧ c < 57344
    · rw [if_pos h1] at h; cases h
    rw [if_neg h1] at h
    by_cases h2 : 55296 ≤ c ∧ c < 56320
    · rw [if_pos h2] at h
      cases r with
      | nil => cases h
      | cons d r' =>
        dsimp only at h
        by_cases h3 : d < 56320 ∨ 57344 ≤ d
        · rw [if_pos h3] at h; cases h
        rw [if_neg h3] at h
        cases hr : surr r' with
        | none => rw [hr] at h; cases h
        | some ds =>
          rw [hr] at h
          cases h
          obtain ⟨e1, e2⟩ := surr_inv n r' ds (by simp at hn; omega) (fun w hx => hw w (by simp [hx])) hr
          refine ⟨?_, ?_⟩
          · have e : unitsC (65536 + (c - 55296) * 1024 + d - 56320) = [c, d] := by
              unfold unitsC
              rw [if_neg (by omega), show 55296 + (65536 + (c - 55296) * 1024 + d - 56320 - 65536) / 1024 = c by omega, show 56320 + (65536 + (c - 55296) * 1024 + d - 56320 - 65536) % 1024 = d by omega]
            rw [List.flatMap_cons, ← e1, e]; rfl
          · intro x hx
            rcases List.mem_cons.1 hx with e | hx
            · have e' : x = 65536 + (c - 55296) * 1024 + d - 56320 := e
              unfold Sc; omega
            · exact e2 x hx
    · rw [if_neg h2] at h
      cases hr : surr r with
      | none => rw [hr] at h; cases h
      | some ds =>
        rw [hr] at h
        cases h
        obtain ⟨e1, e2⟩ := surr_inv n r ds (by simp at hn; omega) (fun w hx => hw w (by simp [hx])) hr
        refine ⟨?_, ?_⟩
        · have e : unitsC c = [c] := if_pos hc
          rw [List.flatMap_cons, ← e1, e]; rfl
        · intro x hx
          rcases List.mem_cons.1 hx with rfl | hx
          · unfold Sc; omega
          · exact e2 x hx

theorem flat_wide (cs : List Nat) : cs.flatMap wide = (cs.flatMap unitsC).flatMap two := by
  induction cs with
  | nil => rfl
  | cons c cs ih => rw [List.flatMap_cons, List.flatMap_cons, List.flatMap_append, ← wide_units, ih]
theorem units_lt {cs : List Nat} (h : ∀ c ∈ cs, Sc c) : ∀ w ∈ cs.flatMap unitsC, w < 65536 := by
  intro w hw
  obtain ⟨c, hc, hw⟩ := List.mem_flatMap.1 hw
  have := h c hc
  unfold Sc at this
  unfold unitsC at hw
  split at hw
  · simp at hw; omega
  · simp at hw; omega
theorem units_ne (c : Nat) : unitsC c ≠ [] := by unfold unitsC; split <;> simp

theorem conv_ok {f : List UInt8 → List UInt8 × Bool} {l t : List UInt8} : convS f l = (t, 0) ↔ l.length ≤ 65536 ∧ f l = (t, true) ∧ t.length ≤ 65536 := by
  unfold convS
  constructor
  · intro h
    by_cases h1 : 65536 < l.length
    · rw [if_pos h1] at h; cases h
    · rw [if_neg h1] at h
      obtain ⟨u, b, hu⟩ : ∃ u b, f l = (u, b) := ⟨_, _, rfl⟩
      rw [hu] at h
      cases b with
      | false => cases h
      | true =>
        dsimp only at h
        by_cases h2 : 65536 < u.length
        · rw [if_pos h2] at h; cases h
        · rw [if_neg h2] at h
          cases h
          exact ⟨by omega, hu, by omega⟩
  · rintro ⟨h1, h2, h3⟩
    rw [if_neg (by omega), h2]
    dsimp only
    rw [if_neg (by omega)]
theorem conv_bad {f : List UInt8 → List UInt8 × Bool} {l : List UInt8} (h : (convS f l).2 ≠ 0) : (convS f l).1 = [] := by
  revert h
  unfold convS
  split
  · intro _; rfl
  · split
    · split
      · intro _; rfl
      · intro h; exact absurd rfl h
    · intro _; rfl
theorem decode_bad {n : Int} {l : List UInt8} (h : (decodeS n l).2 ≠ 0) : (decodeS n l).1 = [] := by
  revert h
  unfold decodeS
  repeat' split
  all_goals first | exact conv_bad | (intro _; rfl)
theorem encode_bad {n : Int} {l : List UInt8} (h : (encodeS n l).2 ≠ 0) : (encodeS n l).1 = [] := by
  revert h
  unfold encodeS
  repeat' split
  all_goals first | exact conv_bad | (intro _; rfl)

theorem latin_sc (l : List UInt8) : ∀ c ∈ l.map UInt8.toNat, Sc c := by
  intro c hc
  obtain ⟨b, _, rfl⟩ := List.mem_map.1 hc
  have := b.toNat_lt
  unfold Sc
  omega
theorem latin_back (l : List UInt8) : toLatinS (fromLatinS l) = (l, true) := by
  unfold toLatinS fromLatinS
  rw [pts_txt (latin_sc l)]
  dsimp only
  have h1 : (l.map UInt8.toNat).all (fun c => Nat.ble c 255) = true := by
    rw [List.all_eq_true]
    intro c hc
    obtain ⟨b, _, rfl⟩ := List.mem_map.1 hc
    have := b.toNat_lt
    exact Nat.ble_eq_true_of_le (by omega)
  rw [if_pos h1, List.map_map]
  have h2 : (Nat.toUInt8 ∘ UInt8.toNat) = id := funext fun b => UInt8.toNat_inj.1 (toNat_u8 b.toNat_lt)
  rw [h2, List.map_id]
theorem latin_there {l t : List UInt8} (h : toLatinS l = (t, true)) : fromLatinS t = l := by
  unfold toLatinS at h
  cases hp : pts l with
  | none => rw [hp] at h; cases h
  | some cs =>
    rw [hp] at h
    dsimp only at h
    by_cases ha : cs.all (fun c => Nat.ble c 255) = true
    · rw [if_pos ha] at h
      cases h
      unfold fromLatinS
      rw [List.map_map]
      have e : cs.map (UInt8.toNat ∘ Nat.toUInt8) = cs := by
        conv => rhs; rw [← List.map_id cs]
        refine List.map_congr_left fun c hc => ?_
        have := Nat.le_of_ble_eq_true (List.all_eq_true.1 ha c hc)
        exact toNat_u8 (by omega)
      rw [e]
      exact ((pts_some.1 hp).2).symm
    · rw [if_neg ha] at h; cases h
theorem utf16_back {l t : List UInt8} (h : fromUtf16S l = (t, true)) : toUtf16S t = (l, true) := by
  unfold fromUtf16S at h
  split at h
  · cases h
    unfold toUtf16S
    rw [show pts ([] : List UInt8) = some [] from rfl]
    rfl
  · rename_i r
    cases hw : wordsL r with
    | none => rw [hw] at h; cases h
    | some ws =>
      rw [hw] at h
      dsimp only at h
      obtain ⟨h1, h2⟩ := words_inv r ws hw
      by_cases hne : ws = []
      · rw [if_pos hne] at h; cases h
      · rw [if_neg hne] at h
        cases hs : surr ws with
        | none => rw [hs] at h; cases h
        | some cs =>
          rw [hs] at h
          cases h
          obtain ⟨h3, h4⟩ := surr_inv _ ws cs (Nat.le_refl _) h2 hs
          unfold toUtf16S
          rw [pts_txt h4]
          dsimp only
          have hcs : cs ≠ [] := fun e => hne (by rw [h3, e]; rfl)
          have ht : txt cs ≠ [] := by
            cases cs with
            | nil => exact absurd rfl hcs
            | cons c cs =>
              intro e
              unfold txt at e
              rw [List.flatMap_cons] at e
              exact enc_ne c (List.append_eq_nil_iff.1 e).1
          rw [if_neg ht, flat_wide, ← h3, ← h1]
  · cases h
theorem utf16_there {l t : List UInt8} (h : toUtf16S l = (t, true)) : fromUtf16S t = (l, true) := by
  unfold toUtf16S at h
  cases hp : pts l with
  | none => rw [hp] at h; cases h
  | some cs =>
    rw [hp] at h
    dsimp only at h
    obtain ⟨h1, h2⟩ := pts_some.1 hp
    by_cases hl : l = []
    · rw [if_pos hl] at h; cases h; rw [hl]; rfl
    · rw [if_neg hl] at h
      cases h
      have hw : wordsL (cs.flatMap wide) = some (cs.flatMap unitsC) := by rw [flat_wide]; exact words_two _ (units_lt h1)
      have hne : cs.flatMap unitsC ≠ [] := by
        cases cs with
        | nil => exact absurd h2 hl
        | cons c cs =>
          rw [List.flatMap_cons]
          intro e
          exact units_ne c (List.append_eq_nil_iff.1 e).1
      show (match wordsL (cs.flatMap wide) with
        | none => ([], false)
        | some ws => if ws = [] then ([], false) else match surr ws with
          | none => ([], false)
          | some cs => (txt cs, true)) = (l, true)
      rw [hw]
      dsimp only
      rw [if_neg hne, surr_units cs h1, h2]

theorem decode_back {n : Int} {l t : List UInt8} (h : decodeS n l = (t, 0)) : encodeS n t = (l, 0) := by
  unfold decodeS at h
  unfold encodeS
  by_cases h1 : n = 1
  · rw [if_pos h1] at h ⊢
    obtain ⟨h2, h3, h4⟩ := conv_ok.1 h
    have h5 : l = t := congrArg Prod.fst h3
    subst h5
    exact h
  · rw [if_neg h1] at h ⊢
    by_cases h2 : n = 2
    · rw [if_pos h2] at h ⊢
      obtain ⟨h2, h3, h4⟩ := conv_ok.1 h
      have h5 : fromLatinS l = t := congrArg Prod.fst h3
      exact conv_ok.2 ⟨h4, by rw [← h5]; exact latin_back l, h2⟩
    · rw [if_neg h2] at h ⊢
      by_cases h3 : n = 3
      · rw [if_pos h3] at h ⊢
        obtain ⟨h2, h3, h4⟩ := conv_ok.1 h
        exact conv_ok.2 ⟨h4, utf16_back h3, h2⟩
      · rw [if_neg h3] at h; cases h
theorem encode_back {n : Int} {l t : List UInt8} (h : encodeS n l = (t, 0)) : decodeS n t = (l, 0) := by
  unfold encodeS at h
  unfold decodeS
  by_cases h1 : n = 1
  · rw [if_pos h1] at h ⊢
    obtain ⟨h2, h3, h4⟩ := conv_ok.1 h
    have h5 : l = t := congrArg Prod.fst h3
    subst h5
    exact h
  · rw [if_neg h1] at h ⊢
    by_cases h2 : n = 2
    · rw [if_pos h2] at h ⊢
      obtain ⟨h2, h3, h4⟩ := conv_ok.1 h
      exact conv_ok.2 ⟨h4, by rw [latin_there h3], h2⟩
    · rw [if_neg h2] at h ⊢
      by_cases h3 : n = 3
      · rw [if_pos h3] at h ⊢
        obtain ⟨h2, h3, h4⟩ := conv_ok.1 h
        exact conv_ok.2 ⟨h4, utf16_there h3, h2⟩
      · rw [if_neg h3] at h; cases h

end Qk

/-
  Chapter 57: what was decoded is encoded again, and the other way round.
-/
namespace Qk
open Go Go.RowKit

set_option maxRecDepth 4000 in
set_option maxHeartbeats 2000000 in
theorem d_CharsetInverse : Does ir_quiltlaw57_CharsetInverse C_quiltlaw57_CharsetInverse := by
  rintro ⟨n, l⟩ _
  show awp _ _ _ (entry [.int .i64 n, .str l])
  by_cases h300 : 300 < l.length
  · have E : decide ((300 : Int) < l.length) = true := dec_t (by omega)
    repeat ((conv => whnf); first | refine cond_t (by first | (simp only [E, eq_self]; done) | fail) ?_ | refine cond_f (by first | (simp only [E, cond_true, cond_false, Bool.not_true, Bool.not_false, eq_self, decide_true, decide_false]; done) | fail) ?_ | refine And.intro (by omega) ?_ | refine And.intro ⟨rfl, by omega, by omega⟩ ?_ | refine And.intro ⟨rfl, by decide, by omega, by omega⟩ ?_)
    refine ⟨(), rfl, trivial, ?_⟩
    refine ⟨_, (by first | exact SubSt.refl _ | exact SubTop.refl _), ?_⟩
    rfl
  have E : decide ((300 : Int) < l.length) = false := dec_f (by omega)
  repeat ((conv => whnf); first | refine cond_t (by first | (simp only [E]; done) | fail) ?_ | refine cond_f (by first | (simp only [E, eq_self]; done) | fail) ?_ | refine And.intro (by omega) ?_ | refine And.intro ⟨rfl, by omega, by omega⟩ ?_ | refine And.intro ⟨rfl, by decide, by omega, by omega⟩ ?_)
  refine ⟨(n, l), rfl, (show l.length ≤ 1000000000 by omega), ?_⟩
  obtain ⟨s, e, hs⟩ : ∃ s e, decodeS n l = (s, e) := ⟨_, _, rfl⟩
  have hr1 : C_charset_Decode.res (n, l) = .tup [.str s, .int .i64 e] := by show tupS (decodeS n l) = _; rw [hs]; rfl
  rw [hr1]
  have hsl := decodeS_len n l
  rw [hs] at hsl
  dsimp only at hsl
  refine ⟨_, rfl, ?_⟩
  refine ⟨_, rfl, ?_⟩
  refine jn_at (X := Unit) (fun _ => mks [(0, .int .i64 n), (1, .str l)] [] 0) (fun _ => True) ?_ ?_
  · by_cases he : e = 0
    · have hb : encodeS n s = (l, 0) := decode_back (by rw [hs, he])
      refine cond_t (dec_t he) ?_
      refine ⟨(n, s), rfl, (show s.length ≤ 1000000000 by omega), ?_⟩
      have hr2 : C_charset_Encode.res (n, s) = .tup [.str l, .int .i64 0] := by show tupS (encodeS n s) = _; rw [hb]; rfl
      rw [hr2]
      refine ⟨_, rfl, ?_⟩
      refine ⟨_, rfl, ?_⟩
      have E2 : (!decide (l = l)) = false := by rw [dec_t rfl]; rfl
      repeat ((conv => whnf); first | refine cond_t (by first | (simp only [cond_false, Bool.not_true, eq_self, decide_true]; done) | fail) ?_ | refine cond_f (by first | (simp only [cond_false, Bool.not_true, eq_self, decide_true]; done) | fail) ?_ | refine And.intro (by omega) ?_ | refine And.intro ⟨rfl, by omega, by omega⟩ ?_ | refine And.intro ⟨rfl, by decide, by omega, by omega⟩ ?_)
      exact ⟨(), trivial, sub_to ⟨rfl, rfl, trivial⟩ rfl (Nat.le_refl 0)⟩
    · have hb : s = [] := by have := decode_bad (n := n) (l := l) (by rw [hs]; exact he); rw [hs] at this; exact this
      have E2 : (!decide (s = (ByteArray.mk #[]).data.toList)) = false := by rw [dec_t hb]; rfl
      refine cond_f (dec_f he) ?_
      repeat ((conv => whnf); first | refine cond_t (by first | (simp only [E2]; done) | fail) ?_ | refine cond_f (by first | (simp only [E2, eq_self]; done) | fail) ?_ | refine And.intro (by omega) ?_ | refine And.intro ⟨rfl, by omega, by omega⟩ ?_ | refine And.intro ⟨rfl, by decide, by omega, by omega⟩ ?_)
      exact ⟨(), trivial, sub_to ⟨rfl, rfl, trivial⟩ rfl (Nat.le_refl 0)⟩
  · rintro - -
    show awp _ _ _ (mks [(0, .int .i64 n), (1, .str l)] [] 0)
    refine ⟨(n, l), rfl, (show l.length ≤ 1000000000 by omega), ?_⟩
    obtain ⟨u, e', hu⟩ : ∃ u e', encodeS n l = (u, e') := ⟨_, _, rfl⟩
    have hr3 : C_charset_Encode.res (n, l) = .tup [.str u, .int .i64 e'] := by show tupS (encodeS n l) = _; rw [hu]; rfl
    rw [hr3]
    have hul := encodeS_len n l
    rw [hu] at hul
    dsimp only at hul
    refine ⟨_, rfl, ?_⟩
    refine ⟨_, rfl, ?_⟩
    refine jn_at (X := Unit) (fun _ => mks [(0, .int .i64 n), (1, .str l)] [] 0) (fun _ => True) ?_ ?_
    · by_cases he : e' = 0
      · have hb : decodeS n u = (l, 0) := encode_back (by rw [hu, he])
        refine cond_t (dec_t he) ?_
        refine ⟨(n, u), rfl, (show u.length ≤ 1000000000 by omega), ?_⟩
        have hr2 : C_charset_Decode.res (n, u) = .tup [.str l, .int .i64 0] := by show tupS (decodeS n u) = _; rw [hb]; rfl
        rw [hr2]
        refine ⟨_, rfl, ?_⟩
        refine ⟨_, rfl, ?_⟩
        have E2 : (!decide (l = l)) = false := by rw [dec_t rfl]; rfl
        repeat ((conv => whnf); first | refine cond_t (by first | (simp only [cond_false, Bool.not_true, eq_self, decide_true]; done) | fail) ?_ | refine cond_f (by first | (simp only [cond_false, Bool.not_true, eq_self, decide_true]; done) | fail) ?_ | refine And.intro (by omega) ?_ | refine And.intro ⟨rfl, by omega, by omega⟩ ?_ | refine And.intro ⟨rfl, by decide, by omega, by omega⟩ ?_)
        exact ⟨(), trivial, sub_to ⟨rfl, rfl, trivial⟩ rfl (Nat.le_refl 0)⟩
      · have hb : u = [] := by have := encode_bad (n := n) (l := l) (by rw [hu]; exact he); rw [hu] at this; exact this
        have E2 : (!decide (u = (ByteArray.mk #[]).data.toList)) = false := by rw [dec_t hb]; rfl
        refine cond_f (dec_f he) ?_
        repeat ((conv => whnf); first | refine cond_t (by first | (simp only [E2]; done) | fail) ?_ | refine cond_f (by first | (simp only [E2, eq_self]; done) | fail) ?_ | refine And.intro (by omega) ?_ | refine And.intro ⟨rfl, by omega, by omega⟩ ?_ | refine And.intro ⟨rfl, by decide, by omega, by omega⟩ ?_)
        exact ⟨(), trivial, sub_to ⟨rfl, rfl, trivial⟩ rfl (Nat.le_refl 0)⟩
    · rintro - -
      show awp _ _ _ (mks [(0, .int .i64 n), (1, .str l)] [] 0)
      refine ⟨(), rfl, trivial, ?_⟩
      refine ⟨_, (by first | exact SubSt.refl _ | exact SubTop.refl _), ?_⟩
      rfl

end Qk

/-
  Chapter 57, plain: what was taken from a working copy is given back, and the other way round.
-/
namespace Qk
open Go Go.RowKit

theorem strip_cons {b : UInt8} (h : b ≠ 13) : ∀ (x : List UInt8), stripCR (b :: x) = b :: stripCR x
  | [] => rfl
  | c :: r => by rw [stripCR, if_neg (fun e => h e.1)]
theorem add_cons (b : UInt8) (x : List UInt8) : addCR (b :: x) = (if b = 10 then [13, 10] else [b]) ++ addCR x := by unfold addCR; rw [List.flatMap_cons]
theorem strip_add : ∀ (t : List UInt8), (13 : UInt8) ∉ t → stripCR (addCR t) = t ∧ (addCR t).length = t.length + t.count 10 ∧ (addCR t).count 10 = t.count 10
  | [], _ => ⟨rfl, rfl, rfl⟩
  | b :: r, h => by
    have hb : b ≠ 13 := fun e => h (by simp [e])
    obtain ⟨h1, h2, h3⟩ := strip_add r (fun e => h (by simp [e]))
    rw [add_cons]
    by_cases h10 : b = 10
    · subst h10
      rw [if_pos rfl]
      refine ⟨?_, ?_, ?_⟩
      · show stripCR (13 :: 10 :: addCR r) = _
        rw [stripCR, if_pos ⟨rfl, rfl⟩, h1]
      · show (13 :: 10 :: addCR r).length = _
        rw [List.length_cons, List.length_cons, h2, List.count_cons_self, List.length_cons]; omega
      · show (13 :: 10 :: addCR r).count 10 = _
        rw [List.count_cons_of_ne (by decide), List.count_cons_self, h3, List.count_cons_self]
    · rw [if_neg h10]
      refine ⟨?_, ?_, ?_⟩
      · show stripCR (b :: addCR r) = _
        rw [strip_cons hb, h1]
      · show (b :: addCR r).length = _
        rw [List.length_cons, h2, List.count_cons_of_ne h10, List.length_cons]; omega
      · show (b :: addCR r).count 10 = _
        rw [List.count_cons_of_ne h10, h3, List.count_cons_of_ne h10]
theorem strip_cnt : ∀ (t : List UInt8), t.length ≤ t.count 10 + (stripCR t).length
  | [] => Nat.le_refl _
  | [b] => by show 1 ≤ _ + 1; omega
  | b :: c :: r => by
    unfold stripCR
    by_cases h : b = 13 ∧ c = 10
    · obtain ⟨rfl, rfl⟩ := h
      rw [if_pos ⟨rfl, rfl⟩, List.count_cons_of_ne (by decide), List.count_cons_self]
      have := strip_cnt r
      simp only [List.length_cons]
      omega
    · rw [if_neg h]
      have h1 := strip_cnt (c :: r)
      have h2 := List.count_le_count_cons (a := (10 : UInt8)) (b := b) (l := c :: r)
      simp only [List.length_cons] at h1 ⊢
      omega
theorem add_strip : ∀ (t : List UInt8), (13 : UInt8) ∉ stripCR t → t.count 10 + (stripCR t).length ≤ t.length → addCR (stripCR t) = t
  | [], _, _ => rfl
  | [b], _, h => by
    have hb : b ≠ 10 := by
      intro e
      subst e
      have : 1 + 1 ≤ 1 := h
      omega
    show addCR [b] = _
    rw [add_cons, if_neg hb]; rfl
  | b :: c :: r, h13, hc => by
    have hcnt := strip_cnt (c :: r)
    unfold stripCR at h13 hc ⊢
    by_cases h : b = 13 ∧ c = 10
    · rw [if_pos h] at h13 hc ⊢
      obtain ⟨rfl, rfl⟩ := h
      rw [List.count_cons_of_ne (by decide), List.count_cons_self] at hc
      simp only [List.length_cons] at hc
      have ih := add_strip r (fun e => h13 (by simp [e])) (by omega)
      rw [add_cons, if_pos rfl, ih]; rfl
    · rw [if_neg h] at h13 hc ⊢
      simp only [List.length_cons] at hc hcnt
      have hb : b ≠ 10 := by
        intro e
        subst e
        rw [List.count_cons_self] at hc
        omega
      rw [List.count_cons_of_ne hb] at hc
      have ih := add_strip (c :: r) (fun e => h13 (by simp [e])) (by simp only [List.length_cons]; omega)
      rw [add_cons, if_neg hb, ih]; rfl

theorem lf_there {e : Int} {t s : List UInt8} (h : toLfS e t = (s, 0)) (hl : t.length ≤ 65536) : fromLfS e s = (t, 0) ∧ s.length ≤ t.length := by
  unfold toLfS at h
  unfold fromLfS
  by_cases h0 : e = 0
  · rw [if_pos h0] at h ⊢
    cases h
    exact ⟨rfl, Nat.le_refl _⟩
  rw [if_neg h0] at h ⊢
  by_cases h2 : e = 2
  · rw [if_pos h2] at h ⊢
    rw [ra_strip] at h
    by_cases hc : (t.count 10 : Int) = (t.length : Int) - (stripCR t).length
    · rw [if_pos hc] at h
      by_cases h13 : (13 : UInt8) ∈ stripCR t
      · rw [if_pos h13] at h; cases h
      · rw [if_neg h13] at h
        cases h
        have ha := add_strip t h13 (by omega)
        rw [if_neg h13, ra_add, ha, if_neg (by omega)]
        exact ⟨rfl, stripCR_len t⟩
    · rw [if_neg hc] at h; cases h
  · rw [if_neg h2] at h ⊢
    by_cases h13 : (13 : UInt8) ∈ t
    · rw [if_pos h13] at h; cases h
    · rw [if_neg h13] at h
      cases h
      rw [if_neg h13, if_neg (by omega)]
      exact ⟨rfl, Nat.le_refl _⟩
theorem lf_back {e : Int} {t s : List UInt8} (h : fromLfS e t = (s, 0)) (hl : t.length ≤ 65536) : toLfS e s = (t, 0) ∧ s.length ≤ 65536 := by
  unfold fromLfS at h
  unfold toLfS
  by_cases h0 : e = 0
  · rw [if_pos h0] at h ⊢
    cases h
    exact ⟨rfl, hl⟩
  rw [if_neg h0] at h ⊢
  by_cases h13 : (13 : UInt8) ∈ t
  · rw [if_pos h13] at h; cases h
  rw [if_neg h13] at h
  by_cases h2 : e = 2
  · rw [if_pos h2] at h ⊢
    rw [ra_add] at h
    by_cases hb : 65536 < (addCR t).length
    · rw [if_pos hb] at h; cases h
    · rw [if_neg hb] at h
      cases h
      obtain ⟨h3, h4, h5⟩ := strip_add t h13
      rw [ra_strip, h3, if_pos (by omega), if_neg h13]
      exact ⟨rfl, by omega⟩
  · rw [if_neg h2] at h ⊢
    rw [if_neg (by omega)] at h
    cases h
    rw [if_neg h13]
    exact ⟨rfl, hl⟩

theorem known_len {a : Att} {d s : List UInt8} (h : knownS a d = 0) (hs : s.length ≤ 65536) : knownS a s = 0 ∧ d.length ≤ 65536 := by
  unfold knownS at h ⊢
  by_cases h1 : (a.set < 0 ∨ 3 < a.set) ∨ a.eol < 0 ∨ 2 < a.eol
  · rw [if_pos h1] at h; cases h
  · rw [if_neg h1] at h ⊢
    by_cases h2 : 65536 < d.length
    · rw [if_pos h2] at h; cases h
    · rw [if_neg (by omega)]; exact ⟨rfl, by omega⟩
theorem repo_there {l : List Att} {p d s : List UInt8} (h : toRepoS l p d = (s, 0)) : fromRepoS l p s = (d, 0) := by
  unfold toRepoS at h
  unfold fromRepoS
  by_cases hk : knownS (findS l p) d = 0
  · rw [if_neg (fun e => e hk)] at h
    by_cases h0 : (findS l p).set = 0
    · rw [if_neg (fun e => e h0)] at h
      have hd := (known_len (s := []) hk (Nat.zero_le _)).2
      obtain ⟨h1, h2⟩ := lf_there h hd
      rw [if_neg (fun e => e (known_len hk (by omega)).1), if_pos (.inr h0), h1]
    · rw [if_pos h0] at h
      obtain ⟨t, e, ht⟩ : ∃ t e, decodeS (findS l p).set d = (t, e) := ⟨_, _, rfl⟩
      rw [ht] at h
      dsimp only at h
      have htl := decodeS_len (findS l p).set d
      rw [ht] at htl
      dsimp only at htl
      by_cases he : e = 0
      · rw [if_neg (fun x => x he)] at h
        subst he
        obtain ⟨h1, h2⟩ := lf_there h htl
        rw [if_neg (fun e => e (known_len hk (by omega)).1), h1, if_neg (by rintro (x | x); exact x rfl; exact h0 x)]
        exact decode_back ht
      · rw [if_pos he] at h; cases h; exact absurd rfl he
  · rw [if_pos hk] at h
    exact absurd (congrArg Prod.snd h) hk
theorem repo_back {l : List Att} {p d s : List UInt8} (h : fromRepoS l p d = (s, 0)) : toRepoS l p s = (d, 0) := by
  unfold fromRepoS at h
  unfold toRepoS
  by_cases hk : knownS (findS l p) d = 0
  · rw [if_neg (fun e => e hk)] at h
    have hd := (known_len (s := []) hk (Nat.zero_le _)).2
    obtain ⟨u, e, hu⟩ : ∃ u e, fromLfS (findS l p).eol d = (u, e) := ⟨_, _, rfl⟩
    rw [hu] at h
    dsimp only at h
    by_cases he : e = 0
    · subst he
      obtain ⟨h1, h2⟩ := lf_back hu hd
      by_cases h0 : (findS l p).set = 0
      · rw [if_pos (.inr h0)] at h
        cases h
        rw [if_neg (fun e => e (known_len hk h2).1), if_neg (fun e => e h0), h1]
      · rw [if_neg (by rintro (x | x); exact x rfl; exact h0 x)] at h
        have hsl := encodeS_len (findS l p).set u
        rw [h] at hsl
        dsimp only at hsl
        have hb := encode_back h
        rw [if_neg (fun e => e (known_len hk hsl).1), if_pos h0, hb]
        dsimp only
        rw [if_neg (fun x => x rfl), h1]
    · rw [if_pos (.inl he)] at h
      cases h
      exact absurd rfl he
  · rw [if_pos hk] at h
    exact absurd (congrArg Prod.snd h) hk

end Qk

/-
  Chapter 57: into the repository and back, and the other way round.
-/
namespace Qk
open Go Go.RowKit

theorem toRepoS_len (l : List Att) (p d : List UInt8) (hd : d.length ≤ 65536) : (toRepoS l p d).1.length ≤ 65536 := by
  have lf : ∀ (e : Int) (t : List UInt8), t.length ≤ 65536 → (toLfS e t).1.length ≤ 65536 := by
    intro e t ht
    have := stripCR_len t
    unfold toLfS
    rw [ra_strip]
    repeat' split
    all_goals (dsimp only; first | exact Nat.zero_le _ | omega)
  unfold toRepoS
  split
  · exact Nat.zero_le _
  · split
    · split
      · exact Nat.zero_le _
      · exact lf _ _ (decodeS_len _ _)
    · exact lf _ _ hd
theorem fromRepoS_len (l : List Att) (p d : List UInt8) (hd : d.length ≤ 1000000000) : (fromRepoS l p d).1.length ≤ 1000000000 := by
  have h1 := fromLfS_len (n := (findS l p).eol) hd
  have h2 := encodeS_len (findS l p).set (fromLfS (findS l p).eol d).1
  unfold fromRepoS
  split
  · exact Nat.zero_le _
  · split
    · exact h1
    · omega

set_option maxRecDepth 4000 in
set_option maxHeartbeats 2000000 in
theorem d_CharsetRepoInverse : Does ir_quiltlaw57_CharsetRepoInverse C_quiltlaw57_CharsetRepoInverse := by
  rintro ⟨l, p, d⟩ hl
  replace hl : l.length ≤ 9223372036854775807 := hl
  show awp _ _ _ (entry [attsA l, .str p, .str d])
  refine ⟨l, rfl, hl, ?_⟩
  have hg : C_quiltref57_Great.res l = .bool (greatS l) := rfl
  rw [hg]
  by_cases hgr : greatS l = true
  · rw [hgr]
    repeat ((conv => whnf); first | refine cond_t (by first | (simp only [cond_true, cond_false, Bool.not_true, Bool.not_false, eq_self, decide_true, decide_false]; done) | fail) ?_ | refine cond_f (by first | (simp only [cond_true, cond_false, Bool.not_true, Bool.not_false, eq_self, decide_true, decide_false]; done) | fail) ?_ | refine And.intro (by omega) ?_ | refine And.intro ⟨rfl, by omega, by omega⟩ ?_ | refine And.intro ⟨rfl, by decide, by omega, by omega⟩ ?_)
    refine ⟨(), rfl, trivial, ?_⟩
    refine ⟨_, (by first | exact SubSt.refl _ | exact SubTop.refl _), ?_⟩
    rfl
  have hgf : greatS l = false := Bool.eq_false_iff.2 hgr
  rw [hgf]
  by_cases h60 : 60 < p.length
  · have E2 : decide ((60 : Int) < p.length) = true := dec_t (by omega)
    repeat ((conv => whnf); first | refine cond_t (by first | (simp only [E2, cond_false, eq_self]; done) | fail) ?_ | refine cond_f (by first | (simp only [E2, cond_true, cond_false, Bool.not_true, Bool.not_false, eq_self, decide_true, decide_false]; done) | fail) ?_ | refine And.intro (by omega) ?_ | refine And.intro ⟨rfl, by omega, by omega⟩ ?_ | refine And.intro ⟨rfl, by decide, by omega, by omega⟩ ?_)
    refine ⟨(), rfl, trivial, ?_⟩
    refine ⟨_, (by first | exact SubSt.refl _ | exact SubTop.refl _), ?_⟩
    rfl
  have E2 : decide ((60 : Int) < p.length) = false := dec_f (by omega)
  by_cases h300 : 300 < d.length
  · have E3 : decide ((300 : Int) < d.length) = true := dec_t (by omega)
    repeat ((conv => whnf); first | refine cond_t (by first | (simp only [E2,  E3, cond_false, eq_self]; done) | fail) ?_ | refine cond_f (by first | (simp only [E2,  cond_false, eq_self]; done) | fail) ?_ | refine And.intro (by omega) ?_ | refine And.intro ⟨rfl, by omega, by omega⟩ ?_ | refine And.intro ⟨rfl, by decide, by omega, by omega⟩ ?_)
    refine ⟨(), rfl, trivial, ?_⟩
    refine ⟨_, (by first | exact SubSt.refl _ | exact SubTop.refl _), ?_⟩
    rfl
  have E3 : decide ((300 : Int) < d.length) = false := dec_f (by omega)
  have hl20 : l.length ≤ 20 := by
    by_cases h : 20 < l.length
    · unfold greatS at hgf; rw [decide_eq_true h, Bool.or_true] at hgf; cases hgf
    · omega
  have hlg : ∀ b ∈ l, b.g.length ≤ 40 := by
    intro b hb
    by_cases h : 40 < b.g.length
    · have : l.any (fun a => decide (40 < a.g.length)) = true := List.any_eq_true.2 ⟨b, hb, decide_eq_true h⟩
      unfold greatS at hgf; rw [this] at hgf; cases hgf
    · omega
  have ok0 : okA l := ⟨by omega, fun b hb => by have := hlg b hb; omega⟩
  have hp : p.length ≤ 1000000000 := by omega
  have hd : d.length ≤ 1000000000 := by omega
  obtain ⟨s, e, hs⟩ : ∃ s e, toRepoS l p d = (s, e) := ⟨_, _, rfl⟩
  have hr1 : C_charset_ToRepo.res (l, p, d) = .tup [.str s, .int .i64 e] := by show tupS (toRepoS l p d) = _; rw [hs]; rfl
  have hsl := toRepoS_len l p d (by omega)
  rw [hs] at hsl
  dsimp only at hsl
  obtain ⟨u, e', hu⟩ : ∃ u e', fromRepoS l p d = (u, e') := ⟨_, _, rfl⟩
  have hr3 : C_charset_FromRepo.res (l, p, d) = .tup [.str u, .int .i64 e'] := by show tupS (fromRepoS l p d) = _; rw [hu]; rfl
  have hul := fromRepoS_len l p d hd
  rw [hu] at hul
  dsimp only at hul
  repeat ((conv => whnf); first | refine cond_t (by first | (simp only [E2,  E3, cond_false]; done) | fail) ?_ | refine cond_f (by first | (simp only [E2,  E3, cond_false, eq_self]; done) | fail) ?_ | refine And.intro (by omega) ?_ | refine And.intro ⟨rfl, by omega, by omega⟩ ?_ | refine And.intro ⟨rfl, by decide, by omega, by omega⟩ ?_)
  refine ⟨(l, p, d), rfl, ⟨ok0, hp, hd⟩, ?_⟩
  rw [hr1]
  refine ⟨_, rfl, ?_⟩
  refine ⟨_, rfl, ?_⟩
  refine jn_at (X := Unit) (fun _ => mks [(0, attsA l), (1, .str p), (2, .str d)] [] 0) (fun _ => True) ?_ ?_
  · by_cases he : e = 0
    · have hb : fromRepoS l p s = (d, 0) := repo_there (by rw [hs, he])
      refine cond_t (dec_t he) ?_
      refine ⟨(l, p, s), rfl, ⟨ok0, hp, (show s.length ≤ 1000000000 by omega)⟩, ?_⟩
      have hr2 : C_charset_FromRepo.res (l, p, s) = .tup [.str d, .int .i64 0] := by show tupS (fromRepoS l p s) = _; rw [hb]; rfl
      rw [hr2]
      refine ⟨_, rfl, ?_⟩
      refine ⟨_, rfl, ?_⟩
      have E4 : (!decide (d = d)) = false := by rw [dec_t rfl]; rfl
      repeat ((conv => whnf); first | refine cond_t (by first | (simp only [cond_false, Bool.not_true, eq_self, decide_true]; done) | fail) ?_ | refine cond_f (by first | (simp only [cond_false, Bool.not_true, eq_self, decide_true]; done) | fail) ?_ | refine And.intro (by omega) ?_ | refine And.intro ⟨rfl, by omega, by omega⟩ ?_ | refine And.intro ⟨rfl, by decide, by omega, by omega⟩ ?_)
      exact ⟨(), trivial, sub_to ⟨rfl, rfl, rfl, trivial⟩ rfl (Nat.le_refl 0)⟩
    · refine cond_f (dec_f he) ?_
      exact ⟨(), trivial, sub_to ⟨rfl, rfl, rfl, trivial⟩ rfl (Nat.le_refl 0)⟩
  · rintro - -
    show awp _ _ _ (mks [(0, attsA l), (1, .str p), (2, .str d)] [] 0)
    refine ⟨(l, p, d), rfl, ⟨ok0, hp, hd⟩, ?_⟩
    rw [hr3]
    refine ⟨_, rfl, ?_⟩
    refine ⟨_, rfl, ?_⟩
    refine jn_at (X := Unit) (fun _ => mks [(0, attsA l), (1, .str p), (2, .str d)] [] 0) (fun _ => True) ?_ ?_
    · by_cases he : e' = 0
      · have hb : toRepoS l p u = (d, 0) := repo_back (by rw [hu, he])
        refine cond_t (dec_t he) ?_
        refine ⟨(l, p, u), rfl, ⟨ok0, hp, hul⟩, ?_⟩
        have hr2 : C_charset_ToRepo.res (l, p, u) = .tup [.str d, .int .i64 0] := by show tupS (toRepoS l p u) = _; rw [hb]; rfl
        rw [hr2]
        refine ⟨_, rfl, ?_⟩
        refine ⟨_, rfl, ?_⟩
        have E4 : (!decide (d = d)) = false := by rw [dec_t rfl]; rfl
        repeat ((conv => whnf); first | refine cond_t (by first | (simp only [cond_false, Bool.not_true, eq_self, decide_true]; done) | fail) ?_ | refine cond_f (by first | (simp only [cond_false, Bool.not_true, eq_self, decide_true]; done) | fail) ?_ | refine And.intro (by omega) ?_ | refine And.intro ⟨rfl, by omega, by omega⟩ ?_ | refine And.intro ⟨rfl, by decide, by omega, by omega⟩ ?_)
        exact ⟨(), trivial, sub_to ⟨rfl, rfl, rfl, trivial⟩ rfl (Nat.le_refl 0)⟩
      · refine cond_f (dec_f he) ?_
        exact ⟨(), trivial, sub_to ⟨rfl, rfl, rfl, trivial⟩ rfl (Nat.le_refl 0)⟩
    · rintro - -
      show awp _ _ _ (mks [(0, attsA l), (1, .str p), (2, .str d)] [] 0)
      refine ⟨(), rfl, trivial, ?_⟩
      refine ⟨_, (by first | exact SubSt.refl _ | exact SubTop.refl _), ?_⟩
      rfl

end Qk
