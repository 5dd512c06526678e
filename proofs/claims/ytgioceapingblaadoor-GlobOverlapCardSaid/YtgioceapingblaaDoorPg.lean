/-
  Chapter 32: the example, the statements, functions of the library.
-/
import Derived.Test.YtgioceapingblaaDoorPd
import Derived.Test.YtgioceapingblaaDoorPc
import Derived.Lib.Split
import Derived.Lib.SplitLaws
import Derived.Lib.IndexBytes

/-
  Chapter 32: what the functions of the statements give.
-/
namespace Qk
open Go Go.RowKit

def C_quiltlaw32_whole : PC := ⟨List UInt8, fun s => [.str s], fun s => s.length ≤ 1000000000, fun s => .bool (wholeB s)⟩
def C_quiltlaw32_quoted : PC := ⟨List UInt8, fun s => [.str s], fun s => s.length ≤ 1000000000, fun s => .str (quoteS s)⟩
def C_strings_Contains : PC := ⟨List UInt8 × UInt8, fun x => [.str x.1, .str [x.2]], fun x => x.1.length ≤ 1000000000, fun x => .bool (decide (x.2 ∈ x.1))⟩
def C_strings_HasPrefix : PC := ⟨List UInt8 × List UInt8, fun x => [.str x.1, .str x.2], fun x => x.1.length ≤ 1000000000 ∧ x.2.length ≤ 1000000000, fun x => .bool (x.2.isPrefixOf x.1)⟩
def C_strings_Join : PC := ⟨List (List UInt8), fun l => [.ilist 1 l.length (strs l), .str [47]], fun l => l.length ≤ 1000 ∧ ∀ s ∈ l, s.length ≤ 1000, fun l => .str (joinS l)⟩

def C_quiltref32_Match : PC := ⟨List UInt8 × List UInt8, fun x => [.str x.1, .str x.2], fun x => x.1.length ≤ 1000000000 ∧ x.2.length ≤ 1000000000, fun x => .bool (matchG x.1 x.2)⟩
def C_quiltref32_Below : PC := ⟨List UInt8 × List UInt8, fun x => [.str x.1, .str x.2], fun x => x.1.length ≤ 1000000000 ∧ x.2.length ≤ 1000000000, fun x => .bool (belowG x.1 x.2)⟩
def C_quiltref32_Overlap : PC := ⟨List UInt8 × List UInt8, fun x => [.str x.1, .str x.2], fun x => x.1.length ≤ 1000000000 ∧ x.2.length ≤ 1000000000, fun x => .bool (overG x.1 x.2)⟩
def C_quiltref32_Check : PC := ⟨List UInt8, fun g => [.str g], fun g => g.length ≤ 1000000000, fun g => .int .i64 (checkG g)⟩
def C_quiltref32_Fixed : PC := ⟨List UInt8, fun g => [.str g], fun g => g.length ≤ 1000000000, fun g => .str (fixG g)⟩

/-! ### The statements -/
def C_law1 : PC := ⟨List UInt8, fun g => [.str g], fun _ => True, fun _ => .bool true⟩
def C_law2 : PC := ⟨List UInt8 × List UInt8, fun x => [.str x.1, .str x.2], fun _ => True, fun _ => .bool true⟩
def C_law3 : PC := ⟨List UInt8 × List UInt8 × List UInt8, fun x => [.str x.1, .str x.2.1, .str x.2.2], fun _ => True, fun _ => .bool true⟩

end Qk

/-
  Chapter 32: the forms of the statements (printed by a program).
-/
namespace Qk
open Go Go.RowKit

/-- quilt/quiltlaw32.awake -/
def ir_quiltlaw32_awake : IF := ⟨(.seq (.ops [⟨(some 0), none, .mov (.const (.bool false))⟩])
  (.seq (.ops [⟨(some 1), none, .mov (.const (.string ⟨#[115, 114, 99, 47, 42, 42, 47, 42, 46, 91, 99, 104, 93]⟩))⟩])
  (.seq (.ops [⟨(some 2), none, .mov (t 1)⟩,
    ⟨(some 3), none, .pcall C_glob_Match [(t 2), (.const (.string ⟨#[115, 114, 99, 47, 97, 46, 99]⟩))]⟩,
    ⟨(some 4), none, .mov (t 3)⟩,
    ⟨(some 5), (some (4, true)), .mov (t 1)⟩,
    ⟨(some 6), (some (4, true)), .pcall C_glob_Match [(t 5), (.const (.string ⟨#[115, 114, 99, 47, 120, 47, 121, 47, 98, 46, 104]⟩))]⟩,
    ⟨(some 7), none, .pick (t 4) (t 6) (.const (.bool false))⟩,
    ⟨(some 8), none, .mov (t 7)⟩,
    ⟨(some 9), (some (8, true)), .mov (t 1)⟩,
    ⟨(some 10), (some (8, true)), .pcall C_glob_Match [(t 9), (.const (.string ⟨#[115, 114, 99, 47, 97, 46, 99, 99]⟩))]⟩,
    ⟨(some 11), (some (8, true)), .not (t 10)⟩,
    ⟨(some 12), none, .pick (t 8) (t 11) (.const (.bool false))⟩,
    ⟨(some 13), none, .mov (t 12)⟩,
    ⟨(some 14), (some (13, true)), .mov (t 1)⟩,
    ⟨(some 15), (some (13, true)), .pcall C_glob_Fixed [(t 14)]⟩,
    ⟨(some 16), (some (13, true)), .bin .eql (t 15) (.const (.string ⟨#[115, 114, 99, 47]⟩))⟩,
    ⟨(some 17), none, .pick (t 13) (t 16) (.const (.bool false))⟩,
    ⟨(some 18), none, .mov (t 17)⟩,
    ⟨(some 19), (some (18, true)), .pcall C_glob_Match [(.const (.string ⟨#[97, 47, 42, 42]⟩)), (.const (.string ⟨#[97]⟩))]⟩,
    ⟨(some 20), none, .pick (t 18) (t 19) (.const (.bool false))⟩,
    ⟨(some 21), none, .mov (t 20)⟩,
    ⟨(some 22), (some (21, true)), .pcall C_glob_Match [(.const (.string ⟨#[97, 47, 42, 42]⟩)), (.const (.string ⟨#[97, 47, 98]⟩))]⟩,
    ⟨(some 23), none, .pick (t 21) (t 22) (.const (.bool false))⟩,
    ⟨(some 24), none, .mov (t 23)⟩,
    ⟨(some 25), (some (24, true)), .pcall C_glob_Fixed [(.const (.string ⟨#[97, 47, 42, 42]⟩))]⟩,
    ⟨(some 26), (some (24, true)), .bin .eql (t 25) (.const (.string ⟨#[97]⟩))⟩,
    ⟨(some 27), none, .pick (t 24) (t 26) (.const (.bool false))⟩,
    ⟨(some 28), none, .mov (t 27)⟩,
    ⟨(some 29), (some (28, true)), .pcall C_glob_Overlap [(.const (.string ⟨#[42, 98]⟩)), (.const (.string ⟨#[97, 42]⟩))]⟩,
    ⟨(some 30), none, .pick (t 28) (t 29) (.const (.bool false))⟩,
    ⟨(some 31), none, .mov (t 30)⟩,
    ⟨(some 32), (some (31, true)), .pcall C_glob_Overlap [(.const (.string ⟨#[97, 63, 99]⟩)), (.const (.string ⟨#[97, 98, 100]⟩))]⟩,
    ⟨(some 33), (some (31, true)), .not (t 32)⟩,
    ⟨(some 34), none, .pick (t 31) (t 33) (.const (.bool false))⟩,
    ⟨(some 35), none, .mov (t 34)⟩,
    ⟨(some 36), (some (35, true)), .mov (t 1)⟩,
    ⟨(some 37), (some (35, true)), .pcall C_glob_Below [(t 36), (.const (.string ⟨#[115, 114, 99, 47, 120]⟩))]⟩,
    ⟨(some 38), none, .pick (t 35) (t 37) (.const (.bool false))⟩,
    ⟨(some 39), none, .mov (t 38)⟩,
    ⟨(some 40), (some (39, true)), .mov (t 1)⟩,
    ⟨(some 41), (some (39, true)), .pcall C_glob_Below [(t 40), (.const (.string ⟨#[108, 105, 98]⟩))]⟩,
    ⟨(some 42), (some (39, true)), .not (t 41)⟩,
    ⟨(some 43), none, .pick (t 39) (t 42) (.const (.bool false))⟩,
    ⟨(some 0), none, .mov (t 43)⟩])
  .ret))), [.tmp 0]⟩
/-- quilt/quiltlaw32.whole -/
def ir_quiltlaw32_whole : IF := ⟨(.seq (.ops [⟨(some 2), none, .mov (.const (.bool false))⟩])
  (.seq (.seq (.ops [⟨(some 5), none, .mov (t 0)⟩,
    ⟨(some 6), none, .pcallF F_strings_Split [(t 5), (.const (.string ⟨#[47]⟩))]⟩,
    ⟨(some 7), none, .lenL (t 6)⟩,
    ⟨(some 8), none, .mov (ci 0)⟩])
  (.block 0 (.loop (.seq (.ops [⟨(some 9), none, .bin .lss (t 8) (t 7)⟩])
  (.seq (.cond (t 9) .skip
  (.exit 0))
  (.seq (.block 1 (.seq (.ops [⟨(some 10), none, .idxL 1 (t 6) (t 8)⟩,
    ⟨(some 11), none, .load1 (t 10)⟩,
    ⟨(some 4), none, .mov (t 11)⟩])
  (.seq (.ops [⟨(some 12), none, .mov (t 4)⟩,
    ⟨(some 13), none, .bin .eql (t 12) (.const (.string ⟨#[]⟩))⟩])
  (.cond (t 13) (.seq (.ops [⟨(some 2), none, .mov (.const (.bool false))⟩])
  .ret)
  .skip))))
  (.ops [⟨(some 14), none, .bin .add (t 8) (ci 1)⟩,
    ⟨(some 8), none, .mov (t 14)⟩])))))))
  (.seq (.ops [⟨(some 2), none, .mov (.const (.bool true))⟩])
  .ret))), [.tmp 2]⟩
/-- quilt/quiltlaw32.quoted -/
def ir_quiltlaw32_quoted : IF := ⟨(.seq (.ops [⟨(some 2), none, .mov (.const (.string ⟨#[]⟩))⟩])
  (.seq (.ops [⟨(some 5), none, .bslice 1 [.int .u8 0] 0 []⟩,
    ⟨(some 3), none, .mov (t 5)⟩])
  (.seq (.seq (.ops [⟨(some 6), none, .mov (t 0)⟩,
    ⟨(some 7), none, .lenS (t 6)⟩,
    ⟨(some 8), none, .mov (ci 0)⟩])
  (.block 0 (.loop (.seq (.ops [⟨(some 9), none, .bin .lss (t 8) (t 7)⟩])
  (.seq (.cond (t 9) .skip
  (.exit 0))
  (.seq (.block 1 (.seq (.ops [⟨(some 10), none, .mov (t 8)⟩,
    ⟨(some 4), none, .mov (t 10)⟩])
  (.seq (.seq (.ops [⟨(some 11), none, .mov (t 0)⟩,
    ⟨(some 12), none, .mov (t 4)⟩,
    ⟨(some 13), none, .idxS (t 11) (t 12)⟩,
    ⟨(some 14), none, .bin .neq (t 13) (.const (.int .u8 47))⟩])
  (.jn (.cond (t 14) (.ops [⟨(some 15), none, .mov (t 3)⟩,
    ⟨(some 16), none, .bslice 1 [.int .u8 0] 1 [(0, 1, (.const (.int .u8 92)))]⟩,
    ⟨(some 17), none, .app 1 1 (t 15) (t 16)⟩,
    ⟨(some 3), none, .mov (t 17)⟩])
  .skip)))
  (.ops [⟨(some 18), none, .mov (t 3)⟩,
    ⟨(some 19), none, .mov (t 0)⟩,
    ⟨(some 20), none, .mov (t 4)⟩,
    ⟨(some 21), none, .idxS (t 19) (t 20)⟩,
    ⟨(some 22), none, .bslice 1 [.int .u8 0] 1 [(0, 1, (t 21))]⟩,
    ⟨(some 23), none, .app 1 1 (t 18) (t 22)⟩,
    ⟨(some 3), none, .mov (t 23)⟩]))))
  (.ops [⟨(some 24), none, .bin .add (t 8) (ci 1)⟩,
    ⟨(some 8), none, .mov (t 24)⟩])))))))
  (.seq (.ops [⟨(some 25), none, .mov (t 3)⟩,
    ⟨(some 26), none, .b2s (t 25)⟩,
    ⟨(some 2), none, .mov (t 26)⟩])
  .ret)))), [.tmp 2]⟩
/-- quilt/quiltlaw32.GlobMatch -/
def ir_quiltlaw32_GlobMatch : IF := ⟨(.seq (.ops [⟨(some 4), none, .mov (.const (.bool false))⟩])
  (.seq (.ops [⟨(some 5), none, .mov (t 0)⟩,
    ⟨(some 6), none, .mov (t 1)⟩,
    ⟨(some 7), none, .bslice 1 [.str []] 2 [(0, 1, (t 5)), (1, 1, (t 6))]⟩,
    ⟨(some 8), none, .pcall C_quiltlaw32_long [(t 7)]⟩,
    ⟨(some 9), none, .mov (t 8)⟩,
    ⟨(some 10), (some (9, false)), .mov (t 0)⟩,
    ⟨(some 11), (some (9, false)), .mov (t 1)⟩,
    ⟨(some 12), (some (9, false)), .pcall C_glob_Match [(t 10), (t 11)]⟩,
    ⟨(some 13), (some (9, false)), .mov (t 0)⟩,
    ⟨(some 14), (some (9, false)), .mov (t 1)⟩,
    ⟨(some 15), (some (9, false)), .pcall C_quiltref32_Match [(t 13), (t 14)]⟩,
    ⟨(some 16), (some (9, false)), .beq false (t 12) (t 15)⟩,
    ⟨(some 17), (some (9, false)), .mov (t 16)⟩,
    ⟨(some 18), (some (17, true)), .mov (t 0)⟩,
    ⟨(some 19), (some (17, true)), .mov (t 1)⟩,
    ⟨(some 20), (some (17, true)), .pcall C_glob_Below [(t 18), (t 19)]⟩,
    ⟨(some 21), (some (17, true)), .mov (t 0)⟩,
    ⟨(some 22), (some (17, true)), .mov (t 1)⟩,
    ⟨(some 23), (some (17, true)), .pcall C_quiltref32_Below [(t 21), (t 22)]⟩,
    ⟨(some 24), (some (17, true)), .beq false (t 20) (t 23)⟩,
    ⟨(some 25), (some (9, false)), .pick (t 17) (t 24) (.const (.bool false))⟩,
    ⟨(some 26), none, .pick (t 9) (.const (.bool true)) (t 25)⟩,
    ⟨(some 27), none, .mov (t 26)⟩,
    ⟨(some 28), (some (27, true)), .pcall C_quiltlaw32_awake []⟩,
    ⟨(some 29), none, .pick (t 27) (t 28) (.const (.bool false))⟩,
    ⟨(some 4), none, .mov (t 29)⟩])
  .ret)), [.tmp 4]⟩
/-- quilt/quiltlaw32.GlobOverlap -/
def ir_quiltlaw32_GlobOverlap : IF := ⟨(.seq (.ops [⟨(some 4), none, .mov (.const (.bool false))⟩])
  (.seq (.ops [⟨(some 5), none, .mov (t 0)⟩,
    ⟨(some 6), none, .mov (t 1)⟩,
    ⟨(some 7), none, .bslice 1 [.str []] 2 [(0, 1, (t 5)), (1, 1, (t 6))]⟩,
    ⟨(some 8), none, .pcall C_quiltlaw32_long [(t 7)]⟩,
    ⟨(some 9), none, .mov (t 8)⟩,
    ⟨(some 10), (some (9, false)), .mov (t 0)⟩,
    ⟨(some 11), (some (9, false)), .mov (t 1)⟩,
    ⟨(some 12), (some (9, false)), .pcall C_glob_Overlap [(t 10), (t 11)]⟩,
    ⟨(some 13), (some (9, false)), .mov (t 0)⟩,
    ⟨(some 14), (some (9, false)), .mov (t 1)⟩,
    ⟨(some 15), (some (9, false)), .pcall C_quiltref32_Overlap [(t 13), (t 14)]⟩,
    ⟨(some 16), (some (9, false)), .beq false (t 12) (t 15)⟩,
    ⟨(some 17), none, .pick (t 9) (.const (.bool true)) (t 16)⟩,
    ⟨(some 18), none, .mov (t 17)⟩,
    ⟨(some 19), (some (18, true)), .pcall C_quiltlaw32_awake []⟩,
    ⟨(some 20), none, .pick (t 18) (t 19) (.const (.bool false))⟩,
    ⟨(some 4), none, .mov (t 20)⟩])
  .ret)), [.tmp 4]⟩
/-- quilt/quiltlaw32.GlobDeep -/
def ir_quiltlaw32_GlobDeep : IF := ⟨(.seq (.ops [⟨(some 6), none, .mov (.const (.bool false))⟩])
  (.seq (.seq (.ops [⟨(some 7), none, .mov (t 0)⟩,
    ⟨(some 8), none, .lenS (t 7)⟩,
    ⟨(some 9), none, .bin .gtr (t 8) (ci 190)⟩,
    ⟨(some 10), none, .mov (t 9)⟩,
    ⟨(some 11), (some (10, false)), .mov (t 1)⟩,
    ⟨(some 12), (some (10, false)), .lenS (t 11)⟩,
    ⟨(some 13), (some (10, false)), .bin .gtr (t 12) (ci 120)⟩,
    ⟨(some 14), none, .pick (t 10) (.const (.bool true)) (t 13)⟩,
    ⟨(some 15), none, .mov (t 14)⟩,
    ⟨(some 16), (some (15, false)), .mov (t 2)⟩,
    ⟨(some 17), (some (15, false)), .lenS (t 16)⟩,
    ⟨(some 18), (some (15, false)), .bin .gtr (t 17) (ci 120)⟩,
    ⟨(some 19), none, .pick (t 15) (.const (.bool true)) (t 18)⟩,
    ⟨(some 20), none, .mov (t 19)⟩,
    ⟨(some 21), (some (20, false)), .mov (t 2)⟩,
    ⟨(some 22), (some (20, false)), .pcall C_strings_Contains [(t 21), (.const (.string ⟨#[47]⟩))]⟩,
    ⟨(some 23), none, .pick (t 20) (.const (.bool true)) (t 22)⟩,
    ⟨(some 24), none, .mov (t 23)⟩,
    ⟨(some 25), (some (24, false)), .mov (t 2)⟩,
    ⟨(some 26), (some (24, false)), .bin .eql (t 25) (.const (.string ⟨#[]⟩))⟩,
    ⟨(some 27), none, .pick (t 24) (.const (.bool true)) (t 26)⟩,
    ⟨(some 28), none, .mov (t 27)⟩,
    ⟨(some 29), (some (28, false)), .mov (t 1)⟩,
    ⟨(some 30), (some (28, false)), .bin .eql (t 29) (.const (.string ⟨#[]⟩))⟩,
    ⟨(some 31), none, .pick (t 28) (.const (.bool true)) (t 30)⟩,
    ⟨(some 32), none, .mov (t 31)⟩,
    ⟨(some 33), (some (32, false)), .mov (t 0)⟩,
    ⟨(some 34), (some (32, false)), .mov (t 1)⟩,
    ⟨(some 35), (some (32, false)), .pcall C_glob_Match [(t 33), (t 34)]⟩,
    ⟨(some 36), (some (32, false)), .not (t 35)⟩,
    ⟨(some 37), none, .pick (t 32) (.const (.bool true)) (t 36)⟩])
  (.cond (t 37) (.seq (.ops [⟨(some 38), none, .pcall C_quiltlaw32_awake []⟩,
    ⟨(some 6), none, .mov (t 38)⟩])
  .ret)
  .skip))
  (.seq (.ops [⟨(some 39), none, .mov (t 0)⟩,
    ⟨(some 40), none, .bin .add (.const (.string ⟨#[42, 42, 47]⟩)) (t 39)⟩,
    ⟨(some 41), none, .mov (t 1)⟩,
    ⟨(some 42), none, .pcall C_glob_Match [(t 40), (t 41)]⟩,
    ⟨(some 43), none, .mov (t 42)⟩,
    ⟨(some 44), (some (43, true)), .mov (t 0)⟩,
    ⟨(some 45), (some (43, true)), .bin .add (.const (.string ⟨#[42, 42, 47]⟩)) (t 44)⟩,
    ⟨(some 46), (some (43, true)), .mov (t 2)⟩,
    ⟨(some 47), (some (43, true)), .bin .add (t 46) (.const (.string ⟨#[47]⟩))⟩,
    ⟨(some 48), (some (43, true)), .mov (t 1)⟩,
    ⟨(some 49), (some (43, true)), .bin .add (t 47) (t 48)⟩,
    ⟨(some 50), (some (43, true)), .pcall C_glob_Match [(t 45), (t 49)]⟩,
    ⟨(some 51), none, .pick (t 43) (t 50) (.const (.bool false))⟩,
    ⟨(some 52), none, .mov (t 51)⟩,
    ⟨(some 53), (some (52, true)), .pcall C_quiltlaw32_awake []⟩,
    ⟨(some 54), none, .pick (t 52) (t 53) (.const (.bool false))⟩,
    ⟨(some 6), none, .mov (t 54)⟩])
  .ret))), [.tmp 6]⟩
/-- quilt/quiltlaw32.GlobCheck -/
def ir_quiltlaw32_GlobCheck : IF := ⟨(.seq (.ops [⟨(some 2), none, .mov (.const (.bool false))⟩])
  (.seq (.ops [⟨(some 3), none, .mov (t 0)⟩,
    ⟨(some 4), none, .bslice 1 [.str []] 1 [(0, 1, (t 3))]⟩,
    ⟨(some 5), none, .pcall C_quiltlaw32_long [(t 4)]⟩,
    ⟨(some 6), none, .mov (t 5)⟩,
    ⟨(some 7), (some (6, false)), .mov (t 0)⟩,
    ⟨(some 8), (some (6, false)), .pcall C_glob_Check [(t 7)]⟩,
    ⟨(some 9), (some (6, false)), .mov (t 0)⟩,
    ⟨(some 10), (some (6, false)), .pcall C_quiltref32_Check [(t 9)]⟩,
    ⟨(some 11), (some (6, false)), .bin .eql (t 8) (t 10)⟩,
    ⟨(some 12), (some (6, false)), .mov (t 11)⟩,
    ⟨(some 13), (some (12, true)), .mov (t 0)⟩,
    ⟨(some 14), (some (12, true)), .pcall C_glob_Fixed [(t 13)]⟩,
    ⟨(some 15), (some (12, true)), .mov (t 0)⟩,
    ⟨(some 16), (some (12, true)), .pcall C_quiltref32_Fixed [(t 15)]⟩,
    ⟨(some 17), (some (12, true)), .bin .eql (t 14) (t 16)⟩,
    ⟨(some 18), (some (6, false)), .pick (t 12) (t 17) (.const (.bool false))⟩,
    ⟨(some 19), none, .pick (t 6) (.const (.bool true)) (t 18)⟩,
    ⟨(some 20), none, .mov (t 19)⟩,
    ⟨(some 21), (some (20, true)), .pcall C_quiltlaw32_awake []⟩,
    ⟨(some 22), none, .pick (t 20) (t 21) (.const (.bool false))⟩,
    ⟨(some 2), none, .mov (t 22)⟩])
  .ret)), [.tmp 2]⟩
/-- quilt/quiltlaw32.GlobQuoted -/
def ir_quiltlaw32_GlobQuoted : IF := ⟨(.seq (.ops [⟨(some 4), none, .mov (.const (.bool false))⟩])
  (.seq (.seq (.ops [⟨(some 6), none, .mov (t 0)⟩,
    ⟨(some 7), none, .lenS (t 6)⟩,
    ⟨(some 8), none, .bin .gtr (t 7) (ci 100)⟩,
    ⟨(some 9), none, .mov (t 8)⟩,
    ⟨(some 10), (some (9, false)), .mov (t 1)⟩,
    ⟨(some 11), (some (9, false)), .bslice 1 [.str []] 1 [(0, 1, (t 10))]⟩,
    ⟨(some 12), (some (9, false)), .pcall C_quiltlaw32_long [(t 11)]⟩,
    ⟨(some 13), none, .pick (t 9) (.const (.bool true)) (t 12)⟩,
    ⟨(some 14), none, .mov (t 13)⟩,
    ⟨(some 15), (some (14, false)), .mov (t 0)⟩,
    ⟨(some 16), (some (14, false)), .pcall C_quiltlaw32_whole [(t 15)]⟩,
    ⟨(some 17), (some (14, false)), .not (t 16)⟩,
    ⟨(some 18), none, .pick (t 14) (.const (.bool true)) (t 17)⟩])
  (.cond (t 18) (.seq (.ops [⟨(some 19), none, .pcall C_quiltlaw32_awake []⟩,
    ⟨(some 4), none, .mov (t 19)⟩])
  .ret)
  .skip))
  (.seq (.ops [⟨(some 20), none, .mov (t 0)⟩,
    ⟨(some 21), none, .pcall C_quiltlaw32_quoted [(t 20)]⟩,
    ⟨(some 5), none, .mov (t 21)⟩])
  (.seq (.ops [⟨(some 22), none, .mov (t 5)⟩,
    ⟨(some 23), none, .lenS (t 22)⟩,
    ⟨(some 24), none, .bin .leq (t 23) (ci 200)⟩,
    ⟨(some 25), none, .mov (t 24)⟩,
    ⟨(some 26), (some (25, true)), .mov (t 5)⟩,
    ⟨(some 27), (some (25, true)), .pcall C_glob_Check [(t 26)]⟩,
    ⟨(some 28), (some (25, true)), .bin .eql (t 27) (ci 0)⟩,
    ⟨(some 29), none, .pick (t 25) (t 28) (.const (.bool false))⟩,
    ⟨(some 30), none, .mov (t 29)⟩,
    ⟨(some 31), (some (30, true)), .mov (t 5)⟩,
    ⟨(some 32), (some (30, true)), .mov (t 0)⟩,
    ⟨(some 33), (some (30, true)), .pcall C_glob_Match [(t 31), (t 32)]⟩,
    ⟨(some 34), none, .pick (t 30) (t 33) (.const (.bool false))⟩,
    ⟨(some 35), none, .mov (t 34)⟩,
    ⟨(some 36), (some (35, true)), .mov (t 5)⟩,
    ⟨(some 37), (some (35, true)), .mov (t 1)⟩,
    ⟨(some 38), (some (35, true)), .pcall C_glob_Match [(t 36), (t 37)]⟩,
    ⟨(some 39), (some (35, true)), .mov (t 1)⟩,
    ⟨(some 40), (some (35, true)), .mov (t 0)⟩,
    ⟨(some 41), (some (35, true)), .bin .eql (t 39) (t 40)⟩,
    ⟨(some 42), (some (35, true)), .beq false (t 38) (t 41)⟩,
    ⟨(some 43), none, .pick (t 35) (t 42) (.const (.bool false))⟩,
    ⟨(some 44), none, .mov (t 43)⟩,
    ⟨(some 45), (some (44, true)), .mov (t 5)⟩,
    ⟨(some 46), (some (44, true)), .pcall C_glob_Fixed [(t 45)]⟩,
    ⟨(some 47), (some (44, true)), .mov (t 0)⟩,
    ⟨(some 48), (some (44, true)), .bin .eql (t 46) (t 47)⟩,
    ⟨(some 49), none, .pick (t 44) (t 48) (.const (.bool false))⟩,
    ⟨(some 50), none, .mov (t 49)⟩,
    ⟨(some 51), (some (50, true)), .pcall C_quiltlaw32_awake []⟩,
    ⟨(some 52), none, .pick (t 50) (t 51) (.const (.bool false))⟩,
    ⟨(some 4), none, .mov (t 52)⟩])
  .ret)))), [.tmp 4]⟩
/-- quilt/quiltlaw32.GlobMeets -/
def ir_quiltlaw32_GlobMeets : IF := ⟨(.seq (.ops [⟨(some 6), none, .mov (.const (.bool false))⟩])
  (.seq (.seq (.ops [⟨(some 7), none, .mov (t 0)⟩,
    ⟨(some 8), none, .mov (t 1)⟩,
    ⟨(some 9), none, .mov (t 2)⟩,
    ⟨(some 10), none, .bslice 1 [.str []] 3 [(0, 1, (t 7)), (1, 1, (t 8)), (2, 1, (t 9))]⟩,
    ⟨(some 11), none, .pcall C_quiltlaw32_long [(t 10)]⟩])
  (.cond (t 11) (.seq (.ops [⟨(some 12), none, .pcall C_quiltlaw32_awake []⟩,
    ⟨(some 6), none, .mov (t 12)⟩])
  .ret)
  .skip))
  (.seq (.seq (.ops [⟨(some 13), none, .mov (t 0)⟩,
    ⟨(some 14), none, .mov (t 2)⟩,
    ⟨(some 15), none, .pcall C_glob_Match [(t 13), (t 14)]⟩,
    ⟨(some 16), none, .mov (t 15)⟩,
    ⟨(some 17), (some (16, true)), .mov (t 1)⟩,
    ⟨(some 18), (some (16, true)), .mov (t 2)⟩,
    ⟨(some 19), (some (16, true)), .pcall C_glob_Match [(t 17), (t 18)]⟩,
    ⟨(some 20), none, .pick (t 16) (t 19) (.const (.bool false))⟩,
    ⟨(some 21), none, .mov (t 20)⟩,
    ⟨(some 22), (some (21, true)), .mov (t 0)⟩,
    ⟨(some 23), (some (21, true)), .mov (t 1)⟩,
    ⟨(some 24), (some (21, true)), .pcall C_glob_Overlap [(t 22), (t 23)]⟩,
    ⟨(some 25), (some (21, true)), .not (t 24)⟩,
    ⟨(some 26), none, .pick (t 21) (t 25) (.const (.bool false))⟩])
  (.cond (t 26) (.seq (.ops [⟨(some 6), none, .mov (.const (.bool false))⟩])
  .ret)
  .skip))
  (.seq (.ops [⟨(some 27), none, .mov (t 0)⟩,
    ⟨(some 28), none, .mov (t 1)⟩,
    ⟨(some 29), none, .pcall C_glob_Overlap [(t 27), (t 28)]⟩,
    ⟨(some 30), none, .mov (t 1)⟩,
    ⟨(some 31), none, .mov (t 0)⟩,
    ⟨(some 32), none, .pcall C_glob_Overlap [(t 30), (t 31)]⟩,
    ⟨(some 33), none, .beq false (t 29) (t 32)⟩,
    ⟨(some 34), none, .mov (t 33)⟩,
    ⟨(some 35), (some (34, true)), .mov (t 0)⟩,
    ⟨(some 36), (some (34, true)), .mov (t 0)⟩,
    ⟨(some 37), (some (34, true)), .pcall C_glob_Overlap [(t 35), (t 36)]⟩,
    ⟨(some 38), (some (34, true)), .mov (t 0)⟩,
    ⟨(some 39), (some (34, true)), .pcall C_glob_Check [(t 38)]⟩,
    ⟨(some 40), (some (34, true)), .bin .eql (t 39) (ci 0)⟩,
    ⟨(some 41), (some (34, true)), .beq false (t 37) (t 40)⟩,
    ⟨(some 42), none, .pick (t 34) (t 41) (.const (.bool false))⟩,
    ⟨(some 43), none, .mov (t 42)⟩,
    ⟨(some 44), (some (43, true)), .pcall C_quiltlaw32_awake []⟩,
    ⟨(some 45), none, .pick (t 43) (t 44) (.const (.bool false))⟩,
    ⟨(some 6), none, .mov (t 45)⟩])
  .ret)))), [.tmp 6]⟩
/-- quilt/quiltlaw32.GlobBelow -/
def ir_quiltlaw32_GlobBelow : IF := ⟨(.seq (.ops [⟨(some 6), none, .mov (.const (.bool false))⟩])
  (.seq (.seq (.ops [⟨(some 8), none, .mov (t 0)⟩,
    ⟨(some 9), none, .lenS (t 8)⟩,
    ⟨(some 10), none, .bin .gtr (t 9) (ci 250)⟩,
    ⟨(some 11), none, .mov (t 10)⟩,
    ⟨(some 12), (some (11, false)), .mov (t 1)⟩,
    ⟨(some 13), (some (11, false)), .lenS (t 12)⟩,
    ⟨(some 14), (some (11, false)), .bin .gtr (t 13) (ci 120)⟩,
    ⟨(some 15), none, .pick (t 11) (.const (.bool true)) (t 14)⟩,
    ⟨(some 16), none, .mov (t 15)⟩,
    ⟨(some 17), (some (16, false)), .mov (t 2)⟩,
    ⟨(some 18), (some (16, false)), .lenS (t 17)⟩,
    ⟨(some 19), (some (16, false)), .bin .gtr (t 18) (ci 120)⟩,
    ⟨(some 20), none, .pick (t 16) (.const (.bool true)) (t 19)⟩,
    ⟨(some 21), none, .mov (t 20)⟩,
    ⟨(some 22), (some (21, false)), .mov (t 1)⟩,
    ⟨(some 23), (some (21, false)), .pcall C_quiltlaw32_whole [(t 22)]⟩,
    ⟨(some 24), (some (21, false)), .not (t 23)⟩,
    ⟨(some 25), none, .pick (t 21) (.const (.bool true)) (t 24)⟩])
  (.cond (t 25) (.seq (.ops [⟨(some 26), none, .pcall C_quiltlaw32_awake []⟩,
    ⟨(some 6), none, .mov (t 26)⟩])
  .ret)
  .skip))
  (.seq (.seq (.ops [⟨(some 27), none, .mov (t 0)⟩,
    ⟨(some 28), none, .mov (t 1)⟩,
    ⟨(some 29), none, .bin .add (t 28) (.const (.string ⟨#[47]⟩))⟩,
    ⟨(some 30), none, .mov (t 2)⟩,
    ⟨(some 31), none, .bin .add (t 29) (t 30)⟩,
    ⟨(some 32), none, .pcall C_glob_Match [(t 27), (t 31)]⟩,
    ⟨(some 33), none, .mov (t 32)⟩,
    ⟨(some 34), (some (33, true)), .mov (t 0)⟩,
    ⟨(some 35), (some (33, true)), .mov (t 1)⟩,
    ⟨(some 36), (some (33, true)), .pcall C_glob_Below [(t 34), (t 35)]⟩,
    ⟨(some 37), (some (33, true)), .not (t 36)⟩,
    ⟨(some 38), none, .pick (t 33) (t 37) (.const (.bool false))⟩])
  (.cond (t 38) (.seq (.ops [⟨(some 6), none, .mov (.const (.bool false))⟩])
  .ret)
  .skip))
  (.seq (.seq (.ops [⟨(some 39), none, .mov (t 0)⟩,
    ⟨(some 40), none, .mov (t 1)⟩,
    ⟨(some 41), none, .pcall C_glob_Below [(t 39), (t 40)]⟩,
    ⟨(some 42), none, .mov (t 41)⟩,
    ⟨(some 43), (some (42, true)), .mov (t 0)⟩,
    ⟨(some 44), (some (42, true)), .pcall C_glob_Below [(t 43), (.const (.string ⟨#[]⟩))]⟩,
    ⟨(some 45), (some (42, true)), .not (t 44)⟩,
    ⟨(some 46), (some (42, true)), .mov (t 45)⟩,
    ⟨(some 47), (some (46, false)), .mov (t 0)⟩,
    ⟨(some 48), (some (46, false)), .pcall C_glob_Check [(t 47)]⟩,
    ⟨(some 49), (some (46, false)), .bin .neq (t 48) (ci 0)⟩,
    ⟨(some 50), (some (42, true)), .pick (t 46) (.const (.bool true)) (t 49)⟩,
    ⟨(some 51), none, .pick (t 42) (t 50) (.const (.bool false))⟩])
  (.cond (t 51) (.seq (.ops [⟨(some 6), none, .mov (.const (.bool false))⟩])
  .ret)
  .skip))
  (.seq (.seq (.ops [⟨(some 52), none, .mov (t 1)⟩,
    ⟨(some 53), none, .lenS (t 52)⟩,
    ⟨(some 54), none, .mov (ci 0)⟩])
  (.block 0 (.loop (.seq (.ops [⟨(some 55), none, .bin .lss (t 54) (t 53)⟩])
  (.seq (.cond (t 55) .skip
  (.exit 0))
  (.seq (.block 1 (.seq (.ops [⟨(some 56), none, .mov (t 54)⟩,
    ⟨(some 7), none, .mov (t 56)⟩])
  (.seq (.ops [⟨(some 57), none, .mov (t 1)⟩,
    ⟨(some 58), none, .mov (t 7)⟩,
    ⟨(some 59), none, .idxS (t 57) (t 58)⟩,
    ⟨(some 60), none, .bin .eql (t 59) (.const (.int .u8 47))⟩,
    ⟨(some 61), none, .mov (t 60)⟩,
    ⟨(some 62), (some (61, true)), .mov (t 0)⟩,
    ⟨(some 63), (some (61, true)), .mov (t 1)⟩,
    ⟨(some 64), (some (61, true)), .pcall C_glob_Below [(t 62), (t 63)]⟩,
    ⟨(some 65), none, .pick (t 61) (t 64) (.const (.bool false))⟩,
    ⟨(some 66), none, .mov (t 65)⟩,
    ⟨(some 67), (some (66, true)), .mov (t 0)⟩,
    ⟨(some 68), (some (66, true)), .mov (t 1)⟩,
    ⟨(some 69), (some (66, true)), .mov (t 7)⟩,
    ⟨(some 70), (some (66, true)), .slS (t 68) none (some (t 69))⟩,
    ⟨(some 71), (some (66, true)), .pcall C_glob_Below [(t 67), (t 70)]⟩,
    ⟨(some 72), (some (66, true)), .not (t 71)⟩,
    ⟨(some 73), none, .pick (t 66) (t 72) (.const (.bool false))⟩])
  (.cond (t 73) (.seq (.ops [⟨(some 6), none, .mov (.const (.bool false))⟩])
  .ret)
  .skip))))
  (.ops [⟨(some 74), none, .bin .add (t 54) (ci 1)⟩,
    ⟨(some 54), none, .mov (t 74)⟩])))))))
  (.seq (.ops [⟨(some 75), none, .pcall C_quiltlaw32_awake []⟩,
    ⟨(some 6), none, .mov (t 75)⟩])
  .ret)))))), [.tmp 6]⟩
/-- quilt/quiltlaw32.GlobFixed -/
def ir_quiltlaw32_GlobFixed : IF := ⟨(.seq (.ops [⟨(some 4), none, .mov (.const (.bool false))⟩])
  (.seq (.seq (.ops [⟨(some 5), none, .mov (t 0)⟩,
    ⟨(some 6), none, .mov (t 1)⟩,
    ⟨(some 7), none, .bslice 1 [.str []] 2 [(0, 1, (t 5)), (1, 1, (t 6))]⟩,
    ⟨(some 8), none, .pcall C_quiltlaw32_long [(t 7)]⟩,
    ⟨(some 9), none, .mov (t 8)⟩,
    ⟨(some 10), (some (9, false)), .mov (t 0)⟩,
    ⟨(some 11), (some (9, false)), .mov (t 1)⟩,
    ⟨(some 12), (some (9, false)), .pcall C_glob_Match [(t 10), (t 11)]⟩,
    ⟨(some 13), (some (9, false)), .not (t 12)⟩,
    ⟨(some 14), none, .pick (t 9) (.const (.bool true)) (t 13)⟩])
  (.cond (t 14) (.seq (.ops [⟨(some 15), none, .pcall C_quiltlaw32_awake []⟩,
    ⟨(some 4), none, .mov (t 15)⟩])
  .ret)
  .skip))
  (.seq (.ops [⟨(some 16), none, .mov (t 1)⟩,
    ⟨(some 17), none, .mov (t 0)⟩,
    ⟨(some 18), none, .pcall C_glob_Fixed [(t 17)]⟩,
    ⟨(some 19), none, .pcall C_strings_HasPrefix [(t 16), (t 18)]⟩,
    ⟨(some 20), none, .mov (t 19)⟩,
    ⟨(some 21), (some (20, true)), .mov (t 0)⟩,
    ⟨(some 22), (some (20, true)), .pcall C_glob_Check [(t 21)]⟩,
    ⟨(some 23), (some (20, true)), .bin .eql (t 22) (ci 0)⟩,
    ⟨(some 24), none, .pick (t 20) (t 23) (.const (.bool false))⟩,
    ⟨(some 25), none, .mov (t 24)⟩,
    ⟨(some 26), (some (25, true)), .pcall C_quiltlaw32_awake []⟩,
    ⟨(some 27), none, .pick (t 25) (t 26) (.const (.bool false))⟩,
    ⟨(some 4), none, .mov (t 27)⟩])
  .ret))), [.tmp 4]⟩
/-- quilt/quiltlaw32.GlobParts -/
def ir_quiltlaw32_GlobParts : IF := ⟨(.seq (.ops [⟨(some 6), none, .mov (.const (.bool false))⟩])
  (.seq (.seq (.ops [⟨(some 10), none, .mov (t 0)⟩,
    ⟨(some 11), none, .lenS (t 10)⟩,
    ⟨(some 12), none, .bin .gtr (t 11) (ci 90)⟩,
    ⟨(some 13), none, .mov (t 12)⟩,
    ⟨(some 14), (some (13, false)), .mov (t 1)⟩,
    ⟨(some 15), (some (13, false)), .lenS (t 14)⟩,
    ⟨(some 16), (some (13, false)), .bin .gtr (t 15) (ci 90)⟩,
    ⟨(some 17), none, .pick (t 13) (.const (.bool true)) (t 16)⟩,
    ⟨(some 18), none, .mov (t 17)⟩,
    ⟨(some 19), (some (18, false)), .mov (t 2)⟩,
    ⟨(some 20), (some (18, false)), .lenS (t 19)⟩,
    ⟨(some 21), (some (18, false)), .bin .gtr (t 20) (ci 60)⟩,
    ⟨(some 22), none, .pick (t 18) (.const (.bool true)) (t 21)⟩,
    ⟨(some 23), none, .mov (t 22)⟩,
    ⟨(some 24), (some (23, false)), .mov (t 2)⟩,
    ⟨(some 25), (some (23, false)), .pcall C_quiltlaw32_whole [(t 24)]⟩,
    ⟨(some 26), (some (23, false)), .not (t 25)⟩,
    ⟨(some 27), none, .pick (t 23) (.const (.bool true)) (t 26)⟩,
    ⟨(some 28), none, .mov (t 27)⟩,
    ⟨(some 29), (some (28, false)), .mov (t 0)⟩,
    ⟨(some 30), (some (28, false)), .pcall C_glob_Check [(t 29)]⟩,
    ⟨(some 31), (some (28, false)), .bin .neq (t 30) (ci 0)⟩,
    ⟨(some 32), none, .pick (t 28) (.const (.bool true)) (t 31)⟩,
    ⟨(some 33), none, .mov (t 32)⟩,
    ⟨(some 34), (some (33, false)), .mov (t 1)⟩,
    ⟨(some 35), (some (33, false)), .pcall C_glob_Check [(t 34)]⟩,
    ⟨(some 36), (some (33, false)), .bin .neq (t 35) (ci 0)⟩,
    ⟨(some 37), none, .pick (t 33) (.const (.bool true)) (t 36)⟩])
  (.cond (t 37) (.seq (.ops [⟨(some 38), none, .pcall C_quiltlaw32_awake []⟩,
    ⟨(some 6), none, .mov (t 38)⟩])
  .ret)
  .skip))
  (.seq (.ops [⟨(some 39), none, .mov (t 2)⟩,
    ⟨(some 40), none, .pcallF F_strings_Split [(t 39), (.const (.string ⟨#[47]⟩))]⟩,
    ⟨(some 7), none, .mov (t 40)⟩])
  (.seq (.ops [⟨(some 8), none, .mov (.const (.bool false))⟩])
  (.seq (.seq (.ops [⟨(some 41), none, .mov (t 7)⟩,
    ⟨(some 42), none, .lenL (t 41)⟩,
    ⟨(some 43), none, .bin .add (t 42) (ci 1)⟩,
    ⟨(some 44), none, .mov (ci 0)⟩])
  (.block 0 (.loop (.seq (.ops [⟨(some 45), none, .bin .lss (t 44) (t 43)⟩])
  (.seq (.cond (t 45) .skip
  (.exit 0))
  (.seq (.block 1 (.seq (.ops [⟨(some 46), none, .mov (t 44)⟩,
    ⟨(some 9), none, .mov (t 46)⟩])
  (.ops [⟨(some 47), none, .mov (t 8)⟩,
    ⟨(some 48), none, .mov (t 47)⟩,
    ⟨(some 49), (some (48, false)), .mov (t 0)⟩,
    ⟨(some 50), (some (48, false)), .mov (t 7)⟩,
    ⟨(some 51), (some (48, false)), .mov (t 9)⟩,
    ⟨(some 52), (some (48, false)), .slL 1 (t 50) none (some (t 51))⟩,
    ⟨(some 53), (some (48, false)), .pcall C_strings_Join [(t 52), (.const (.string ⟨#[47]⟩))]⟩,
    ⟨(some 54), (some (48, false)), .pcall C_glob_Match [(t 49), (t 53)]⟩,
    ⟨(some 55), (some (48, false)), .mov (t 54)⟩,
    ⟨(some 56), (some (55, true)), .mov (t 1)⟩,
    ⟨(some 57), (some (55, true)), .mov (t 7)⟩,
    ⟨(some 58), (some (55, true)), .mov (t 9)⟩,
    ⟨(some 59), (some (55, true)), .slL 1 (t 57) (some (t 58)) none⟩,
    ⟨(some 60), (some (55, true)), .pcall C_strings_Join [(t 59), (.const (.string ⟨#[47]⟩))]⟩,
    ⟨(some 61), (some (55, true)), .pcall C_glob_Match [(t 56), (t 60)]⟩,
    ⟨(some 62), (some (48, false)), .pick (t 55) (t 61) (.const (.bool false))⟩,
    ⟨(some 63), none, .pick (t 48) (.const (.bool true)) (t 62)⟩,
    ⟨(some 8), none, .mov (t 63)⟩])))
  (.ops [⟨(some 64), none, .bin .add (t 44) (ci 1)⟩,
    ⟨(some 44), none, .mov (t 64)⟩])))))))
  (.seq (.ops [⟨(some 65), none, .mov (t 0)⟩,
    ⟨(some 66), none, .bin .add (t 65) (.const (.string ⟨#[47]⟩))⟩,
    ⟨(some 67), none, .mov (t 1)⟩,
    ⟨(some 68), none, .bin .add (t 66) (t 67)⟩,
    ⟨(some 69), none, .mov (t 2)⟩,
    ⟨(some 70), none, .pcall C_glob_Match [(t 68), (t 69)]⟩,
    ⟨(some 71), none, .mov (t 8)⟩,
    ⟨(some 72), none, .beq false (t 70) (t 71)⟩,
    ⟨(some 73), none, .mov (t 72)⟩,
    ⟨(some 74), (some (73, true)), .pcall C_quiltlaw32_awake []⟩,
    ⟨(some 75), none, .pick (t 73) (t 74) (.const (.bool false))⟩,
    ⟨(some 6), none, .mov (t 75)⟩])
  .ret)))))), [.tmp 6]⟩



end Qk

/-
  Chapter 32: the values of the example, quick for the kernel.
-/
namespace Qk

def gmGo {σ : Type} (r : List σ → Bool) : List σ → Bool
  | [] => r []
  | c :: s => r (c :: s) || gmGo r s
def gmX {ε σ : Type} (star : ε → Bool) (fit : ε → σ → Bool) : List ε → List σ → Bool
  | [] => fun s => s.isEmpty
  | e :: l => match star e with
    | true => gmGo (gmX star fit l)
    | false => fun s => match s with
      | [] => false
      | c :: s => fit e c && gmX star fit l s
theorem gm_X {ε σ : Type} {star : ε → Bool} {fit : ε → σ → Bool} : ∀ (l : List ε) (s : List σ), gm star fit l s = gmX star fit l s
  | [], s => by rw [gmX]; cases s <;> simp [gm]
  | e :: l, s => by
    cases h : star e with
    | true =>
      have e1 : gmX star fit (e :: l) = gmGo (gmX star fit l) := by rw [gmX, h]
      rw [e1]
      induction s with
      | nil => rw [gm_cons_nil, h, gm_X l, gmGo]; rfl
      | cons c s ih => rw [gm_star _ _ _ _ h, gm_X l, gmGo, ih]
    | false =>
      have e1 : gmX star fit (e :: l) s = (match s with | [] => false | c :: s => fit e c && gmX star fit l s) := by rw [gmX, h]
      rw [e1]
      cases s with
      | nil => rw [gm_cons_nil, h]; rfl
      | cons c s => rw [gm_one _ _ _ _ h, gm_X l]

def belGo (c : Comp) (r : List (List UInt8) → Bool) : List (List UInt8) → Bool
  | [] => true
  | s :: ps => match c.any with
    | true => r (s :: ps) || belGo c r ps
    | false => gmX El.isStar El.fit c.els s && r ps
def belX : List Comp → List (List UInt8) → Bool
  | [] => fun _ => false
  | c :: l => belGo c (belX l)
theorem bel_X : ∀ (l : List Comp) (ps : List (List UInt8)), belowL l ps = belX l ps
  | [], ps => by rw [below_nil]; rfl
  | c :: l, ps => by
    have e1 : belX (c :: l) = belGo c (belX l) := rfl
    rw [e1]
    induction ps with
    | nil => rw [below_end]; rfl
    | cons s ps ih =>
      rw [below_cons, belGo]
      cases c.any with
      | true => dsimp only; rw [bel_X l, ih]
      | false => dsimp only; rw [bel_X l, Comp.fit, gm_X]

def govGo {ε : Type} (star : ε → Bool) (meet : ε → ε → Bool) (e : ε) (r : List ε → Bool) : List ε → Bool
  | [] => star e && r []
  | f :: m => match star e || star f with
    | true => r (f :: m) || govGo star meet e r m
    | false => meet e f && r m
def govX {ε : Type} (star : ε → Bool) (meet : ε → ε → Bool) : List ε → List ε → Bool
  | [] => fun m => m.all star
  | e :: l => govGo star meet e (govX star meet l)
theorem gov_X {ε : Type} {star : ε → Bool} {meet : ε → ε → Bool} : ∀ (l m : List ε), gov star meet l m = govX star meet l m
  | [], m => by
    show _ = m.all star
    induction m with
    | nil => rw [gov_nn]; rfl
    | cons f m ih => rw [gov_nc, ih]; rfl
  | e :: l, m => by
    show _ = govGo star meet e (govX star meet l) m
    induction m with
    | nil => rw [gov_cn, gov_X l, govGo]
    | cons f m ih =>
      rw [govGo]
      cases h : star e || star f with
      | true => rw [gov_star _ _ _ _ h, gov_X l, ih]
      | false => rw [gov_one _ _ _ _ h, gov_X l]
theorem meet_X : Comp.meet = fun c d => govX El.isStar El.meet c.els d.els := by
  funext c d; unfold Comp.meet; rw [gov_X]
theorem fit_X : Comp.fit = fun c s => gmX El.isStar El.fit c.els s := by
  funext c s; unfold Comp.fit; rw [gm_X]

def matchX (g path : List UInt8) : Bool := match globL g with
  | none => false
  | some l => gmX Comp.any (fun c s => gmX El.isStar El.fit c.els s) l (partsL path)
theorem match_X (g path : List UInt8) : matchG g path = matchX g path := by
  unfold matchG matchX matchL; rw [fit_X]
  cases globL g with
  | none => rfl
  | some l => dsimp only; rw [gm_X]
def belowX (g path : List UInt8) : Bool := match globL g with
  | none => false
  | some l => belX l (partsL path)
theorem below_X (g path : List UInt8) : belowG g path = belowX g path := by
  unfold belowG belowX
  cases globL g with
  | none => rfl
  | some l => dsimp only; rw [bel_X]
def overX (a b : List UInt8) : Bool := match globL a, globL b with
  | some x, some y => govX Comp.any (fun c d => govX El.isStar El.meet c.els d.els) x y
  | _, _ => false
theorem over_X (a b : List UInt8) : overG a b = overX a b := by
  unfold overG overX overL; rw [meet_X]
  cases globL a with
  | none => rfl
  | some x =>
    cases globL b with
    | none => rfl
    | some y => dsimp only; rw [gov_X]

def gEx : List UInt8 := [115, 114, 99, 47, 42, 42, 47, 42, 46, 91, 99, 104, 93]
theorem v1 : matchG gEx [115, 114, 99, 47, 97, 46, 99] = true := by rw [match_X]; kernel_rfl
theorem v2 : matchG gEx [115, 114, 99, 47, 120, 47, 121, 47, 98, 46, 104] = true := by rw [match_X]; kernel_rfl
theorem v3 : matchG gEx [115, 114, 99, 47, 97, 46, 99, 99] = false := by rw [match_X]; kernel_rfl
theorem v4 : fixG gEx = [115, 114, 99, 47] := by decide
theorem v5 : matchG [97, 47, 42, 42] [97] = true := by rw [match_X]; kernel_rfl
theorem v6 : matchG [97, 47, 42, 42] [97, 47, 98] = true := by rw [match_X]; kernel_rfl
theorem v7 : fixG [97, 47, 42, 42] = [97] := by decide
theorem v8 : overG [42, 98] [97, 42] = true := by rw [over_X]; kernel_rfl
theorem v9 : overG [97, 63, 99] [97, 98, 100] = false := by rw [over_X]; kernel_rfl
theorem v10 : belowG gEx [115, 114, 99, 47, 120] = true := by rw [below_X]; kernel_rfl
theorem v11 : belowG gEx [108, 105, 98] = false := by rw [below_X]; kernel_rfl

end Qk

/-
  Chapter 32: the example; small functions of the statements.
-/
namespace Qk
open Go Go.RowKit

set_option maxRecDepth 4000 in
theorem d_awake : Does ir_quiltlaw32_awake C_quiltlaw32_awake := by
  intro _ _
  have a1 : C_glob_Match.res (gEx, [115, 114, 99, 47, 97, 46, 99]) = .bool true := congrArg AV.bool v1
  have a2 : C_glob_Match.res (gEx, [115, 114, 99, 47, 120, 47, 121, 47, 98, 46, 104]) = .bool true := congrArg AV.bool v2
  have a3 : C_glob_Match.res (gEx, [115, 114, 99, 47, 97, 46, 99, 99]) = .bool false := congrArg AV.bool v3
  have a4 : C_glob_Fixed.res gEx = .str [115, 114, 99, 47] := congrArg AV.str v4
  have a5 : C_glob_Match.res ([97, 47, 42, 42], [97]) = .bool true := congrArg AV.bool v5
  have a6 : C_glob_Match.res ([97, 47, 42, 42], [97, 47, 98]) = .bool true := congrArg AV.bool v6
  have a7 : C_glob_Fixed.res [97, 47, 42, 42] = .str [97] := congrArg AV.str v7
  have a8 : C_glob_Overlap.res ([42, 98], [97, 42]) = .bool true := congrArg AV.bool v8
  have a9 : C_glob_Overlap.res ([97, 63, 99], [97, 98, 100]) = .bool false := congrArg AV.bool v9
  have a10 : C_glob_Below.res (gEx, [115, 114, 99, 47, 120]) = .bool true := congrArg AV.bool v10
  have a11 : C_glob_Below.res (gEx, [108, 105, 98]) = .bool false := congrArg AV.bool v11
  refine ⟨(gEx, [115, 114, 99, 47, 97, 46, 99]), rfl, ⟨by decide, by decide⟩, ?_⟩
  rw [a1]
  refine ⟨(gEx, [115, 114, 99, 47, 120, 47, 121, 47, 98, 46, 104]), rfl, ⟨by decide, by decide⟩, ?_⟩
  rw [a2]
  refine ⟨(gEx, [115, 114, 99, 47, 97, 46, 99, 99]), rfl, ⟨by decide, by decide⟩, ?_⟩
  rw [a3]
  refine ⟨gEx, rfl, (by decide : gEx.length ≤ 1000000000), ?_⟩
  rw [a4]
  refine ⟨([97, 47, 42, 42], [97]), rfl, ⟨by decide, by decide⟩, ?_⟩
  rw [a5]
  refine ⟨([97, 47, 42, 42], [97, 47, 98]), rfl, ⟨by decide, by decide⟩, ?_⟩
  rw [a6]
  refine ⟨[97, 47, 42, 42], rfl, (by decide : ([97, 47, 42, 42] : List UInt8).length ≤ 1000000000), ?_⟩
  rw [a7]
  refine ⟨([42, 98], [97, 42]), rfl, ⟨by decide, by decide⟩, ?_⟩
  rw [a8]
  refine ⟨([97, 63, 99], [97, 98, 100]), rfl, ⟨by decide, by decide⟩, ?_⟩
  rw [a9]
  refine ⟨(gEx, [115, 114, 99, 47, 120]), rfl, ⟨by decide, by decide⟩, ?_⟩
  rw [a10]
  refine ⟨(gEx, [108, 105, 98]), rfl, ⟨by decide, by decide⟩, ?_⟩
  rw [a11]
  refine ⟨_, (by first | exact SubSt.refl _ | exact SubTop.refl _), ?_⟩
  rfl

theorem d_whole : Does ir_quiltlaw32_whole C_quiltlaw32_whole := by
  intro (s : List UInt8) hs
  replace hs : s.length ≤ 1000000000 := hs
  refine ⟨s, rfl, hs, ?_⟩
  obtain ⟨ps, hps⟩ : ∃ ps, ps = splitS s := ⟨_, rfl⟩
  have hcnt : ps.length ≤ s.length + 1 := by rw [hps]; exact (splitS_le s).2
  have hw : wholeB s = ps.all fun p => !decide (p = []) := by rw [hps]; rfl
  refine ⟨Nat, fun i => i ≤ ps.length ∧ ps.all (fun p => !decide (p = [])) = (ps.drop i).all (fun p => !decide (p = [])), fun i => mks [(6, .sl 0 0 ps.length), (7, .int .i64 ps.length), (8, .int .i64 i)] [(0, .ls false 1 (strs ps))] 1, fun i => ps.length - i, 0, ⟨Nat.zero_le _, rfl⟩, ?_, ?_⟩
  · refine sub_ren [0] rfl (by decide) ⟨⟨_, rfl, ⟨0, rfl, eSl ?_⟩⟩, ⟨_, rfl, eI ?_⟩, ⟨_, rfl, rfl⟩, trivial⟩ ⟨⟨0, _, rfl, rfl, ?_⟩, trivial⟩
    · show (splitS s).length = _; rw [hps]
    · show (((splitS s).length : Nat) : Int) = _; rw [hps]
    · exact ⟨_, rfl, eN (nnl_strs _) (by rw [hps]; rfl)⟩
  · rintro i ⟨hi, hc⟩
    refine cond_split (fun h => ?_) (fun h => ?_)
    · have hT : (i : Int) < ps.length := of_decide_eq_true h
      have hlt : i < ps.length := by omega
      refine And.intro ⟨rfl, by omega, by omega⟩ ?_
      refine ⟨.str (ps[i]'hlt), ?_, ?_⟩
      · have e0 : (0 + (i : Int).toNat) * 1 = i := by omega
        rw [e0, strs_get hlt, List.getD, List.getElem?_eq_getElem hlt]; rfl
      have hd : (ps.drop i).all (fun p => !decide (p = [])) = (!decide (ps[i]'hlt = []) && (ps.drop (i + 1)).all (fun p => !decide (p = []))) := by rw [List.drop_eq_getElem_cons hlt, List.all_cons]
      refine cond_split (fun h => ?_) (fun h => ?_)
      · have he : (ps[i]'hlt) = [] := of_decide_eq_true h
        refine ⟨_, (by first | exact SubSt.refl _ | exact SubTop.refl _), ?_⟩
        show AV.bool false = AV.bool (wholeB s)
        rw [hw, hc, hd, decide_eq_true he]; rfl
      · have he : ¬ (ps[i]'hlt) = [] := of_decide_eq_false h
        refine And.intro (by omega) ?_
        refine ⟨i + 1, ⟨hlt, by rw [hc, hd, decide_eq_false he]; rfl⟩, by dsimp only; omega, ?_⟩
        refine sub_ren [0] rfl (by decide) ⟨⟨_, rfl, ⟨0, rfl, rfl⟩⟩, ⟨_, rfl, rfl⟩, ⟨_, rfl, eI (by omega)⟩, trivial⟩ ⟨⟨0, _, rfl, rfl, ?_⟩, trivial⟩
        exact ⟨_, rfl, eN (nnl_strs _) rfl⟩
    · have hF : ¬ (i : Int) < ps.length := of_decide_eq_false h
      refine ⟨_, (by first | exact SubSt.refl _ | exact SubTop.refl _), ?_⟩
      show AV.bool true = AV.bool (wholeB s)
      rw [hw, hc, List.drop_of_length_le (by omega)]
      rfl

theorem quote_step {s : List UInt8} {i : Nat} (h : i < s.length) : quoteS (s.take (i + 1)) = quoteS (s.take i) ++ (if (s.getD i 0) = 47 then [s.getD i 0] else [92, s.getD i 0]) := by
  have e : s.take (i + 1) = s.take i ++ [s.getD i 0] := by
    rw [List.take_succ_eq_append_getElem h]; simp [List.getD, h]
  rw [e, quote_app]
  congr 1
  generalize s.getD i 0 = c
  by_cases h47 : c = 47
  · subst h47; rfl
  · rw [if_neg h47]
    simp [quoteS, h47]

theorem d_quoted : Does ir_quiltlaw32_quoted C_quiltlaw32_quoted := by
  intro (s : List UInt8) hs
  replace hs : s.length ≤ 1000000000 := hs
  refine ⟨Nat, fun i => i ≤ s.length, fun i => mks [(0, .str s), (3, .sl 0 0 (quoteS (s.take i)).length), (7, .int .i64 s.length), (8, .int .i64 i)] [(0, .ls false 1 (bys (quoteS (s.take i))))] 1, fun i => s.length - i, 0, Nat.zero_le _, ?_, ?_⟩
  · refine sub_ren [0] rfl (by decide) ⟨⟨_, rfl, rfl⟩, ⟨_, rfl, ⟨0, rfl, rfl⟩⟩, ⟨_, rfl, rfl⟩, ⟨_, rfl, rfl⟩, trivial⟩ ⟨⟨0, _, rfl, rfl, ⟨_, rfl, eB rfl⟩⟩, trivial⟩
  · intro i hi
    have ql : (quoteS (s.take i)).length ≤ 2 * s.length := by
      have := quote_len (s.take i)
      rw [List.length_take] at this; omega
    refine cond_split (fun h => ?_) (fun h => ?_)
    · have hT : (i : Int) < s.length := of_decide_eq_true h
      have hlt : i < s.length := by omega
      obtain ⟨c, hc⟩ : ∃ c, c = s.getD i 0 := ⟨_, rfl⟩
      have qs := quote_step hlt
      rw [← hc] at qs
      have e0 : (i : Int).toNat = i := by omega
      refine And.intro (by omega) ?_
      obtain ⟨pre, hpre⟩ : ∃ pre : List UInt8, pre = quoteS (s.take i) ++ (if c = 47 then [] else [92]) := ⟨_, rfl⟩
      have hpl : pre.length ≤ 2 * s.length + 1 := by
        rw [hpre, List.length_append]; split <;> simp <;> omega
      refine jn_at (fun _ : Unit => mks [(0, .str s), (3, .sl 0 0 pre.length), (4, .int .i64 i), (7, .int .i64 s.length), (8, .int .i64 i)] [(0, .ls false 1 (bys pre))] 1) (fun _ => True) ?_ ?_
      · refine cond_split (fun h => ?_) (fun h => ?_)
        · have h' : (!decide (((s.getD (i : Int).toNat 0).toNat : Int) = ((47 : Nat) : Int))) = true := h
          rw [e0, ← hc, dec_u8k c 47 (by decide)] at h'
          have hne : ¬ c = 47 := by
            intro e; rw [e] at h'; cases h'
          refine And.intro ⟨(show (0 : Nat) ≠ 1 by decide), rfl, rfl, rfl, (by rw [bys_length]; omega), (show (0 + 1) * 1 ≤ 1 by decide), bys_all [92], by omega⟩ ?_
          refine ⟨_, rfl, ?_⟩
          have e1 : quoteS (s.take i) ++ [92] = pre := by rw [hpre, if_neg hne]
          refine ⟨(), trivial, ?_⟩
          refine sub_ren [2] rfl (by decide) ⟨⟨_, rfl, rfl⟩, ⟨_, rfl, ⟨2, rfl, eSl ?_⟩⟩, ⟨_, rfl, rfl⟩, ⟨_, rfl, rfl⟩, ⟨_, rfl, rfl⟩, trivial⟩ ⟨⟨2, _, rfl, rfl, ?_⟩, trivial⟩
          · show _ + (1 : Nat) = _; rw [← e1, List.length_append]; rfl
          · exact ⟨_, rfl, eB (by rw [← e1, bys_app]; rfl)⟩
        · have h' : (!decide (((s.getD (i : Int).toNat 0).toNat : Int) = ((47 : Nat) : Int))) = false := h
          rw [e0, ← hc, dec_u8k c 47 (by decide)] at h'
          have he : c = 47 := by
            have : (c == UInt8.ofNat 47) = true := by simpa using h'
            exact eq_of_beq this
          have e1 : quoteS (s.take i) = pre := by rw [hpre, if_pos he, List.append_nil]
          refine ⟨(), trivial, ?_⟩
          refine sub_ren [0] rfl (by decide) ⟨⟨_, rfl, rfl⟩, ⟨_, rfl, ⟨0, rfl, eSl ?_⟩⟩, ⟨_, rfl, rfl⟩, ⟨_, rfl, rfl⟩, ⟨_, rfl, rfl⟩, trivial⟩ ⟨⟨0, _, rfl, rfl, ?_⟩, trivial⟩
          · rw [e1]
          · exact ⟨_, rfl, eB (by rw [e1])⟩
      · rintro _ _
        refine And.intro (by omega) ?_
        refine And.intro ⟨(show (0 : Nat) ≠ 1 by decide), rfl, rfl, rfl, (by rw [bys_length]; omega), (show (0 + 1) * 1 ≤ 1 by decide), ?_, by omega⟩ ?_
        · exact bys_all [s.getD (i : Int).toNat 0]
        refine ⟨_, rfl, ?_⟩
        refine And.intro (by omega) ?_
        have e2 : pre ++ [c] = quoteS (s.take (i + 1)) := by
          rw [qs, hpre]
          by_cases h47 : c = 47
          · rw [if_pos h47, if_pos h47]; simp
          · rw [if_neg h47, if_neg h47]; simp
        refine ⟨i + 1, hlt, by dsimp only; omega, ?_⟩
        refine sub_ren [2] rfl (by decide) ⟨⟨_, rfl, rfl⟩, ⟨_, rfl, ⟨2, rfl, eSl ?_⟩⟩, ⟨_, rfl, rfl⟩, ⟨_, rfl, eI (by omega)⟩, trivial⟩ ⟨⟨2, _, rfl, rfl, ?_⟩, trivial⟩
        · show pre.length + (1 : Nat) = _; rw [← e2, List.length_append]; rfl
        · refine ⟨_, rfl, eB ?_⟩
          rw [← e2, bys_app, hc, ← e0]; rfl
    · have hF : ¬ (i : Int) < s.length := of_decide_eq_false h
      have : i = s.length := by omega
      subst this
      rw [List.take_of_length_le (Nat.le_refl _)] at ql
      refine And.intro rfl ?_
      refine ⟨quoteS (s.take s.length), ⟨(tda (bys_length _)).symm, rfl⟩, ?_⟩
      refine ⟨_, (by first | exact SubSt.refl _ | exact SubTop.refl _), ?_⟩
      show AV.str (quoteS (s.take s.length)) = AV.str (quoteS s)
      rw [List.take_of_length_le (Nat.le_refl _)]

end Qk

/-
  Chapter 32: the statements.
-/
namespace Qk
open Go Go.RowKit

theorem long_cases (l : List (List UInt8)) : (l.any fun s => decide (250 < s.length)) = true ∨ (l.any fun s => decide (250 < s.length)) = false ∧ ∀ s ∈ l, s.length ≤ 250 := by
  cases h : l.any fun s => decide (250 < s.length) with
  | true => exact .inl rfl
  | false =>
    refine .inr ⟨rfl, fun s hs => ?_⟩
    have := List.any_eq_false.1 h s hs
    simpa using this

set_option maxRecDepth 4000 in
set_option maxHeartbeats 2000000 in
theorem d_GlobMatch : Does ir_quiltlaw32_GlobMatch C_law2 := by
  rintro ⟨g, p⟩ _
  refine And.intro (show (0 + 2) * 1 ≤ 2 by decide) (And.intro (nnl_strs [g, p]) ⟨[g, p], rfl, by show 2 ≤ _; decide, (plain_bool _), ?_⟩)
  rcases long_cases [g, p] with hl | ⟨hl, hs⟩
  · skip
    repeat ((conv => whnf); first | refine ⟨(), rfl, trivial, ?_⟩ | refine cond_t (by first | (simp only [hl, eq_self]; done) | fail) ?_ | refine cond_f (by first | (simp only [hl, cond_true, cond_false, Bool.not_true, Bool.not_false, eq_self, decide_true, decide_false]; done) | fail) ?_ | refine And.intro (by omega) ?_ | refine And.intro ⟨rfl, by omega, by omega⟩ ?_ | refine And.intro ⟨rfl, by decide, by omega, by omega⟩ ?_)
    refine ⟨_, (by first | exact SubSt.refl _ | exact SubTop.refl _), ?_⟩
    exact congrArg AV.bool (by first | rfl | (simp only [hl, cond_true, cond_false, Bool.not_true, Bool.not_false, eq_self, decide_true, decide_false, beq_self_eq_true]; done))
  · have kg : g.length ≤ 1000000000 := Nat.le_trans (hs g (by simp)) (by decide)
    have kp : p.length ≤ 1000000000 := Nat.le_trans (hs p (by simp)) (by decide)
    skip
    repeat ((conv => whnf); first | refine ⟨(), rfl, trivial, ?_⟩ | refine ⟨(g, p), rfl, ⟨kg, kp⟩, ?_⟩ | refine cond_t (by first | (simp only [hl, cond_true, cond_false, Bool.not_true, eq_self, decide_true]; done) | fail) ?_ | refine cond_f (by first | (simp only [hl, eq_self]; done) | fail) ?_ | refine And.intro (by omega) ?_ | refine And.intro ⟨rfl, by omega, by omega⟩ ?_ | refine And.intro ⟨rfl, by decide, by omega, by omega⟩ ?_)
    refine ⟨_, (by first | exact SubSt.refl _ | exact SubTop.refl _), ?_⟩
    exact congrArg AV.bool (by first | rfl | (simp only [hl, cond_true, cond_false, Bool.not_true, eq_self, decide_true]; done))

set_option maxRecDepth 4000 in
set_option maxHeartbeats 2000000 in
theorem d_GlobOverlap : Does ir_quiltlaw32_GlobOverlap C_law2 := by
  rintro ⟨a, b⟩ _
  refine And.intro (show (0 + 2) * 1 ≤ 2 by decide) (And.intro (nnl_strs [a, b]) ⟨[a, b], rfl, by show 2 ≤ _; decide, (plain_bool _), ?_⟩)
  rcases long_cases [a, b] with hl | ⟨hl, hs⟩
  · skip
    repeat ((conv => whnf); first | refine ⟨(), rfl, trivial, ?_⟩ | refine cond_t (by first | (simp only [hl, eq_self]; done) | fail) ?_ | refine cond_f (by first | (simp only [hl, cond_true, cond_false, Bool.not_true, Bool.not_false, eq_self, decide_true, decide_false]; done) | fail) ?_ | refine And.intro (by omega) ?_ | refine And.intro ⟨rfl, by omega, by omega⟩ ?_ | refine And.intro ⟨rfl, by decide, by omega, by omega⟩ ?_)
    refine ⟨_, (by first | exact SubSt.refl _ | exact SubTop.refl _), ?_⟩
    exact congrArg AV.bool (by first | rfl | (simp only [hl, cond_true, cond_false, Bool.not_true, Bool.not_false, eq_self, decide_true, decide_false, beq_self_eq_true]; done))
  · have ka : a.length ≤ 1000000000 := Nat.le_trans (hs a (by simp)) (by decide)
    have kb : b.length ≤ 1000000000 := Nat.le_trans (hs b (by simp)) (by decide)
    skip
    repeat ((conv => whnf); first | refine ⟨(), rfl, trivial, ?_⟩ | refine ⟨(a, b), rfl, ⟨ka, kb⟩, ?_⟩ | refine cond_t (by first | (simp only [hl, cond_false, Bool.not_true, eq_self, decide_true]; done) | fail) ?_ | refine cond_f (by first | (simp only [hl, eq_self]; done) | fail) ?_ | refine And.intro (by omega) ?_ | refine And.intro ⟨rfl, by omega, by omega⟩ ?_ | refine And.intro ⟨rfl, by decide, by omega, by omega⟩ ?_)
    refine ⟨_, (by first | exact SubSt.refl _ | exact SubTop.refl _), ?_⟩
    exact congrArg AV.bool (by first | rfl | (simp only [hl, cond_true, cond_false, Bool.not_true, eq_self, decide_true]; done))

set_option maxRecDepth 4000 in
set_option maxHeartbeats 2000000 in
theorem d_GlobCheck : Does ir_quiltlaw32_GlobCheck C_law1 := by
  intro (g : List UInt8) _
  refine And.intro (show (0 + 1) * 1 ≤ 1 by decide) (And.intro (nnl_strs [g]) ⟨[g], rfl, by show 1 ≤ _; decide, (plain_bool _), ?_⟩)
  rcases long_cases [g] with hl | ⟨hl, hs⟩
  · skip
    repeat ((conv => whnf); first | refine ⟨(), rfl, trivial, ?_⟩ | refine cond_t (by first | (simp only [hl, eq_self]; done) | fail) ?_ | refine cond_f (by first | (simp only [hl, cond_true, cond_false, Bool.not_true, Bool.not_false, eq_self, decide_true, decide_false]; done) | fail) ?_ | refine And.intro (by omega) ?_ | refine And.intro ⟨rfl, by omega, by omega⟩ ?_ | refine And.intro ⟨rfl, by decide, by omega, by omega⟩ ?_)
    refine ⟨_, (by first | exact SubSt.refl _ | exact SubTop.refl _), ?_⟩
    exact congrArg AV.bool (by first | rfl | (simp only [hl, cond_true, cond_false, Bool.not_true, Bool.not_false, eq_self, decide_true, decide_false, beq_self_eq_true]; done))
  · have kg : g.length ≤ 1000000000 := Nat.le_trans (hs g (by simp)) (by decide)
    skip
    repeat ((conv => whnf); first | refine ⟨(), rfl, trivial, ?_⟩ | refine ⟨g, rfl, kg, ?_⟩ | refine cond_t (by first | (simp only [hl, cond_true, cond_false, eq_self, decide_true]; done) | fail) ?_ | refine cond_f (by first | (simp only [hl, eq_self]; done) | fail) ?_ | refine And.intro (by omega) ?_ | refine And.intro ⟨rfl, by omega, by omega⟩ ?_ | refine And.intro ⟨rfl, by decide, by omega, by omega⟩ ?_)
    refine ⟨_, (by first | exact SubSt.refl _ | exact SubTop.refl _), ?_⟩
    exact congrArg AV.bool (by first | rfl | (simp only [hl, cond_true, cond_false, eq_self, decide_true]; done))

set_option maxRecDepth 4000 in
set_option maxHeartbeats 2000000 in
theorem d_GlobDeep : Does ir_quiltlaw32_GlobDeep C_law3 := by
  rintro ⟨g, p, m⟩ _
  rcases Bool.eq_false_or_eq_true (decide ((190 : Int) < g.length)) with c1 | c1
  · skip
    repeat ((conv => whnf); first | refine ⟨(), rfl, trivial, ?_⟩ | refine cond_t (by first | (simp only [c1, eq_self]; done) | fail) ?_ | refine cond_f (by first | (simp only [c1, cond_true, cond_false, Bool.not_true, Bool.not_false, eq_self, decide_true, decide_false]; done) | fail) ?_ | refine And.intro (by omega) ?_ | refine And.intro ⟨rfl, by omega, by omega⟩ ?_ | refine And.intro ⟨rfl, by decide, by omega, by omega⟩ ?_)
    refine ⟨_, (by first | exact SubSt.refl _ | exact SubTop.refl _), ?_⟩
    exact congrArg AV.bool (by first | rfl | (simp only [c1, cond_true, cond_false, Bool.not_true, Bool.not_false, eq_self, decide_true, decide_false, beq_self_eq_true]; done))
  · skip
    rcases Bool.eq_false_or_eq_true (decide ((120 : Int) < p.length)) with c2 | c2
    · skip
      repeat ((conv => whnf); first | refine ⟨(), rfl, trivial, ?_⟩ | refine cond_t (by first | (simp only [c1,  c2, cond_false, eq_self]; done) | fail) ?_ | refine cond_f (by first | (simp only [c1,  eq_self]; done) | fail) ?_ | refine And.intro (by omega) ?_ | refine And.intro ⟨rfl, by omega, by omega⟩ ?_ | refine And.intro ⟨rfl, by decide, by omega, by omega⟩ ?_)
      refine ⟨_, (by first | exact SubSt.refl _ | exact SubTop.refl _), ?_⟩
      exact congrArg AV.bool (by first | rfl | (simp only [c1, c2, cond_true, cond_false, Bool.not_true, Bool.not_false, eq_self, decide_true, decide_false, beq_self_eq_true]; done))
    · skip
      rcases Bool.eq_false_or_eq_true (decide ((120 : Int) < m.length)) with c3 | c3
      · skip
        repeat ((conv => whnf); first | refine ⟨(), rfl, trivial, ?_⟩ | refine cond_t (by first | (simp only [c1,  c2,  c3, cond_false, eq_self]; done) | fail) ?_ | refine cond_f (by first | (simp only [c1,  c2,  cond_false, eq_self]; done) | fail) ?_ | refine And.intro (by omega) ?_ | refine And.intro ⟨rfl, by omega, by omega⟩ ?_ | refine And.intro ⟨rfl, by decide, by omega, by omega⟩ ?_)
        refine ⟨_, (by first | exact SubSt.refl _ | exact SubTop.refl _), ?_⟩
        exact congrArg AV.bool (by first | rfl | (simp only [c1, c2, c3, cond_true, cond_false, Bool.not_true, Bool.not_false, eq_self, decide_true, decide_false, beq_self_eq_true]; done))
      · skip
        have kg : g.length ≤ 1000000000 := by have := of_decide_eq_false c1; omega
        have kp : p.length ≤ 1000000000 := by have := of_decide_eq_false c2; omega
        have km : m.length ≤ 1000000000 := by have := of_decide_eq_false c3; omega
        rcases Bool.eq_false_or_eq_true (decide ((47 : UInt8) ∈ m)) with c4 | c4
        · skip
          repeat ((conv => whnf); first | refine ⟨(), rfl, trivial, ?_⟩ | refine ⟨(m, 47), rfl, km, ?_⟩ | refine cond_t (by first | (simp only [c1,  c2,  c3,  c4, cond_false, eq_self]; done) | fail) ?_ | refine cond_f (by first | (simp only [c1,  c2,  c3,  cond_false, eq_self]; done) | fail) ?_ | refine And.intro (by omega) ?_ | refine And.intro ⟨rfl, by omega, by omega⟩ ?_ | refine And.intro ⟨rfl, by decide, by omega, by omega⟩ ?_)
          refine ⟨_, (by first | exact SubSt.refl _ | exact SubTop.refl _), ?_⟩
          exact congrArg AV.bool (by first | rfl | (simp only [c1, c2, c3, c4, cond_true, cond_false, Bool.not_true, Bool.not_false, eq_self, decide_true, decide_false, beq_self_eq_true]; done))
        · skip
          rcases Bool.eq_false_or_eq_true (decide (m = [])) with c5 | c5
          · skip
            repeat ((conv => whnf); first | refine ⟨(), rfl, trivial, ?_⟩ | refine ⟨(m, 47), rfl, km, ?_⟩ | refine cond_t (by first | (simp only [c1,  c2,  c3,  c4,  c5, cond_false, eq_self]; done) | fail) ?_ | refine cond_f (by first | (simp only [c1,  c2,  c3,  c4,  cond_false, eq_self]; done) | fail) ?_ | refine And.intro (by omega) ?_ | refine And.intro ⟨rfl, by omega, by omega⟩ ?_ | refine And.intro ⟨rfl, by decide, by omega, by omega⟩ ?_)
            refine ⟨_, (by first | exact SubSt.refl _ | exact SubTop.refl _), ?_⟩
            exact congrArg AV.bool (by first | rfl | (simp only [c1, c2, c3, c4, c5, cond_true, cond_false, Bool.not_true, Bool.not_false, eq_self, decide_true, decide_false, beq_self_eq_true]; done))
          · skip
            rcases Bool.eq_false_or_eq_true (decide (p = [])) with c6 | c6
            · skip
              repeat ((conv => whnf); first | refine ⟨(), rfl, trivial, ?_⟩ | refine ⟨(m, 47), rfl, km, ?_⟩ | refine cond_t (by first | (simp only [c1,  c2,  c3,  c4,  c5,  c6, cond_false, eq_self]; done) | fail) ?_ | refine cond_f (by first | (simp only [c1,  c2,  c3,  c4,  c5,  cond_false, eq_self]; done) | fail) ?_ | refine And.intro (by omega) ?_ | refine And.intro ⟨rfl, by omega, by omega⟩ ?_ | refine And.intro ⟨rfl, by decide, by omega, by omega⟩ ?_)
              refine ⟨_, (by first | exact SubSt.refl _ | exact SubTop.refl _), ?_⟩
              exact congrArg AV.bool (by first | rfl | (simp only [c1, c2, c3, c4, c5, c6, cond_true, cond_false, Bool.not_true, Bool.not_false, eq_self, decide_true, decide_false, beq_self_eq_true]; done))
            · skip
              rcases Bool.eq_false_or_eq_true (matchG g p) with c7 | c7
              rotate_left
              · skip
                repeat ((conv => whnf); first | refine ⟨(), rfl, trivial, ?_⟩ | refine ⟨(m, 47), rfl, km, ?_⟩ | refine ⟨(g, p), rfl, ⟨kg, kp⟩, ?_⟩ | refine cond_t (by first | (simp only [c1,  c2,  c3,  c4,  c5,  c6,  c7, cond_false, Bool.not_false, eq_self]; done) | fail) ?_ | refine cond_f (by first | (simp only [c1,  c2,  c3,  c4,  c5,  c6,  cond_false, eq_self]; done) | fail) ?_ | refine And.intro (by omega) ?_ | refine And.intro ⟨rfl, by omega, by omega⟩ ?_ | refine And.intro ⟨rfl, by decide, by omega, by omega⟩ ?_)
                refine ⟨_, (by first | exact SubSt.refl _ | exact SubTop.refl _), ?_⟩
                exact congrArg AV.bool (by first | rfl | (simp only [c1, c2, c3, c4, c5, c6, c7, cond_true, cond_false, Bool.not_true, Bool.not_false, eq_self, decide_true, decide_false, beq_self_eq_true]; done))
              · skip
                have hm : NoSl m := fun c hc e => of_decide_eq_false c4 (by rw [← e]; exact hc)
                have hg : g.length ≤ 190 := by have := of_decide_eq_false c1; omega
                have hp : p.length ≤ 120 := by have := of_decide_eq_false c2; omega
                have hm2 : m.length ≤ 120 := by have := of_decide_eq_false c3; omega
                obtain ⟨d1, d2⟩ := law_deep hg hm (of_decide_eq_false c6) c7
                have kg' : ([42, 42, 47] ++ g).length ≤ 1000000000 := by simp; omega
                have kq : (m ++ [47] ++ p).length ≤ 1000000000 := by simp; omega
                have d1' : matchG ([42, 42, 47] ++ g) p = true := d1
                have d2' : matchG ([42, 42, 47] ++ g) (m ++ [47] ++ p) = true := by rw [List.append_assoc]; exact d2
                have r1 : ([42, 42, 47] : List UInt8).length + g.length ≤ 9223372036854775807 := by simp; omega
                have r2 : m.length + ([47] : List UInt8).length ≤ 9223372036854775807 := by simp; omega
                have r3 : (m ++ [47]).length + p.length ≤ 9223372036854775807 := by simp; omega
                repeat ((conv => whnf); first | refine ⟨(), rfl, trivial, ?_⟩ | refine ⟨(m, 47), rfl, km, ?_⟩ | refine ⟨(g, p), rfl, ⟨kg, kp⟩, ?_⟩ | refine ⟨([42, 42, 47] ++ g, p), rfl, ⟨kg', kp⟩, ?_⟩ | refine ⟨([42, 42, 47] ++ g, m ++ [47] ++ p), rfl, ⟨kg', kq⟩, ?_⟩ | refine And.intro r1 ?_ | refine And.intro r2 ?_ | refine And.intro r3 ?_ | refine cond_t (by first | (simp only [c1,  c2,  c3,  c4,  c5,  c6,  c7,  d1',  d2', cond_true, cond_false, Bool.not_true, eq_self]; done) | fail) ?_ | refine cond_f (by first | (simp only [c1,  c2,  c3,  c4,  c5,  c6,  c7,   cond_false, Bool.not_true, eq_self]; done) | fail) ?_ | refine And.intro (by omega) ?_ | refine And.intro ⟨rfl, by omega, by omega⟩ ?_ | refine And.intro ⟨rfl, by decide, by omega, by omega⟩ ?_)
                refine ⟨_, (by first | exact SubSt.refl _ | exact SubTop.refl _), ?_⟩
                exact congrArg AV.bool (by first | rfl | (simp only [d1', d2', cond_true, eq_self]; done))

end Qk

/-
  Chapter 32: the statements.
-/
namespace Qk
open Go Go.RowKit

set_option maxRecDepth 4000 in
set_option maxHeartbeats 2000000 in
theorem d_GlobQuoted : Does ir_quiltlaw32_GlobQuoted C_law2 := by
  rintro ⟨p, o⟩ _
  rcases Bool.eq_false_or_eq_true (decide ((100 : Int) < p.length)) with c1 | c1
  · skip
    repeat ((conv => whnf); first | refine ⟨(), rfl, trivial, ?_⟩ | refine cond_t (by first | (simp only [c1, eq_self]; done) | fail) ?_ | refine cond_f (by first | (simp only [c1, cond_true, cond_false, Bool.not_true, Bool.not_false, eq_self, decide_true, decide_false]; done) | fail) ?_ | refine And.intro (by omega) ?_ | refine And.intro ⟨rfl, by omega, by omega⟩ ?_ | refine And.intro ⟨rfl, by decide, by omega, by omega⟩ ?_)
    refine ⟨_, (by first | exact SubSt.refl _ | exact SubTop.refl _), ?_⟩
    exact congrArg AV.bool (by first | rfl | (simp only [c1, cond_true, cond_false, Bool.not_true, Bool.not_false, eq_self, decide_true, decide_false, beq_self_eq_true]; done))
  · skip
    have kp : p.length ≤ 1000000000 := by have := of_decide_eq_false c1; omega
    rcases long_cases [o] with hl | ⟨hl, hs⟩
    · skip
      repeat ((conv => whnf); first | refine ⟨(), rfl, trivial, ?_⟩ | refine And.intro (show (0 + 1) * 1 ≤ 1 by decide) (And.intro (nnl_strs [o]) ⟨[o], rfl, (by show 1 ≤ _; decide), (plain_bool _), ?_⟩) | refine cond_t (by first | (simp only [c1,  hl, cond_false, eq_self]; done) | fail) ?_ | refine cond_f (by first | (simp only [c1,  eq_self]; done) | fail) ?_ | refine And.intro (by omega) ?_ | refine And.intro ⟨rfl, by omega, by omega⟩ ?_ | refine And.intro ⟨rfl, by decide, by omega, by omega⟩ ?_)
      refine ⟨_, (by first | exact SubSt.refl _ | exact SubTop.refl _), ?_⟩
      exact congrArg AV.bool (by first | rfl | (simp only [c1, hl, cond_true, cond_false, Bool.not_true, Bool.not_false, eq_self, decide_true, decide_false, beq_self_eq_true]; done))
    · skip
      have ko : o.length ≤ 1000000000 := Nat.le_trans (hs o (by simp)) (by decide)
      rcases Bool.eq_false_or_eq_true (wholeB p) with c3 | c3
      rotate_left
      · skip
        repeat ((conv => whnf); first | refine ⟨(), rfl, trivial, ?_⟩ | refine And.intro (show (0 + 1) * 1 ≤ 1 by decide) (And.intro (nnl_strs [o]) ⟨[o], rfl, (by show 1 ≤ _; decide), (plain_bool _), ?_⟩) | refine ⟨p, rfl, kp, ?_⟩ | refine cond_t (by first | (simp only [c1,  hl,  c3, cond_false, Bool.not_false, eq_self]; done) | fail) ?_ | refine cond_f (by first | (simp only [c1,  hl,  cond_false, eq_self]; done) | fail) ?_ | refine And.intro (by omega) ?_ | refine And.intro ⟨rfl, by omega, by omega⟩ ?_ | refine And.intro ⟨rfl, by decide, by omega, by omega⟩ ?_)
        refine ⟨_, (by first | exact SubSt.refl _ | exact SubTop.refl _), ?_⟩
        exact congrArg AV.bool (by first | rfl | (simp only [c1, hl, c3, cond_true, cond_false, Bool.not_true, Bool.not_false, eq_self, decide_true, decide_false, beq_self_eq_true]; done))
      · skip
        have hp : p.length ≤ 100 := by have := of_decide_eq_false c1; omega
        obtain ⟨q0, q2, q3, q4, q5⟩ := law_quoted (other := o) hp c3
        have q1 : decide (((quoteS p).length : Int) ≤ 200) = true := decide_eq_true (by omega)
        have kq : (quoteS p).length ≤ 1000000000 := by omega
        repeat ((conv => whnf); first | refine ⟨(), rfl, trivial, ?_⟩ | refine And.intro (show (0 + 1) * 1 ≤ 1 by decide) (And.intro (nnl_strs [o]) ⟨[o], rfl, (by show 1 ≤ _; decide), (plain_bool _), ?_⟩) | refine ⟨p, rfl, kp, ?_⟩ | refine ⟨quoteS p, rfl, kq, ?_⟩ | refine ⟨(quoteS p, p), rfl, ⟨kq, kp⟩, ?_⟩ | refine ⟨(quoteS p, o), rfl, ⟨kq, ko⟩, ?_⟩ | refine cond_t (by first | (simp only [c1,  hl,  c3,  q1,  q2,  q3,  q4,  q5, cond_true, cond_false, Bool.not_true, eq_self, decide_true]; done) | fail) ?_ | refine cond_f (by first | (simp only [c1,  hl,  c3,      cond_false, Bool.not_true, eq_self]; done) | fail) ?_ | refine And.intro (by omega) ?_ | refine And.intro ⟨rfl, by omega, by omega⟩ ?_ | refine And.intro ⟨rfl, by decide, by omega, by omega⟩ ?_)
        refine ⟨_, (by first | exact SubSt.refl _ | exact SubTop.refl _), ?_⟩
        exact congrArg AV.bool (by first | rfl | (simp only [q1, q2, q3, q4, q5, cond_true, cond_false, Bool.not_true, eq_self, decide_true]; done))

set_option maxRecDepth 4000 in
set_option maxHeartbeats 2000000 in
theorem d_GlobMeets : Does ir_quiltlaw32_GlobMeets C_law3 := by
  rintro ⟨a, b, p⟩ _
  refine And.intro (show (0 + 3) * 1 ≤ 3 by decide) (And.intro (nnl_strs [a, b, p]) ⟨[a, b, p], rfl, by show 3 ≤ _; decide, (plain_bool _), ?_⟩)
  rcases long_cases [a, b, p] with hl | ⟨hl, hs⟩
  · skip
    repeat ((conv => whnf); first | refine ⟨(), rfl, trivial, ?_⟩ | refine cond_t (by first | (simp only [hl, eq_self]; done) | fail) ?_ | refine cond_f (by first | (simp only [hl, cond_true, cond_false, Bool.not_true, Bool.not_false, eq_self, decide_true, decide_false]; done) | fail) ?_ | refine And.intro (by omega) ?_ | refine And.intro ⟨rfl, by omega, by omega⟩ ?_ | refine And.intro ⟨rfl, by decide, by omega, by omega⟩ ?_)
    refine ⟨_, (by first | exact SubSt.refl _ | exact SubTop.refl _), ?_⟩
    exact congrArg AV.bool (by first | rfl | (simp only [hl, cond_true, cond_false, Bool.not_true, Bool.not_false, eq_self, decide_true, decide_false, beq_self_eq_true]; done))
  · skip
    have ka : a.length ≤ 1000000000 := Nat.le_trans (hs a (by simp)) (by decide)
    have kb : b.length ≤ 1000000000 := Nat.le_trans (hs b (by simp)) (by decide)
    have kp : p.length ≤ 1000000000 := Nat.le_trans (hs p (by simp)) (by decide)
    have os := over_symm b a
    have oi := over_self a
    rcases Bool.eq_false_or_eq_true (matchG a p) with c1 | c1
    · skip
      rcases Bool.eq_false_or_eq_true (matchG b p) with c2 | c2
      · skip
        have o1 := over_of c1 c2
        rw [o1] at os
        repeat ((conv => whnf); first | refine ⟨(), rfl, trivial, ?_⟩ | refine ⟨(a, p), rfl, ⟨ka, kp⟩, ?_⟩ | refine ⟨(b, p), rfl, ⟨kb, kp⟩, ?_⟩ | refine ⟨(a, b), rfl, ⟨ka, kb⟩, ?_⟩ | refine ⟨(b, a), rfl, ⟨kb, ka⟩, ?_⟩ | refine ⟨(a, a), rfl, ⟨ka, ka⟩, ?_⟩ | refine ⟨a, rfl, ka, ?_⟩ | refine cond_t (by first | (simp only [hl,  c1,  c2,  o1,  os,  oi, cond_true, cond_false, Bool.not_true, eq_self, decide_true]; done) | fail) ?_ | refine cond_f (by first | (simp only [hl,  c1,  c2,  o1,   cond_true, Bool.not_true, eq_self]; done) | fail) ?_ | refine And.intro (by omega) ?_ | refine And.intro ⟨rfl, by omega, by omega⟩ ?_ | refine And.intro ⟨rfl, by decide, by omega, by omega⟩ ?_)
        refine ⟨_, (by first | exact SubSt.refl _ | exact SubTop.refl _), ?_⟩
        exact congrArg AV.bool (by first | rfl | (simp only [o1, os, oi, cond_true, cond_false, Bool.not_true, eq_self, decide_true]; done))
      · skip
        repeat ((conv => whnf); first | refine ⟨(), rfl, trivial, ?_⟩ | refine ⟨(a, p), rfl, ⟨ka, kp⟩, ?_⟩ | refine ⟨(b, p), rfl, ⟨kb, kp⟩, ?_⟩ | refine ⟨(a, b), rfl, ⟨ka, kb⟩, ?_⟩ | refine ⟨(b, a), rfl, ⟨kb, ka⟩, ?_⟩ | refine ⟨(a, a), rfl, ⟨ka, ka⟩, ?_⟩ | refine ⟨a, rfl, ka, ?_⟩ | refine cond_t (by first | (simp only [hl,  c1,  c2,  os,  oi, cond_true, cond_false, Bool.not_true, eq_self, decide_true]; done) | fail) ?_ | refine cond_f (by first | (simp only [hl,  c1,  c2,   cond_true, eq_self]; done) | fail) ?_ | refine And.intro (by omega) ?_ | refine And.intro ⟨rfl, by omega, by omega⟩ ?_ | refine And.intro ⟨rfl, by decide, by omega, by omega⟩ ?_)
        refine ⟨_, (by first | exact SubSt.refl _ | exact SubTop.refl _), ?_⟩
        exact congrArg AV.bool (by first | rfl | (simp only [os, oi, cond_true, cond_false, Bool.not_true, eq_self, decide_true]; done))
    · skip
      repeat ((conv => whnf); first | refine ⟨(), rfl, trivial, ?_⟩ | refine ⟨(a, p), rfl, ⟨ka, kp⟩, ?_⟩ | refine ⟨(b, p), rfl, ⟨kb, kp⟩, ?_⟩ | refine ⟨(a, b), rfl, ⟨ka, kb⟩, ?_⟩ | refine ⟨(b, a), rfl, ⟨kb, ka⟩, ?_⟩ | refine ⟨(a, a), rfl, ⟨ka, ka⟩, ?_⟩ | refine ⟨a, rfl, ka, ?_⟩ | refine cond_t (by first | (simp only [hl,  c1,  os,  oi, cond_true, cond_false, Bool.not_true, eq_self, decide_true]; done) | fail) ?_ | refine cond_f (by first | (simp only [hl,  c1,   eq_self]; done) | fail) ?_ | refine And.intro (by omega) ?_ | refine And.intro ⟨rfl, by omega, by omega⟩ ?_ | refine And.intro ⟨rfl, by decide, by omega, by omega⟩ ?_)
      refine ⟨_, (by first | exact SubSt.refl _ | exact SubTop.refl _), ?_⟩
      exact congrArg AV.bool (by first | rfl | (simp only [os, oi, cond_true, cond_false, Bool.not_true, eq_self, decide_true]; done))

set_option maxRecDepth 4000 in
set_option maxHeartbeats 2000000 in
theorem d_GlobFixed : Does ir_quiltlaw32_GlobFixed C_law2 := by
  rintro ⟨g, p⟩ _
  refine And.intro (show (0 + 2) * 1 ≤ 2 by decide) (And.intro (nnl_strs [g, p]) ⟨[g, p], rfl, by show 2 ≤ _; decide, (plain_bool _), ?_⟩)
  rcases long_cases [g, p] with hl | ⟨hl, hs⟩
  · skip
    repeat ((conv => whnf); first | refine ⟨(), rfl, trivial, ?_⟩ | refine cond_t (by first | (simp only [hl, eq_self]; done) | fail) ?_ | refine cond_f (by first | (simp only [hl, cond_true, cond_false, Bool.not_true, Bool.not_false, eq_self, decide_true, decide_false]; done) | fail) ?_ | refine And.intro (by omega) ?_ | refine And.intro ⟨rfl, by omega, by omega⟩ ?_ | refine And.intro ⟨rfl, by decide, by omega, by omega⟩ ?_)
    refine ⟨_, (by first | exact SubSt.refl _ | exact SubTop.refl _), ?_⟩
    exact congrArg AV.bool (by first | rfl | (simp only [hl, cond_true, cond_false, Bool.not_true, Bool.not_false, eq_self, decide_true, decide_false, beq_self_eq_true]; done))
  · skip
    have kg : g.length ≤ 1000000000 := Nat.le_trans (hs g (by simp)) (by decide)
    have kp : p.length ≤ 1000000000 := Nat.le_trans (hs p (by simp)) (by decide)
    rcases Bool.eq_false_or_eq_true (matchG g p) with c1 | c1
    · skip
      obtain ⟨⟨r, hr⟩, q2⟩ := law_fixed c1
      have q1 : (fixG g).isPrefixOf p = true := by rw [hr]; exact List.isPrefixOf_iff_prefix.2 (List.prefix_append _ _)
      have kf : (fixG g).length ≤ 1000000000 := by have := congrArg List.length hr; rw [List.length_append] at this; omega
      repeat ((conv => whnf); first | refine ⟨(), rfl, trivial, ?_⟩ | refine ⟨(g, p), rfl, ⟨kg, kp⟩, ?_⟩ | refine ⟨g, rfl, kg, ?_⟩ | refine ⟨(p, fixG g), rfl, ⟨kp, kf⟩, ?_⟩ | refine cond_t (by first | (simp only [hl,  c1,  q1,  q2, cond_true, cond_false, Bool.not_true, eq_self, decide_true]; done) | fail) ?_ | refine cond_f (by first | (simp only [hl,  c1,   cond_false, Bool.not_true, eq_self]; done) | fail) ?_ | refine And.intro (by omega) ?_ | refine And.intro ⟨rfl, by omega, by omega⟩ ?_ | refine And.intro ⟨rfl, by decide, by omega, by omega⟩ ?_)
      refine ⟨_, (by first | exact SubSt.refl _ | exact SubTop.refl _), ?_⟩
      exact congrArg AV.bool (by first | rfl | (simp only [q1, q2, cond_true, eq_self, decide_true]; done))
    · skip
      repeat ((conv => whnf); first | refine ⟨(), rfl, trivial, ?_⟩ | refine ⟨(g, p), rfl, ⟨kg, kp⟩, ?_⟩ | refine cond_t (by first | (simp only [hl,  c1, cond_false, Bool.not_false, eq_self]; done) | fail) ?_ | refine cond_f (by first | (simp only [hl,  eq_self]; done) | fail) ?_ | refine And.intro (by omega) ?_ | refine And.intro ⟨rfl, by omega, by omega⟩ ?_ | refine And.intro ⟨rfl, by decide, by omega, by omega⟩ ?_)
      refine ⟨_, (by first | exact SubSt.refl _ | exact SubTop.refl _), ?_⟩
      exact congrArg AV.bool (by first | rfl | (simp only [hl, c1, cond_true, cond_false, Bool.not_true, Bool.not_false, eq_self, decide_true, decide_false, beq_self_eq_true]; done))

set_option maxRecDepth 4000 in
set_option maxHeartbeats 2000000 in
theorem d_GlobBelow : Does ir_quiltlaw32_GlobBelow C_law3 := by
  rintro ⟨g, d, r⟩ _
  rcases Bool.eq_false_or_eq_true (decide ((250 : Int) < g.length)) with c1 | c1
  · skip
    repeat ((conv => whnf); first | refine ⟨(), rfl, trivial, ?_⟩ | refine ⟨d, rfl, kd, ?_⟩ | refine cond_t (by first | (simp only [c1, eq_self]; done) | fail) ?_ | refine cond_f (by first | (simp only [c1, cond_true, cond_false, Bool.not_true, Bool.not_false, eq_self, decide_true, decide_false]; done) | fail) ?_ | refine And.intro (by omega) ?_ | refine And.intro ⟨rfl, by omega, by omega⟩ ?_ | refine And.intro ⟨rfl, by decide, by omega, by omega⟩ ?_)
    refine ⟨_, (by first | exact SubSt.refl _ | exact SubTop.refl _), ?_⟩
    exact congrArg AV.bool (by first | rfl | (simp only [c1, cond_true, cond_false, Bool.not_true, Bool.not_false, eq_self, decide_true, decide_false, beq_self_eq_true]; done))
  · skip
    rcases Bool.eq_false_or_eq_true (decide ((120 : Int) < d.length)) with c2 | c2
    · skip
      repeat ((conv => whnf); first | refine ⟨(), rfl, trivial, ?_⟩ | refine ⟨d, rfl, kd, ?_⟩ | refine cond_t (by first | (simp only [c1,  c2, cond_false, eq_self]; done) | fail) ?_ | refine cond_f (by first | (simp only [c1,  eq_self]; done) | fail) ?_ | refine And.intro (by omega) ?_ | refine And.intro ⟨rfl, by omega, by omega⟩ ?_ | refine And.intro ⟨rfl, by decide, by omega, by omega⟩ ?_)
      refine ⟨_, (by first | exact SubSt.refl _ | exact SubTop.refl _), ?_⟩
      exact congrArg AV.bool (by first | rfl | (simp only [c1, c2, cond_true, cond_false, Bool.not_true, Bool.not_false, eq_self, decide_true, decide_false, beq_self_eq_true]; done))
    · skip
      rcases Bool.eq_false_or_eq_true (decide ((120 : Int) < r.length)) with c3 | c3
      · skip
        repeat ((conv => whnf); first | refine ⟨(), rfl, trivial, ?_⟩ | refine ⟨d, rfl, kd, ?_⟩ | refine cond_t (by first | (simp only [c1,  c2,  c3, cond_false, eq_self]; done) | fail) ?_ | refine cond_f (by first | (simp only [c1,  c2,  cond_false, eq_self]; done) | fail) ?_ | refine And.intro (by omega) ?_ | refine And.intro ⟨rfl, by omega, by omega⟩ ?_ | refine And.intro ⟨rfl, by decide, by omega, by omega⟩ ?_)
        refine ⟨_, (by first | exact SubSt.refl _ | exact SubTop.refl _), ?_⟩
        exact congrArg AV.bool (by first | rfl | (simp only [c1, c2, c3, cond_true, cond_false, Bool.not_true, Bool.not_false, eq_self, decide_true, decide_false, beq_self_eq_true]; done))
      · skip
        have kg : g.length ≤ 1000000000 := by have := of_decide_eq_false c1; omega
        have kd : d.length ≤ 1000000000 := by have := of_decide_eq_false c2; omega
        have kr : r.length ≤ 1000000000 := by have := of_decide_eq_false c3; omega
        rcases Bool.eq_false_or_eq_true (wholeB d) with c4 | c4
        rotate_left
        · skip
          repeat ((conv => whnf); first | refine ⟨(), rfl, trivial, ?_⟩ | refine ⟨d, rfl, kd, ?_⟩ | refine cond_t (by first | (simp only [c1,  c2,  c3,  c4, cond_false, Bool.not_false, eq_self]; done) | fail) ?_ | refine cond_f (by first | (simp only [c1,  c2,  c3,  cond_false, eq_self]; done) | fail) ?_ | refine And.intro (by omega) ?_ | refine And.intro ⟨rfl, by omega, by omega⟩ ?_ | refine And.intro ⟨rfl, by decide, by omega, by omega⟩ ?_)
          refine ⟨_, (by first | exact SubSt.refl _ | exact SubTop.refl _), ?_⟩
          exact congrArg AV.bool (by first | rfl | (simp only [c1, c2, c3, c4, cond_true, cond_false, Bool.not_true, Bool.not_false, eq_self, decide_true, decide_false, beq_self_eq_true]; done))
        · skip
          have r1 : d.length + ([47] : List UInt8).length ≤ 9223372036854775807 := by have := of_decide_eq_false c2; simp; omega
          have r2 : (d ++ [47]).length + r.length ≤ 9223372036854775807 := by have := of_decide_eq_false c2; have := of_decide_eq_false c3; simp; omega
          have kt : (d ++ [47] ++ r).length ≤ 1000000000 := by have := of_decide_eq_false c2; have := of_decide_eq_false c3; simp; omega
          have kn : ([] : List UInt8).length ≤ 1000000000 := by decide
          rcases Bool.eq_false_or_eq_true (belowG g d) with c5 | c5
          · skip
            obtain ⟨c7, c8⟩ := law_below_root c5
            rcases Bool.eq_false_or_eq_true (matchG g (d ++ [47] ++ r)) with c6 | c6
            · skip
              repeat ((conv => whnf); first | refine ⟨(), rfl, trivial, ?_⟩ | refine ⟨d, rfl, kd, ?_⟩ | refine ⟨g, rfl, kg, ?_⟩ | refine ⟨(g, d ++ [47] ++ r), rfl, ⟨kg, kt⟩, ?_⟩ | refine ⟨(g, d), rfl, ⟨kg, kd⟩, ?_⟩ | refine ⟨(g, []), rfl, ⟨kg, kn⟩, ?_⟩ | refine And.intro r1 ?_ | refine And.intro r2 ?_ | refine cond_t (by first | (simp only [c1,  c2,  c3,  c4,  c5,  c6,  c7,  c8, cond_true, cond_false, Bool.not_true, eq_self, decide_true]; done) | fail) ?_ | refine cond_f (by first | (simp only [c1,  c2,  c3,  c4,  c5,  c6,  c7,  c8, cond_true, cond_false, Bool.not_true, eq_self, decide_true]; done) | fail) ?_ | refine And.intro (by omega) ?_ | refine And.intro ⟨rfl, by omega, by omega⟩ ?_ | refine And.intro ⟨rfl, by decide, by omega, by omega⟩ ?_)
              refine ⟨Nat, fun i => i ≤ d.length, fun i => mks [(0, .str g), (1, .str d), (53, .int .i64 d.length), (54, .int .i64 i)] [] 0, fun i => d.length - i, 0, Nat.zero_le _, ?_, ?_⟩
              · refine sub_ren [] rfl (by decide) ⟨⟨_, rfl, rfl⟩, ⟨_, rfl, rfl⟩, ⟨_, rfl, rfl⟩, ⟨_, rfl, rfl⟩, trivial⟩ trivial
              · intro i hi
                rcases Bool.eq_false_or_eq_true (decide ((i : Int) < d.length)) with l1 | l1
                · skip
                  have hlt : i < d.length := by have := of_decide_eq_true l1; omega
                  have ki : (d.take i).length ≤ 1000000000 := by rw [List.length_take]; omega
                  have e1 : decide (((d.getD (i : Int).toNat 0).toNat : Int) = 47) = (d.getD i 0 == 47) := dec_u8k (d.getD i 0) 47 (by decide)
                  rcases Bool.eq_false_or_eq_true (d.getD i 0 == 47) with l2 | l2
                  · skip
                    have l3 : belowG g (d.take i) = true := by
                      refine law_below_up c4 ?_ c5
                      have := eq_of_beq l2
                      rw [List.getElem?_eq_getElem hlt, ← this]; simp [List.getD, hlt]
                    repeat ((conv => whnf); first | refine ⟨(), rfl, trivial, ?_⟩ | refine ⟨d, rfl, kd, ?_⟩ | refine ⟨g, rfl, kg, ?_⟩ | refine ⟨(g, d ++ [47] ++ r), rfl, ⟨kg, kt⟩, ?_⟩ | refine ⟨(g, d), rfl, ⟨kg, kd⟩, ?_⟩ | refine ⟨(g, []), rfl, ⟨kg, kn⟩, ?_⟩ | refine And.intro r1 ?_ | refine And.intro r2 ?_ | refine ⟨(g, d.take i), rfl, ⟨kg, ki⟩, ?_⟩ | refine cond_t (by first | (simp only [    c5,     l1,  e1,  l2,  l3, cond_true, Bool.not_true, eq_self]; done) | fail) ?_ | refine cond_f (by first | (simp only [    c5,      e1,  l2,  l3, cond_true, Bool.not_true, eq_self]; done) | fail) ?_ | refine And.intro (by omega) ?_ | refine And.intro ⟨rfl, by omega, by omega⟩ ?_ | refine And.intro ⟨rfl, by decide, by omega, by omega⟩ ?_)
                    refine ⟨i + 1, by show i + 1 ≤ _; omega, by show d.length - (i + 1) < d.length - i; omega, ?_⟩
                    refine sub_ren [] rfl (by decide) ⟨⟨_, rfl, rfl⟩, ⟨_, rfl, rfl⟩, ⟨_, rfl, rfl⟩, ⟨_, rfl, eI (by omega)⟩, trivial⟩ trivial
                  · skip
                    repeat ((conv => whnf); first | refine ⟨(), rfl, trivial, ?_⟩ | refine ⟨d, rfl, kd, ?_⟩ | refine ⟨g, rfl, kg, ?_⟩ | refine ⟨(g, d ++ [47] ++ r), rfl, ⟨kg, kt⟩, ?_⟩ | refine ⟨(g, d), rfl, ⟨kg, kd⟩, ?_⟩ | refine ⟨(g, []), rfl, ⟨kg, kn⟩, ?_⟩ | refine And.intro r1 ?_ | refine And.intro r2 ?_ | refine ⟨(g, d.take i), rfl, ⟨kg, ki⟩, ?_⟩ | refine cond_t (by first | (simp only [        l1,  e1,  l2, eq_self]; done) | fail) ?_ | refine cond_f (by first | (simp only [         e1,  l2, eq_self]; done) | fail) ?_ | refine And.intro (by omega) ?_ | refine And.intro ⟨rfl, by omega, by omega⟩ ?_ | refine And.intro ⟨rfl, by decide, by omega, by omega⟩ ?_)
                    refine ⟨i + 1, by show i + 1 ≤ _; omega, by show d.length - (i + 1) < d.length - i; omega, ?_⟩
                    refine sub_ren [] rfl (by decide) ⟨⟨_, rfl, rfl⟩, ⟨_, rfl, rfl⟩, ⟨_, rfl, rfl⟩, ⟨_, rfl, eI (by omega)⟩, trivial⟩ trivial
                · skip
                  repeat ((conv => whnf); first | refine ⟨(), rfl, trivial, ?_⟩ | refine ⟨d, rfl, kd, ?_⟩ | refine ⟨g, rfl, kg, ?_⟩ | refine ⟨(g, d ++ [47] ++ r), rfl, ⟨kg, kt⟩, ?_⟩ | refine ⟨(g, d), rfl, ⟨kg, kd⟩, ?_⟩ | refine ⟨(g, []), rfl, ⟨kg, kn⟩, ?_⟩ | refine And.intro r1 ?_ | refine And.intro r2 ?_ | refine cond_t (by first | (simp only [        l1]; done) | fail) ?_ | refine cond_f (by first | (simp only [        l1, eq_self]; done) | fail) ?_ | refine And.intro (by omega) ?_ | refine And.intro ⟨rfl, by omega, by omega⟩ ?_ | refine And.intro ⟨rfl, by decide, by omega, by omega⟩ ?_)
                  refine ⟨_, (by first | exact SubSt.refl _ | exact SubTop.refl _), ?_⟩
                  exact congrArg AV.bool (by first | rfl | (simp only [c1, c2, c3, c4, c5, c6, c7, c8, l1, cond_true, cond_false, Bool.not_true, Bool.not_false, eq_self, decide_true, decide_false, beq_self_eq_true]; done))
            · skip
              repeat ((conv => whnf); first | refine ⟨(), rfl, trivial, ?_⟩ | refine ⟨d, rfl, kd, ?_⟩ | refine ⟨g, rfl, kg, ?_⟩ | refine ⟨(g, d ++ [47] ++ r), rfl, ⟨kg, kt⟩, ?_⟩ | refine ⟨(g, d), rfl, ⟨kg, kd⟩, ?_⟩ | refine ⟨(g, []), rfl, ⟨kg, kn⟩, ?_⟩ | refine And.intro r1 ?_ | refine And.intro r2 ?_ | refine cond_t (by first | (simp only [c1,  c2,  c3,  c4,  c5,  c6,  c7,  c8, cond_true, cond_false, Bool.not_true, eq_self, decide_true]; done) | fail) ?_ | refine cond_f (by first | (simp only [c1,  c2,  c3,  c4,  c5,  c6,  c7,  c8, cond_true, cond_false, Bool.not_true, eq_self, decide_true]; done) | fail) ?_ | refine And.intro (by omega) ?_ | refine And.intro ⟨rfl, by omega, by omega⟩ ?_ | refine And.intro ⟨rfl, by decide, by omega, by omega⟩ ?_)
              refine ⟨Nat, fun i => i ≤ d.length, fun i => mks [(0, .str g), (1, .str d), (53, .int .i64 d.length), (54, .int .i64 i)] [] 0, fun i => d.length - i, 0, Nat.zero_le _, ?_, ?_⟩
              · refine sub_ren [] rfl (by decide) ⟨⟨_, rfl, rfl⟩, ⟨_, rfl, rfl⟩, ⟨_, rfl, rfl⟩, ⟨_, rfl, rfl⟩, trivial⟩ trivial
              · intro i hi
                rcases Bool.eq_false_or_eq_true (decide ((i : Int) < d.length)) with l1 | l1
                · skip
                  have hlt : i < d.length := by have := of_decide_eq_true l1; omega
                  have ki : (d.take i).length ≤ 1000000000 := by rw [List.length_take]; omega
                  have e1 : decide (((d.getD (i : Int).toNat 0).toNat : Int) = 47) = (d.getD i 0 == 47) := dec_u8k (d.getD i 0) 47 (by decide)
                  rcases Bool.eq_false_or_eq_true (d.getD i 0 == 47) with l2 | l2
                  · skip
                    have l3 : belowG g (d.take i) = true := by
                      refine law_below_up c4 ?_ c5
                      have := eq_of_beq l2
                      rw [List.getElem?_eq_getElem hlt, ← this]; simp [List.getD, hlt]
                    repeat ((conv => whnf); first | refine ⟨(), rfl, trivial, ?_⟩ | refine ⟨d, rfl, kd, ?_⟩ | refine ⟨g, rfl, kg, ?_⟩ | refine ⟨(g, d ++ [47] ++ r), rfl, ⟨kg, kt⟩, ?_⟩ | refine ⟨(g, d), rfl, ⟨kg, kd⟩, ?_⟩ | refine ⟨(g, []), rfl, ⟨kg, kn⟩, ?_⟩ | refine And.intro r1 ?_ | refine And.intro r2 ?_ | refine ⟨(g, d.take i), rfl, ⟨kg, ki⟩, ?_⟩ | refine cond_t (by first | (simp only [    c5,     l1,  e1,  l2,  l3, cond_true, Bool.not_true, eq_self]; done) | fail) ?_ | refine cond_f (by first | (simp only [    c5,      e1,  l2,  l3, cond_true, Bool.not_true, eq_self]; done) | fail) ?_ | refine And.intro (by omega) ?_ | refine And.intro ⟨rfl, by omega, by omega⟩ ?_ | refine And.intro ⟨rfl, by decide, by omega, by omega⟩ ?_)
                    refine ⟨i + 1, by show i + 1 ≤ _; omega, by show d.length - (i + 1) < d.length - i; omega, ?_⟩
                    refine sub_ren [] rfl (by decide) ⟨⟨_, rfl, rfl⟩, ⟨_, rfl, rfl⟩, ⟨_, rfl, rfl⟩, ⟨_, rfl, eI (by omega)⟩, trivial⟩ trivial
                  · skip
                    repeat ((conv => whnf); first | refine ⟨(), rfl, trivial, ?_⟩ | refine ⟨d, rfl, kd, ?_⟩ | refine ⟨g, rfl, kg, ?_⟩ | refine ⟨(g, d ++ [47] ++ r), rfl, ⟨kg, kt⟩, ?_⟩ | refine ⟨(g, d), rfl, ⟨kg, kd⟩, ?_⟩ | refine ⟨(g, []), rfl, ⟨kg, kn⟩, ?_⟩ | refine And.intro r1 ?_ | refine And.intro r2 ?_ | refine ⟨(g, d.take i), rfl, ⟨kg, ki⟩, ?_⟩ | refine cond_t (by first | (simp only [        l1,  e1,  l2, eq_self]; done) | fail) ?_ | refine cond_f (by first | (simp only [         e1,  l2, eq_self]; done) | fail) ?_ | refine And.intro (by omega) ?_ | refine And.intro ⟨rfl, by omega, by omega⟩ ?_ | refine And.intro ⟨rfl, by decide, by omega, by omega⟩ ?_)
                    refine ⟨i + 1, by show i + 1 ≤ _; omega, by show d.length - (i + 1) < d.length - i; omega, ?_⟩
                    refine sub_ren [] rfl (by decide) ⟨⟨_, rfl, rfl⟩, ⟨_, rfl, rfl⟩, ⟨_, rfl, rfl⟩, ⟨_, rfl, eI (by omega)⟩, trivial⟩ trivial
                · skip
                  repeat ((conv => whnf); first | refine ⟨(), rfl, trivial, ?_⟩ | refine ⟨d, rfl, kd, ?_⟩ | refine ⟨g, rfl, kg, ?_⟩ | refine ⟨(g, d ++ [47] ++ r), rfl, ⟨kg, kt⟩, ?_⟩ | refine ⟨(g, d), rfl, ⟨kg, kd⟩, ?_⟩ | refine ⟨(g, []), rfl, ⟨kg, kn⟩, ?_⟩ | refine And.intro r1 ?_ | refine And.intro r2 ?_ | refine cond_t (by first | (simp only [        l1]; done) | fail) ?_ | refine cond_f (by first | (simp only [        l1, eq_self]; done) | fail) ?_ | refine And.intro (by omega) ?_ | refine And.intro ⟨rfl, by omega, by omega⟩ ?_ | refine And.intro ⟨rfl, by decide, by omega, by omega⟩ ?_)
                  refine ⟨_, (by first | exact SubSt.refl _ | exact SubTop.refl _), ?_⟩
                  exact congrArg AV.bool (by first | rfl | (simp only [c1, c2, c3, c4, c5, c6, c7, c8, l1, cond_true, cond_false, Bool.not_true, Bool.not_false, eq_self, decide_true, decide_false, beq_self_eq_true]; done))
          · skip
            have c6 : matchG g (d ++ [47] ++ r) = false := by
              cases h : matchG g (d ++ [47] ++ r) with
              | false => rfl
              | true =>
                rw [List.append_assoc] at h
                have := law_below c4 h
                rw [c5] at this; cases this
            repeat ((conv => whnf); first | refine ⟨(), rfl, trivial, ?_⟩ | refine ⟨d, rfl, kd, ?_⟩ | refine ⟨g, rfl, kg, ?_⟩ | refine ⟨(g, d ++ [47] ++ r), rfl, ⟨kg, kt⟩, ?_⟩ | refine ⟨(g, d), rfl, ⟨kg, kd⟩, ?_⟩ | refine ⟨(g, []), rfl, ⟨kg, kn⟩, ?_⟩ | refine And.intro r1 ?_ | refine And.intro r2 ?_ | refine cond_t (by first | (simp only [c1,  c2,  c3,  c4,  c5,  c6, cond_false, Bool.not_true]; done) | fail) ?_ | refine cond_f (by first | (simp only [c1,  c2,  c3,  c4,  c5,  c6, cond_false, Bool.not_true, eq_self]; done) | fail) ?_ | refine And.intro (by omega) ?_ | refine And.intro ⟨rfl, by omega, by omega⟩ ?_ | refine And.intro ⟨rfl, by decide, by omega, by omega⟩ ?_)
            refine ⟨Nat, fun i => i ≤ d.length, fun i => mks [(0, .str g), (1, .str d), (53, .int .i64 d.length), (54, .int .i64 i)] [] 0, fun i => d.length - i, 0, Nat.zero_le _, ?_, ?_⟩
            · refine sub_ren [] rfl (by decide) ⟨⟨_, rfl, rfl⟩, ⟨_, rfl, rfl⟩, ⟨_, rfl, rfl⟩, ⟨_, rfl, rfl⟩, trivial⟩ trivial
            · intro i hi
              rcases Bool.eq_false_or_eq_true (decide ((i : Int) < d.length)) with l1 | l1
              · skip
                have hlt : i < d.length := by have := of_decide_eq_true l1; omega
                have ki : (d.take i).length ≤ 1000000000 := by rw [List.length_take]; omega
                have e1 : decide (((d.getD (i : Int).toNat 0).toNat : Int) = 47) = (d.getD i 0 == 47) := dec_u8k (d.getD i 0) 47 (by decide)
                rcases Bool.eq_false_or_eq_true (d.getD i 0 == 47) with l2 | l2
                · skip
                  repeat ((conv => whnf); first | refine ⟨(), rfl, trivial, ?_⟩ | refine ⟨d, rfl, kd, ?_⟩ | refine ⟨g, rfl, kg, ?_⟩ | refine ⟨(g, d ++ [47] ++ r), rfl, ⟨kg, kt⟩, ?_⟩ | refine ⟨(g, d), rfl, ⟨kg, kd⟩, ?_⟩ | refine ⟨(g, []), rfl, ⟨kg, kn⟩, ?_⟩ | refine And.intro r1 ?_ | refine And.intro r2 ?_ | refine ⟨(g, d.take i), rfl, ⟨kg, ki⟩, ?_⟩ | refine cond_t (by first | (simp only [    c5,   l1,  e1,  l2, cond_true, eq_self]; done) | fail) ?_ | refine cond_f (by first | (simp only [    c5,    e1,  l2, cond_true, eq_self]; done) | fail) ?_ | refine And.intro (by omega) ?_ | refine And.intro ⟨rfl, by omega, by omega⟩ ?_ | refine And.intro ⟨rfl, by decide, by omega, by omega⟩ ?_)
                  refine ⟨i + 1, by show i + 1 ≤ _; omega, by show d.length - (i + 1) < d.length - i; omega, ?_⟩
                  refine sub_ren [] rfl (by decide) ⟨⟨_, rfl, rfl⟩, ⟨_, rfl, rfl⟩, ⟨_, rfl, rfl⟩, ⟨_, rfl, eI (by omega)⟩, trivial⟩ trivial
                · skip
                  repeat ((conv => whnf); first | refine ⟨(), rfl, trivial, ?_⟩ | refine ⟨d, rfl, kd, ?_⟩ | refine ⟨g, rfl, kg, ?_⟩ | refine ⟨(g, d ++ [47] ++ r), rfl, ⟨kg, kt⟩, ?_⟩ | refine ⟨(g, d), rfl, ⟨kg, kd⟩, ?_⟩ | refine ⟨(g, []), rfl, ⟨kg, kn⟩, ?_⟩ | refine And.intro r1 ?_ | refine And.intro r2 ?_ | refine ⟨(g, d.take i), rfl, ⟨kg, ki⟩, ?_⟩ | refine cond_t (by first | (simp only [      l1,  e1,  l2, eq_self]; done) | fail) ?_ | refine cond_f (by first | (simp only [       e1,  l2, eq_self]; done) | fail) ?_ | refine And.intro (by omega) ?_ | refine And.intro ⟨rfl, by omega, by omega⟩ ?_ | refine And.intro ⟨rfl, by decide, by omega, by omega⟩ ?_)
                  refine ⟨i + 1, by show i + 1 ≤ _; omega, by show d.length - (i + 1) < d.length - i; omega, ?_⟩
                  refine sub_ren [] rfl (by decide) ⟨⟨_, rfl, rfl⟩, ⟨_, rfl, rfl⟩, ⟨_, rfl, rfl⟩, ⟨_, rfl, eI (by omega)⟩, trivial⟩ trivial
              · skip
                repeat ((conv => whnf); first | refine ⟨(), rfl, trivial, ?_⟩ | refine ⟨d, rfl, kd, ?_⟩ | refine ⟨g, rfl, kg, ?_⟩ | refine ⟨(g, d ++ [47] ++ r), rfl, ⟨kg, kt⟩, ?_⟩ | refine ⟨(g, d), rfl, ⟨kg, kd⟩, ?_⟩ | refine ⟨(g, []), rfl, ⟨kg, kn⟩, ?_⟩ | refine And.intro r1 ?_ | refine And.intro r2 ?_ | refine cond_t (by first | (simp only [      l1]; done) | fail) ?_ | refine cond_f (by first | (simp only [      l1, eq_self]; done) | fail) ?_ | refine And.intro (by omega) ?_ | refine And.intro ⟨rfl, by omega, by omega⟩ ?_ | refine And.intro ⟨rfl, by decide, by omega, by omega⟩ ?_)
                refine ⟨_, (by first | exact SubSt.refl _ | exact SubTop.refl _), ?_⟩
                exact congrArg AV.bool (by first | rfl | (simp only [c1, c2, c3, c4, c5, c6, l1, cond_true, cond_false, Bool.not_true, Bool.not_false, eq_self, decide_true, decide_false, beq_self_eq_true]; done))

end Qk

/-
  Chapter 32: the statement on two globs with a slash between them.
-/
namespace Qk
open Go Go.RowKit

theorem splitS_sum : ∀ (s : List UInt8), ((splitS s).map List.length).sum ≤ s.length
  | [] => by simp [splitS]
  | c :: r => by
    have := splitS_sum r
    rw [splitS]
    split
    · simp; omega
    · split
      · rename_i p ps hp
        rw [hp] at this
        simp at this ⊢; omega
      · simp
theorem joinS_len : ∀ (l : List (List UInt8)) (n : Nat), (∀ s ∈ l, s.length ≤ n) → (joinS l).length ≤ l.length * (n + 1)
  | [], n, _ => by simp [joinS]
  | [s], n, h => by have := h s (by simp); simp [joinS]; omega
  | s :: t :: r, n, h => by
    have h1 := h s (by simp)
    have h2 := joinS_len (t :: r) n (fun x hx => h x (by simp [hx]))
    rw [joinS, List.length_append, List.length_cons]
    rw [List.length_cons (a := s), Nat.succ_mul]
    omega
theorem strs_cut (ps : List (List UInt8)) (i k : Nat) : ((strs ps).drop (i * 1)).take (k * 1) = strs ((ps.drop i).take k) := by
  unfold strs; rw [Nat.mul_one, Nat.mul_one, List.map_take, List.map_drop]

def FP (a b : List UInt8) (ps : List (List UInt8)) (i : Nat) : Bool := matchG a (joinS (ps.take i)) && matchG b (joinS (ps.drop i))

set_option maxRecDepth 4000 in
set_option maxHeartbeats 2000000 in
theorem d_GlobParts : Does ir_quiltlaw32_GlobParts C_law3 := by
  rintro ⟨a, b, p⟩ _
  rcases Bool.eq_false_or_eq_true (decide ((90 : Int) < a.length)) with c1 | c1
  · skip
    repeat ((conv => whnf); first | refine ⟨(), rfl, trivial, ?_⟩ | refine ⟨p, rfl, kp, ?_⟩ | refine ⟨a, rfl, ka, ?_⟩ | refine ⟨b, rfl, kb, ?_⟩ | refine cond_t (by first | (simp only [c1, eq_self]; done) | fail) ?_ | refine cond_f (by first | (simp only [c1, cond_true, cond_false, Bool.not_true, Bool.not_false, eq_self, decide_true, decide_false]; done) | fail) ?_ | refine And.intro (by omega) ?_ | refine And.intro ⟨rfl, by omega, by omega⟩ ?_ | refine And.intro ⟨rfl, by decide, by omega, by omega⟩ ?_)
    refine ⟨_, (by first | exact SubSt.refl _ | exact SubTop.refl _), ?_⟩
    exact congrArg AV.bool (by first | rfl | (simp only [c1, cond_true, cond_false, Bool.not_true, Bool.not_false, eq_self, decide_true, decide_false, beq_self_eq_true]; done))
  · skip
    rcases Bool.eq_false_or_eq_true (decide ((90 : Int) < b.length)) with c2 | c2
    · skip
      repeat ((conv => whnf); first | refine ⟨(), rfl, trivial, ?_⟩ | refine ⟨p, rfl, kp, ?_⟩ | refine ⟨a, rfl, ka, ?_⟩ | refine ⟨b, rfl, kb, ?_⟩ | refine cond_t (by first | (simp only [c1,  c2, cond_false, eq_self]; done) | fail) ?_ | refine cond_f (by first | (simp only [c1,  eq_self]; done) | fail) ?_ | refine And.intro (by omega) ?_ | refine And.intro ⟨rfl, by omega, by omega⟩ ?_ | refine And.intro ⟨rfl, by decide, by omega, by omega⟩ ?_)
      refine ⟨_, (by first | exact SubSt.refl _ | exact SubTop.refl _), ?_⟩
      exact congrArg AV.bool (by first | rfl | (simp only [c1, c2, cond_true, cond_false, Bool.not_true, Bool.not_false, eq_self, decide_true, decide_false, beq_self_eq_true]; done))
    · skip
      rcases Bool.eq_false_or_eq_true (decide ((60 : Int) < p.length)) with c3 | c3
      · skip
        repeat ((conv => whnf); first | refine ⟨(), rfl, trivial, ?_⟩ | refine ⟨p, rfl, kp, ?_⟩ | refine ⟨a, rfl, ka, ?_⟩ | refine ⟨b, rfl, kb, ?_⟩ | refine cond_t (by first | (simp only [c1,  c2,  c3, cond_false, eq_self]; done) | fail) ?_ | refine cond_f (by first | (simp only [c1,  c2,  cond_false, eq_self]; done) | fail) ?_ | refine And.intro (by omega) ?_ | refine And.intro ⟨rfl, by omega, by omega⟩ ?_ | refine And.intro ⟨rfl, by decide, by omega, by omega⟩ ?_)
        refine ⟨_, (by first | exact SubSt.refl _ | exact SubTop.refl _), ?_⟩
        exact congrArg AV.bool (by first | rfl | (simp only [c1, c2, c3, cond_true, cond_false, Bool.not_true, Bool.not_false, eq_self, decide_true, decide_false, beq_self_eq_true]; done))
      · skip
        have ka : a.length ≤ 1000000000 := by have := of_decide_eq_false c1; omega
        have kb : b.length ≤ 1000000000 := by have := of_decide_eq_false c2; omega
        have kp : p.length ≤ 1000000000 := by have := of_decide_eq_false c3; omega
        rcases Bool.eq_false_or_eq_true (wholeB p) with c4 | c4
        rotate_left
        · skip
          repeat ((conv => whnf); first | refine ⟨(), rfl, trivial, ?_⟩ | refine ⟨p, rfl, kp, ?_⟩ | refine ⟨a, rfl, ka, ?_⟩ | refine ⟨b, rfl, kb, ?_⟩ | refine cond_t (by first | (simp only [c1,  c2,  c3,  c4, cond_false, Bool.not_false, eq_self]; done) | fail) ?_ | refine cond_f (by first | (simp only [c1,  c2,  c3,  cond_false, eq_self]; done) | fail) ?_ | refine And.intro (by omega) ?_ | refine And.intro ⟨rfl, by omega, by omega⟩ ?_ | refine And.intro ⟨rfl, by decide, by omega, by omega⟩ ?_)
          refine ⟨_, (by first | exact SubSt.refl _ | exact SubTop.refl _), ?_⟩
          exact congrArg AV.bool (by first | rfl | (simp only [c1, c2, c3, c4, cond_true, cond_false, Bool.not_true, Bool.not_false, eq_self, decide_true, decide_false, beq_self_eq_true]; done))
        · skip
          rcases Bool.eq_false_or_eq_true (decide (checkG a = 0)) with c5 | c5
          rotate_left
          · skip
            repeat ((conv => whnf); first | refine ⟨(), rfl, trivial, ?_⟩ | refine ⟨p, rfl, kp, ?_⟩ | refine ⟨a, rfl, ka, ?_⟩ | refine ⟨b, rfl, kb, ?_⟩ | refine cond_t (by first | (simp only [c1,  c2,  c3,  c4,  c5, cond_false, Bool.not_true, Bool.not_false, eq_self]; done) | fail) ?_ | refine cond_f (by first | (simp only [c1,  c2,  c3,  c4,  cond_false, Bool.not_true, eq_self]; done) | fail) ?_ | refine And.intro (by omega) ?_ | refine And.intro ⟨rfl, by omega, by omega⟩ ?_ | refine And.intro ⟨rfl, by decide, by omega, by omega⟩ ?_)
            refine ⟨_, (by first | exact SubSt.refl _ | exact SubTop.refl _), ?_⟩
            exact congrArg AV.bool (by first | rfl | (simp only [c1, c2, c3, c4, c5, cond_true, cond_false, Bool.not_true, Bool.not_false, eq_self, decide_true, decide_false, beq_self_eq_true]; done))
          · skip
            rcases Bool.eq_false_or_eq_true (decide (checkG b = 0)) with c6 | c6
            rotate_left
            · skip
              repeat ((conv => whnf); first | refine ⟨(), rfl, trivial, ?_⟩ | refine ⟨p, rfl, kp, ?_⟩ | refine ⟨a, rfl, ka, ?_⟩ | refine ⟨b, rfl, kb, ?_⟩ | refine cond_t (by first | (simp only [c1,  c2,  c3,  c4,  c5,  c6, cond_false, Bool.not_true, Bool.not_false, eq_self]; done) | fail) ?_ | refine cond_f (by first | (simp only [c1,  c2,  c3,  c4,  c5,  cond_false, Bool.not_true, eq_self]; done) | fail) ?_ | refine And.intro (by omega) ?_ | refine And.intro ⟨rfl, by omega, by omega⟩ ?_ | refine And.intro ⟨rfl, by decide, by omega, by omega⟩ ?_)
              refine ⟨_, (by first | exact SubSt.refl _ | exact SubTop.refl _), ?_⟩
              exact congrArg AV.bool (by first | rfl | (simp only [c1, c2, c3, c4, c5, c6, cond_true, cond_false, Bool.not_true, Bool.not_false, eq_self, decide_true, decide_false, beq_self_eq_true]; done))
            · skip
              repeat ((conv => whnf); first | refine ⟨(), rfl, trivial, ?_⟩ | refine ⟨p, rfl, kp, ?_⟩ | refine ⟨a, rfl, ka, ?_⟩ | refine ⟨b, rfl, kb, ?_⟩ | refine cond_t (by first | (simp only [c1,  c2,  c3,  c4,  c5,  c6, cond_false, Bool.not_true]; done) | fail) ?_ | refine cond_f (by first | (simp only [c1,  c2,  c3,  c4,  c5,  c6, cond_false, Bool.not_true, eq_self]; done) | fail) ?_ | refine And.intro (by omega) ?_ | refine And.intro ⟨rfl, by omega, by omega⟩ ?_ | refine And.intro ⟨rfl, by decide, by omega, by omega⟩ ?_)
              obtain ⟨ps, hps⟩ : ∃ ps, ps = splitS p := ⟨_, rfl⟩
              have hp60 : p.length ≤ 60 := by have := of_decide_eq_false c3; omega
              have ha90 : a.length ≤ 90 := by have := of_decide_eq_false c1; omega
              have hb90 : b.length ≤ 90 := by have := of_decide_eq_false c2; omega
              have hn : ps.length ≤ 61 := by have := (splitS_le p).2; rw [← hps] at this; omega
              have hpe : ∀ s ∈ ps, s.length ≤ 60 := by
                intro s hs
                rw [hps] at hs
                have := (splitS_le p).1 s hs
                omega
              have law := law_parts (of_decide_eq_true c5) (of_decide_eq_true c6) ha90 hb90 c4
              rw [← hps] at law
              refine And.intro (by show -9223372036854775808 ≤ (((splitS p).length : Nat) : Int) + 1 ∧ (((splitS p).length : Nat) : Int) + 1 ≤ 9223372036854775807; rw [← hps]; omega) ?_
              refine ⟨Nat, fun i => i ≤ ps.length + 1, fun i => mks [(0, .str a), (1, .str b), (2, .str p), (7, .sl 0 0 ps.length), (8, .bool ((List.range i).any (FP a b ps))), (43, .int .i64 ((ps.length : Int) + 1)), (44, .int .i64 i)] [(0, .ls false 1 (strs ps))] 1, fun i => ps.length + 1 - i, 0, Nat.zero_le _, ?_, ?_⟩
              · refine sub_ren [0] rfl (by decide) ⟨⟨_, rfl, rfl⟩, ⟨_, rfl, rfl⟩, ⟨_, rfl, rfl⟩, ⟨_, rfl, ⟨0, rfl, eSl ?_⟩⟩, ⟨_, rfl, rfl⟩, ⟨_, rfl, eI ?_⟩, ⟨_, rfl, rfl⟩, trivial⟩ ⟨⟨0, _, rfl, rfl, ?_⟩, trivial⟩
                · show (splitS p).length = _; rw [hps]
                · show ((((splitS p).length : Nat) : Int) + 1) = _; rw [hps]
                · exact ⟨_, rfl, eN (nnl_strs _) (by rw [hps]; rfl)⟩
              · intro i hi
                rcases Bool.eq_false_or_eq_true (decide ((i : Int) < (ps.length : Int) + 1)) with l1 | l1
                · have hlt : i ≤ ps.length := by have := of_decide_eq_true l1; omega
                  have lt : (ps.take i).length = i := by rw [List.length_take]; omega
                  have ld : (ps.drop i).length = ps.length - i := by rw [List.length_drop]
                  have t1 : ∀ s ∈ ps.take i, s.length ≤ 60 := fun s hs => hpe s (List.mem_of_mem_take hs)
                  have t2 : ∀ s ∈ ps.drop i, s.length ≤ 60 := fun s hs => hpe s (List.mem_of_mem_drop hs)
                  have j1 := joinS_len _ _ t1
                  have j2 := joinS_len _ _ t2
                  have kj1 : (joinS (ps.take i)).length ≤ 1000000000 := by rw [lt] at j1; omega
                  have kj2 : (joinS (ps.drop i)).length ≤ 1000000000 := by rw [ld] at j2; omega
                  have q1 : [AV.ilist 1 ((i : Int).toNat - (0 : Int).toNat) (((strs ps).drop ((0 + (0 : Int).toNat) * 1)).take (((i : Int).toNat - (0 : Int).toNat) * 1)), .str [47]] = C_strings_Join.args (ps.take i) := by
                    have e1 : (i : Int).toNat - (0 : Int).toNat = i := by omega
                    rw [strs_cut, e1]
                    show _ = [AV.ilist 1 (ps.take i).length (strs (ps.take i)), .str [47]]
                    rw [lt]; rfl
                  have q2 : [AV.ilist 1 ((ps.length : Int).toNat - (i : Int).toNat) (((strs ps).drop ((0 + (i : Int).toNat) * 1)).take (((ps.length : Int).toNat - (i : Int).toNat) * 1)), .str [47]] = C_strings_Join.args (ps.drop i) := by
                    have e1 : (i : Int).toNat = i := by omega
                    have e2 : (ps.length : Int).toNat = ps.length := by omega
                    rw [strs_cut, e1, e2, Nat.zero_add]
                    show _ = [AV.ilist 1 (ps.drop i).length (strs (ps.drop i)), .str [47]]
                    rw [ld, List.take_of_length_le (by omega)]
                  have z1 : (0 + (0 : Int).toNat + ((i : Int).toNat - (0 : Int).toNat)) * 1 ≤ (strs ps).length := by rw [strs_length]; omega
                  have z2 : (0 + (i : Int).toNat + ((ps.length : Int).toNat - (i : Int).toNat)) * 1 ≤ (strs ps).length := by rw [strs_length]; omega
                  have k1 : C_strings_Join.ok (ps.take i) := ⟨by omega, fun s hs => Nat.le_trans (t1 s hs) (by decide)⟩
                  have k2 : C_strings_Join.ok (ps.drop i) := ⟨by omega, fun s hs => Nat.le_trans (t2 s hs) (by decide)⟩
                  have step : (List.range (i + 1)).any (FP a b ps) = ((List.range i).any (FP a b ps) || FP a b ps i) := by rw [List.range_succ, List.any_append]; simp
                  have fp : FP a b ps i = (matchG a (joinS (ps.take i)) && matchG b (joinS (ps.drop i))) := rfl
              
                  rcases Bool.eq_false_or_eq_true ((List.range i).any (FP a b ps)) with l2 | l2
                  · skip
                    repeat ((conv => whnf); first | refine ⟨(), rfl, trivial, ?_⟩ | refine ⟨p, rfl, kp, ?_⟩ | refine ⟨a, rfl, ka, ?_⟩ | refine ⟨b, rfl, kb, ?_⟩ | refine cond_t (by first | (simp only [      l1,  l2, eq_self]; done) | fail) ?_ | refine cond_f (by first | (simp only [c1,  c2,  c3,  c4,  c5,  c6,  l1,  l2, cond_true, cond_false, Bool.not_true, Bool.not_false, eq_self, decide_true, decide_false]; done) | fail) ?_ | refine And.intro (by omega) ?_ | refine And.intro ⟨rfl, by omega, by omega⟩ ?_ | refine And.intro ⟨rfl, by decide, by omega, by omega⟩ ?_)
                    refine ⟨i + 1, by show i + 1 ≤ _; omega, by show ps.length + 1 - (i + 1) < ps.length + 1 - i; omega, ?_⟩
                    refine sub_ren [0] rfl (by decide) ⟨⟨_, rfl, rfl⟩, ⟨_, rfl, rfl⟩, ⟨_, rfl, rfl⟩, ⟨_, rfl, ⟨0, rfl, rfl⟩⟩, ⟨_, rfl, ?_⟩, ⟨_, rfl, rfl⟩, ⟨_, rfl, eI (by omega)⟩, trivial⟩ ⟨⟨0, _, rfl, rfl, ?_⟩, trivial⟩
                    · exact eBo (by rw [step]; simp only [l2, eq_self, Bool.true_or])
                    · exact ⟨_, rfl, eN (nnl_strs _) rfl⟩
                  · skip
                    rcases Bool.eq_false_or_eq_true (matchG a (joinS (ps.take i))) with l3 | l3
                    · skip
                      rcases Bool.eq_false_or_eq_true (matchG b (joinS (ps.drop i))) with l4 | l4
                      · skip
                        repeat ((conv => whnf); first | refine And.intro z1 (And.intro (nnl_strs _) ⟨ps.take i, q1, k1, (plain_str _), ?_⟩) | refine And.intro z2 (And.intro (nnl_strs _) ⟨ps.drop i, q2, k2, (plain_str _), ?_⟩) | refine ⟨(a, joinS (ps.take i)), rfl, ⟨ka, kj1⟩, ?_⟩ | refine ⟨(b, joinS (ps.drop i)), rfl, ⟨kb, kj2⟩, ?_⟩ | refine And.intro ⟨rfl, by omega, by omega, by omega⟩ ?_ | refine ⟨(), rfl, trivial, ?_⟩ | refine ⟨p, rfl, kp, ?_⟩ | refine ⟨a, rfl, ka, ?_⟩ | refine ⟨b, rfl, kb, ?_⟩ | refine cond_t (by first | (simp only [      l1,  l2,  l3,  eq_self]; done) | fail) ?_ | refine cond_f (by first | (simp only [       l2,   eq_self]; done) | fail) ?_ | refine And.intro (by omega) ?_ | refine And.intro ⟨rfl, by omega, by omega⟩ ?_ | refine And.intro ⟨rfl, by decide, by omega, by omega⟩ ?_)
                        refine ⟨i + 1, by show i + 1 ≤ _; omega, by show ps.length + 1 - (i + 1) < ps.length + 1 - i; omega, ?_⟩
                        refine sub_ren [0] rfl (by decide) ⟨⟨_, rfl, rfl⟩, ⟨_, rfl, rfl⟩, ⟨_, rfl, rfl⟩, ⟨_, rfl, ⟨0, rfl, rfl⟩⟩, ⟨_, rfl, ?_⟩, ⟨_, rfl, rfl⟩, ⟨_, rfl, eI (by omega)⟩, trivial⟩ ⟨⟨0, _, rfl, rfl, ?_⟩, trivial⟩
                        · exact eBo (by rw [step]; simp only [l2, fp, l3, l4, cond_true, cond_false, eq_self, Bool.or_true, Bool.and_true])
                        · exact ⟨_, rfl, eN (nnl_strs _) rfl⟩
                      · skip
                        repeat ((conv => whnf); first | refine And.intro z1 (And.intro (nnl_strs _) ⟨ps.take i, q1, k1, (plain_str _), ?_⟩) | refine And.intro z2 (And.intro (nnl_strs _) ⟨ps.drop i, q2, k2, (plain_str _), ?_⟩) | refine ⟨(a, joinS (ps.take i)), rfl, ⟨ka, kj1⟩, ?_⟩ | refine ⟨(b, joinS (ps.drop i)), rfl, ⟨kb, kj2⟩, ?_⟩ | refine And.intro ⟨rfl, by omega, by omega, by omega⟩ ?_ | refine ⟨(), rfl, trivial, ?_⟩ | refine ⟨p, rfl, kp, ?_⟩ | refine ⟨a, rfl, ka, ?_⟩ | refine ⟨b, rfl, kb, ?_⟩ | refine cond_t (by first | (simp only [      l1,  l2,  l3,  eq_self]; done) | fail) ?_ | refine cond_f (by first | (simp only [       l2,   eq_self]; done) | fail) ?_ | refine And.intro (by omega) ?_ | refine And.intro ⟨rfl, by omega, by omega⟩ ?_ | refine And.intro ⟨rfl, by decide, by omega, by omega⟩ ?_)
                        refine ⟨i + 1, by show i + 1 ≤ _; omega, by show ps.length + 1 - (i + 1) < ps.length + 1 - i; omega, ?_⟩
                        refine sub_ren [0] rfl (by decide) ⟨⟨_, rfl, rfl⟩, ⟨_, rfl, rfl⟩, ⟨_, rfl, rfl⟩, ⟨_, rfl, ⟨0, rfl, rfl⟩⟩, ⟨_, rfl, ?_⟩, ⟨_, rfl, rfl⟩, ⟨_, rfl, eI (by omega)⟩, trivial⟩ ⟨⟨0, _, rfl, rfl, ?_⟩, trivial⟩
                        · exact eBo (by rw [step]; simp only [l2, fp, l3, l4, cond_true, cond_false, eq_self, Bool.or_false, Bool.and_false])
                        · exact ⟨_, rfl, eN (nnl_strs _) rfl⟩
                    · skip
                      repeat ((conv => whnf); first | refine And.intro z1 (And.intro (nnl_strs _) ⟨ps.take i, q1, k1, (plain_str _), ?_⟩) | refine And.intro z2 (And.intro (nnl_strs _) ⟨ps.drop i, q2, k2, (plain_str _), ?_⟩) | refine ⟨(a, joinS (ps.take i)), rfl, ⟨ka, kj1⟩, ?_⟩ | refine ⟨(b, joinS (ps.drop i)), rfl, ⟨kb, kj2⟩, ?_⟩ | refine And.intro ⟨rfl, by omega, by omega, by omega⟩ ?_ | refine ⟨(), rfl, trivial, ?_⟩ | refine ⟨p, rfl, kp, ?_⟩ | refine ⟨a, rfl, ka, ?_⟩ | refine ⟨b, rfl, kb, ?_⟩ | refine cond_t (by first | (simp only [      l1,  l2,  l3, eq_self]; done) | fail) ?_ | refine cond_f (by first | (simp only [       l2,  l3, eq_self]; done) | fail) ?_ | refine And.intro (by omega) ?_ | refine And.intro ⟨rfl, by omega, by omega⟩ ?_ | refine And.intro ⟨rfl, by decide, by omega, by omega⟩ ?_)
                      refine ⟨i + 1, by show i + 1 ≤ _; omega, by show ps.length + 1 - (i + 1) < ps.length + 1 - i; omega, ?_⟩
                      refine sub_ren [0] rfl (by decide) ⟨⟨_, rfl, rfl⟩, ⟨_, rfl, rfl⟩, ⟨_, rfl, rfl⟩, ⟨_, rfl, ⟨0, rfl, rfl⟩⟩, ⟨_, rfl, ?_⟩, ⟨_, rfl, rfl⟩, ⟨_, rfl, eI (by omega)⟩, trivial⟩ ⟨⟨0, _, rfl, rfl, ?_⟩, trivial⟩
                      · exact eBo (by rw [step]; simp only [l2, fp, l3, cond_false, eq_self, Bool.or_false, Bool.false_and])
                      · exact ⟨_, rfl, eN (nnl_strs _) rfl⟩
                · skip
                  have hi2 : i = ps.length + 1 := by have := of_decide_eq_false l1; omega
                  subst hi2
                  have lw : matchG (a ++ [47] ++ b) p = (List.range (ps.length + 1)).any (FP a b ps) := by rw [List.append_assoc]; exact law
                  have r1 : a.length + ([47] : List UInt8).length ≤ 9223372036854775807 := by simp; omega
                  have r2 : (a ++ [47]).length + b.length ≤ 9223372036854775807 := by simp; omega
                  have kt : (a ++ [47] ++ b).length ≤ 1000000000 := by simp; omega
                  repeat ((conv => whnf); first | refine ⟨(), rfl, trivial, ?_⟩ | refine ⟨(a ++ [47] ++ b, p), rfl, ⟨kt, kp⟩, ?_⟩ | refine And.intro r1 ?_ | refine And.intro r2 ?_ | refine cond_t (by first | (simp only [      l1,  lw, cond_false, Bool.not_true, eq_self, decide_true]; done) | fail) ?_ | refine cond_f (by first | (simp only [      l1,  eq_self]; done) | fail) ?_ | refine And.intro (by omega) ?_ | refine And.intro ⟨rfl, by omega, by omega⟩ ?_ | refine And.intro ⟨rfl, by decide, by omega, by omega⟩ ?_)
                  refine ⟨_, (by first | exact SubSt.refl _ | exact SubTop.refl _), ?_⟩
                  exact congrArg AV.bool (by first | rfl | (simp only [lw, cond_true, cond_false, Bool.not_true, eq_self, decide_true]; done))

end Qk

/-
  Chapter 32: what the functions of the library give.
-/
namespace Qk
open Go Go.RowKit

def C_strings_Index : PC := ⟨List UInt8 × UInt8, fun x => [.str x.1, .str [x.2]], fun _ => True, fun x => .int .i64 (indexB x.1 x.2)⟩
def C_internal_stringslite_HasPrefix : PC := ⟨List UInt8 × List UInt8, fun x => [.str x.1, .str x.2], fun x => x.1.length ≤ 1000000000 ∧ x.2.length ≤ 1000000000, fun x => .bool (x.2.isPrefixOf x.1)⟩
def F_strings_genSplit : FC := ⟨List UInt8, fun s => [.str s, .str [47], .int .i64 0, .int .i64 (-1)], fun s => s.length ≤ 1000000000, 1, fun s => (splitS s).length, fun s => strs (splitS s)⟩

end Qk

/-
  Chapter 32: the forms of functions of the library (printed by a program).
-/
namespace Qk
open Go Go.RowKit

/-- strings.Contains -/
def ir_strings_Contains : IF := ⟨(.seq (.ops [⟨(some 4), none, .mov (.const (.bool false))⟩])
  (.seq (.ops [⟨(some 5), none, .mov (t 0)⟩,
    ⟨(some 6), none, .mov (t 1)⟩,
    ⟨(some 7), none, .pcall C_strings_Index [(t 5), (t 6)]⟩,
    ⟨(some 8), none, .bin .geq (t 7) (ci 0)⟩,
    ⟨(some 4), none, .mov (t 8)⟩])
  .ret)), [.tmp 4]⟩
/-- strings.HasPrefix -/
def ir_strings_HasPrefix : IF := ⟨(.seq (.ops [⟨(some 4), none, .mov (.const (.bool false))⟩])
  (.seq (.ops [⟨(some 5), none, .mov (t 0)⟩,
    ⟨(some 6), none, .mov (t 1)⟩,
    ⟨(some 7), none, .pcall C_internal_stringslite_HasPrefix [(t 5), (t 6)]⟩,
    ⟨(some 4), none, .mov (t 7)⟩])
  .ret)), [.tmp 4]⟩
/-- internal/stringslite.HasPrefix -/
def ir_internal_stringslite_HasPrefix : IF := ⟨(.seq (.ops [⟨(some 4), none, .mov (.const (.bool false))⟩])
  (.seq (.ops [⟨(some 5), none, .mov (t 0)⟩,
    ⟨(some 6), none, .lenS (t 5)⟩,
    ⟨(some 7), none, .mov (t 1)⟩,
    ⟨(some 8), none, .lenS (t 7)⟩,
    ⟨(some 9), none, .bin .geq (t 6) (t 8)⟩,
    ⟨(some 10), none, .mov (t 9)⟩,
    ⟨(some 11), (some (10, true)), .mov (t 0)⟩,
    ⟨(some 12), (some (10, true)), .mov (t 1)⟩,
    ⟨(some 13), (some (10, true)), .lenS (t 12)⟩,
    ⟨(some 14), (some (10, true)), .slS (t 11) none (some (t 13))⟩,
    ⟨(some 15), (some (10, true)), .mov (t 1)⟩,
    ⟨(some 16), (some (10, true)), .bin .eql (t 14) (t 15)⟩,
    ⟨(some 17), none, .pick (t 10) (t 16) (.const (.bool false))⟩,
    ⟨(some 4), none, .mov (t 17)⟩])
  .ret)), [.tmp 4]⟩
/-- strings.Split -/
def ir_strings_Split : IF := ⟨(.seq (.ops [⟨(some 4), none, .mov (.const (.slice none 0 0))⟩])
  (.seq (.ops [⟨(some 5), none, .mov (t 0)⟩,
    ⟨(some 6), none, .mov (t 1)⟩,
    ⟨(some 7), none, .pcallF F_strings_genSplit [(t 5), (t 6), (ci 0), (ci (-1))]⟩,
    ⟨(some 4), none, .mov (t 7)⟩])
  .ret)), [.tmp 4]⟩

end Qk

/-
  Chapter 32: functions of the library.
-/
namespace Qk
open Go Go.RowKit

theorem d_contains : Does ir_strings_Contains C_strings_Contains := by
  rintro ⟨s, c⟩ hs
  refine ⟨(s, c), rfl, trivial, ?_⟩
  refine ⟨_, (by first | exact SubSt.refl _ | exact SubTop.refl _), ?_⟩
  show AV.bool (decide ((0 : Int) ≤ indexB s c)) = AV.bool (decide (c ∈ s))
  congr 1
  unfold indexB
  by_cases h : c ∈ s
  · rw [if_pos h, decide_eq_true h, decide_eq_true (by omega)]
  · rw [if_neg h, decide_eq_false h]; rfl

theorem d_hasPrefix_lite : Does ir_internal_stringslite_HasPrefix C_internal_stringslite_HasPrefix := by
  rintro ⟨s, p⟩ ⟨hs, hp⟩
  dsimp only at hs hp
  have key : p.isPrefixOf s = (decide ((p.length : Int) ≤ s.length) && decide (s.take p.length = p)) := by
    by_cases h : p.length ≤ s.length
    · have h1 : decide ((p.length : Int) ≤ s.length) = true := decide_eq_true (by omega)
      rw [h1, Bool.true_and]
      by_cases h2 : s.take p.length = p
      · rw [decide_eq_true h2]
        exact List.isPrefixOf_iff_prefix.2 ⟨s.drop p.length, by rw [← h2]; simp [h]⟩
      · rw [decide_eq_false h2]
        cases h3 : p.isPrefixOf s with
        | false => rfl
        | true =>
          obtain ⟨r, hr⟩ := List.isPrefixOf_iff_prefix.1 h3
          exact absurd (by rw [← hr]; simp) h2
    · have h1 : decide ((p.length : Int) ≤ s.length) = false := decide_eq_false (by omega)
      rw [h1, Bool.false_and]
      cases h3 : p.isPrefixOf s with
      | false => rfl
      | true =>
        obtain ⟨r, hr⟩ := List.isPrefixOf_iff_prefix.1 h3
        rw [← hr, List.length_append] at h
        omega
  rcases Bool.eq_false_or_eq_true (decide ((p.length : Int) ≤ s.length)) with h | h
  · have hle := of_decide_eq_true h
    iterate 4 (refine cond_t h ?_)
    refine And.intro ⟨Int.le_refl _, by omega, hle⟩ ?_
    iterate 2 (refine cond_t h ?_)
    refine ⟨_, (by first | exact SubSt.refl _ | exact SubTop.refl _), ?_⟩
    show AV.bool (cond (decide ((p.length : Int) ≤ s.length)) (decide ((s.drop (0 : Int).toNat).take ((p.length : Int).toNat - (0 : Int).toNat) = p)) false) = AV.bool (p.isPrefixOf s)
    rw [key, h]
    rfl
  · iterate 7 (refine cond_f h ?_)
    refine ⟨_, (by first | exact SubSt.refl _ | exact SubTop.refl _), ?_⟩
    show AV.bool false = AV.bool (p.isPrefixOf s)
    rw [key, h]; rfl

theorem d_hasPrefix : Does ir_strings_HasPrefix C_strings_HasPrefix := by
  rintro ⟨s, p⟩ ⟨hs, hp⟩
  refine ⟨(s, p), rfl, ⟨hs, hp⟩, ?_⟩
  refine ⟨_, (by first | exact SubSt.refl _ | exact SubTop.refl _), ?_⟩
  rfl

theorem d_strings_Split : DoesF ir_strings_Split F_strings_Split := by
  intro (s : List UInt8) hs
  refine ⟨s, rfl, hs, ?_⟩
  refine ⟨_, (by first | exact SubSt.refl _ | exact SubTop.refl _), ?_⟩
  exact ⟨0, false, rfl, rfl, plain_strs _⟩

theorem split_K : ∀ (k : Nat) (s : List UInt8), s.count 47 = k → Lib.splitK [47] 0 k s = splitS s
  | 0, s, h => by
    rw [Lib.splitK]
    refine (split_one s ?_).symm
    intro c hc e
    subst e
    have := List.count_pos_iff.2 hc
    omega
  | k + 1, s, h => by
    have hm : (47 : UInt8) ∈ s := List.count_pos_iff.1 (by omega)
    have hi : Lib.index s [47] = (s.idxOf 47 : Nat) := by rw [Lib.index_one, indexByte_eq, indexB, if_pos hm]
    have hlt : s.idxOf 47 < s.length := List.idxOf_lt_length_of_mem hm
    have hat : s[s.idxOf 47] = 47 := List.getElem_idxOf hlt
    have hcut : s = s.take (s.idxOf 47) ++ 47 :: s.drop (s.idxOf 47 + 1) := by
      have h1 := List.drop_eq_getElem_cons hlt
      rw [hat] at h1
      rw [← h1, List.take_append_drop]
    have hno : NoSl (s.take (s.idxOf 47)) := by
      intro c hc e
      subst e
      obtain ⟨j, hj, hje⟩ := List.getElem_of_mem hc
      have hj2 : j < s.idxOf 47 := by rw [List.length_take] at hj; omega
      rw [List.getElem_take] at hje
      have h9 := List.not_of_lt_findIdx (p := fun x : UInt8 => x == 47) (xs := s) hj2
      rw [hje] at h9
      exact absurd h9 (by decide)
    have hc2 : (s.drop (s.idxOf 47 + 1)).count 47 = k := by
      have h0 : (s.take (s.idxOf 47)).count 47 = 0 := by
        apply List.count_eq_zero.2
        intro hc; exact hno 47 hc rfl
      have h3 := congrArg (List.count 47) hcut
      rw [h, List.count_append, h0, List.count_cons_self] at h3
      omega
    rw [Lib.splitK, hi]
    have hne : ¬ (((s.idxOf 47 : Nat) : Int) == -1) = true := by simp
    rw [if_neg hne]
    have e1 : (((s.idxOf 47 : Nat) : Int)).toNat + 0 = s.idxOf 47 := by omega
    have e2 : (((s.idxOf 47 : Nat) : Int)).toNat + [(47 : UInt8)].length = s.idxOf 47 + 1 := by simp
    rw [e1, e2, split_K k _ hc2]
    conv => rhs; rw [hcut]
    rw [split_app _ _ hno]

theorem four_args {G : Gl} {Φ : Phi} {a b c d : AV} {vs : Array Value} (hs : vs.size = 4) (hr : RepAt G Φ [a, b, c, d] (fun _ => none) vs 0) : ∃ x y z u, vs = #[x, y, z, u] ∧ Rep G Φ a (fun _ => none) x ∧ Rep G Φ b (fun _ => none) y ∧ Rep G Φ c (fun _ => none) z ∧ Rep G Φ d (fun _ => none) u := by
  obtain ⟨l⟩ := vs
  match l, hs with
  | [x, y, z, u], _ =>
    simp only [RepAt] at hr
    obtain ⟨⟨x', h1, h2⟩, ⟨y', h3, h4⟩, ⟨z', h5, h6⟩, ⟨u', h7, h8⟩, _⟩ := hr
    simp at h1 h3 h5 h7
    subst h1
    subst h3
    subst h5
    subst h7
    exact ⟨x, y, z, u, rfl, h2, h4, h6, h8⟩

theorem keeps_Index {G : Gl} {f : FuncId} {fn : Func} (hf : G.P.funcs[f]? = some fn) (hb : fn.body.isNone = false) (hname : (fn.name == "runtime.NumGoroutine") = false)
    (h : ∀ (s : ByteArray) (c : UInt8) (w : World), Calls G.P f #[.string s, .string ⟨#[c]⟩] w fun e w' => e = .returned (.int .i64 (Lib.indexByte s.data.toList c)) ∧ w' = w) : KeepsC G C_strings_Index (fun _ => none) f #[] := by
  refine keeps_calls hf hb hname ?_
  rintro w Φ vs ⟨l, c⟩ hphi hs hr _
  obtain ⟨x, y, rfl, h1, h2⟩ := two_args hs hr
  simp only [Rep] at h1 h2
  subst h1
  subst h2
  refine ⟨.int .i64 (indexB l c), by simp only [Rep, C_strings_Index], ?_⟩
  refine Calls.mono (h ⟨l.toArray⟩ c w) ?_
  rintro e w' ⟨rfl, rfl⟩
  exact ⟨by rw [indexByte_eq], Below.refl _ _⟩

theorem keeps_genSplit {G : Gl} {f : FuncId} {fn : Func} (hf : G.P.funcs[f]? = some fn) (hb : fn.body.isNone = false) (hname : (fn.name == "runtime.NumGoroutine") = false) {ty : TypeId}
    (h : ∀ (s : ByteArray) (N : Nat) (w : World), s.size < 4294967281 → (N : Int) = min ((Lib.countB s ⟨#[47]⟩ : Int) + 1) ((s.size : Int) + 1) →
      Calls G.P f #[.string s, .string ⟨#[47]⟩, .int .i64 0, .int .i64 (-1)] w fun e w' =>
        e = .returned (.slice (some ⟨w.heap.size, 0, none⟩) (Lib.splitB ⟨#[47]⟩ 0 (N - 1) s).length N) ∧ w' = w.alloc (.cells (Lib.cellsOf (Lib.splitB ⟨#[47]⟩ 0 (N - 1) s) N) ty)) : KeepsF G F_strings_genSplit f := by
  rintro us w Φ vs hphi hs hr (s : List UInt8) rfl hok
  replace hok : s.length ≤ 1000000000 := hok
  obtain ⟨x, y, z, u, rfl, h1, h2, h3, h4⟩ := four_args hs hr
  simp only [Rep] at h1 h2 h3 h4
  subst h1
  subst h2
  subst h3
  subst h4
  have hsz : (ByteArray.mk s.toArray).size = s.length := List.size_toArray
  have hcb : Lib.countB ⟨s.toArray⟩ ⟨#[47]⟩ = s.count 47 := by
    show Lib.count s.toArray.toList [47] = _
    rw [Lib.count_one]
  have hle : s.count 47 ≤ s.length := List.count_le_length
  refine .inl ⟨⟨fn, hf, hb, hname⟩, Calls.mono (h ⟨s.toArray⟩ (s.count 47 + 1) w (by rw [hsz]; omega) (by rw [hcb, hsz]; omega)) ?_⟩
  rintro e w' ⟨rfl, rfl⟩
  obtain ⟨L, hL⟩ : ∃ L, L = Lib.splitB ⟨#[47]⟩ 0 (s.count 47 + 1 - 1) ⟨s.toArray⟩ := ⟨_, rfl⟩
  have hLd : L.map (·.data.toList) = splitS s := by
    rw [hL, Nat.add_sub_cancel, Lib.splitB_data]
    exact split_K _ _ rfl
  have hLn : L.length = (splitS s).length := by rw [← hLd]; simp
  have hLe : L.length ≤ s.count 47 + 1 := by
    have := Lib.splitB_length_le ⟨#[47]⟩ 0 (s.count 47 + 1 - 1) ⟨s.toArray⟩
    rw [← hL] at this; omega
  rw [← hL]
  refine ⟨_, rfl, (Below.refl _ w).alloc (Nat.le_refl _) _, .inr ⟨w.heap.size, _, ty, (0, 0), s.count 47 + 1, ?_, Nat.le_refl _, heap_alloc_new w _, ?_, ?_, ?_, ?_, ?_⟩⟩
  · show Value.slice _ L.length _ = Value.slice _ (splitS s).length _
    rw [hLn]
  · show _ = (s.count 47 + 1) * 1
    rw [Lib.cellsOf_size hLe, Nat.mul_one]
  · show (strs (splitS s)).length ≤ _
    rw [Lib.cellsOf_size hLe, strs_length, ← hLn]; exact hLe
  · show (splitS s).length ≤ _
    rw [← hLn]; exact hLe
  · intro i _; simp
  · refine RepAt.mk fun j c hj => ?_
    have hj2 : (strs (splitS s))[j]? = some c := hj
    have hjl : j < (splitS s).length := by
      have := (List.getElem?_eq_some_iff.1 hj2).1
      rwa [strs_length] at this
    rw [← hLd] at hj2
    unfold strs at hj2
    rw [List.map_map, List.getElem?_map] at hj2
    have hjL : j < L.length := by omega
    rw [List.getElem?_eq_getElem hjL] at hj2
    cases hj2
    refine ⟨.string L[j], ?_, ?_⟩
    · rw [Nat.zero_add]
      unfold Lib.cellsOf
      rw [List.getElem?_toArray, List.getElem?_append_left (by simpa using hjL), List.getElem?_map, List.getElem?_eq_getElem hjL]
      rfl
    · show Rep _ _ (AV.str L[j].data.toList) _ _
      simp only [Rep]

end Qk
