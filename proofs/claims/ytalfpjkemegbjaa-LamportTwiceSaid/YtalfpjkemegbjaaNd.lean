/-
  Chapter 02: schedule and compression.
-/
import Derived.Test.YtalfpjkemegbjaaNc

/-
  What the functions of chapter 02 compute, and their contracts.
-/
namespace Qk
open Go Go.RowKit

def rotr (x n : Int) : Int := orI .u32 (shrI .u32 x n) (shlI .u32 x ((32 - n) % 18446744073709551616))

def C_math_bits_RotateLeft32 : PC := ⟨Int × Int, fun p => [.int .u32 p.1, .int .i64 p.2], fun p => -31 ≤ p.2 ∧ p.2 ≤ -1, fun p => .int .u32 (rotr p.1 (-p.2))⟩
def C_sha256_right : PC := ⟨Int × Int, fun p => [.int .u32 p.1, .int .i64 p.2], fun p => 1 ≤ p.2 ∧ p.2 ≤ 31, fun p => .int .u32 (rotr p.1 p.2)⟩
def C_quiltref02_rotate : PC := ⟨Int × Int, fun p => [.int .u32 p.1, .int .u64 p.2], fun p => 1 ≤ p.2 ∧ p.2 ≤ 31, fun p => .int .u32 (rotr p.1 p.2)⟩

/-- The words of a block. -/
def byteW (a : Int) (c : UInt8) : Int := orI .u32 (shlI .u32 a 8) ((c.toNat : Int) % 4294967296)
def word (l : List UInt8) (t : Nat) : Int := ((l.drop (4 * t)).take 4).foldl byteW 0
def sig0 (x : Int) : Int := xorI .u32 (xorI .u32 (rotr x 7) (rotr x 18)) (shrI .u32 x 3)
def sig1 (y : Int) : Int := xorI .u32 (xorI .u32 (rotr y 17) (rotr y 19)) (shrI .u32 y 10)
def nextW (ws : List Int) (t : Nat) : Int :=
  (((sig1 (ws.getD (t - 2) 0) + ws.getD (t - 7) 0) % 4294967296 + sig0 (ws.getD (t - 15) 0)) % 4294967296 + ws.getD (t - 16) 0) % 4294967296
def sched (l : List UInt8) : Nat → List Int
  | 0 => []
  | t + 1 => sched l t ++ [if t < 16 then word l t else nextW (sched l t) t]

def C_sha256_schedule : PC := ⟨List UInt8, fun l => [.str l], fun l => l.length = 64, fun l => .agg (ints .u32 (sched l 64))⟩
def C_quiltref02_schedule : PC := ⟨List UInt8, fun l => [.str l], fun l => l.length = 64, fun l => .agg (ints .u32 (sched l 64))⟩

theorem sched_len (l : List UInt8) (t : Nat) : (sched l t).length = t := by
  induction t with
  | zero => rfl
  | succ t ih => simp [sched, ih]

end Qk

/-
  The functions of chapter 02 in the executor's form (printed by a program).
-/
namespace Qk
open Go Go.RowKit

/-- math/bits.RotateLeft32 -/
def ir_math_bits_RotateLeft32 : IF := ⟨(.seq (.ops [⟨(some 4), none, .mov (.const (.int .u32 0))⟩])
  (.seq (.ops [⟨(some 6), none, .mov (t 1)⟩,
    ⟨(some 7), none, .conv .u64 (t 6)⟩,
    ⟨(some 8), none, .bin .and (t 7) (.const (.int .u64 31))⟩,
    ⟨(some 5), none, .mov (t 8)⟩])
  (.seq (.ops [⟨(some 9), none, .mov (t 0)⟩,
    ⟨(some 10), none, .mov (t 5)⟩,
    ⟨(some 11), none, .bin .shl (t 9) (t 10)⟩,
    ⟨(some 12), none, .mov (t 0)⟩,
    ⟨(some 13), none, .mov (t 5)⟩,
    ⟨(some 14), none, .bin .sub (.const (.int .u64 32)) (t 13)⟩,
    ⟨(some 15), none, .bin .shr (t 12) (t 14)⟩,
    ⟨(some 16), none, .bin .or (t 11) (t 15)⟩,
    ⟨(some 4), none, .mov (t 16)⟩])
  .ret))), [.tmp 4]⟩
/-- quilt/sha256.right -/
def ir_sha256_right : IF := ⟨(.seq (.ops [⟨(some 4), none, .mov (.const (.int .u32 0))⟩])
  (.seq (.ops [⟨(some 5), none, .mov (t 0)⟩,
    ⟨(some 6), none, .mov (t 1)⟩,
    ⟨(some 7), none, .neg (t 6)⟩,
    ⟨(some 8), none, .pcall C_math_bits_RotateLeft32 [(t 5), (t 7)]⟩,
    ⟨(some 4), none, .mov (t 8)⟩])
  .ret)), [.tmp 4]⟩
/-- quilt/quiltref02.rotate -/
def ir_quiltref02_rotate : IF := ⟨(.seq (.ops [⟨(some 4), none, .mov (.const (.int .u32 0))⟩])
  (.seq (.ops [⟨(some 5), none, .mov (t 0)⟩,
    ⟨(some 6), none, .mov (t 1)⟩,
    ⟨(some 7), none, .bin .shr (t 5) (t 6)⟩,
    ⟨(some 8), none, .mov (t 0)⟩,
    ⟨(some 9), none, .mov (t 1)⟩,
    ⟨(some 10), none, .bin .sub (.const (.int .u64 32)) (t 9)⟩,
    ⟨(some 11), none, .bin .shl (t 8) (t 10)⟩,
    ⟨(some 12), none, .bin .or (t 7) (t 11)⟩,
    ⟨(some 4), none, .mov (t 12)⟩])
  .ret)), [.tmp 4]⟩
/-- quilt/sha256.schedule -/
def ir_sha256_schedule : IF := ⟨(.seq (.ops [⟨(some 2), none, .alloc (repl 64 [.int .u32 0])⟩])
  (.seq (.ops [⟨(some 3), none, .alloc (repl 64 [.int .u32 0])⟩])
  (.seq (.seq (.ops [⟨(some 9), none, .mov (ci 0)⟩])
  (.block 0 (.loop (.seq (.ops [⟨(some 10), none, .bin .lss (t 9) (ci 64)⟩])
  (.seq (.cond (t 10) .skip
  (.exit 0))
  (.seq (.block 1 (.seq (.ops [⟨(some 11), none, .mov (t 9)⟩,
    ⟨(some 4), none, .mov (t 11)⟩])
  (.seq (.seq (.ops [⟨(some 12), none, .mov (t 4)⟩,
    ⟨(some 13), none, .bin .lss (t 12) (ci 16)⟩])
  (.cond (t 13) (.seq (.seq (.ops [⟨(some 14), none, .mov (t 0)⟩,
    ⟨(some 15), none, .mov (t 4)⟩,
    ⟨(some 16), none, .bin .mul (ci 4) (t 15)⟩,
    ⟨(some 17), none, .mov (t 4)⟩,
    ⟨(some 18), none, .bin .mul (ci 4) (t 17)⟩,
    ⟨(some 19), none, .bin .add (t 18) (ci 4)⟩,
    ⟨(some 20), none, .slS (t 14) (some (t 16)) (some (t 19))⟩,
    ⟨(some 21), none, .s2b (t 20)⟩,
    ⟨(some 22), none, .lenL (t 21)⟩,
    ⟨(some 23), none, .mov (ci 0)⟩])
  (.block 2 (.loop (.seq (.ops [⟨(some 24), none, .bin .lss (t 23) (t 22)⟩])
  (.seq (.cond (t 24) .skip
  (.exit 2))
  (.seq (.block 3 (.seq (.ops [⟨(some 25), none, .idxL 1 (t 21) (t 23)⟩,
    ⟨(some 26), none, .load1 (t 25)⟩,
    ⟨(some 6), none, .mov (t 26)⟩])
  (.ops [⟨(some 27), none, .mov (t 4)⟩,
    ⟨(some 28), none, .mov (t 4)⟩,
    ⟨(some 29), none, .idxA 1 64 (t 3) (t 28)⟩,
    ⟨(some 30), none, .load1 (t 29)⟩,
    ⟨(some 31), none, .bin .shl (t 30) (.const (.int .u64 8))⟩,
    ⟨(some 32), none, .mov (t 6)⟩,
    ⟨(some 33), none, .conv .u32 (t 32)⟩,
    ⟨(some 34), none, .bin .or (t 31) (t 33)⟩,
    ⟨(some 35), none, .idxA 1 64 (t 3) (t 27)⟩,
    ⟨none, none, .stor1 (t 35) (t 34)⟩])))
  (.ops [⟨(some 36), none, .bin .add (t 23) (ci 1)⟩,
    ⟨(some 23), none, .mov (t 36)⟩])))))))
  (.exit 1))
  .skip))
  (.seq (.ops [⟨(some 37), none, .mov (t 4)⟩,
    ⟨(some 38), none, .bin .sub (t 37) (ci 15)⟩,
    ⟨(some 39), none, .idxA 1 64 (t 3) (t 38)⟩,
    ⟨(some 40), none, .load1 (t 39)⟩,
    ⟨(some 41), none, .mov (t 4)⟩,
    ⟨(some 42), none, .bin .sub (t 41) (ci 2)⟩,
    ⟨(some 43), none, .idxA 1 64 (t 3) (t 42)⟩,
    ⟨(some 44), none, .load1 (t 43)⟩,
    ⟨(some 7), none, .mov (t 40)⟩,
    ⟨(some 8), none, .mov (t 44)⟩])
  (.ops [⟨(some 45), none, .mov (t 4)⟩,
    ⟨(some 46), none, .mov (t 8)⟩,
    ⟨(some 47), none, .pcall C_sha256_right [(t 46), (ci 17)]⟩,
    ⟨(some 48), none, .mov (t 8)⟩,
    ⟨(some 49), none, .pcall C_sha256_right [(t 48), (ci 19)]⟩,
    ⟨(some 50), none, .bin .xor (t 47) (t 49)⟩,
    ⟨(some 51), none, .mov (t 8)⟩,
    ⟨(some 52), none, .bin .shr (t 51) (.const (.int .u64 10))⟩,
    ⟨(some 53), none, .bin .xor (t 50) (t 52)⟩,
    ⟨(some 54), none, .mov (t 4)⟩,
    ⟨(some 55), none, .bin .sub (t 54) (ci 7)⟩,
    ⟨(some 56), none, .idxA 1 64 (t 3) (t 55)⟩,
    ⟨(some 57), none, .load1 (t 56)⟩,
    ⟨(some 58), none, .bin .add (t 53) (t 57)⟩,
    ⟨(some 59), none, .mov (t 7)⟩,
    ⟨(some 60), none, .pcall C_sha256_right [(t 59), (ci 7)]⟩,
    ⟨(some 61), none, .mov (t 7)⟩,
    ⟨(some 62), none, .pcall C_sha256_right [(t 61), (ci 18)]⟩,
    ⟨(some 63), none, .bin .xor (t 60) (t 62)⟩,
    ⟨(some 64), none, .mov (t 7)⟩,
    ⟨(some 65), none, .bin .shr (t 64) (.const (.int .u64 3))⟩,
    ⟨(some 66), none, .bin .xor (t 63) (t 65)⟩,
    ⟨(some 67), none, .bin .add (t 58) (t 66)⟩,
    ⟨(some 68), none, .mov (t 4)⟩,
    ⟨(some 69), none, .bin .sub (t 68) (ci 16)⟩,
    ⟨(some 70), none, .idxA 1 64 (t 3) (t 69)⟩,
    ⟨(some 71), none, .load1 (t 70)⟩,
    ⟨(some 72), none, .bin .add (t 67) (t 71)⟩,
    ⟨(some 73), none, .idxA 1 64 (t 3) (t 45)⟩,
    ⟨none, none, .stor1 (t 73) (t 72)⟩])))))
  (.ops [⟨(some 74), none, .bin .add (t 9) (ci 1)⟩,
    ⟨(some 9), none, .mov (t 74)⟩])))))))
  (.seq (.ops [⟨(some 75), none, .loadN 64 (t 3)⟩,
    ⟨none, none, .storN 64 (t 2) (t 75)⟩])
  .ret)))), [.cell 2 true 64]⟩
/-- quilt/quiltref02.schedule -/
def ir_quiltref02_schedule : IF := ⟨(.seq (.ops [⟨(some 2), none, .alloc (repl 64 [.int .u32 0])⟩])
  (.seq (.ops [⟨(some 8), none, .build 64 (repl 64 [.int .u32 0]) []⟩,
    ⟨(some 3), none, .alloc (repl 64 [.int .u32 0])⟩,
    ⟨none, none, .storN 64 (t 3) (t 8)⟩])
  (.seq (.seq (.ops [⟨(some 4), none, .mov (ci 0)⟩])
  (.block 0 (.loop (.seq (.seq (.ops [⟨(some 9), none, .mov (t 4)⟩,
    ⟨(some 10), none, .bin .lss (t 9) (ci 16)⟩])
  (.cond (t 10) .skip
  (.exit 0)))
  (.seq (.block 1 (.ops [⟨(some 13), none, .mov (t 4)⟩,
    ⟨(some 14), none, .mov (t 0)⟩,
    ⟨(some 15), none, .mov (t 4)⟩,
    ⟨(some 16), none, .bin .mul (ci 4) (t 15)⟩,
    ⟨(some 17), none, .idxS (t 14) (t 16)⟩,
    ⟨(some 18), none, .conv .u32 (t 17)⟩,
    ⟨(some 19), none, .bin .shl (t 18) (.const (.int .u64 24))⟩,
    ⟨(some 20), none, .mov (t 0)⟩,
    ⟨(some 21), none, .mov (t 4)⟩,
    ⟨(some 22), none, .bin .mul (ci 4) (t 21)⟩,
    ⟨(some 23), none, .bin .add (t 22) (ci 1)⟩,
    ⟨(some 24), none, .idxS (t 20) (t 23)⟩,
    ⟨(some 25), none, .conv .u32 (t 24)⟩,
    ⟨(some 26), none, .bin .shl (t 25) (.const (.int .u64 16))⟩,
    ⟨(some 27), none, .bin .or (t 19) (t 26)⟩,
    ⟨(some 28), none, .mov (t 0)⟩,
    ⟨(some 29), none, .mov (t 4)⟩,
    ⟨(some 30), none, .bin .mul (ci 4) (t 29)⟩,
    ⟨(some 31), none, .bin .add (t 30) (ci 2)⟩,
    ⟨(some 32), none, .idxS (t 28) (t 31)⟩,
    ⟨(some 33), none, .conv .u32 (t 32)⟩,
    ⟨(some 34), none, .bin .shl (t 33) (.const (.int .u64 8))⟩,
    ⟨(some 35), none, .bin .or (t 27) (t 34)⟩,
    ⟨(some 36), none, .mov (t 0)⟩,
    ⟨(some 37), none, .mov (t 4)⟩,
    ⟨(some 38), none, .bin .mul (ci 4) (t 37)⟩,
    ⟨(some 39), none, .bin .add (t 38) (ci 3)⟩,
    ⟨(some 40), none, .idxS (t 36) (t 39)⟩,
    ⟨(some 41), none, .conv .u32 (t 40)⟩,
    ⟨(some 42), none, .bin .or (t 35) (t 41)⟩,
    ⟨(some 43), none, .idxA 1 64 (t 3) (t 13)⟩,
    ⟨none, none, .stor1 (t 43) (t 42)⟩]))
  (.ops [⟨(some 11), none, .mov (t 4)⟩,
    ⟨(some 12), none, .bin .add (t 11) (ci 1)⟩,
    ⟨(some 4), none, .mov (t 12)⟩]))))))
  (.seq (.seq (.ops [⟨(some 5), none, .mov (ci 16)⟩])
  (.block 2 (.loop (.seq (.seq (.ops [⟨(some 44), none, .mov (t 5)⟩,
    ⟨(some 45), none, .bin .lss (t 44) (ci 64)⟩])
  (.cond (t 45) .skip
  (.exit 2)))
  (.seq (.block 3 (.seq (.ops [⟨(some 48), none, .mov (t 5)⟩,
    ⟨(some 49), none, .bin .sub (t 48) (ci 15)⟩,
    ⟨(some 50), none, .idxA 1 64 (t 3) (t 49)⟩,
    ⟨(some 51), none, .load1 (t 50)⟩,
    ⟨(some 52), none, .mov (t 5)⟩,
    ⟨(some 53), none, .bin .sub (t 52) (ci 2)⟩,
    ⟨(some 54), none, .idxA 1 64 (t 3) (t 53)⟩,
    ⟨(some 55), none, .load1 (t 54)⟩,
    ⟨(some 6), none, .mov (t 51)⟩,
    ⟨(some 7), none, .mov (t 55)⟩])
  (.ops [⟨(some 56), none, .mov (t 5)⟩,
    ⟨(some 57), none, .mov (t 7)⟩,
    ⟨(some 58), none, .pcall C_quiltref02_rotate [(t 57), (.const (.int .u64 17))]⟩,
    ⟨(some 59), none, .mov (t 7)⟩,
    ⟨(some 60), none, .pcall C_quiltref02_rotate [(t 59), (.const (.int .u64 19))]⟩,
    ⟨(some 61), none, .bin .xor (t 58) (t 60)⟩,
    ⟨(some 62), none, .mov (t 7)⟩,
    ⟨(some 63), none, .bin .shr (t 62) (.const (.int .u64 10))⟩,
    ⟨(some 64), none, .bin .xor (t 61) (t 63)⟩,
    ⟨(some 65), none, .mov (t 5)⟩,
    ⟨(some 66), none, .bin .sub (t 65) (ci 7)⟩,
    ⟨(some 67), none, .idxA 1 64 (t 3) (t 66)⟩,
    ⟨(some 68), none, .load1 (t 67)⟩,
    ⟨(some 69), none, .bin .add (t 64) (t 68)⟩,
    ⟨(some 70), none, .mov (t 6)⟩,
    ⟨(some 71), none, .pcall C_quiltref02_rotate [(t 70), (.const (.int .u64 7))]⟩,
    ⟨(some 72), none, .mov (t 6)⟩,
    ⟨(some 73), none, .pcall C_quiltref02_rotate [(t 72), (.const (.int .u64 18))]⟩,
    ⟨(some 74), none, .bin .xor (t 71) (t 73)⟩,
    ⟨(some 75), none, .mov (t 6)⟩,
    ⟨(some 76), none, .bin .shr (t 75) (.const (.int .u64 3))⟩,
    ⟨(some 77), none, .bin .xor (t 74) (t 76)⟩,
    ⟨(some 78), none, .bin .add (t 69) (t 77)⟩,
    ⟨(some 79), none, .mov (t 5)⟩,
    ⟨(some 80), none, .bin .sub (t 79) (ci 16)⟩,
    ⟨(some 81), none, .idxA 1 64 (t 3) (t 80)⟩,
    ⟨(some 82), none, .load1 (t 81)⟩,
    ⟨(some 83), none, .bin .add (t 78) (t 82)⟩,
    ⟨(some 84), none, .idxA 1 64 (t 3) (t 56)⟩,
    ⟨none, none, .stor1 (t 84) (t 83)⟩])))
  (.ops [⟨(some 46), none, .mov (t 5)⟩,
    ⟨(some 47), none, .bin .add (t 46) (ci 1)⟩,
    ⟨(some 5), none, .mov (t 47)⟩]))))))
  (.seq (.ops [⟨(some 85), none, .loadN 64 (t 3)⟩,
    ⟨none, none, .storN 64 (t 2) (t 85)⟩])
  .ret))))), [.cell 2 true 64]⟩

end Qk

/-
  Rotations: the functions do what their contracts say.
-/
namespace Qk
open Go Go.RowKit

theorem or_comm (k : IntKind) (a b : Int) : orI k a b = orI k b a := by unfold orI; rw [BitVec.or_comm]

theorem and31 (k : Int) (h1 : -31 ≤ k) (h2 : k ≤ -1) : andI .u64 (k % 18446744073709551616) 31 = 32 + k := by
  have : k = -31 ∨ k = -30 ∨ k = -29 ∨ k = -28 ∨ k = -27 ∨ k = -26 ∨ k = -25 ∨ k = -24 ∨ k = -23 ∨ k = -22 ∨ k = -21 ∨ k = -20 ∨ k = -19 ∨ k = -18 ∨ k = -17 ∨ k = -16 ∨ k = -15 ∨ k = -14 ∨ k = -13 ∨ k = -12 ∨ k = -11 ∨ k = -10 ∨ k = -9 ∨ k = -8 ∨ k = -7 ∨ k = -6 ∨ k = -5 ∨ k = -4 ∨ k = -3 ∨ k = -2 ∨ k = -1 := by omega
  rcases this with rfl | rfl | rfl | rfl | rfl | rfl | rfl | rfl | rfl | rfl | rfl | rfl | rfl | rfl | rfl | rfl | rfl | rfl | rfl | rfl | rfl | rfl | rfl | rfl | rfl | rfl | rfl | rfl | rfl | rfl | rfl <;> decide

theorem d_RotateLeft32 : Does ir_math_bits_RotateLeft32 C_math_bits_RotateLeft32 := by
  rintro ⟨x, k⟩ ⟨h1, h2⟩
  have e := and31 k h1 h2
  refine And.intro (by rw [e]; omega) ?_
  refine And.intro (by rw [e]; omega) ?_
  refine ⟨_, (by first | exact SubSt.refl _ | exact SubTop.refl _), ?_⟩
  refine congrArg (AV.int .u32) ?_
  rw [e, or_comm]
  unfold rotr
  congr 2 <;> omega

theorem d_right : Does ir_sha256_right C_sha256_right := by
  rintro ⟨x, n⟩ ⟨h1, h2⟩
  refine And.intro (by omega) ?_
  refine ⟨⟨x, 0 - n⟩, rfl, ⟨by omega, by omega⟩, ?_⟩
  refine ⟨_, (by first | exact SubSt.refl _ | exact SubTop.refl _), ?_⟩
  refine congrArg (AV.int .u32) ?_
  show rotr x (-(0 - n)) = rotr x n
  congr 1
  omega

theorem d_rotate : Does ir_quiltref02_rotate C_quiltref02_rotate := by
  rintro ⟨x, n⟩ ⟨h1, h2⟩
  refine And.intro (by omega) ?_
  refine And.intro (by omega) ?_
  refine ⟨_, (by first | exact SubSt.refl _ | exact SubTop.refl _), ?_⟩
  refine congrArg (AV.int .u32) ?_
  rfl
end Qk

/-
  The words of a block.
-/
namespace Qk
open Go Go.RowKit

def arrW (l : List UInt8) (t : Nat) : List Int := sched l t ++ List.replicate (64 - t) 0
def arrP (l : List UInt8) (t k : Nat) : List Int := (arrW l t).set t (((l.drop (4 * t)).take k).foldl byteW 0)

theorem arrW_len {l : List UInt8} {t : Nat} (h : t ≤ 64) : (arrW l t).length = 64 := by simp [arrW, sched_len]; omega
theorem arrP_len {l : List UInt8} {t k : Nat} (h : t ≤ 64) : (arrP l t k).length = 64 := by simp [arrP, arrW_len h]
theorem arrP_zero {l : List UInt8} {t : Nat} (h : t < 64) : arrP l t 0 = arrW l t := by
  apply List.ext_getElem?
  intro i
  simp only [arrP, List.getElem?_set, List.take_zero, List.foldl_nil]
  split
  · rename_i e
    subst e
    rw [if_pos (by rw [arrW_len (by omega)]; omega)]
    have : ¬ 64 - t = 0 := by omega
    simp [arrW, List.getElem?_append, sched_len, List.getElem?_replicate, this]
  · rfl
theorem arrP_get {l : List UInt8} {t k : Nat} (h : t < 64) : (arrP l t k).getD t 0 = ((l.drop (4 * t)).take k).foldl byteW 0 := by
  simp [arrP, List.getD, arrW_len (Nat.le_of_lt h), h]
theorem arrP_set {l : List UInt8} {t k : Nat} (v : Int) : (arrP l t k).set t v = (arrW l t).set t v := by simp [arrP]
theorem arrP_succ {l : List UInt8} {t k : Nat} (hk : 4 * t + k < l.length) : (arrW l t).set t (byteW (((l.drop (4 * t)).take k).foldl byteW 0) (l.getD (4 * t + k) 0)) = arrP l t (k + 1) := by
  unfold arrP
  congr 1
  have : (l.drop (4 * t)).take (k + 1) = (l.drop (4 * t)).take k ++ [l.getD (4 * t + k) 0] := by
    rw [List.take_succ_eq_append_getElem (by simp; omega)]
    simp [List.getD, List.getElem?_eq_getElem hk]
  rw [this, List.foldl_append]
  rfl
theorem arrW_set {l : List UInt8} {t : Nat} (h : t < 64) (v : Int) : (arrW l t).set t v = sched l t ++ [v] ++ List.replicate (64 - (t + 1)) 0 := by
  unfold arrW
  rw [List.set_append_right _ _ (by rw [sched_len]; omega), sched_len, Nat.sub_self]
  have : 64 - t = (64 - (t + 1)) + 1 := by omega
  rw [this, List.replicate_succ]
  simp
theorem arrW_get {l : List UInt8} {t i : Nat} (h : i < t) : (arrW l t).getD i 0 = (sched l t).getD i 0 := by
  simp [arrW, List.getD, List.getElem?_append, sched_len, h]

theorem arrW_zero (l : List UInt8) : arrW l 0 = List.replicate 64 0 := rfl
theorem arrW_succ {l : List UInt8} {t : Nat} (h : t < 64) (v : Int) (hv : v = if t < 16 then word l t else nextW (sched l t) t) : (arrW l t).set t v = arrW l (t + 1) := by
  rw [arrW_set h, hv]
  rfl
theorem arrW_end (l : List UInt8) : arrW l 64 = sched l 64 := by simp [arrW]
theorem piece_len {l : List UInt8} (hl : l.length = 64) {t : Nat} (ht : t < 16) : ((l.drop (4 * (t : Int)).toNat).take ((4 * (t : Int) + 4).toNat - (4 * (t : Int)).toNat)).length = 4 := by
  simp only [List.length_take, List.length_drop]
  omega
theorem piece_eq {l : List UInt8} {t : Nat} : (l.drop (4 * (t : Int)).toNat).take ((4 * (t : Int) + 4).toNat - (4 * (t : Int)).toNat) = (l.drop (4 * t)).take 4 := by
  have e1 : (4 * (t : Int) + 4).toNat - (4 * (t : Int)).toNat = 4 := by omega
  have e2 : (4 * (t : Int)).toNat = 4 * t := by omega
  rw [e1, e2]

theorem d_sha256_schedule : Does ir_sha256_schedule C_sha256_schedule := by
  intro (l : List UInt8) (hl : l.length = 64)
  refine ⟨Nat, fun t => t ≤ 64, fun t => mks [(0, .str l), (2, .ref 0 0), (3, .ref 1 0), (9, .int .i64 t)] [(0, .cells (ints .u32 (List.replicate 64 0))), (1, .cells (ints .u32 (arrW l t)))] 2, fun t => 64 - t, 0, by omega, ?_, ?_⟩
  · refine sub_ren [0, 1] rfl (by decide) ⟨⟨_, rfl, rfl⟩, ⟨_, rfl, ⟨0, rfl, rfl⟩⟩, ⟨_, rfl, ⟨1, rfl, rfl⟩⟩, ⟨_, rfl, rfl⟩, trivial⟩ ⟨⟨0, _, rfl, rfl, ⟨_, rfl, eR' (repl_ints _ _ _)⟩⟩, ⟨1, _, rfl, rfl, ⟨_, rfl, eR' (repl_ints _ _ _)⟩⟩, trivial⟩
  · intro t ht
    refine cond_split (fun h => ?_) (fun h => ?_)
    · have hlt : (t : Int) < 64 := of_decide_eq_true h
      have hlt : t < 64 := by omega
      refine cond_split (fun h => ?_) (fun h => ?_)
      · have ht16 : (t : Int) < 16 := of_decide_eq_true h
        have ht16 : t < 16 := by omega
        refine And.intro (by omega) ?_
        refine And.intro (by omega) ?_
        refine And.intro (by omega) ?_
        refine And.intro (by omega) ?_
        refine ⟨Nat, fun k => k ≤ 4, fun k => mks [(0, .str l), (2, .ref 0 0), (3, .ref 1 0), (4, .int .i64 t), (9, .int .i64 t), (21, .sl 2 0 4), (22, .int .i64 4), (23, .int .i64 k)]
          [(0, .cells (ints .u32 (List.replicate 64 0))), (1, .cells (ints .u32 (arrP l t k))), (2, .lst 1 (bys ((l.drop (4 * t)).take 4)))] 3, fun k => 4 - k, 0, by omega, ?_, ?_⟩
        · refine sub_ren [0, 1, 2] rfl (by decide) ⟨⟨_, rfl, rfl⟩, ⟨_, rfl, ⟨0, rfl, rfl⟩⟩, ⟨_, rfl, ⟨1, rfl, rfl⟩⟩, ⟨_, rfl, rfl⟩, ⟨_, rfl, rfl⟩, ⟨_, rfl, ⟨2, rfl, ?_⟩⟩, ⟨_, rfl, ?_⟩, ⟨_, rfl, rfl⟩, trivial⟩
            ⟨⟨0, _, rfl, rfl, ⟨_, rfl, eR rfl⟩⟩, ⟨1, _, rfl, rfl, ⟨_, rfl, eR (arrP_zero hlt).symm⟩⟩, ⟨2, _, rfl, rfl, ⟨_, rfl, eB ?_⟩⟩, trivial⟩
          · exact congrArg (AV.sl 2 0) (piece_len hl ht16)
          · exact eI (by rw [piece_len hl ht16]; rfl)
          · exact congrArg bys piece_eq
        · intro k hk
          refine cond_split (fun h => ?_) (fun h => ?_)
          · have hk4 : (k : Int) < 4 := of_decide_eq_true h
            have hk4 : k < 4 := by omega
            have hlen : ((l.drop (4 * t)).take 4).length = 4 := by simp; omega
            refine And.intro ⟨rfl, by omega, by omega⟩ ?_
            refine ⟨_, bys_get (by omega), ?_⟩
            refine And.intro (by omega) ?_
            refine ⟨_, ints_get (by rw [arrP_len ht]; omega), ?_⟩
            refine And.intro (by omega) ?_
            refine And.intro (by omega) ?_
            refine And.intro (by rw [ints_length, arrP_len ht]; omega) ?_
            refine And.intro (by omega) ?_
            refine ⟨k + 1, by omega, by dsimp only; omega, ?_⟩
            refine sub_ren [0, 1, 2] rfl (by decide) ⟨⟨_, rfl, rfl⟩, ⟨_, rfl, ⟨0, rfl, rfl⟩⟩, ⟨_, rfl, ⟨1, rfl, rfl⟩⟩, ⟨_, rfl, rfl⟩, ⟨_, rfl, rfl⟩, ⟨_, rfl, ⟨2, rfl, rfl⟩⟩, ⟨_, rfl, rfl⟩, ⟨_, rfl, eI (by omega)⟩, trivial⟩
              ⟨⟨0, _, rfl, rfl, ⟨_, rfl, eR rfl⟩⟩, ⟨1, _, rfl, rfl, ⟨_, rfl, eR' ?_⟩⟩, ⟨2, _, rfl, rfl, ⟨_, rfl, eB rfl⟩⟩, trivial⟩
            rw [ints_set]
            refine congrArg _ ?_
            have e1 : 0 + (t : Int).toNat * 1 = t := by omega
            have e2 : (0 + (k : Int).toNat) * 1 = k := by omega
            rw [e1, e2, arrP_get hlt, arrP_set, ← arrP_succ (by omega)]
            congr 2
            simp [List.getD, hk4]
          · refine And.intro (by omega) ?_
            refine ⟨t + 1, by omega, by dsimp only; omega, ?_⟩
            refine sub_ren [0, 1] rfl (by decide) ⟨⟨_, rfl, rfl⟩, ⟨_, rfl, ⟨0, rfl, rfl⟩⟩, ⟨_, rfl, ⟨1, rfl, rfl⟩⟩, ⟨_, rfl, eI (by omega)⟩, trivial⟩
              ⟨⟨0, _, rfl, rfl, ⟨_, rfl, eR rfl⟩⟩, ⟨1, _, rfl, rfl, ⟨_, rfl, eR ?_⟩⟩, trivial⟩
            have hk4 : ¬ (k : Int) < 4 := of_decide_eq_false h
            have : k = 4 := by omega
            subst this
            exact arrW_succ hlt _ (by rw [if_pos ht16]; rfl)
      · have ht16 : ¬ (t : Int) < 16 := of_decide_eq_false h
        have ht16 : 16 ≤ t := by omega
        have la := arrW_len (l := l) ht
        refine And.intro (by omega) ?_
        refine And.intro (by omega) ?_
        refine ⟨_, ints_get (by omega), ?_⟩
        refine And.intro (by omega) ?_
        refine And.intro (by omega) ?_
        refine ⟨_, ints_get (by omega), ?_⟩
        refine ⟨⟨_, _⟩, rfl, ⟨by dsimp only; omega, by dsimp only; omega⟩, ?_⟩
        refine ⟨⟨_, _⟩, rfl, ⟨by dsimp only; omega, by dsimp only; omega⟩, ?_⟩
        refine And.intro (by omega) ?_
        refine And.intro (by omega) ?_
        refine And.intro (by omega) ?_
        refine ⟨_, ints_get (by omega), ?_⟩
        refine ⟨⟨_, _⟩, rfl, ⟨by dsimp only; omega, by dsimp only; omega⟩, ?_⟩
        refine ⟨⟨_, _⟩, rfl, ⟨by dsimp only; omega, by dsimp only; omega⟩, ?_⟩
        refine And.intro (by omega) ?_
        refine And.intro (by omega) ?_
        refine And.intro (by omega) ?_
        refine ⟨_, ints_get (by omega), ?_⟩
        refine And.intro (by omega) ?_
        refine And.intro (by rw [ints_length]; omega) ?_
        refine And.intro (by omega) ?_
        refine ⟨t + 1, by omega, by dsimp only; omega, ?_⟩
        refine sub_ren [0, 1] rfl (by decide) ⟨⟨_, rfl, rfl⟩, ⟨_, rfl, ⟨0, rfl, rfl⟩⟩, ⟨_, rfl, ⟨1, rfl, rfl⟩⟩, ⟨_, rfl, eI (by omega)⟩, trivial⟩
              ⟨⟨0, _, rfl, rfl, ⟨_, rfl, eR rfl⟩⟩, ⟨1, _, rfl, rfl, ⟨_, rfl, eR' ?_⟩⟩, trivial⟩
        have g2 : (arrW l t).getD (0 + ((t : Int) - 2).toNat * 1) 0 = (sched l t).getD (t - 2) 0 := by rw [show 0 + ((t : Int) - 2).toNat * 1 = t - 2 by omega, arrW_get (by omega)]
        have g7 : (arrW l t).getD (0 + ((t : Int) - 7).toNat * 1) 0 = (sched l t).getD (t - 7) 0 := by rw [show 0 + ((t : Int) - 7).toNat * 1 = t - 7 by omega, arrW_get (by omega)]
        have g15 : (arrW l t).getD (0 + ((t : Int) - 15).toNat * 1) 0 = (sched l t).getD (t - 15) 0 := by rw [show 0 + ((t : Int) - 15).toNat * 1 = t - 15 by omega, arrW_get (by omega)]
        have g16 : (arrW l t).getD (0 + ((t : Int) - 16).toNat * 1) 0 = (sched l t).getD (t - 16) 0 := by rw [show 0 + ((t : Int) - 16).toNat * 1 = t - 16 by omega, arrW_get (by omega)]
        rw [ints_set, show 0 + (t : Int).toNat * 1 = t by omega]
        refine congrArg _ (arrW_succ hlt _ ?_)
        rw [if_neg (by omega)]
        unfold nextW
        rw [← g2, ← g7, ← g15, ← g16]
        rfl
    · have hlt : ¬ (t : Int) < 64 := of_decide_eq_false h
      have : t = 64 := by omega
      subst this
      have e := arrW_end l
      have ln : (ints .u32 (sched l 64)).length = 64 := by rw [ints_length, sched_len]
      refine ⟨ints .u32 (sched l 64), ⟨by rw [e]; exact tda ln, ln⟩, ?_⟩
      refine And.intro ⟨ln, ints_all _ _⟩ ?_
      refine And.intro (by rw [ints_length]; simp) ?_
      refine ⟨_, lay_all (by rw [ln, ints_length]; simp), ?_⟩
      refine ⟨_, (by first | exact SubSt.refl _ | exact SubTop.refl _), ?_⟩
      exact ⟨_, ⟨tda ln, ln, by omega⟩, rfl⟩

end Qk

/-
  What the compression of chapter 02 computes; its contracts.
-/
namespace Qk
open Go Go.RowKit

def kc : List Int := [1116352408, 1899447441, 3049323471, 3921009573, 961987163, 1508970993, 2453635748, 2870763221, 3624381080, 310598401, 607225278, 1426881987, 1925078388, 2162078206, 2614888103, 3248222580, 3835390401, 4022224774, 264347078, 604807628, 770255983, 1249150122, 1555081692, 1996064986, 2554220882, 2821834349, 2952996808, 3210313671, 3336571891, 3584528711, 113926993, 338241895, 666307205, 773529912, 1294757372, 1396182291, 1695183700, 1986661051, 2177026350, 2456956037, 2730485921, 2820302411, 3259730800, 3345764771, 3516065817, 3600352804, 4094571909, 275423344, 430227734, 506948616, 659060556, 883997877, 958139571, 1322822218, 1537002063, 1747873779, 1955562222, 2024104815, 2227730452, 2361852424, 2428436474, 2756734187, 3204031479, 3329325298]
def iv : List Int := [1779033703, 3144134277, 1013904242, 2773480762, 1359893119, 2600822924, 528734635, 1541459225]

structure V8 where
  a : Int
  b : Int
  c : Int
  d : Int
  e : Int
  f : Int
  g : Int
  h : Int

def V8.list (v : V8) : List Int := [v.a, v.b, v.c, v.d, v.e, v.f, v.g, v.h]
def V8.of (l : List Int) : V8 := ⟨l.getD 0 0, l.getD 1 0, l.getD 2 0, l.getD 3 0, l.getD 4 0, l.getD 5 0, l.getD 6 0, l.getD 7 0⟩

def cplU (a : Int) : Int := xorI .u32 (if IntKind.u32.signed then -1 else IntKind.u32.max) a
def tOne (v : V8) (k w : Int) : Int :=
  ((((v.h + xorI .u32 (xorI .u32 (rotr v.e 6) (rotr v.e 11)) (rotr v.e 25)) % 4294967296 + xorI .u32 (andI .u32 v.e v.f) (andI .u32 (cplU v.e) v.g)) % 4294967296 + k) % 4294967296 + w) % 4294967296
def tTwo (v : V8) : Int :=
  (xorI .u32 (xorI .u32 (rotr v.a 2) (rotr v.a 13)) (rotr v.a 22) + xorI .u32 (xorI .u32 (andI .u32 v.a v.b) (andI .u32 v.a v.c)) (andI .u32 v.b v.c)) % 4294967296
def rnd (v : V8) (k w : Int) : V8 := ⟨(tOne v k w + tTwo v) % 4294967296, v.a, v.b, v.c, (v.d + tOne v k w) % 4294967296, v.e, v.f, v.g⟩
def rnds (ws : List Int) (v : V8) : Nat → V8
  | 0 => v
  | t + 1 => rnd (rnds ws v t) (kc.getD t 0) (ws.getD t 0)

/-- The sum of two states, up to the i-th word. -/
def addTo (hs vs : List Int) : Nat → List Int
  | 0 => hs
  | i + 1 => (addTo hs vs i).set i (((addTo hs vs i).getD i 0 + vs.getD i 0) % 4294967296)
def comp (hs : List Int) (l : List UInt8) : List Int := addTo hs (rnds (sched l 64) (V8.of hs) 64).list 8

def C_sha256_constants : PC := ⟨Unit, fun _ => [], fun _ => True, fun _ => .agg (ints .u32 kc)⟩
def C_quiltref02_constants : PC := ⟨Unit, fun _ => [], fun _ => True, fun _ => .agg (ints .u32 kc)⟩
def C_sha256_initial : PC := ⟨Unit, fun _ => [], fun _ => True, fun _ => .agg (ints .u32 iv)⟩
def C_sha256_compress : PC := ⟨List Int × List UInt8, fun p => [.agg (ints .u32 p.1), .str p.2], fun p => p.1.length = 8 ∧ p.2.length = 64, fun p => .agg (ints .u32 (comp p.1 p.2))⟩
def C_quiltref02_step : PC := ⟨List Int × List UInt8, fun p => [.agg (ints .u32 p.1), .str p.2], fun p => p.1.length = 8 ∧ p.2.length = 64, fun p => .agg (ints .u32 (comp p.1 p.2))⟩

theorem kc_len : kc.length = 64 := rfl
theorem addTo_len (hs vs : List Int) (i : Nat) : (addTo hs vs i).length = hs.length := by
  induction i with
  | zero => rfl
  | succ i ih => simp [addTo, ih]
theorem comp_len (hs : List Int) (l : List UInt8) : (comp hs l).length = hs.length := addTo_len _ _ _

end Qk

/-
  The functions of chapter 02 in the executor's form: constants, compression.
-/
namespace Qk
open Go Go.RowKit

/-- quilt/sha256.constants -/
def ir_sha256_constants : IF := ⟨(.seq (.ops [⟨(some 0), none, .alloc (repl 64 [.int .u32 0])⟩])
  (.seq (.ops [⟨(some 1), none, .build 64 (repl 64 [.int .u32 0]) [(0, 1, (.const (.int .u32 1116352408))), (1, 1, (.const (.int .u32 1899447441))), (2, 1, (.const (.int .u32 3049323471))), (3, 1, (.const (.int .u32 3921009573))), (4, 1, (.const (.int .u32 961987163))), (5, 1, (.const (.int .u32 1508970993))), (6, 1, (.const (.int .u32 2453635748))), (7, 1, (.const (.int .u32 2870763221))), (8, 1, (.const (.int .u32 3624381080))), (9, 1, (.const (.int .u32 310598401))), (10, 1, (.const (.int .u32 607225278))), (11, 1, (.const (.int .u32 1426881987))), (12, 1, (.const (.int .u32 1925078388))), (13, 1, (.const (.int .u32 2162078206))), (14, 1, (.const (.int .u32 2614888103))), (15, 1, (.const (.int .u32 3248222580))), (16, 1, (.const (.int .u32 3835390401))), (17, 1, (.const (.int .u32 4022224774))), (18, 1, (.const (.int .u32 264347078))), (19, 1, (.const (.int .u32 604807628))), (20, 1, (.const (.int .u32 770255983))), (21, 1, (.const (.int .u32 1249150122))), (22, 1, (.const (.int .u32 1555081692))), (23, 1, (.const (.int .u32 1996064986))), (24, 1, (.const (.int .u32 2554220882))), (25, 1, (.const (.int .u32 2821834349))), (26, 1, (.const (.int .u32 2952996808))), (27, 1, (.const (.int .u32 3210313671))), (28, 1, (.const (.int .u32 3336571891))), (29, 1, (.const (.int .u32 3584528711))), (30, 1, (.const (.int .u32 113926993))), (31, 1, (.const (.int .u32 338241895))), (32, 1, (.const (.int .u32 666307205))), (33, 1, (.const (.int .u32 773529912))), (34, 1, (.const (.int .u32 1294757372))), (35, 1, (.const (.int .u32 1396182291))), (36, 1, (.const (.int .u32 1695183700))), (37, 1, (.const (.int .u32 1986661051))), (38, 1, (.const (.int .u32 2177026350))), (39, 1, (.const (.int .u32 2456956037))), (40, 1, (.const (.int .u32 2730485921))), (41, 1, (.const (.int .u32 2820302411))), (42, 1, (.const (.int .u32 3259730800))), (43, 1, (.const (.int .u32 3345764771))), (44, 1, (.const (.int .u32 3516065817))), (45, 1, (.const (.int .u32 3600352804))), (46, 1, (.const (.int .u32 4094571909))), (47, 1, (.const (.int .u32 275423344))), (48, 1, (.const (.int .u32 430227734))), (49, 1, (.const (.int .u32 506948616))), (50, 1, (.const (.int .u32 659060556))), (51, 1, (.const (.int .u32 883997877))), (52, 1, (.const (.int .u32 958139571))), (53, 1, (.const (.int .u32 1322822218))), (54, 1, (.const (.int .u32 1537002063))), (55, 1, (.const (.int .u32 1747873779))), (56, 1, (.const (.int .u32 1955562222))), (57, 1, (.const (.int .u32 2024104815))), (58, 1, (.const (.int .u32 2227730452))), (59, 1, (.const (.int .u32 2361852424))), (60, 1, (.const (.int .u32 2428436474))), (61, 1, (.const (.int .u32 2756734187))), (62, 1, (.const (.int .u32 3204031479))), (63, 1, (.const (.int .u32 3329325298)))]⟩,
    ⟨none, none, .storN 64 (t 0) (t 1)⟩])
  .ret)), [.cell 0 true 64]⟩
/-- quilt/quiltref02.constants -/
def ir_quiltref02_constants : IF := ⟨(.seq (.ops [⟨(some 0), none, .alloc (repl 64 [.int .u32 0])⟩])
  (.seq (.ops [⟨(some 1), none, .build 64 (repl 64 [.int .u32 0]) [(0, 1, (.const (.int .u32 1116352408))), (1, 1, (.const (.int .u32 1899447441))), (2, 1, (.const (.int .u32 3049323471))), (3, 1, (.const (.int .u32 3921009573))), (4, 1, (.const (.int .u32 961987163))), (5, 1, (.const (.int .u32 1508970993))), (6, 1, (.const (.int .u32 2453635748))), (7, 1, (.const (.int .u32 2870763221))), (8, 1, (.const (.int .u32 3624381080))), (9, 1, (.const (.int .u32 310598401))), (10, 1, (.const (.int .u32 607225278))), (11, 1, (.const (.int .u32 1426881987))), (12, 1, (.const (.int .u32 1925078388))), (13, 1, (.const (.int .u32 2162078206))), (14, 1, (.const (.int .u32 2614888103))), (15, 1, (.const (.int .u32 3248222580))), (16, 1, (.const (.int .u32 3835390401))), (17, 1, (.const (.int .u32 4022224774))), (18, 1, (.const (.int .u32 264347078))), (19, 1, (.const (.int .u32 604807628))), (20, 1, (.const (.int .u32 770255983))), (21, 1, (.const (.int .u32 1249150122))), (22, 1, (.const (.int .u32 1555081692))), (23, 1, (.const (.int .u32 1996064986))), (24, 1, (.const (.int .u32 2554220882))), (25, 1, (.const (.int .u32 2821834349))), (26, 1, (.const (.int .u32 2952996808))), (27, 1, (.const (.int .u32 3210313671))), (28, 1, (.const (.int .u32 3336571891))), (29, 1, (.const (.int .u32 3584528711))), (30, 1, (.const (.int .u32 113926993))), (31, 1, (.const (.int .u32 338241895))), (32, 1, (.const (.int .u32 666307205))), (33, 1, (.const (.int .u32 773529912))), (34, 1, (.const (.int .u32 1294757372))), (35, 1, (.const (.int .u32 1396182291))), (36, 1, (.const (.int .u32 1695183700))), (37, 1, (.const (.int .u32 1986661051))), (38, 1, (.const (.int .u32 2177026350))), (39, 1, (.const (.int .u32 2456956037))), (40, 1, (.const (.int .u32 2730485921))), (41, 1, (.const (.int .u32 2820302411))), (42, 1, (.const (.int .u32 3259730800))), (43, 1, (.const (.int .u32 3345764771))), (44, 1, (.const (.int .u32 3516065817))), (45, 1, (.const (.int .u32 3600352804))), (46, 1, (.const (.int .u32 4094571909))), (47, 1, (.const (.int .u32 275423344))), (48, 1, (.const (.int .u32 430227734))), (49, 1, (.const (.int .u32 506948616))), (50, 1, (.const (.int .u32 659060556))), (51, 1, (.const (.int .u32 883997877))), (52, 1, (.const (.int .u32 958139571))), (53, 1, (.const (.int .u32 1322822218))), (54, 1, (.const (.int .u32 1537002063))), (55, 1, (.const (.int .u32 1747873779))), (56, 1, (.const (.int .u32 1955562222))), (57, 1, (.const (.int .u32 2024104815))), (58, 1, (.const (.int .u32 2227730452))), (59, 1, (.const (.int .u32 2361852424))), (60, 1, (.const (.int .u32 2428436474))), (61, 1, (.const (.int .u32 2756734187))), (62, 1, (.const (.int .u32 3204031479))), (63, 1, (.const (.int .u32 3329325298)))]⟩,
    ⟨none, none, .storN 64 (t 0) (t 1)⟩])
  .ret)), [.cell 0 true 64]⟩
/-- quilt/sha256.initial -/
def ir_sha256_initial : IF := ⟨(.seq (.ops [⟨(some 0), none, .alloc (repl 8 [.int .u32 0])⟩])
  (.seq (.ops [⟨(some 1), none, .build 8 (repl 8 [.int .u32 0]) [(0, 1, (.const (.int .u32 1779033703))), (1, 1, (.const (.int .u32 3144134277))), (2, 1, (.const (.int .u32 1013904242))), (3, 1, (.const (.int .u32 2773480762))), (4, 1, (.const (.int .u32 1359893119))), (5, 1, (.const (.int .u32 2600822924))), (6, 1, (.const (.int .u32 528734635))), (7, 1, (.const (.int .u32 1541459225)))]⟩,
    ⟨none, none, .storN 8 (t 0) (t 1)⟩])
  .ret)), [.cell 0 true 8]⟩
/-- quilt/sha256.compress -/
def ir_sha256_compress : IF := ⟨(.seq (.ops [⟨(some 2), none, .box (t 0)⟩,
    ⟨(some 4), none, .alloc (repl 8 [.int .u32 0])⟩])
  (.seq (.ops [⟨(some 20), none, .mov (t 1)⟩,
    ⟨(some 21), none, .pcall C_sha256_schedule [(t 20)]⟩,
    ⟨(some 22), none, .pcall C_sha256_constants []⟩,
    ⟨(some 5), none, .alloc (repl 64 [.int .u32 0])⟩,
    ⟨(some 6), none, .alloc (repl 64 [.int .u32 0])⟩,
    ⟨none, none, .storN 64 (t 5) (t 21)⟩,
    ⟨none, none, .storN 64 (t 6) (t 22)⟩])
  (.seq (.ops [⟨(some 23), none, .idxA 1 8 (t 2) (ci 0)⟩,
    ⟨(some 24), none, .load1 (t 23)⟩,
    ⟨(some 25), none, .idxA 1 8 (t 2) (ci 1)⟩,
    ⟨(some 26), none, .load1 (t 25)⟩,
    ⟨(some 27), none, .idxA 1 8 (t 2) (ci 2)⟩,
    ⟨(some 28), none, .load1 (t 27)⟩,
    ⟨(some 29), none, .idxA 1 8 (t 2) (ci 3)⟩,
    ⟨(some 30), none, .load1 (t 29)⟩,
    ⟨(some 31), none, .idxA 1 8 (t 2) (ci 4)⟩,
    ⟨(some 32), none, .load1 (t 31)⟩,
    ⟨(some 33), none, .idxA 1 8 (t 2) (ci 5)⟩,
    ⟨(some 34), none, .load1 (t 33)⟩,
    ⟨(some 35), none, .idxA 1 8 (t 2) (ci 6)⟩,
    ⟨(some 36), none, .load1 (t 35)⟩,
    ⟨(some 37), none, .idxA 1 8 (t 2) (ci 7)⟩,
    ⟨(some 38), none, .load1 (t 37)⟩,
    ⟨(some 7), none, .mov (t 24)⟩,
    ⟨(some 8), none, .mov (t 26)⟩,
    ⟨(some 9), none, .mov (t 28)⟩,
    ⟨(some 10), none, .mov (t 30)⟩,
    ⟨(some 11), none, .mov (t 32)⟩,
    ⟨(some 12), none, .mov (t 34)⟩,
    ⟨(some 13), none, .mov (t 36)⟩,
    ⟨(some 14), none, .mov (t 38)⟩])
  (.seq (.seq (.ops [⟨(some 39), none, .mov (ci 0)⟩])
  (.block 0 (.loop (.seq (.ops [⟨(some 40), none, .bin .lss (t 39) (ci 64)⟩])
  (.seq (.cond (t 40) .skip
  (.exit 0))
  (.seq (.block 1 (.seq (.ops [⟨(some 41), none, .mov (t 39)⟩,
    ⟨(some 15), none, .mov (t 41)⟩])
  (.seq (.ops [⟨(some 42), none, .mov (t 14)⟩,
    ⟨(some 43), none, .mov (t 11)⟩,
    ⟨(some 44), none, .pcall C_sha256_right [(t 43), (ci 6)]⟩,
    ⟨(some 45), none, .mov (t 11)⟩,
    ⟨(some 46), none, .pcall C_sha256_right [(t 45), (ci 11)]⟩,
    ⟨(some 47), none, .bin .xor (t 44) (t 46)⟩,
    ⟨(some 48), none, .mov (t 11)⟩,
    ⟨(some 49), none, .pcall C_sha256_right [(t 48), (ci 25)]⟩,
    ⟨(some 50), none, .bin .xor (t 47) (t 49)⟩,
    ⟨(some 51), none, .bin .add (t 42) (t 50)⟩,
    ⟨(some 52), none, .mov (t 11)⟩,
    ⟨(some 53), none, .mov (t 12)⟩,
    ⟨(some 54), none, .bin .and (t 52) (t 53)⟩,
    ⟨(some 55), none, .mov (t 11)⟩,
    ⟨(some 56), none, .cpl (t 55)⟩,
    ⟨(some 57), none, .mov (t 13)⟩,
    ⟨(some 58), none, .bin .and (t 56) (t 57)⟩,
    ⟨(some 59), none, .bin .xor (t 54) (t 58)⟩,
    ⟨(some 60), none, .bin .add (t 51) (t 59)⟩,
    ⟨(some 61), none, .mov (t 15)⟩,
    ⟨(some 62), none, .idxA 1 64 (t 6) (t 61)⟩,
    ⟨(some 63), none, .load1 (t 62)⟩,
    ⟨(some 64), none, .bin .add (t 60) (t 63)⟩,
    ⟨(some 65), none, .mov (t 15)⟩,
    ⟨(some 66), none, .idxA 1 64 (t 5) (t 65)⟩,
    ⟨(some 67), none, .load1 (t 66)⟩,
    ⟨(some 68), none, .bin .add (t 64) (t 67)⟩,
    ⟨(some 16), none, .mov (t 68)⟩])
  (.seq (.ops [⟨(some 69), none, .mov (t 7)⟩,
    ⟨(some 70), none, .pcall C_sha256_right [(t 69), (ci 2)]⟩,
    ⟨(some 71), none, .mov (t 7)⟩,
    ⟨(some 72), none, .pcall C_sha256_right [(t 71), (ci 13)]⟩,
    ⟨(some 73), none, .bin .xor (t 70) (t 72)⟩,
    ⟨(some 74), none, .mov (t 7)⟩,
    ⟨(some 75), none, .pcall C_sha256_right [(t 74), (ci 22)]⟩,
    ⟨(some 76), none, .bin .xor (t 73) (t 75)⟩,
    ⟨(some 77), none, .mov (t 7)⟩,
    ⟨(some 78), none, .mov (t 8)⟩,
    ⟨(some 79), none, .bin .and (t 77) (t 78)⟩,
    ⟨(some 80), none, .mov (t 7)⟩,
    ⟨(some 81), none, .mov (t 9)⟩,
    ⟨(some 82), none, .bin .and (t 80) (t 81)⟩,
    ⟨(some 83), none, .bin .xor (t 79) (t 82)⟩,
    ⟨(some 84), none, .mov (t 8)⟩,
    ⟨(some 85), none, .mov (t 9)⟩,
    ⟨(some 86), none, .bin .and (t 84) (t 85)⟩,
    ⟨(some 87), none, .bin .xor (t 83) (t 86)⟩,
    ⟨(some 88), none, .bin .add (t 76) (t 87)⟩,
    ⟨(some 17), none, .mov (t 88)⟩])
  (.ops [⟨(some 89), none, .mov (t 16)⟩,
    ⟨(some 90), none, .mov (t 17)⟩,
    ⟨(some 91), none, .bin .add (t 89) (t 90)⟩,
    ⟨(some 92), none, .mov (t 7)⟩,
    ⟨(some 93), none, .mov (t 8)⟩,
    ⟨(some 94), none, .mov (t 9)⟩,
    ⟨(some 95), none, .mov (t 10)⟩,
    ⟨(some 96), none, .mov (t 16)⟩,
    ⟨(some 97), none, .bin .add (t 95) (t 96)⟩,
    ⟨(some 98), none, .mov (t 11)⟩,
    ⟨(some 99), none, .mov (t 12)⟩,
    ⟨(some 100), none, .mov (t 13)⟩,
    ⟨(some 7), none, .mov (t 91)⟩,
    ⟨(some 8), none, .mov (t 92)⟩,
    ⟨(some 9), none, .mov (t 93)⟩,
    ⟨(some 10), none, .mov (t 94)⟩,
    ⟨(some 11), none, .mov (t 97)⟩,
    ⟨(some 12), none, .mov (t 98)⟩,
    ⟨(some 13), none, .mov (t 99)⟩,
    ⟨(some 14), none, .mov (t 100)⟩])))))
  (.ops [⟨(some 101), none, .bin .add (t 39) (ci 1)⟩,
    ⟨(some 39), none, .mov (t 101)⟩])))))))
  (.seq (.seq (.ops [⟨(some 102), none, .mov (t 7)⟩,
    ⟨(some 103), none, .mov (t 8)⟩,
    ⟨(some 104), none, .mov (t 9)⟩,
    ⟨(some 105), none, .mov (t 10)⟩,
    ⟨(some 106), none, .mov (t 11)⟩,
    ⟨(some 107), none, .mov (t 12)⟩,
    ⟨(some 108), none, .mov (t 13)⟩,
    ⟨(some 109), none, .mov (t 14)⟩,
    ⟨(some 110), none, .build 8 (repl 8 [.int .u32 0]) [(0, 1, (t 102)), (1, 1, (t 103)), (2, 1, (t 104)), (3, 1, (t 105)), (4, 1, (t 106)), (5, 1, (t 107)), (6, 1, (t 108)), (7, 1, (t 109))]⟩,
    ⟨(some 111), none, .mov (ci 0)⟩])
  (.block 2 (.loop (.seq (.ops [⟨(some 112), none, .bin .lss (t 111) (ci 8)⟩])
  (.seq (.cond (t 112) .skip
  (.exit 2))
  (.seq (.block 3 (.seq (.ops [⟨(some 113), none, .mov (t 111)⟩,
    ⟨(some 114), none, .idxV 8 1 false (t 110) (t 111)⟩,
    ⟨(some 18), none, .mov (t 113)⟩,
    ⟨(some 19), none, .mov (t 114)⟩])
  (.ops [⟨(some 115), none, .mov (t 18)⟩,
    ⟨(some 116), none, .idxA 1 8 (t 2) (t 115)⟩,
    ⟨(some 117), none, .load1 (t 116)⟩,
    ⟨(some 118), none, .mov (t 19)⟩,
    ⟨(some 119), none, .bin .add (t 117) (t 118)⟩,
    ⟨(some 120), none, .idxA 1 8 (t 2) (t 115)⟩,
    ⟨none, none, .stor1 (t 120) (t 119)⟩])))
  (.ops [⟨(some 121), none, .bin .add (t 111) (ci 1)⟩,
    ⟨(some 111), none, .mov (t 121)⟩])))))))
  (.seq (.ops [⟨(some 122), none, .loadN 8 (t 2)⟩,
    ⟨none, none, .storN 8 (t 4) (t 122)⟩])
  .ret)))))), [.cell 4 true 8]⟩
/-- quilt/quiltref02.step -/
def ir_quiltref02_step : IF := ⟨(.seq (.ops [⟨(some 2), none, .box (t 0)⟩,
    ⟨(some 4), none, .alloc (repl 8 [.int .u32 0])⟩])
  (.seq (.ops [⟨(some 14), none, .mov (t 1)⟩,
    ⟨(some 15), none, .pcall C_quiltref02_schedule [(t 14)]⟩,
    ⟨(some 16), none, .pcall C_quiltref02_constants []⟩,
    ⟨(some 5), none, .alloc (repl 64 [.int .u32 0])⟩,
    ⟨(some 6), none, .alloc (repl 64 [.int .u32 0])⟩,
    ⟨none, none, .storN 64 (t 5) (t 15)⟩,
    ⟨none, none, .storN 64 (t 6) (t 16)⟩])
  (.seq (.ops [⟨(some 17), none, .loadN 8 (t 2)⟩,
    ⟨(some 7), none, .alloc (repl 8 [.int .u32 0])⟩,
    ⟨none, none, .storN 8 (t 7) (t 17)⟩])
  (.seq (.seq (.ops [⟨(some 8), none, .mov (ci 0)⟩])
  (.block 0 (.loop (.seq (.seq (.ops [⟨(some 18), none, .mov (t 8)⟩,
    ⟨(some 19), none, .bin .lss (t 18) (ci 64)⟩])
  (.cond (t 19) .skip
  (.exit 0)))
  (.seq (.block 1 (.seq (.ops [⟨(some 22), none, .idxA 1 8 (t 7) (ci 0)⟩,
    ⟨(some 23), none, .load1 (t 22)⟩,
    ⟨(some 24), none, .idxA 1 8 (t 7) (ci 4)⟩,
    ⟨(some 25), none, .load1 (t 24)⟩,
    ⟨(some 9), none, .mov (t 23)⟩,
    ⟨(some 10), none, .mov (t 25)⟩])
  (.seq (.ops [⟨(some 26), none, .idxA 1 8 (t 7) (ci 7)⟩,
    ⟨(some 27), none, .load1 (t 26)⟩,
    ⟨(some 28), none, .mov (t 10)⟩,
    ⟨(some 29), none, .pcall C_quiltref02_rotate [(t 28), (.const (.int .u64 6))]⟩,
    ⟨(some 30), none, .mov (t 10)⟩,
    ⟨(some 31), none, .pcall C_quiltref02_rotate [(t 30), (.const (.int .u64 11))]⟩,
    ⟨(some 32), none, .bin .xor (t 29) (t 31)⟩,
    ⟨(some 33), none, .mov (t 10)⟩,
    ⟨(some 34), none, .pcall C_quiltref02_rotate [(t 33), (.const (.int .u64 25))]⟩,
    ⟨(some 35), none, .bin .xor (t 32) (t 34)⟩,
    ⟨(some 36), none, .bin .add (t 27) (t 35)⟩,
    ⟨(some 37), none, .mov (t 10)⟩,
    ⟨(some 38), none, .idxA 1 8 (t 7) (ci 5)⟩,
    ⟨(some 39), none, .load1 (t 38)⟩,
    ⟨(some 40), none, .bin .and (t 37) (t 39)⟩,
    ⟨(some 41), none, .mov (t 10)⟩,
    ⟨(some 42), none, .cpl (t 41)⟩,
    ⟨(some 43), none, .idxA 1 8 (t 7) (ci 6)⟩,
    ⟨(some 44), none, .load1 (t 43)⟩,
    ⟨(some 45), none, .bin .and (t 42) (t 44)⟩,
    ⟨(some 46), none, .bin .xor (t 40) (t 45)⟩,
    ⟨(some 47), none, .bin .add (t 36) (t 46)⟩,
    ⟨(some 48), none, .mov (t 8)⟩,
    ⟨(some 49), none, .idxA 1 64 (t 6) (t 48)⟩,
    ⟨(some 50), none, .load1 (t 49)⟩,
    ⟨(some 51), none, .bin .add (t 47) (t 50)⟩,
    ⟨(some 52), none, .mov (t 8)⟩,
    ⟨(some 53), none, .idxA 1 64 (t 5) (t 52)⟩,
    ⟨(some 54), none, .load1 (t 53)⟩,
    ⟨(some 55), none, .bin .add (t 51) (t 54)⟩,
    ⟨(some 11), none, .mov (t 55)⟩])
  (.seq (.ops [⟨(some 56), none, .mov (t 9)⟩,
    ⟨(some 57), none, .pcall C_quiltref02_rotate [(t 56), (.const (.int .u64 2))]⟩,
    ⟨(some 58), none, .mov (t 9)⟩,
    ⟨(some 59), none, .pcall C_quiltref02_rotate [(t 58), (.const (.int .u64 13))]⟩,
    ⟨(some 60), none, .bin .xor (t 57) (t 59)⟩,
    ⟨(some 61), none, .mov (t 9)⟩,
    ⟨(some 62), none, .pcall C_quiltref02_rotate [(t 61), (.const (.int .u64 22))]⟩,
    ⟨(some 63), none, .bin .xor (t 60) (t 62)⟩,
    ⟨(some 64), none, .mov (t 9)⟩,
    ⟨(some 65), none, .idxA 1 8 (t 7) (ci 1)⟩,
    ⟨(some 66), none, .load1 (t 65)⟩,
    ⟨(some 67), none, .bin .and (t 64) (t 66)⟩,
    ⟨(some 68), none, .mov (t 9)⟩,
    ⟨(some 69), none, .idxA 1 8 (t 7) (ci 2)⟩,
    ⟨(some 70), none, .load1 (t 69)⟩,
    ⟨(some 71), none, .bin .and (t 68) (t 70)⟩,
    ⟨(some 72), none, .bin .xor (t 67) (t 71)⟩,
    ⟨(some 73), none, .idxA 1 8 (t 7) (ci 1)⟩,
    ⟨(some 74), none, .load1 (t 73)⟩,
    ⟨(some 75), none, .idxA 1 8 (t 7) (ci 2)⟩,
    ⟨(some 76), none, .load1 (t 75)⟩,
    ⟨(some 77), none, .bin .and (t 74) (t 76)⟩,
    ⟨(some 78), none, .bin .xor (t 72) (t 77)⟩,
    ⟨(some 79), none, .bin .add (t 63) (t 78)⟩,
    ⟨(some 12), none, .mov (t 79)⟩])
  (.ops [⟨(some 80), none, .mov (t 11)⟩,
    ⟨(some 81), none, .mov (t 12)⟩,
    ⟨(some 82), none, .bin .add (t 80) (t 81)⟩,
    ⟨(some 83), none, .idxA 1 8 (t 7) (ci 0)⟩,
    ⟨(some 84), none, .load1 (t 83)⟩,
    ⟨(some 85), none, .idxA 1 8 (t 7) (ci 1)⟩,
    ⟨(some 86), none, .load1 (t 85)⟩,
    ⟨(some 87), none, .idxA 1 8 (t 7) (ci 2)⟩,
    ⟨(some 88), none, .load1 (t 87)⟩,
    ⟨(some 89), none, .idxA 1 8 (t 7) (ci 3)⟩,
    ⟨(some 90), none, .load1 (t 89)⟩,
    ⟨(some 91), none, .mov (t 11)⟩,
    ⟨(some 92), none, .bin .add (t 90) (t 91)⟩,
    ⟨(some 93), none, .idxA 1 8 (t 7) (ci 4)⟩,
    ⟨(some 94), none, .load1 (t 93)⟩,
    ⟨(some 95), none, .idxA 1 8 (t 7) (ci 5)⟩,
    ⟨(some 96), none, .load1 (t 95)⟩,
    ⟨(some 97), none, .idxA 1 8 (t 7) (ci 6)⟩,
    ⟨(some 98), none, .load1 (t 97)⟩,
    ⟨(some 99), none, .build 8 (repl 8 [.int .u32 0]) [(0, 1, (t 82)), (1, 1, (t 84)), (2, 1, (t 86)), (3, 1, (t 88)), (4, 1, (t 92)), (5, 1, (t 94)), (6, 1, (t 96)), (7, 1, (t 98))]⟩,
    ⟨none, none, .storN 8 (t 7) (t 99)⟩])))))
  (.ops [⟨(some 20), none, .mov (t 8)⟩,
    ⟨(some 21), none, .bin .add (t 20) (ci 1)⟩,
    ⟨(some 8), none, .mov (t 21)⟩]))))))
  (.seq (.seq (.ops [⟨(some 13), none, .mov (ci 0)⟩])
  (.block 2 (.loop (.seq (.seq (.ops [⟨(some 100), none, .mov (t 13)⟩,
    ⟨(some 101), none, .bin .lss (t 100) (ci 8)⟩])
  (.cond (t 101) .skip
  (.exit 2)))
  (.seq (.block 3 (.ops [⟨(some 104), none, .mov (t 13)⟩,
    ⟨(some 105), none, .mov (t 13)⟩,
    ⟨(some 106), none, .idxA 1 8 (t 2) (t 105)⟩,
    ⟨(some 107), none, .load1 (t 106)⟩,
    ⟨(some 108), none, .mov (t 13)⟩,
    ⟨(some 109), none, .idxA 1 8 (t 7) (t 108)⟩,
    ⟨(some 110), none, .load1 (t 109)⟩,
    ⟨(some 111), none, .bin .add (t 107) (t 110)⟩,
    ⟨(some 112), none, .idxA 1 8 (t 2) (t 104)⟩,
    ⟨none, none, .stor1 (t 112) (t 111)⟩]))
  (.ops [⟨(some 102), none, .mov (t 13)⟩,
    ⟨(some 103), none, .bin .add (t 102) (ci 1)⟩,
    ⟨(some 13), none, .mov (t 103)⟩]))))))
  (.seq (.ops [⟨(some 113), none, .loadN 8 (t 2)⟩,
    ⟨none, none, .storN 8 (t 4) (t 113)⟩])
  .ret)))))), [.cell 4 true 8]⟩

end Qk

/-
  The tables: the functions do what their contracts say.
-/
namespace Qk
open Go Go.RowKit

theorem d_initial : Does ir_sha256_initial C_sha256_initial := by
  intro x hx
  refine And.intro rfl ?_
  have ln : (ints .u32 iv).length = 8 := rfl
  refine And.intro ⟨ln, ints_all .u32 iv⟩ ?_
  refine And.intro (Nat.le_refl 8) ?_
  refine ⟨_, lay_all (vs := ints .u32 iv) rfl, ?_⟩
  refine ⟨_, (by first | exact SubSt.refl _ | exact SubTop.refl _), ?_⟩
  exact ⟨_, ⟨tda ln, ln, by omega⟩, rfl⟩

theorem d_constants : Does ir_sha256_constants C_sha256_constants := by
  intro x hx
  refine And.intro rfl ?_
  have ln : (ints .u32 kc).length = 64 := rfl
  refine And.intro ⟨ln, ints_all .u32 kc⟩ ?_
  refine And.intro (Nat.le_refl 64) ?_
  refine ⟨_, lay_all (vs := ints .u32 kc) rfl, ?_⟩
  refine ⟨_, (by first | exact SubSt.refl _ | exact SubTop.refl _), ?_⟩
  exact ⟨_, ⟨tda ln, ln, by omega⟩, rfl⟩

theorem d_ref_constants : Does ir_quiltref02_constants C_quiltref02_constants := by
  intro x hx
  refine And.intro rfl ?_
  have ln : (ints .u32 kc).length = 64 := rfl
  refine And.intro ⟨ln, ints_all .u32 kc⟩ ?_
  refine And.intro (Nat.le_refl 64) ?_
  refine ⟨_, lay_all (vs := ints .u32 kc) rfl, ?_⟩
  refine ⟨_, (by first | exact SubSt.refl _ | exact SubTop.refl _), ?_⟩
  exact ⟨_, ⟨tda ln, ln, by omega⟩, rfl⟩
end Qk

/-
  The compression: the functions do what their contracts say.
-/
namespace Qk
open Go Go.RowKit

theorem V8.list_len (v : V8) : v.list.length = 8 := rfl

theorem d_compress : Does ir_sha256_compress C_sha256_compress := by
  rintro ⟨hs, l⟩ ⟨hh, hl⟩
  dsimp only at hh hl
  have ls : (ints .u32 (sched l 64)).length = 64 := by rw [ints_length, sched_len]
  have lk : (ints .u32 kc).length = 64 := rfl
  refine ⟨l, rfl, hl, ?_⟩
  refine ⟨(), rfl, trivial, ?_⟩
  refine And.intro ⟨ls, ints_all _ _⟩ ?_
  refine And.intro (Nat.le_refl 64) ?_
  refine ⟨_, lay_all (vs := ints .u32 (sched l 64)) (by rw [ls]; rfl), ?_⟩
  refine And.intro ⟨lk, ints_all _ _⟩ ?_
  refine And.intro (Nat.le_refl 64) ?_
  refine ⟨_, lay_all (vs := ints .u32 kc) rfl, ?_⟩
  iterate 8 (refine And.intro (by omega) ?_; refine ⟨_, ints_get (xs := hs) (by omega), ?_⟩)
  refine ⟨Nat, fun t => t ≤ 64, fun t => mks [(2, .ref 0 0), (4, .ref 1 0), (5, .ref 2 0), (6, .ref 3 0),
      (7, .int .u32 (rnds (sched l 64) (V8.of hs) t).a), (8, .int .u32 (rnds (sched l 64) (V8.of hs) t).b), (9, .int .u32 (rnds (sched l 64) (V8.of hs) t).c), (10, .int .u32 (rnds (sched l 64) (V8.of hs) t).d),
      (11, .int .u32 (rnds (sched l 64) (V8.of hs) t).e), (12, .int .u32 (rnds (sched l 64) (V8.of hs) t).f), (13, .int .u32 (rnds (sched l 64) (V8.of hs) t).g), (14, .int .u32 (rnds (sched l 64) (V8.of hs) t).h), (39, .int .i64 t)]
    [(0, .cells (ints .u32 hs)), (1, .cells (ints .u32 (List.replicate 8 0))), (2, .cells (ints .u32 (sched l 64))), (3, .cells (ints .u32 kc))] 4, fun t => 64 - t, 0, by omega, ?_, ?_⟩
  · refine sub_ren [0, 1, 2, 3] rfl (by decide) ⟨⟨_, rfl, ⟨0, rfl, rfl⟩⟩, ⟨_, rfl, ⟨1, rfl, rfl⟩⟩, ⟨_, rfl, ⟨2, rfl, rfl⟩⟩, ⟨_, rfl, ⟨3, rfl, rfl⟩⟩,
      ⟨_, rfl, rfl⟩, ⟨_, rfl, rfl⟩, ⟨_, rfl, rfl⟩, ⟨_, rfl, rfl⟩, ⟨_, rfl, rfl⟩, ⟨_, rfl, rfl⟩, ⟨_, rfl, rfl⟩, ⟨_, rfl, rfl⟩, ⟨_, rfl, rfl⟩, trivial⟩
      ⟨⟨0, _, rfl, rfl, ⟨_, rfl, eR rfl⟩⟩, ⟨1, _, rfl, rfl, ⟨_, rfl, eR' (repl_ints _ _ _)⟩⟩, ⟨2, _, rfl, rfl, ⟨_, rfl, eR rfl⟩⟩, ⟨3, _, rfl, rfl, ⟨_, rfl, eR rfl⟩⟩, trivial⟩
  · intro t ht
    refine cond_split (fun h => ?_) (fun h => ?_)
    · have hlt : (t : Int) < 64 := of_decide_eq_true h
      have hlt : t < 64 := by omega
      iterate 3 (refine ⟨⟨_, _⟩, rfl, ⟨by dsimp only; omega, by dsimp only; omega⟩, ?_⟩)
      refine And.intro (by omega) ?_
      refine ⟨_, ints_get (by rw [kc_len]; omega), ?_⟩
      refine And.intro (by omega) ?_
      refine ⟨_, ints_get (by rw [sched_len]; omega), ?_⟩
      iterate 3 (refine ⟨⟨_, _⟩, rfl, ⟨by dsimp only; omega, by dsimp only; omega⟩, ?_⟩)
      refine And.intro (by omega) ?_
      refine ⟨t + 1, by omega, by dsimp only; omega, ?_⟩
      refine sub_ren [0, 1, 2, 3] rfl (by decide) ⟨⟨_, rfl, ⟨0, rfl, rfl⟩⟩, ⟨_, rfl, ⟨1, rfl, rfl⟩⟩, ⟨_, rfl, ⟨2, rfl, rfl⟩⟩, ⟨_, rfl, ⟨3, rfl, rfl⟩⟩,
        ⟨_, rfl, ?_⟩, ⟨_, rfl, rfl⟩, ⟨_, rfl, rfl⟩, ⟨_, rfl, rfl⟩, ⟨_, rfl, ?_⟩, ⟨_, rfl, rfl⟩, ⟨_, rfl, rfl⟩, ⟨_, rfl, rfl⟩, ⟨_, rfl, eI (by omega)⟩, trivial⟩
        ⟨⟨0, _, rfl, rfl, ⟨_, rfl, eR rfl⟩⟩, ⟨1, _, rfl, rfl, ⟨_, rfl, eR rfl⟩⟩, ⟨2, _, rfl, rfl, ⟨_, rfl, eR rfl⟩⟩, ⟨3, _, rfl, rfl, ⟨_, rfl, eR rfl⟩⟩, trivial⟩
      · refine eI ?_
        have e1 : 0 + (t : Int).toNat * 1 = t := by omega
        rw [e1]
        rfl
      · refine eI ?_
        have e1 : 0 + (t : Int).toNat * 1 = t := by omega
        rw [e1]
        rfl
    · have hlt : ¬ (t : Int) < 64 := of_decide_eq_false h
      have : t = 64 := by omega
      subst this
      refine And.intro rfl ?_
      refine ⟨Nat, fun i => i ≤ 8, fun i => mks [(2, .ref 0 0), (4, .ref 1 0), (110, .agg (ints .u32 (rnds (sched l 64) (V8.of hs) 64).list)), (111, .int .i64 i)]
        [(0, .cells (ints .u32 (addTo hs (rnds (sched l 64) (V8.of hs) 64).list i))), (1, .cells (ints .u32 (List.replicate 8 0)))] 2, fun i => 8 - i, 0, by omega, ?_, ?_⟩
      · refine sub_ren [0, 1] rfl (by decide) ⟨⟨_, rfl, ⟨0, rfl, rfl⟩⟩, ⟨_, rfl, ⟨1, rfl, rfl⟩⟩, ⟨_, rfl, .inl ⟨rfl, nnl_ints _ _⟩⟩, ⟨_, rfl, rfl⟩, trivial⟩
          ⟨⟨0, _, rfl, rfl, ⟨_, rfl, eR rfl⟩⟩, ⟨1, _, rfl, rfl, ⟨_, rfl, eR rfl⟩⟩, trivial⟩
      · intro i hi
        have la := addTo_len hs (rnds (sched l 64) (V8.of hs) 64).list i
        refine cond_split (fun h => ?_) (fun h => ?_)
        · have hlt : (i : Int) < 8 := of_decide_eq_true h
          have hlt : i < 8 := by omega
          refine And.intro (by omega) ?_
          refine ⟨_, ints_get (xs := (rnds (sched l 64) (V8.of hs) 64).list) (by rw [V8.list_len]; omega), ?_⟩
          refine And.intro (by omega) ?_
          refine ⟨_, ints_get (by omega), ?_⟩
          refine And.intro (by omega) ?_
          refine And.intro (by rw [ints_length]; omega) ?_
          refine And.intro (by omega) ?_
          refine ⟨i + 1, by omega, by dsimp only; omega, ?_⟩
          refine sub_ren [0, 1] rfl (by decide) ⟨⟨_, rfl, ⟨0, rfl, rfl⟩⟩, ⟨_, rfl, ⟨1, rfl, rfl⟩⟩, ⟨_, rfl, .inl ⟨rfl, nnl_ints _ _⟩⟩, ⟨_, rfl, eI (by omega)⟩, trivial⟩
            ⟨⟨0, _, rfl, rfl, ⟨_, rfl, eR' ?_⟩⟩, ⟨1, _, rfl, rfl, ⟨_, rfl, eR rfl⟩⟩, trivial⟩
          rw [ints_set]
          refine congrArg _ ?_
          have e1 : 0 + (i : Int).toNat * 1 = i := by omega
          have e2 : (i : Int).toNat * 1 = i := by omega
          simp only [e2, Nat.zero_add]
          rfl
        · have hlt : ¬ (i : Int) < 8 := of_decide_eq_false h
          have : i = 8 := by omega
          subst this
          have ln : (ints .u32 (comp hs l)).length = 8 := by rw [ints_length, comp_len, hh]
          refine ⟨ints .u32 (comp hs l), ⟨tda ln, ln⟩, ?_⟩
          refine And.intro ⟨ln, ints_all _ _⟩ ?_
          refine And.intro (Nat.le_refl 8) ?_
          refine ⟨_, lay_all (by rw [ln, ints_length]; simp), ?_⟩
          refine ⟨_, (by first | exact SubSt.refl _ | exact SubTop.refl _), ?_⟩
          exact ⟨_, ⟨tda ln, ln, by omega⟩, rfl⟩

end Qk

/-
  The compression of the reference.
-/
namespace Qk
open Go Go.RowKit

theorem V8.of_list {hs : List Int} (h : hs.length = 8) : (V8.of hs).list = hs := by
  match hs, h with
  | [a, b, c, d, e, f, g, k], _ => rfl

theorem d_step : Does ir_quiltref02_step C_quiltref02_step := by
  rintro ⟨hs, l⟩ ⟨hh, hl⟩
  dsimp only at hh hl
  have ls : (ints .u32 (sched l 64)).length = 64 := by rw [ints_length, sched_len]
  have lk : (ints .u32 kc).length = 64 := rfl
  have lh : (ints .u32 hs).length = 8 := by rw [ints_length, hh]
  refine ⟨l, rfl, hl, ?_⟩
  refine ⟨(), rfl, trivial, ?_⟩
  refine And.intro ⟨ls, ints_all _ _⟩ ?_
  refine And.intro (Nat.le_refl 64) ?_
  refine ⟨_, lay_all (vs := ints .u32 (sched l 64)) (by rw [ls]; rfl), ?_⟩
  refine And.intro ⟨lk, ints_all _ _⟩ ?_
  refine And.intro (Nat.le_refl 64) ?_
  refine ⟨_, lay_all (vs := ints .u32 kc) rfl, ?_⟩
  refine ⟨ints .u32 hs, ⟨tda lh, lh⟩, ?_⟩
  refine And.intro ⟨lh, ints_all _ _⟩ ?_
  refine And.intro (Nat.le_refl 8) ?_
  refine ⟨_, lay_all (vs := ints .u32 hs) (by rw [lh]; rfl), ?_⟩
  refine ⟨Nat, fun t => t ≤ 64, fun t => mks [(2, .ref 0 0), (4, .ref 1 0), (5, .ref 2 0), (6, .ref 3 0), (7, .ref 4 0), (8, .int .i64 t)]
    [(0, .cells (ints .u32 hs)), (1, .cells (ints .u32 (List.replicate 8 0))), (2, .cells (ints .u32 (sched l 64))), (3, .cells (ints .u32 kc)), (4, .cells (ints .u32 (rnds (sched l 64) (V8.of hs) t).list))] 5, fun t => 64 - t, 0, by omega, ?_, ?_⟩
  · refine sub_ren [0, 1, 2, 3, 4] rfl (by decide) ⟨⟨_, rfl, ⟨0, rfl, rfl⟩⟩, ⟨_, rfl, ⟨1, rfl, rfl⟩⟩, ⟨_, rfl, ⟨2, rfl, rfl⟩⟩, ⟨_, rfl, ⟨3, rfl, rfl⟩⟩, ⟨_, rfl, ⟨4, rfl, rfl⟩⟩, ⟨_, rfl, rfl⟩, trivial⟩
      ⟨⟨0, _, rfl, rfl, ⟨_, rfl, eR rfl⟩⟩, ⟨1, _, rfl, rfl, ⟨_, rfl, eR' (repl_ints _ _ _)⟩⟩, ⟨2, _, rfl, rfl, ⟨_, rfl, eR rfl⟩⟩, ⟨3, _, rfl, rfl, ⟨_, rfl, eR rfl⟩⟩, ⟨4, _, rfl, rfl, ⟨_, rfl, eR (V8.of_list hh).symm⟩⟩, trivial⟩
  · intro t ht
    dsimp only
    generalize hv : rnds (sched l 64) (V8.of hs) t = v
    obtain ⟨L, hL⟩ : ∃ L, L = v.list := ⟨_, rfl⟩
    rw [← hL]
    have lv : L.length = 8 := by rw [hL]; rfl
    refine cond_split (fun h => ?_) (fun h => ?_)
    · have hlt : (t : Int) < 64 := of_decide_eq_true h
      have hlt : t < 64 := by omega
      iterate 3 (refine And.intro (by omega) ?_; refine ⟨_, ints_get (xs := L) (by omega), ?_⟩)
      iterate 3 (refine ⟨⟨_, _⟩, rfl, ⟨by dsimp only; omega, by dsimp only; omega⟩, ?_⟩)
      iterate 2 (refine And.intro (by omega) ?_; refine ⟨_, ints_get (xs := L) (by omega), ?_⟩)
      refine And.intro (by omega) ?_
      refine ⟨_, ints_get (xs := kc) (by rw [kc_len]; omega), ?_⟩
      refine And.intro (by omega) ?_
      refine ⟨_, ints_get (xs := sched l 64) (by rw [sched_len]; omega), ?_⟩
      iterate 3 (refine ⟨⟨_, _⟩, rfl, ⟨by dsimp only; omega, by dsimp only; omega⟩, ?_⟩)
      iterate 4 (refine And.intro (by omega) ?_; refine ⟨_, ints_get (xs := L) (by omega), ?_⟩)
      iterate 7 (refine And.intro (by omega) ?_; refine ⟨_, ints_get (xs := L) (by omega), ?_⟩)
      subst hL
      refine And.intro rfl ?_
      have ln : (ints .u32 (rnd v (kc.getD t 0) ((sched l 64).getD t 0)).list).length = 8 := rfl
      have e1 : 0 + (t : Int).toNat * 1 = t := by omega
      rw [e1]
      refine And.intro ⟨ln, ints_all .u32 (rnd v (kc.getD t 0) ((sched l 64).getD t 0)).list⟩ ?_
      refine And.intro (Nat.le_refl 8) ?_
      refine ⟨_, lay_all (vs := ints .u32 (rnd v (kc.getD t 0) ((sched l 64).getD t 0)).list) rfl, ?_⟩
      refine And.intro (by omega) ?_
      refine ⟨t + 1, by omega, by omega, ?_⟩
      refine sub_ren [0, 1, 2, 3, 4] rfl (by decide) ⟨⟨_, rfl, ⟨0, rfl, rfl⟩⟩, ⟨_, rfl, ⟨1, rfl, rfl⟩⟩, ⟨_, rfl, ⟨2, rfl, rfl⟩⟩, ⟨_, rfl, ⟨3, rfl, rfl⟩⟩, ⟨_, rfl, ⟨4, rfl, rfl⟩⟩, ⟨_, rfl, eI (by omega)⟩, trivial⟩
        ⟨⟨0, _, rfl, rfl, ⟨_, rfl, eR rfl⟩⟩, ⟨1, _, rfl, rfl, ⟨_, rfl, eR rfl⟩⟩, ⟨2, _, rfl, rfl, ⟨_, rfl, eR rfl⟩⟩, ⟨3, _, rfl, rfl, ⟨_, rfl, eR rfl⟩⟩, ⟨4, _, rfl, rfl, ⟨_, rfl, eR ?_⟩⟩, trivial⟩
      rw [← hv]
      rfl
    · subst hL
      have hlt : ¬ (t : Int) < 64 := of_decide_eq_false h
      have : t = 64 := by omega
      subst this
      refine ⟨Nat, fun i => i ≤ 8, fun i => mks [(2, .ref 0 0), (4, .ref 1 0), (7, .ref 2 0), (13, .int .i64 i)]
        [(0, .cells (ints .u32 (addTo hs v.list i))), (1, .cells (ints .u32 (List.replicate 8 0))), (2, .cells (ints .u32 v.list))] 3, fun i => 8 - i, 0, by omega, ?_, ?_⟩
      · refine sub_ren [0, 1, 4] rfl (by decide) ⟨⟨_, rfl, ⟨0, rfl, rfl⟩⟩, ⟨_, rfl, ⟨1, rfl, rfl⟩⟩, ⟨_, rfl, ⟨4, rfl, rfl⟩⟩, ⟨_, rfl, rfl⟩, trivial⟩
          ⟨⟨0, _, rfl, rfl, ⟨_, rfl, eR rfl⟩⟩, ⟨1, _, rfl, rfl, ⟨_, rfl, eR rfl⟩⟩, ⟨4, _, rfl, rfl, ⟨_, rfl, eR rfl⟩⟩, trivial⟩
      · intro i hi
        have la := addTo_len hs v.list i
        refine cond_split (fun h => ?_) (fun h => ?_)
        · have hlt : (i : Int) < 8 := of_decide_eq_true h
          have hlt : i < 8 := by omega
          refine And.intro (by omega) ?_
          refine ⟨_, ints_get (by omega), ?_⟩
          refine And.intro (by omega) ?_
          refine ⟨_, ints_get (xs := v.list) (by rw [V8.list_len]; omega), ?_⟩
          refine And.intro (by omega) ?_
          refine And.intro (by rw [ints_length]; omega) ?_
          refine And.intro (by omega) ?_
          refine ⟨i + 1, by omega, by dsimp only; omega, ?_⟩
          refine sub_ren [0, 1, 2] rfl (by decide) ⟨⟨_, rfl, ⟨0, rfl, rfl⟩⟩, ⟨_, rfl, ⟨1, rfl, rfl⟩⟩, ⟨_, rfl, ⟨2, rfl, rfl⟩⟩, ⟨_, rfl, eI (by omega)⟩, trivial⟩
            ⟨⟨0, _, rfl, rfl, ⟨_, rfl, eR' ?_⟩⟩, ⟨1, _, rfl, rfl, ⟨_, rfl, eR rfl⟩⟩, ⟨2, _, rfl, rfl, ⟨_, rfl, eR rfl⟩⟩, trivial⟩
          rw [ints_set]
          refine congrArg _ ?_
          have e2 : (i : Int).toNat * 1 = i := by omega
          simp only [e2, Nat.zero_add]
          rfl
        · have hlt : ¬ (i : Int) < 8 := of_decide_eq_false h
          have : i = 8 := by omega
          subst this
          have e0 : comp hs l = addTo hs v.list 8 := by rw [← hv]; rfl
          have ln : (ints .u32 (comp hs l)).length = 8 := by rw [ints_length, comp_len, hh]
          rw [e0] at ln
          refine ⟨ints .u32 (addTo hs v.list 8), ⟨tda ln, ln⟩, ?_⟩
          refine And.intro ⟨ln, ints_all _ _⟩ ?_
          refine And.intro (Nat.le_refl 8) ?_
          refine ⟨_, lay_all (by rw [ln, ints_length]; simp), ?_⟩
          refine ⟨_, (by first | exact SubSt.refl _ | exact SubTop.refl _), ?_⟩
          refine ⟨_, ⟨tda ln, ln, by omega⟩, ?_⟩
          exact congrArg (fun x => AV.agg (ints .u32 x)) e0.symm

end Qk

/-
  Words of four bytes.
-/
namespace Qk
open Go Go.RowKit

theorem orI_nat {a b : Nat} (ha : a < 4294967296) (hb : b < 4294967296) : orI .u32 (a : Int) (b : Int) = ((a ||| b : Nat) : Int) := by
  have h : a ||| b < 2 ^ 32 := Nat.or_lt_two_pow (by omega) (by omega)
  unfold orI
  simp only [BitVec.toNat_or]
  have e1 : (BitVec.ofInt IntKind.u32.bits (a : Int)).toNat = a := by
    show (BitVec.ofInt 32 (a : Int)).toNat = a
    rw [BitVec.toNat_ofInt]; omega
  have e2 : (BitVec.ofInt IntKind.u32.bits (b : Int)).toNat = b := by
    show (BitVec.ofInt 32 (b : Int)).toNat = b
    rw [BitVec.toNat_ofInt]; omega
  rw [e1, e2]
  show ((a ||| b : Nat) : Int) % 4294967296 = _
  omega

theorem shlI_nat {a : Nat} (k : Nat) (hk : k ≤ 32) (ha : a * 2 ^ k < 4294967296) : shlI .u32 (a : Int) (k : Int) = ((a * 2 ^ k : Nat) : Int) := by
  unfold shlI
  have e : min (k : Int).toNat IntKind.u32.bits = k := by
    show min (k : Int).toNat 32 = k
    omega
  rw [e]
  show ((a : Int) * 2 ^ k) % 4294967296 = _
  push_cast
  have : ((a * 2 ^ k : Nat) : Int) = (a : Int) * 2 ^ k := by push_cast; rfl
  rw [← this]
  omega

theorem or_add {a b k : Nat} (h : b < 2 ^ k) : (a * 2 ^ k) ||| b = a * 2 ^ k + b := by
  rw [Nat.mul_comm, Nat.two_pow_add_eq_or_of_lt h]

theorem byteW_nat {a : Nat} (c : UInt8) (ha : a < 16777216) : byteW (a : Int) c = ((a * 256 + c.toNat : Nat) : Int) := by
  have hc : c.toNat < 256 := c.toNat_lt
  unfold byteW
  have e1 : ((c.toNat : Int) % 4294967296) = (c.toNat : Int) := by omega
  have e2 : shlI .u32 (a : Int) 8 = ((a * 2 ^ 8 : Nat) : Int) := shlI_nat 8 (by omega) (by omega)
  rw [e1, e2, orI_nat (by omega) (by omega), or_add (k := 8) (by omega)]

/-- Four bytes, one by one. -/
theorem word_four (c0 c1 c2 c3 : UInt8) : orI .u32 (orI .u32 (orI .u32 (shlI .u32 ((c0.toNat : Int) % 4294967296) 24) (shlI .u32 ((c1.toNat : Int) % 4294967296) 16)) (shlI .u32 ((c2.toNat : Int) % 4294967296) 8)) ((c3.toNat : Int) % 4294967296) =
    [c0, c1, c2, c3].foldl byteW 0 := by
  have t1 : ∀ a b : Nat, a * 16777216 + b * 65536 = (a * 256 + b) * 65536 := by intro a b; omega
  have t2 : ∀ a b : Nat, a * 65536 + b * 256 = (a * 256 + b) * 256 := by intro a b; omega
  have h0 : c0.toNat < 256 := c0.toNat_lt
  have h1 : c1.toNat < 256 := c1.toNat_lt
  have h2 : c2.toNat < 256 := c2.toNat_lt
  have h3 : c3.toNat < 256 := c3.toNat_lt
  have e0 : ((c0.toNat : Int) % 4294967296) = (c0.toNat : Int) := by omega
  have e1 : ((c1.toNat : Int) % 4294967296) = (c1.toNat : Int) := by omega
  have e2 : ((c2.toNat : Int) % 4294967296) = (c2.toNat : Int) := by omega
  have e3 : ((c3.toNat : Int) % 4294967296) = (c3.toNat : Int) := by omega
  have p24 : (2 : Nat) ^ 24 = 16777216 := by decide
  have p16 : (2 : Nat) ^ 16 = 65536 := by decide
  have p8 : (2 : Nat) ^ 8 = 256 := by decide
  have s0 := shlI_nat (a := c0.toNat) 24 (by omega) (by rw [p24]; omega)
  have s1 := shlI_nat (a := c1.toNat) 16 (by omega) (by rw [p16]; omega)
  have s2 := shlI_nat (a := c2.toNat) 8 (by omega) (by rw [p8]; omega)
  have o1 := or_add (a := c0.toNat) (b := c1.toNat * 65536) (k := 24) (by rw [p24]; omega)
  have o2 := or_add (a := c0.toNat * 256 + c1.toNat) (b := c2.toNat * 256) (k := 16) (by rw [p16]; omega)
  have o3 := or_add (a := (c0.toNat * 256 + c1.toNat) * 256 + c2.toNat) (b := c3.toNat) (k := 8) (by rw [p8]; omega)
  rw [p24] at s0 o1
  rw [p16] at s1 o2
  rw [p8] at s2 o3
  have s0' : shlI .u32 (c0.toNat : Int) 24 = _ := s0
  have s1' : shlI .u32 (c1.toNat : Int) 16 = _ := s1
  have s2' : shlI .u32 (c2.toNat : Int) 8 = _ := s2
  rw [e0, e1, e2, e3, s0', s1', s2', orI_nat (by omega) (by omega), o1]
  rw [t1, orI_nat (by omega) (by omega), o2]
  rw [t2, orI_nat (by omega) (by omega), o3]
  simp only [List.foldl_cons, List.foldl_nil]
  have b0 := byteW_nat (a := 0) c0 (by omega)
  have b1 := byteW_nat (a := 0 * 256 + c0.toNat) c1 (by omega)
  have b2 := byteW_nat (a := (0 * 256 + c0.toNat) * 256 + c1.toNat) c2 (by omega)
  have b3 := byteW_nat (a := ((0 * 256 + c0.toNat) * 256 + c1.toNat) * 256 + c2.toNat) c3 (by omega)
  have b0' : byteW 0 c0 = _ := b0
  rw [b0', b1, b2, b3]
  omega

end Qk

/-
  The words of a block, in the reference.
-/
namespace Qk
open Go Go.RowKit

theorem word_eq {l : List UInt8} {t : Nat} (h : 4 * t + 4 ≤ l.length) : word l t = [l.getD (4 * t) 0, l.getD (4 * t + 1) 0, l.getD (4 * t + 2) 0, l.getD (4 * t + 3) 0].foldl byteW 0 := by
  unfold word
  congr 1
  apply List.ext_getElem
  · simp; omega
  · intro i h1 h2
    simp at h2
    have : i = 0 ∨ i = 1 ∨ i = 2 ∨ i = 3 := by omega
    rcases this with rfl | rfl | rfl | rfl <;> simp [List.getD, show 4 * t < l.length by omega, show 4 * t + 1 < l.length by omega, show 4 * t + 2 < l.length by omega, show 4 * t + 3 < l.length by omega]

theorem d_ref_schedule : Does ir_quiltref02_schedule C_quiltref02_schedule := by
  intro (l : List UInt8) (hl : l.length = 64)
  have lz : (repl 64 [AV.int .u32 0]).length = 64 := rfl
  refine And.intro lz ?_
  refine And.intro ⟨lz, by rw [repl_ints]; exact ints_all _ _⟩ ?_
  refine And.intro (Nat.le_refl 64) ?_
  refine ⟨_, lay_all (vs := repl 64 [AV.int .u32 0]) rfl, ?_⟩
  refine ⟨Nat, fun t => t ≤ 16, fun t => mks [(0, .str l), (2, .ref 0 0), (3, .ref 1 0), (4, .int .i64 t)] [(0, .cells (ints .u32 (List.replicate 64 0))), (1, .cells (ints .u32 (arrW l t)))] 2, fun t => 16 - t, 0, by omega, ?_, ?_⟩
  · refine sub_ren [0, 1] rfl (by decide) ⟨⟨_, rfl, rfl⟩, ⟨_, rfl, ⟨0, rfl, rfl⟩⟩, ⟨_, rfl, ⟨1, rfl, rfl⟩⟩, ⟨_, rfl, rfl⟩, trivial⟩ ⟨⟨0, _, rfl, rfl, ⟨_, rfl, eR' (repl_ints _ _ _)⟩⟩, ⟨1, _, rfl, rfl, ⟨_, rfl, eR' (repl_ints _ _ _)⟩⟩, trivial⟩
  · intro t ht
    have la := arrW_len (l := l) (t := t) (by omega)
    refine cond_split (fun h => ?_) (fun h => ?_)
    · have hlt : (t : Int) < 16 := of_decide_eq_true h
      have hlt : t < 16 := by omega
      iterate 15 (refine And.intro (by omega) ?_)
      refine And.intro (by rw [ints_length]; omega) ?_
      refine And.intro (by omega) ?_
      refine ⟨t + 1, by omega, by dsimp only; omega, ?_⟩
      refine sub_ren [0, 1] rfl (by decide) ⟨⟨_, rfl, rfl⟩, ⟨_, rfl, ⟨0, rfl, rfl⟩⟩, ⟨_, rfl, ⟨1, rfl, rfl⟩⟩, ⟨_, rfl, eI (by omega)⟩, trivial⟩
        ⟨⟨0, _, rfl, rfl, ⟨_, rfl, eR rfl⟩⟩, ⟨1, _, rfl, rfl, ⟨_, rfl, eR' ?_⟩⟩, trivial⟩
      rw [ints_set, show 0 + (t : Int).toNat * 1 = t by omega]
      refine congrArg _ (arrW_succ (by omega) _ ?_)
      rw [if_pos hlt, word_eq (by omega), ← word_four]
      have e0 : (4 * (t : Int)).toNat = 4 * t := by omega
      have e1 : (4 * (t : Int) + 1).toNat = 4 * t + 1 := by omega
      have e2 : (4 * (t : Int) + 2).toNat = 4 * t + 2 := by omega
      have e3 : (4 * (t : Int) + 3).toNat = 4 * t + 3 := by omega
      rw [e0, e1, e2, e3]
    · have hlt : ¬ (t : Int) < 16 := of_decide_eq_false h
      have : t = 16 := by omega
      subst this
      refine ⟨Nat, fun t => 16 ≤ t ∧ t ≤ 64, fun t => mks [(2, .ref 0 0), (3, .ref 1 0), (5, .int .i64 t)] [(0, .cells (ints .u32 (List.replicate 64 0))), (1, .cells (ints .u32 (arrW l t)))] 2, fun t => 64 - t, 16, by omega, ?_, ?_⟩
      · refine sub_ren [0, 1] rfl (by decide) ⟨⟨_, rfl, ⟨0, rfl, rfl⟩⟩, ⟨_, rfl, ⟨1, rfl, rfl⟩⟩, ⟨_, rfl, rfl⟩, trivial⟩ ⟨⟨0, _, rfl, rfl, ⟨_, rfl, eR rfl⟩⟩, ⟨1, _, rfl, rfl, ⟨_, rfl, eR rfl⟩⟩, trivial⟩
      · intro t ⟨ht16, ht⟩
        have la := arrW_len (l := l) ht
        refine cond_split (fun h => ?_) (fun h => ?_)
        · have hlt : (t : Int) < 64 := of_decide_eq_true h
          have hlt : t < 64 := by omega
          iterate 2 (refine And.intro (by omega) ?_; refine And.intro (by omega) ?_; refine ⟨_, ints_get (by omega), ?_⟩)
          iterate 2 (refine ⟨⟨_, _⟩, rfl, ⟨by dsimp only; omega, by dsimp only; omega⟩, ?_⟩)
          refine And.intro (by omega) ?_
          refine And.intro (by omega) ?_
          refine And.intro (by omega) ?_
          refine ⟨_, ints_get (by omega), ?_⟩
          iterate 2 (refine ⟨⟨_, _⟩, rfl, ⟨by dsimp only; omega, by dsimp only; omega⟩, ?_⟩)
          refine And.intro (by omega) ?_
          refine And.intro (by omega) ?_
          refine And.intro (by omega) ?_
          refine ⟨_, ints_get (by omega), ?_⟩
          refine And.intro (by omega) ?_
          refine And.intro (by rw [ints_length]; omega) ?_
          refine And.intro (by omega) ?_
          refine ⟨t + 1, by omega, by dsimp only; omega, ?_⟩
          refine sub_ren [0, 1] rfl (by decide) ⟨⟨_, rfl, ⟨0, rfl, rfl⟩⟩, ⟨_, rfl, ⟨1, rfl, rfl⟩⟩, ⟨_, rfl, eI (by omega)⟩, trivial⟩
              ⟨⟨0, _, rfl, rfl, ⟨_, rfl, eR rfl⟩⟩, ⟨1, _, rfl, rfl, ⟨_, rfl, eR' ?_⟩⟩, trivial⟩
          have g2 : (arrW l t).getD (0 + ((t : Int) - 2).toNat * 1) 0 = (sched l t).getD (t - 2) 0 := by rw [show 0 + ((t : Int) - 2).toNat * 1 = t - 2 by omega, arrW_get (by omega)]
          have g7 : (arrW l t).getD (0 + ((t : Int) - 7).toNat * 1) 0 = (sched l t).getD (t - 7) 0 := by rw [show 0 + ((t : Int) - 7).toNat * 1 = t - 7 by omega, arrW_get (by omega)]
          have g15 : (arrW l t).getD (0 + ((t : Int) - 15).toNat * 1) 0 = (sched l t).getD (t - 15) 0 := by rw [show 0 + ((t : Int) - 15).toNat * 1 = t - 15 by omega, arrW_get (by omega)]
          have g16 : (arrW l t).getD (0 + ((t : Int) - 16).toNat * 1) 0 = (sched l t).getD (t - 16) 0 := by rw [show 0 + ((t : Int) - 16).toNat * 1 = t - 16 by omega, arrW_get (by omega)]
          rw [ints_set, show 0 + (t : Int).toNat * 1 = t by omega]
          refine congrArg _ (arrW_succ hlt _ ?_)
          rw [if_neg (by omega)]
          unfold nextW
          rw [← g2, ← g7, ← g15, ← g16]
          rfl
        · have hlt : ¬ (t : Int) < 64 := of_decide_eq_false h
          have : t = 64 := by omega
          subst this
          have e := arrW_end l
          have ln : (ints .u32 (sched l 64)).length = 64 := by rw [ints_length, sched_len]
          refine ⟨ints .u32 (sched l 64), ⟨by rw [e]; exact tda ln, ln⟩, ?_⟩
          refine And.intro ⟨ln, ints_all _ _⟩ ?_
          refine And.intro (by rw [ints_length]; simp) ?_
          refine ⟨_, lay_all (by rw [ln, ints_length]; simp), ?_⟩
          refine ⟨_, (by first | exact SubSt.refl _ | exact SubTop.refl _), ?_⟩
          exact ⟨_, ⟨tda ln, ln, by omega⟩, rfl⟩

end Qk
