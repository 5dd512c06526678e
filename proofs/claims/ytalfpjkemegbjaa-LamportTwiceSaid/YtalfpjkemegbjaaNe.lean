/-
  Chapter 02: padding, digests, keyed digests, hexadecimal forms.
-/
import Derived.Test.YtalfpjkemegbjaaNd
import Derived.Test.YtalfpjkemegbjaaNc

/-
  What the functions of chapter 02 compute: padding, digests, hexadecimal forms; their contracts.
-/
namespace Qk
open Go Go.RowKit

/-- A row that is filled from the left. -/
theorem fill_set {α : Type} {xs : List α} {n i : Nat} (z v : α) (hi : xs.length = i) (h : i < n) : (xs ++ List.replicate (n - i) z).set i v = (xs ++ [v]) ++ List.replicate (n - (i + 1)) z := by
  have : n - i = (n - (i + 1)) + 1 := by omega
  rw [List.set_append_right _ _ (by omega), hi, Nat.sub_self, this, List.replicate_succ]
  simp

def by8 (x : Int) : UInt8 := UInt8.ofNat (x % 256).toNat
theorem by8_int (x : Int) : ((by8 x).toNat : Int) = x % 256 := by
  simp only [by8, UInt8.toNat_ofNat']
  omega
theorem by8_of (b : UInt8) : by8 (b.toNat : Int) = b := by
  apply UInt8.toNat_inj.1
  have h := by8_int (b.toNat : Int)
  have := b.toNat_lt
  omega

def be8 (x : Int) : Nat → List UInt8
  | 0 => []
  | k + 1 => be8 x k ++ [by8 (shrI .u64 x (56 - 8 * (k : Int)))]
theorem be8_len (x : Int) (k : Nat) : (be8 x k).length = k := by
  induction k with
  | zero => rfl
  | succ k ih => simp [be8, ih]
def bitLen (l : List UInt8) : Int := ((l.length : Int) % 18446744073709551616 * 8) % 18446744073709551616
def padN (n : Nat) : Nat := (120 - (n + 1) % 64) % 64
def pad (l : List UInt8) : List UInt8 := l ++ [128] ++ List.replicate (padN l.length) 0 ++ be8 (bitLen l) 8
theorem pad_len (l : List UInt8) : (pad l).length = l.length + 1 + padN l.length + 8 := by
  simp [pad, be8_len]; omega
theorem pad_mod (l : List UInt8) : (pad l).length % 64 = 0 := by
  rw [pad_len]; unfold padN; omega

def foldB (m : List UInt8) : Nat → List Int
  | 0 => iv
  | k + 1 => comp (foldB m k) ((m.drop (64 * k)).take 64)
theorem foldB_len (m : List UInt8) (k : Nat) : (foldB m k).length = 8 := by
  induction k with
  | zero => rfl
  | succ k ih => rw [foldB, comp_len, ih]
def dig (w : List Int) : Nat → List UInt8
  | 0 => []
  | i + 1 => dig w i ++ [by8 (shrI .u32 (w.getD (i / 4) 0) (24 - 8 * ((i % 4 : Nat) : Int)))]
theorem dig_len (w : List Int) (k : Nat) : (dig w k).length = k := by
  induction k with
  | zero => rfl
  | succ k ih => simp [dig, ih]
def sha (l : List UInt8) : List UInt8 := dig (foldB (pad l) ((pad l).length / 64)) 32
theorem sha_len (l : List UInt8) : (sha l).length = 32 := dig_len _ _

def keyB (key : List UInt8) : List UInt8 :=
  (if 64 < key.length then sha key else key) ++ List.replicate (64 - (if 64 < key.length then sha key else key).length) 0
theorem keyB_len (key : List UInt8) : (keyB key).length = 64 := by
  unfold keyB
  split
  · simp [sha_len]
  · simp; omega
def xorm (l : List UInt8) (m : UInt8) : List UInt8 := l.map (· ^^^ m)
theorem xorm_len (l : List UInt8) (m : UInt8) : (xorm l m).length = l.length := by simp [xorm]
def hmac (key s : List UInt8) : List UInt8 := sha (xorm (keyB key) 0x5c ++ sha (xorm (keyB key) 0x36 ++ s))
theorem hmac_len (key s : List UInt8) : (hmac key s).length = 32 := sha_len _

def digs : List UInt8 := [48, 49, 50, 51, 52, 53, 54, 55, 56, 57, 97, 98, 99, 100, 101, 102]
def hexd (n : Nat) : UInt8 := digs.getD n 0
def hexB (b : UInt8) : List UInt8 := [hexd (b.toNat / 16), hexd (b.toNat % 16)]
def hex (d : List UInt8) : List UInt8 := d.flatMap hexB
def digV (c : UInt8) : Nat := digs.idxOf c
/-- The bytes of pairs of digits. -/
def unhex (l : List UInt8) : Nat → List UInt8
  | 0 => []
  | k + 1 => unhex l k ++ [by8 (16 * (digV (l.getD (2 * k) 0) : Int) + digV (l.getD (2 * k + 1) 0))]
theorem unhex_len (l : List UInt8) (k : Nat) : (unhex l k).length = k := by
  induction k with
  | zero => rfl
  | succ k ih => simp [unhex, ih]
def parses (l : List UInt8) : Bool := l.length == 64 && l.all fun c => decide (digV c < 16)
def parse (l : List UInt8) : List UInt8 × Int := if parses l = true then (unhex l 32, 0) else (List.replicate 32 0, 3)
theorem parse_len (l : List UInt8) : (parse l).1.length = 32 := by
  unfold parse; split
  · exact unhex_len _ _
  · simp
def cmpB : List UInt8 → List UInt8 → Int := Lib.compareBytes
def xorL (a b : List UInt8) : List UInt8 := List.zipWith (· ^^^ ·) a b

def C_quiltref02_zeros : PC := ⟨Int, fun n => [.int .i64 n], fun n => n ≤ 1000000, fun n => .str (List.replicate n.toNat 0)⟩
def C_quiltref02_padded : PC := ⟨List UInt8, fun l => [.str l], fun l => l.length ≤ 1099511627776, fun l => .str (pad l)⟩
def C_quiltref02_Bytes : PC := ⟨List UInt8, fun l => [.agg (bys l)], fun l => l.length = 32, fun l => .str l⟩
def C_quiltref02_mask : PC := ⟨List UInt8 × UInt8, fun p => [.str p.1, .int .u8 p.2.toNat], fun p => p.1.length ≤ 1099511627776, fun p => .str (xorm p.1 p.2)⟩
def C_quiltref02_Sum : PC := ⟨List UInt8, fun l => [.str l], fun l => l.length ≤ 1099511627776, fun l => .agg (bys (sha l))⟩
def C_sha256_Sum : PC := ⟨List UInt8, fun l => [.str l], fun l => l.length ≤ 1099511627776, fun l => .agg (bys (sha l))⟩
def C_quiltref02_HMAC : PC := ⟨List UInt8 × List UInt8, fun p => [.str p.1, .str p.2], fun p => p.1.length ≤ 1000000000 ∧ p.2.length ≤ 1000000000, fun p => .agg (bys (hmac p.1 p.2))⟩
def C_sha256_HMAC : PC := ⟨List UInt8 × List UInt8, fun p => [.str p.1, .str p.2], fun p => p.1.length ≤ 1000000000 ∧ p.2.length ≤ 1000000000, fun p => .agg (bys (hmac p.1 p.2))⟩
def C_sha256_HMAC_1 : PC := ⟨UInt8 × List UInt8, fun p => [.int .u8 p.1.toNat, .iref [.str p.2] 0], fun p => p.2.length ≤ 1099511627776, fun p => .str (xorm p.2 p.1)⟩
def C_quiltref02_Hex : PC := ⟨List UInt8, fun d => [.agg (bys d)], fun d => d.length = 32, fun d => .str (hex d)⟩
def C_sha256_Hex : PC := ⟨List UInt8, fun d => [.agg (bys d)], fun d => d.length = 32, fun d => .str (hex d)⟩
def C_quiltref02_digit : PC := ⟨UInt8, fun c => [.int .u8 c.toNat], fun _ => True, fun c => .int .u8 (digV c)⟩
def C_quiltref02_Parse : PC := ⟨List UInt8, fun l => [.str l], fun _ => True, fun l => .tup [.agg (bys (parse l).1), .int .i64 (parse l).2]⟩
def C_sha256_Parse : PC := ⟨List UInt8, fun l => [.str l], fun _ => True, fun l => .tup [.agg (bys (parse l).1), .int .i64 (parse l).2]⟩
def C_quiltref02_Compare : PC := ⟨List UInt8 × List UInt8, fun p => [.agg (bys p.1), .agg (bys p.2)], fun p => p.1.length = 32 ∧ p.2.length = 32, fun p => .int .i64 (cmpB p.1 p.2)⟩
def C_sha256_Compare : PC := ⟨List UInt8 × List UInt8, fun p => [.agg (bys p.1), .agg (bys p.2)], fun p => p.1.length = 32 ∧ p.2.length = 32, fun p => .int .i64 (cmpB p.1 p.2)⟩
def C_bytes_Compare : PC := ⟨List UInt8 × List UInt8, fun p => [.ilist 1 p.1.length (bys p.1), .ilist 1 p.2.length (bys p.2)], fun _ => True, fun p => .int .i64 (cmpB p.1 p.2)⟩
def C_quiltref02_Xor : PC := ⟨List UInt8 × List UInt8, fun p => [.agg (bys p.1), .agg (bys p.2)], fun p => p.1.length = 32 ∧ p.2.length = 32, fun p => .agg (bys (xorL p.1 p.2))⟩
def C_sha256_Xor : PC := ⟨List UInt8 × List UInt8, fun p => [.agg (bys p.1), .agg (bys p.2)], fun p => p.1.length = 32 ∧ p.2.length = 32, fun p => .agg (bys (xorL p.1 p.2))⟩
def C_strings_IndexByte : PC := ⟨List UInt8 × UInt8, fun p => [.str p.1, .int .u8 p.2.toNat], fun _ => True, fun p => .int .i64 (indexB p.1 p.2)⟩
def C_internal_stringslite_IndexByte : PC := ⟨List UInt8 × UInt8, fun p => [.str p.1, .int .u8 p.2.toNat], fun _ => True, fun p => .int .i64 (indexB p.1 p.2)⟩
def repeatB (l : List UInt8) (n : Nat) : List UInt8 := (List.replicate n l).flatten
def C_strings_Repeat : PC := ⟨List UInt8 × Int, fun p => [.str p.1, .int .i64 p.2], fun p => 0 ≤ p.2 ∧ p.2 ≤ 1000000000 ∧ p.1.length ≤ 1000, fun p => .str (repeatB p.1 p.2.toNat)⟩
def maskK (key : List UInt8) (x : UInt8) : Nat → List UInt8
  | 0 => []
  | i + 1 => maskK key x i ++ [key.getD i 0 ^^^ x]
def C_quiltlaw02_masked : PC := ⟨List UInt8 × UInt8, fun p => [.str p.1, .int .u8 p.2.toNat], fun p => p.1.length ≤ 64, fun p => .str (maskK p.1 p.2 64)⟩
def C_quiltlaw02_awake : PC := ⟨Unit, fun _ => [], fun _ => True, fun _ => .bool true⟩

end Qk

/-
  The functions of chapter 02 in the executor's form: padding, digests, hexadecimal forms (printed by a program).
-/
namespace Qk
open Go Go.RowKit

/-- quilt/quiltref02.zeros -/
def ir_quiltref02_zeros : IF := ⟨(.seq (.ops [⟨(some 2), none, .mov (.const (.string ⟨#[]⟩))⟩])
  (.seq (.ops [⟨(some 3), none, .mov (.const (.string ⟨#[]⟩))⟩])
  (.seq (.seq (.ops [⟨(some 4), none, .mov (ci 0)⟩])
  (.block 0 (.loop (.seq (.seq (.ops [⟨(some 5), none, .mov (t 4)⟩,
    ⟨(some 6), none, .mov (t 0)⟩,
    ⟨(some 7), none, .bin .lss (t 5) (t 6)⟩])
  (.cond (t 7) .skip
  (.exit 0)))
  (.seq (.block 1 (.ops [⟨(some 10), none, .mov (t 3)⟩,
    ⟨(some 11), none, .bin .add (t 10) (.const (.string ⟨#[0]⟩))⟩,
    ⟨(some 3), none, .mov (t 11)⟩]))
  (.ops [⟨(some 8), none, .mov (t 4)⟩,
    ⟨(some 9), none, .bin .add (t 8) (ci 1)⟩,
    ⟨(some 4), none, .mov (t 9)⟩]))))))
  (.seq (.ops [⟨(some 12), none, .mov (t 3)⟩,
    ⟨(some 2), none, .mov (t 12)⟩])
  .ret)))), [.tmp 2]⟩
/-- quilt/quiltref02.padded -/
def ir_quiltref02_padded : IF := ⟨(.seq (.ops [⟨(some 2), none, .mov (.const (.string ⟨#[]⟩))⟩])
  (.seq (.ops [⟨(some 6), none, .mov (t 0)⟩,
    ⟨(some 7), none, .bin .add (t 6) (.const (.string ⟨#[128]⟩))⟩,
    ⟨(some 3), none, .mov (t 7)⟩])
  (.seq (.ops [⟨(some 8), none, .mov (t 3)⟩,
    ⟨(some 9), none, .mov (t 3)⟩,
    ⟨(some 10), none, .lenS (t 9)⟩,
    ⟨(some 11), none, .bin .rem (t 10) (ci 64)⟩,
    ⟨(some 12), none, .bin .sub (ci 120) (t 11)⟩,
    ⟨(some 13), none, .bin .rem (t 12) (ci 64)⟩,
    ⟨(some 14), none, .pcall C_quiltref02_zeros [(t 13)]⟩,
    ⟨(some 15), none, .bin .add (t 8) (t 14)⟩,
    ⟨(some 3), none, .mov (t 15)⟩])
  (.seq (.ops [⟨(some 16), none, .mov (t 0)⟩,
    ⟨(some 17), none, .lenS (t 16)⟩,
    ⟨(some 18), none, .conv .u64 (t 17)⟩,
    ⟨(some 19), none, .bin .mul (t 18) (.const (.int .u64 8))⟩,
    ⟨(some 4), none, .mov (t 19)⟩])
  (.seq (.seq (.ops [⟨(some 5), none, .mov (ci 7)⟩])
  (.block 0 (.loop (.seq (.seq (.ops [⟨(some 20), none, .mov (t 5)⟩,
    ⟨(some 21), none, .bin .geq (t 20) (ci 0)⟩])
  (.cond (t 21) .skip
  (.exit 0)))
  (.seq (.block 1 (.ops [⟨(some 24), none, .mov (t 3)⟩,
    ⟨(some 25), none, .mov (t 4)⟩,
    ⟨(some 26), none, .mov (t 5)⟩,
    ⟨(some 27), none, .bin .mul (ci 8) (t 26)⟩,
    ⟨(some 28), none, .conv .u64 (t 27)⟩,
    ⟨(some 29), none, .bin .shr (t 25) (t 28)⟩,
    ⟨(some 30), none, .conv .u8 (t 29)⟩,
    ⟨(some 31), none, .bslice 1 [.int .u8 0] 1 [(0, 1, (t 30))]⟩,
    ⟨(some 32), none, .b2s (t 31)⟩,
    ⟨(some 33), none, .bin .add (t 24) (t 32)⟩,
    ⟨(some 3), none, .mov (t 33)⟩]))
  (.ops [⟨(some 22), none, .mov (t 5)⟩,
    ⟨(some 23), none, .bin .sub (t 22) (ci 1)⟩,
    ⟨(some 5), none, .mov (t 23)⟩]))))))
  (.seq (.ops [⟨(some 34), none, .mov (t 3)⟩,
    ⟨(some 2), none, .mov (t 34)⟩])
  .ret)))))), [.tmp 2]⟩
/-- quilt/quiltref02.Bytes -/
def ir_quiltref02_Bytes : IF := ⟨(.seq (.ops [⟨(some 1), none, .box (t 0)⟩,
    ⟨(some 2), none, .mov (.const (.string ⟨#[]⟩))⟩])
  (.seq (.ops [⟨(some 3), none, .slA 1 32 (t 1) none none⟩,
    ⟨(some 4), none, .b2s (t 3)⟩,
    ⟨(some 2), none, .mov (t 4)⟩])
  .ret)), [.tmp 2]⟩
/-- quilt/quiltref02.mask -/
def ir_quiltref02_mask : IF := ⟨(.seq (.ops [⟨(some 4), none, .mov (.const (.string ⟨#[]⟩))⟩])
  (.seq (.ops [⟨(some 5), none, .mov (.const (.string ⟨#[]⟩))⟩])
  (.seq (.seq (.ops [⟨(some 6), none, .mov (ci 0)⟩])
  (.block 0 (.loop (.seq (.seq (.ops [⟨(some 7), none, .mov (t 6)⟩,
    ⟨(some 8), none, .mov (t 0)⟩,
    ⟨(some 9), none, .lenS (t 8)⟩,
    ⟨(some 10), none, .bin .lss (t 7) (t 9)⟩])
  (.cond (t 10) .skip
  (.exit 0)))
  (.seq (.block 1 (.ops [⟨(some 13), none, .mov (t 5)⟩,
    ⟨(some 14), none, .mov (t 0)⟩,
    ⟨(some 15), none, .mov (t 6)⟩,
    ⟨(some 16), none, .idxS (t 14) (t 15)⟩,
    ⟨(some 17), none, .mov (t 1)⟩,
    ⟨(some 18), none, .bin .xor (t 16) (t 17)⟩,
    ⟨(some 19), none, .bslice 1 [.int .u8 0] 1 [(0, 1, (t 18))]⟩,
    ⟨(some 20), none, .b2s (t 19)⟩,
    ⟨(some 21), none, .bin .add (t 13) (t 20)⟩,
    ⟨(some 5), none, .mov (t 21)⟩]))
  (.ops [⟨(some 11), none, .mov (t 6)⟩,
    ⟨(some 12), none, .bin .add (t 11) (ci 1)⟩,
    ⟨(some 6), none, .mov (t 12)⟩]))))))
  (.seq (.ops [⟨(some 22), none, .mov (t 5)⟩,
    ⟨(some 4), none, .mov (t 22)⟩])
  .ret)))), [.tmp 4]⟩
/-- quilt/quiltref02.Sum -/
def ir_quiltref02_Sum : IF := ⟨(.seq (.ops [⟨(some 2), none, .alloc (repl 32 [.int .u8 0])⟩])
  (.seq (.ops [⟨(some 8), none, .build 8 (repl 8 [.int .u32 0]) [(0, 1, (.const (.int .u32 1779033703))), (1, 1, (.const (.int .u32 3144134277))), (2, 1, (.const (.int .u32 1013904242))), (3, 1, (.const (.int .u32 2773480762))), (4, 1, (.const (.int .u32 1359893119))), (5, 1, (.const (.int .u32 2600822924))), (6, 1, (.const (.int .u32 528734635))), (7, 1, (.const (.int .u32 1541459225)))]⟩,
    ⟨(some 3), none, .alloc (repl 8 [.int .u32 0])⟩,
    ⟨none, none, .storN 8 (t 3) (t 8)⟩])
  (.seq (.ops [⟨(some 9), none, .mov (t 0)⟩,
    ⟨(some 10), none, .pcall C_quiltref02_padded [(t 9)]⟩,
    ⟨(some 4), none, .mov (t 10)⟩])
  (.seq (.seq (.ops [⟨(some 5), none, .mov (ci 0)⟩])
  (.block 0 (.loop (.seq (.seq (.ops [⟨(some 11), none, .mov (t 5)⟩,
    ⟨(some 12), none, .bin .add (t 11) (ci 64)⟩,
    ⟨(some 13), none, .mov (t 4)⟩,
    ⟨(some 14), none, .lenS (t 13)⟩,
    ⟨(some 15), none, .bin .leq (t 12) (t 14)⟩])
  (.cond (t 15) .skip
  (.exit 0)))
  (.seq (.block 1 (.ops [⟨(some 18), none, .loadN 8 (t 3)⟩,
    ⟨(some 19), none, .mov (t 4)⟩,
    ⟨(some 20), none, .mov (t 5)⟩,
    ⟨(some 21), none, .mov (t 5)⟩,
    ⟨(some 22), none, .bin .add (t 21) (ci 64)⟩,
    ⟨(some 23), none, .slS (t 19) (some (t 20)) (some (t 22))⟩,
    ⟨(some 24), none, .pcall C_quiltref02_step [(t 18), (t 23)]⟩,
    ⟨none, none, .storN 8 (t 3) (t 24)⟩]))
  (.ops [⟨(some 16), none, .mov (t 5)⟩,
    ⟨(some 17), none, .bin .add (t 16) (ci 64)⟩,
    ⟨(some 5), none, .mov (t 17)⟩]))))))
  (.seq (.ops [⟨(some 25), none, .build 32 (repl 32 [.int .u8 0]) []⟩,
    ⟨(some 6), none, .alloc (repl 32 [.int .u8 0])⟩,
    ⟨none, none, .storN 32 (t 6) (t 25)⟩])
  (.seq (.seq (.ops [⟨(some 7), none, .mov (ci 0)⟩])
  (.block 2 (.loop (.seq (.seq (.ops [⟨(some 26), none, .mov (t 7)⟩,
    ⟨(some 27), none, .bin .lss (t 26) (ci 32)⟩])
  (.cond (t 27) .skip
  (.exit 2)))
  (.seq (.block 3 (.ops [⟨(some 30), none, .mov (t 7)⟩,
    ⟨(some 31), none, .mov (t 7)⟩,
    ⟨(some 32), none, .bin .quo (t 31) (ci 4)⟩,
    ⟨(some 33), none, .idxA 1 8 (t 3) (t 32)⟩,
    ⟨(some 34), none, .load1 (t 33)⟩,
    ⟨(some 35), none, .mov (t 7)⟩,
    ⟨(some 36), none, .bin .rem (t 35) (ci 4)⟩,
    ⟨(some 37), none, .bin .mul (ci 8) (t 36)⟩,
    ⟨(some 38), none, .bin .sub (ci 24) (t 37)⟩,
    ⟨(some 39), none, .conv .u64 (t 38)⟩,
    ⟨(some 40), none, .bin .shr (t 34) (t 39)⟩,
    ⟨(some 41), none, .conv .u8 (t 40)⟩,
    ⟨(some 42), none, .idxA 1 32 (t 6) (t 30)⟩,
    ⟨none, none, .stor1 (t 42) (t 41)⟩]))
  (.ops [⟨(some 28), none, .mov (t 7)⟩,
    ⟨(some 29), none, .bin .add (t 28) (ci 1)⟩,
    ⟨(some 7), none, .mov (t 29)⟩]))))))
  (.seq (.ops [⟨(some 43), none, .loadN 32 (t 6)⟩,
    ⟨none, none, .storN 32 (t 2) (t 43)⟩])
  .ret))))))), [.cell 2 true 32]⟩
/-- quilt/quiltref02.HMAC -/
def ir_quiltref02_HMAC : IF := ⟨(.seq (.ops [⟨(some 4), none, .alloc (repl 32 [.int .u8 0])⟩])
  (.seq (.seq (.ops [⟨(some 5), none, .mov (t 0)⟩,
    ⟨(some 6), none, .lenS (t 5)⟩,
    ⟨(some 7), none, .bin .gtr (t 6) (ci 64)⟩])
  (.jn (.cond (t 7) (.ops [⟨(some 8), none, .mov (t 0)⟩,
    ⟨(some 9), none, .pcall C_quiltref02_Sum [(t 8)]⟩,
    ⟨(some 10), none, .pcall C_quiltref02_Bytes [(t 9)]⟩,
    ⟨(some 0), none, .mov (t 10)⟩])
  .skip)))
  (.seq (.ops [⟨(some 11), none, .mov (t 0)⟩,
    ⟨(some 12), none, .mov (t 0)⟩,
    ⟨(some 13), none, .lenS (t 12)⟩,
    ⟨(some 14), none, .bin .sub (ci 64) (t 13)⟩,
    ⟨(some 15), none, .pcall C_quiltref02_zeros [(t 14)]⟩,
    ⟨(some 16), none, .bin .add (t 11) (t 15)⟩,
    ⟨(some 0), none, .mov (t 16)⟩])
  (.seq (.ops [⟨(some 17), none, .mov (t 0)⟩,
    ⟨(some 18), none, .pcall C_quiltref02_mask [(t 17), (.const (.int .u8 92))]⟩,
    ⟨(some 19), none, .mov (t 0)⟩,
    ⟨(some 20), none, .pcall C_quiltref02_mask [(t 19), (.const (.int .u8 54))]⟩,
    ⟨(some 21), none, .mov (t 1)⟩,
    ⟨(some 22), none, .bin .add (t 20) (t 21)⟩,
    ⟨(some 23), none, .pcall C_quiltref02_Sum [(t 22)]⟩,
    ⟨(some 24), none, .pcall C_quiltref02_Bytes [(t 23)]⟩,
    ⟨(some 25), none, .bin .add (t 18) (t 24)⟩,
    ⟨(some 26), none, .pcall C_quiltref02_Sum [(t 25)]⟩,
    ⟨none, none, .storN 32 (t 4) (t 26)⟩])
  .ret)))), [.cell 4 true 32]⟩
/-- quilt/quiltref02.Hex -/
def ir_quiltref02_Hex : IF := ⟨(.seq (.ops [⟨(some 1), none, .box (t 0)⟩,
    ⟨(some 2), none, .mov (.const (.string ⟨#[]⟩))⟩])
  (.seq (.ops [⟨(some 3), none, .mov (.const (.string ⟨#[]⟩))⟩])
  (.seq (.seq (.ops [⟨(some 4), none, .mov (ci 0)⟩])
  (.block 0 (.loop (.seq (.seq (.ops [⟨(some 5), none, .mov (t 4)⟩,
    ⟨(some 6), none, .bin .lss (t 5) (ci 32)⟩])
  (.cond (t 6) .skip
  (.exit 0)))
  (.seq (.block 1 (.ops [⟨(some 9), none, .mov (t 3)⟩,
    ⟨(some 10), none, .mov (t 4)⟩,
    ⟨(some 11), none, .idxA 1 32 (t 1) (t 10)⟩,
    ⟨(some 12), none, .load1 (t 11)⟩,
    ⟨(some 13), none, .bin .quo (t 12) (.const (.int .u8 16))⟩,
    ⟨(some 14), none, .mov (t 4)⟩,
    ⟨(some 15), none, .idxA 1 32 (t 1) (t 14)⟩,
    ⟨(some 16), none, .load1 (t 15)⟩,
    ⟨(some 17), none, .bin .quo (t 16) (.const (.int .u8 16))⟩,
    ⟨(some 18), none, .bin .add (t 17) (.const (.int .u8 1))⟩,
    ⟨(some 19), none, .slS (.const (.string ⟨#[48, 49, 50, 51, 52, 53, 54, 55, 56, 57, 97, 98, 99, 100, 101, 102]⟩)) (some (t 13)) (some (t 18))⟩,
    ⟨(some 20), none, .bin .add (t 9) (t 19)⟩,
    ⟨(some 21), none, .mov (t 4)⟩,
    ⟨(some 22), none, .idxA 1 32 (t 1) (t 21)⟩,
    ⟨(some 23), none, .load1 (t 22)⟩,
    ⟨(some 24), none, .bin .rem (t 23) (.const (.int .u8 16))⟩,
    ⟨(some 25), none, .mov (t 4)⟩,
    ⟨(some 26), none, .idxA 1 32 (t 1) (t 25)⟩,
    ⟨(some 27), none, .load1 (t 26)⟩,
    ⟨(some 28), none, .bin .rem (t 27) (.const (.int .u8 16))⟩,
    ⟨(some 29), none, .bin .add (t 28) (.const (.int .u8 1))⟩,
    ⟨(some 30), none, .slS (.const (.string ⟨#[48, 49, 50, 51, 52, 53, 54, 55, 56, 57, 97, 98, 99, 100, 101, 102]⟩)) (some (t 24)) (some (t 29))⟩,
    ⟨(some 31), none, .bin .add (t 20) (t 30)⟩,
    ⟨(some 3), none, .mov (t 31)⟩]))
  (.ops [⟨(some 7), none, .mov (t 4)⟩,
    ⟨(some 8), none, .bin .add (t 7) (ci 1)⟩,
    ⟨(some 4), none, .mov (t 8)⟩]))))))
  (.seq (.ops [⟨(some 32), none, .mov (t 3)⟩,
    ⟨(some 2), none, .mov (t 32)⟩])
  .ret)))), [.tmp 2]⟩
/-- quilt/quiltref02.digit -/
def ir_quiltref02_digit : IF := ⟨(.seq (.ops [⟨(some 2), none, .mov (.const (.int .u8 0))⟩])
  (.seq (.seq (.ops [⟨(some 3), none, .mov (ci 0)⟩])
  (.block 0 (.loop (.seq (.seq (.ops [⟨(some 4), none, .mov (t 3)⟩,
    ⟨(some 5), none, .bin .lss (t 4) (ci 16)⟩])
  (.cond (t 5) .skip
  (.exit 0)))
  (.seq (.block 1 (.seq (.ops [⟨(some 8), none, .mov (t 3)⟩,
    ⟨(some 9), none, .idxS (.const (.string ⟨#[48, 49, 50, 51, 52, 53, 54, 55, 56, 57, 97, 98, 99, 100, 101, 102]⟩)) (t 8)⟩,
    ⟨(some 10), none, .mov (t 0)⟩,
    ⟨(some 11), none, .bin .eql (t 9) (t 10)⟩])
  (.cond (t 11) (.seq (.ops [⟨(some 12), none, .mov (t 3)⟩,
    ⟨(some 13), none, .conv .u8 (t 12)⟩,
    ⟨(some 2), none, .mov (t 13)⟩])
  .ret)
  .skip)))
  (.ops [⟨(some 6), none, .mov (t 3)⟩,
    ⟨(some 7), none, .bin .add (t 6) (ci 1)⟩,
    ⟨(some 3), none, .mov (t 7)⟩]))))))
  (.seq (.ops [⟨(some 2), none, .mov (.const (.int .u8 16))⟩])
  .ret))), [.tmp 2]⟩
/-- quilt/quiltref02.Parse -/
def ir_quiltref02_Parse : IF := ⟨(.seq (.ops [⟨(some 2), none, .alloc (repl 32 [.int .u8 0])⟩,
    ⟨(some 3), none, .mov (ci 0)⟩])
  (.seq (.seq (.ops [⟨(some 8), none, .mov (t 0)⟩,
    ⟨(some 9), none, .lenS (t 8)⟩,
    ⟨(some 10), none, .bin .neq (t 9) (ci 64)⟩])
  (.cond (t 10) (.seq (.ops [⟨(some 11), none, .build 32 (repl 32 [.int .u8 0]) []⟩,
    ⟨none, none, .storN 32 (t 2) (t 11)⟩,
    ⟨(some 3), none, .mov (ci 3)⟩])
  .ret)
  .skip))
  (.seq (.ops [⟨(some 12), none, .build 32 (repl 32 [.int .u8 0]) []⟩,
    ⟨(some 4), none, .alloc (repl 32 [.int .u8 0])⟩,
    ⟨none, none, .storN 32 (t 4) (t 12)⟩])
  (.seq (.seq (.ops [⟨(some 5), none, .mov (ci 0)⟩])
  (.block 0 (.loop (.seq (.seq (.ops [⟨(some 13), none, .mov (t 5)⟩,
    ⟨(some 14), none, .bin .lss (t 13) (ci 32)⟩])
  (.cond (t 14) .skip
  (.exit 0)))
  (.seq (.block 1 (.seq (.ops [⟨(some 17), none, .mov (t 0)⟩,
    ⟨(some 18), none, .mov (t 5)⟩,
    ⟨(some 19), none, .bin .mul (ci 2) (t 18)⟩,
    ⟨(some 20), none, .idxS (t 17) (t 19)⟩,
    ⟨(some 21), none, .pcall C_quiltref02_digit [(t 20)]⟩,
    ⟨(some 22), none, .mov (t 0)⟩,
    ⟨(some 23), none, .mov (t 5)⟩,
    ⟨(some 24), none, .bin .mul (ci 2) (t 23)⟩,
    ⟨(some 25), none, .bin .add (t 24) (ci 1)⟩,
    ⟨(some 26), none, .idxS (t 22) (t 25)⟩,
    ⟨(some 27), none, .pcall C_quiltref02_digit [(t 26)]⟩,
    ⟨(some 6), none, .mov (t 21)⟩,
    ⟨(some 7), none, .mov (t 27)⟩])
  (.seq (.seq (.ops [⟨(some 28), none, .mov (t 6)⟩,
    ⟨(some 29), none, .bin .gtr (t 28) (.const (.int .u8 15))⟩,
    ⟨(some 30), none, .mov (t 29)⟩,
    ⟨(some 31), (some (30, false)), .mov (t 7)⟩,
    ⟨(some 32), (some (30, false)), .bin .gtr (t 31) (.const (.int .u8 15))⟩,
    ⟨(some 33), none, .pick (t 30) (.const (.bool true)) (t 32)⟩])
  (.cond (t 33) (.seq (.ops [⟨(some 34), none, .build 32 (repl 32 [.int .u8 0]) []⟩,
    ⟨none, none, .storN 32 (t 2) (t 34)⟩,
    ⟨(some 3), none, .mov (ci 3)⟩])
  .ret)
  .skip))
  (.ops [⟨(some 35), none, .mov (t 5)⟩,
    ⟨(some 36), none, .mov (t 6)⟩,
    ⟨(some 37), none, .bin .mul (.const (.int .u8 16)) (t 36)⟩,
    ⟨(some 38), none, .mov (t 7)⟩,
    ⟨(some 39), none, .bin .add (t 37) (t 38)⟩,
    ⟨(some 40), none, .idxA 1 32 (t 4) (t 35)⟩,
    ⟨none, none, .stor1 (t 40) (t 39)⟩]))))
  (.ops [⟨(some 15), none, .mov (t 5)⟩,
    ⟨(some 16), none, .bin .add (t 15) (ci 1)⟩,
    ⟨(some 5), none, .mov (t 16)⟩]))))))
  (.seq (.ops [⟨(some 41), none, .loadN 32 (t 4)⟩,
    ⟨none, none, .storN 32 (t 2) (t 41)⟩,
    ⟨(some 3), none, .mov (ci 0)⟩])
  .ret))))), [.cell 2 true 32, .tmp 3]⟩
/-- quilt/quiltref02.Compare -/
def ir_quiltref02_Compare : IF := ⟨(.seq (.ops [⟨(some 2), none, .box (t 0)⟩,
    ⟨(some 3), none, .box (t 1)⟩,
    ⟨(some 4), none, .mov (ci 0)⟩])
  (.seq (.seq (.ops [⟨(some 5), none, .mov (ci 0)⟩])
  (.block 0 (.loop (.seq (.seq (.ops [⟨(some 6), none, .mov (t 5)⟩,
    ⟨(some 7), none, .bin .lss (t 6) (ci 32)⟩])
  (.cond (t 7) .skip
  (.exit 0)))
  (.seq (.block 1 (.seq (.seq (.ops [⟨(some 10), none, .mov (t 5)⟩,
    ⟨(some 11), none, .idxA 1 32 (t 2) (t 10)⟩,
    ⟨(some 12), none, .load1 (t 11)⟩,
    ⟨(some 13), none, .mov (t 5)⟩,
    ⟨(some 14), none, .idxA 1 32 (t 3) (t 13)⟩,
    ⟨(some 15), none, .load1 (t 14)⟩,
    ⟨(some 16), none, .bin .lss (t 12) (t 15)⟩])
  (.cond (t 16) (.seq (.ops [⟨(some 4), none, .mov (ci (-1))⟩])
  .ret)
  .skip))
  (.seq (.ops [⟨(some 17), none, .mov (t 5)⟩,
    ⟨(some 18), none, .idxA 1 32 (t 2) (t 17)⟩,
    ⟨(some 19), none, .load1 (t 18)⟩,
    ⟨(some 20), none, .mov (t 5)⟩,
    ⟨(some 21), none, .idxA 1 32 (t 3) (t 20)⟩,
    ⟨(some 22), none, .load1 (t 21)⟩,
    ⟨(some 23), none, .bin .gtr (t 19) (t 22)⟩])
  (.cond (t 23) (.seq (.ops [⟨(some 4), none, .mov (ci 1)⟩])
  .ret)
  .skip))))
  (.ops [⟨(some 8), none, .mov (t 5)⟩,
    ⟨(some 9), none, .bin .add (t 8) (ci 1)⟩,
    ⟨(some 5), none, .mov (t 9)⟩]))))))
  (.seq (.ops [⟨(some 4), none, .mov (ci 0)⟩])
  .ret))), [.tmp 4]⟩
/-- quilt/quiltref02.Xor -/
def ir_quiltref02_Xor : IF := ⟨(.seq (.ops [⟨(some 2), none, .box (t 0)⟩,
    ⟨(some 3), none, .box (t 1)⟩,
    ⟨(some 4), none, .alloc (repl 32 [.int .u8 0])⟩])
  (.seq (.seq (.ops [⟨(some 5), none, .mov (ci 0)⟩])
  (.block 0 (.loop (.seq (.seq (.ops [⟨(some 6), none, .mov (t 5)⟩,
    ⟨(some 7), none, .bin .lss (t 6) (ci 32)⟩])
  (.cond (t 7) .skip
  (.exit 0)))
  (.seq (.block 1 (.ops [⟨(some 10), none, .mov (t 5)⟩,
    ⟨(some 11), none, .mov (t 5)⟩,
    ⟨(some 12), none, .idxA 1 32 (t 2) (t 11)⟩,
    ⟨(some 13), none, .load1 (t 12)⟩,
    ⟨(some 14), none, .mov (t 5)⟩,
    ⟨(some 15), none, .idxA 1 32 (t 3) (t 14)⟩,
    ⟨(some 16), none, .load1 (t 15)⟩,
    ⟨(some 17), none, .bin .xor (t 13) (t 16)⟩,
    ⟨(some 18), none, .idxA 1 32 (t 2) (t 10)⟩,
    ⟨none, none, .stor1 (t 18) (t 17)⟩]))
  (.ops [⟨(some 8), none, .mov (t 5)⟩,
    ⟨(some 9), none, .bin .add (t 8) (ci 1)⟩,
    ⟨(some 5), none, .mov (t 9)⟩]))))))
  (.seq (.ops [⟨(some 19), none, .loadN 32 (t 2)⟩,
    ⟨none, none, .storN 32 (t 4) (t 19)⟩])
  .ret))), [.cell 4 true 32]⟩
/-- quilt/sha256.HMAC$1 -/
def ir_sha256_HMAC_1 : IF := ⟨(.seq (.ops [⟨(some 3), none, .mov (.const (.string ⟨#[]⟩))⟩])
  (.seq (.ops [⟨(some 6), none, .load1 (t 1)⟩,
    ⟨(some 7), none, .s2b (t 6)⟩,
    ⟨(some 4), none, .mov (t 7)⟩])
  (.seq (.seq (.ops [⟨(some 8), none, .mov (t 4)⟩,
    ⟨(some 9), none, .lenL (t 8)⟩,
    ⟨(some 10), none, .mov (ci 0)⟩])
  (.block 0 (.loop (.seq (.ops [⟨(some 11), none, .bin .lss (t 10) (t 9)⟩])
  (.seq (.cond (t 11) .skip
  (.exit 0))
  (.seq (.block 1 (.seq (.ops [⟨(some 12), none, .mov (t 10)⟩,
    ⟨(some 5), none, .mov (t 12)⟩])
  (.ops [⟨(some 13), none, .mov (t 4)⟩,
    ⟨(some 14), none, .mov (t 5)⟩,
    ⟨(some 15), none, .idxL 1 (t 13) (t 14)⟩,
    ⟨(some 16), none, .load1 (t 15)⟩,
    ⟨(some 17), none, .mov (t 0)⟩,
    ⟨(some 18), none, .bin .xor (t 16) (t 17)⟩,
    ⟨(some 19), none, .idxL 1 (t 13) (t 14)⟩,
    ⟨none, none, .stor1 (t 19) (t 18)⟩])))
  (.ops [⟨(some 20), none, .bin .add (t 10) (ci 1)⟩,
    ⟨(some 10), none, .mov (t 20)⟩])))))))
  (.seq (.ops [⟨(some 21), none, .mov (t 4)⟩,
    ⟨(some 22), none, .b2s (t 21)⟩,
    ⟨(some 3), none, .mov (t 22)⟩])
  .ret)))), [.tmp 3]⟩


def V_sha256_HMAC : Nat → Option PC := look [(1, C_sha256_HMAC_1)]
def HV_sha256_HMAC : Nat → Option HTran := look []
def V_sha256_blocks_1 : Nat → Option PC := look []
def HV_sha256_blocks_1 : Nat → Option HTran := look []

/-- quilt/sha256.blocks$1 -/
def ir_sha256_blocks_1 : IF := ⟨(.seq (.ops [⟨(some 8), none, .load1 (t 1)⟩,
    ⟨(some 9), none, .lenS (t 8)⟩,
    ⟨(some 10), none, .bin .quo (t 9) (ci 64)⟩,
    ⟨(some 11), none, .bin .mul (t 10) (ci 64)⟩,
    ⟨(some 3), none, .mov (t 11)⟩])
  (.seq (.seq (.ops [⟨(some 4), none, .mov (ci 0)⟩])
  (.block 0 (.loop (.seq (.seq (.ops [⟨(some 12), none, .mov (t 4)⟩,
    ⟨(some 13), none, .mov (t 3)⟩,
    ⟨(some 14), none, .bin .lss (t 12) (t 13)⟩])
  (.cond (t 14) .skip
  (.exit 0)))
  (.seq (.block 1 (.seq (.sops [.op ⟨(some 17), none, .mov (t 0)⟩,
    .op ⟨(some 18), none, .load1 (t 1)⟩,
    .op ⟨(some 19), none, .mov (t 4)⟩,
    .op ⟨(some 20), none, .mov (t 4)⟩,
    .op ⟨(some 21), none, .bin .add (t 20) (ci 64)⟩,
    .op ⟨(some 22), none, .slS (t 18) (some (t 19)) (some (t 21))⟩,
    .dyn ⟨(some 23), none, .vcall V_sha256_blocks_1 (t 17) [(t 22)]⟩ HV_sha256_blocks_1 (t 17) [(t 22)],
    .op ⟨(some 24), none, .not (t 23)⟩])
  (.cond (t 24) .ret
  .skip)))
  (.ops [⟨(some 15), none, .mov (t 4)⟩,
    ⟨(some 16), none, .bin .add (t 15) (ci 64)⟩,
    ⟨(some 4), none, .mov (t 16)⟩]))))))
  (.seq (.ops [⟨(some 25), none, .load1 (t 1)⟩,
    ⟨(some 26), none, .mov (t 3)⟩,
    ⟨(some 27), none, .slS (t 25) (some (t 26)) none⟩,
    ⟨(some 28), none, .s2b (t 27)⟩,
    ⟨(some 29), none, .bslice 1 [.int .u8 0] 1 [(0, 1, (.const (.int .u8 128)))]⟩,
    ⟨(some 30), none, .app 1 1 (t 28) (t 29)⟩,
    ⟨(some 5), none, .mov (t 30)⟩])
  (.seq (.block 2 (.loop (.seq (.seq (.ops [⟨(some 31), none, .mov (t 5)⟩,
    ⟨(some 32), none, .lenL (t 31)⟩,
    ⟨(some 33), none, .bin .rem (t 32) (ci 64)⟩,
    ⟨(some 34), none, .bin .neq (t 33) (ci 56)⟩])
  (.cond (t 34) .skip
  (.exit 2)))
  (.block 3 (.ops [⟨(some 35), none, .mov (t 5)⟩,
    ⟨(some 36), none, .bslice 1 [.int .u8 0] 1 [(0, 1, (.const (.int .u8 0)))]⟩,
    ⟨(some 37), none, .app 1 1 (t 35) (t 36)⟩,
    ⟨(some 5), none, .mov (t 37)⟩])))))
  (.seq (.seq (.ops [⟨(some 6), none, .mov (ci 56)⟩])
  (.block 4 (.loop (.seq (.seq (.ops [⟨(some 38), none, .mov (t 6)⟩,
    ⟨(some 39), none, .bin .geq (t 38) (ci 0)⟩])
  (.cond (t 39) .skip
  (.exit 4)))
  (.seq (.block 5 (.ops [⟨(some 42), none, .mov (t 5)⟩,
    ⟨(some 43), none, .load1 (t 1)⟩,
    ⟨(some 44), none, .lenS (t 43)⟩,
    ⟨(some 45), none, .conv .u64 (t 44)⟩,
    ⟨(some 46), none, .bin .mul (t 45) (.const (.int .u64 8))⟩,
    ⟨(some 47), none, .mov (t 6)⟩,
    ⟨(some 48), none, .bin .shr (t 46) (t 47)⟩,
    ⟨(some 49), none, .conv .u8 (t 48)⟩,
    ⟨(some 50), none, .bslice 1 [.int .u8 0] 1 [(0, 1, (t 49))]⟩,
    ⟨(some 51), none, .app 1 1 (t 42) (t 50)⟩,
    ⟨(some 5), none, .mov (t 51)⟩]))
  (.ops [⟨(some 40), none, .mov (t 6)⟩,
    ⟨(some 41), none, .bin .sub (t 40) (ci 8)⟩,
    ⟨(some 6), none, .mov (t 41)⟩]))))))
  (.seq (.ops [⟨(some 7), none, .mov (ci 0)⟩])
  (.block 6 (.loop (.seq (.seq (.ops [⟨(some 52), none, .mov (t 7)⟩,
    ⟨(some 53), none, .mov (t 5)⟩,
    ⟨(some 54), none, .lenL (t 53)⟩,
    ⟨(some 55), none, .bin .lss (t 52) (t 54)⟩])
  (.cond (t 55) .skip
  (.exit 6)))
  (.seq (.block 7 (.seq (.sops [.op ⟨(some 58), none, .mov (t 0)⟩,
    .op ⟨(some 59), none, .mov (t 5)⟩,
    .op ⟨(some 60), none, .mov (t 7)⟩,
    .op ⟨(some 61), none, .mov (t 7)⟩,
    .op ⟨(some 62), none, .bin .add (t 61) (ci 64)⟩,
    .op ⟨(some 63), none, .slL 1 (t 59) (some (t 60)) (some (t 62))⟩,
    .op ⟨(some 64), none, .b2s (t 63)⟩,
    .dyn ⟨(some 65), none, .vcall V_sha256_blocks_1 (t 58) [(t 64)]⟩ HV_sha256_blocks_1 (t 58) [(t 64)],
    .op ⟨(some 66), none, .not (t 65)⟩])
  (.cond (t 66) .ret
  .skip)))
  (.ops [⟨(some 56), none, .mov (t 7)⟩,
    ⟨(some 57), none, .bin .add (t 56) (ci 64)⟩,
    ⟨(some 7), none, .mov (t 57)⟩]))))))))))), []⟩
def T_sha256_blocks_1 : ITran := itr 2 ir_sha256_blocks_1.code ir_sha256_blocks_1.res
/-- quilt/sha256.blocks -/
def ir_sha256_blocks : IF := ⟨(.seq (.ops [⟨(some 1), none, .box (t 0)⟩,
    ⟨(some 2), none, .mov (.const .nilFunc)⟩])
  (.seq (.ops [⟨(some 3), none, .mkclo 2 [(t 1)]⟩,
    ⟨(some 2), none, .mov (t 3)⟩])
  .ret)), [.tmp 2]⟩
def H_sha256_blocks : HTran := inl 1 ir_sha256_blocks.code ir_sha256_blocks.res


def IT_sha256_Sum : Nat → Option ITran := look [(2, T_sha256_blocks_1)]

/-- quilt/sha256.Sum -/
def ir_sha256_Sum : IF := ⟨(.seq (.ops [⟨(some 2), none, .alloc (repl 32 [.int .u8 0])⟩])
  (.seq (.ops [⟨(some 9), none, .pcall C_sha256_initial []⟩,
    ⟨(some 3), none, .alloc (repl 8 [.int .u32 0])⟩,
    ⟨none, none, .storN 8 (t 3) (t 9)⟩])
  (.seq (.seq (.sops [.op ⟨(some 10), none, .mov (t 0)⟩,
    .call none (some 11) H_sha256_blocks [(t 10)]])
  (.block 0 (.rfunc IT_sha256_Sum (t 11) [12] (.seq (.ops [⟨(some 4), none, .mov (t 12)⟩])
  (.block 1 (.ops [⟨(some 13), none, .loadN 8 (t 3)⟩,
    ⟨(some 14), none, .mov (t 4)⟩,
    ⟨(some 15), none, .pcall C_sha256_compress [(t 13), (t 14)]⟩,
    ⟨none, none, .storN 8 (t 3) (t 15)⟩]))))))
  (.seq (.ops [⟨(some 5), none, .alloc (repl 32 [.int .u8 0])⟩])
  (.seq (.seq (.ops [⟨(some 16), none, .loadN 8 (t 3)⟩,
    ⟨(some 17), none, .mov (ci 0)⟩])
  (.block 2 (.loop (.seq (.ops [⟨(some 18), none, .bin .lss (t 17) (ci 8)⟩])
  (.seq (.cond (t 18) .skip
  (.exit 2))
  (.seq (.block 3 (.seq (.ops [⟨(some 19), none, .mov (t 17)⟩,
    ⟨(some 20), none, .idxV 8 1 false (t 16) (t 17)⟩,
    ⟨(some 6), none, .mov (t 19)⟩,
    ⟨(some 7), none, .mov (t 20)⟩])
  (.seq (.ops [⟨(some 21), none, .mov (ci 0)⟩])
  (.block 4 (.loop (.seq (.ops [⟨(some 22), none, .bin .lss (t 21) (ci 4)⟩])
  (.seq (.cond (t 22) .skip
  (.exit 4))
  (.seq (.block 5 (.seq (.ops [⟨(some 23), none, .mov (t 21)⟩,
    ⟨(some 8), none, .mov (t 23)⟩])
  (.ops [⟨(some 24), none, .mov (t 6)⟩,
    ⟨(some 25), none, .bin .mul (ci 4) (t 24)⟩,
    ⟨(some 26), none, .mov (t 8)⟩,
    ⟨(some 27), none, .bin .add (t 25) (t 26)⟩,
    ⟨(some 28), none, .mov (t 7)⟩,
    ⟨(some 29), none, .mov (t 8)⟩,
    ⟨(some 30), none, .bin .mul (ci 8) (t 29)⟩,
    ⟨(some 31), none, .bin .sub (ci 24) (t 30)⟩,
    ⟨(some 32), none, .bin .shr (t 28) (t 31)⟩,
    ⟨(some 33), none, .conv .u8 (t 32)⟩,
    ⟨(some 34), none, .idxA 1 32 (t 5) (t 27)⟩,
    ⟨none, none, .stor1 (t 34) (t 33)⟩])))
  (.ops [⟨(some 35), none, .bin .add (t 21) (ci 1)⟩,
    ⟨(some 21), none, .mov (t 35)⟩])))))))))
  (.ops [⟨(some 36), none, .bin .add (t 17) (ci 1)⟩,
    ⟨(some 17), none, .mov (t 36)⟩])))))))
  (.seq (.ops [⟨(some 37), none, .loadN 32 (t 5)⟩,
    ⟨none, none, .storN 32 (t 2) (t 37)⟩])
  .ret)))))), [.cell 2 true 32]⟩
/-- quilt/sha256.Xor -/
def ir_sha256_Xor : IF := ⟨(.seq (.ops [⟨(some 2), none, .box (t 0)⟩,
    ⟨(some 3), none, .box (t 1)⟩,
    ⟨(some 4), none, .alloc (repl 32 [.int .u8 0])⟩])
  (.seq (.seq (.ops [⟨(some 6), none, .mov (ci 0)⟩])
  (.block 0 (.loop (.seq (.ops [⟨(some 7), none, .bin .lss (t 6) (ci 32)⟩])
  (.seq (.cond (t 7) .skip
  (.exit 0))
  (.seq (.block 1 (.seq (.ops [⟨(some 8), none, .mov (t 6)⟩,
    ⟨(some 5), none, .mov (t 8)⟩])
  (.ops [⟨(some 9), none, .mov (t 5)⟩,
    ⟨(some 10), none, .idxA 1 32 (t 2) (t 9)⟩,
    ⟨(some 11), none, .load1 (t 10)⟩,
    ⟨(some 12), none, .mov (t 5)⟩,
    ⟨(some 13), none, .idxA 1 32 (t 3) (t 12)⟩,
    ⟨(some 14), none, .load1 (t 13)⟩,
    ⟨(some 15), none, .bin .xor (t 11) (t 14)⟩,
    ⟨(some 16), none, .idxA 1 32 (t 2) (t 9)⟩,
    ⟨none, none, .stor1 (t 16) (t 15)⟩])))
  (.ops [⟨(some 17), none, .bin .add (t 6) (ci 1)⟩,
    ⟨(some 6), none, .mov (t 17)⟩])))))))
  (.seq (.ops [⟨(some 18), none, .loadN 32 (t 2)⟩,
    ⟨none, none, .storN 32 (t 4) (t 18)⟩])
  .ret))), [.cell 4 true 32]⟩
/-- quilt/sha256.Compare -/
def ir_sha256_Compare : IF := ⟨(.seq (.ops [⟨(some 2), none, .box (t 0)⟩,
    ⟨(some 3), none, .box (t 1)⟩,
    ⟨(some 4), none, .mov (ci 0)⟩])
  (.seq (.ops [⟨(some 5), none, .slA 1 32 (t 2) none none⟩,
    ⟨(some 6), none, .slA 1 32 (t 3) none none⟩,
    ⟨(some 7), none, .pcall C_bytes_Compare [(t 5), (t 6)]⟩,
    ⟨(some 4), none, .mov (t 7)⟩])
  .ret)), [.tmp 4]⟩
/-- quilt/sha256.Parse -/
def ir_sha256_Parse : IF := ⟨(.seq (.ops [⟨(some 2), none, .alloc (repl 32 [.int .u8 0])⟩,
    ⟨(some 3), none, .mov (ci 0)⟩])
  (.seq (.ops [⟨(some 4), none, .alloc (repl 32 [.int .u8 0])⟩])
  (.seq (.seq (.ops [⟨(some 7), none, .mov (t 0)⟩,
    ⟨(some 8), none, .lenS (t 7)⟩,
    ⟨(some 9), none, .bin .neq (t 8) (ci 64)⟩])
  (.cond (t 9) (.seq (.ops [⟨(some 10), none, .build 32 (repl 32 [.int .u8 0]) []⟩,
    ⟨none, none, .storN 32 (t 2) (t 10)⟩,
    ⟨(some 3), none, .mov (ci 3)⟩])
  .ret)
  .skip))
  (.seq (.seq (.ops [⟨(some 11), none, .mov (t 0)⟩,
    ⟨(some 12), none, .lenS (t 11)⟩,
    ⟨(some 13), none, .mov (ci 0)⟩])
  (.block 0 (.loop (.seq (.ops [⟨(some 14), none, .bin .lss (t 13) (t 12)⟩])
  (.seq (.cond (t 14) .skip
  (.exit 0))
  (.seq (.block 1 (.seq (.ops [⟨(some 15), none, .mov (t 13)⟩,
    ⟨(some 5), none, .mov (t 15)⟩])
  (.seq (.ops [⟨(some 16), none, .mov (t 0)⟩,
    ⟨(some 17), none, .mov (t 5)⟩,
    ⟨(some 18), none, .idxS (t 16) (t 17)⟩,
    ⟨(some 19), none, .pcall C_strings_IndexByte [(.const (.string ⟨#[48, 49, 50, 51, 52, 53, 54, 55, 56, 57, 97, 98, 99, 100, 101, 102]⟩)), (t 18)]⟩,
    ⟨(some 6), none, .mov (t 19)⟩])
  (.seq (.seq (.ops [⟨(some 20), none, .mov (t 6)⟩,
    ⟨(some 21), none, .bin .lss (t 20) (ci 0)⟩])
  (.cond (t 21) (.seq (.ops [⟨(some 22), none, .build 32 (repl 32 [.int .u8 0]) []⟩,
    ⟨none, none, .storN 32 (t 2) (t 22)⟩,
    ⟨(some 3), none, .mov (ci 3)⟩])
  .ret)
  .skip))
  (.ops [⟨(some 23), none, .mov (t 5)⟩,
    ⟨(some 24), none, .bin .quo (t 23) (ci 2)⟩,
    ⟨(some 25), none, .mov (t 5)⟩,
    ⟨(some 26), none, .bin .quo (t 25) (ci 2)⟩,
    ⟨(some 27), none, .idxA 1 32 (t 4) (t 26)⟩,
    ⟨(some 28), none, .load1 (t 27)⟩,
    ⟨(some 29), none, .bin .shl (t 28) (.const (.int .u64 4))⟩,
    ⟨(some 30), none, .mov (t 6)⟩,
    ⟨(some 31), none, .conv .u8 (t 30)⟩,
    ⟨(some 32), none, .bin .or (t 29) (t 31)⟩,
    ⟨(some 33), none, .idxA 1 32 (t 4) (t 24)⟩,
    ⟨none, none, .stor1 (t 33) (t 32)⟩])))))
  (.ops [⟨(some 34), none, .bin .add (t 13) (ci 1)⟩,
    ⟨(some 13), none, .mov (t 34)⟩])))))))
  (.seq (.ops [⟨(some 35), none, .loadN 32 (t 4)⟩,
    ⟨none, none, .storN 32 (t 2) (t 35)⟩,
    ⟨(some 3), none, .mov (ci 0)⟩])
  .ret))))), [.cell 2 true 32, .tmp 3]⟩
/-- quilt/sha256.Hex -/
def ir_sha256_Hex : IF := ⟨(.seq (.ops [⟨(some 1), none, .box (t 0)⟩,
    ⟨(some 2), none, .mov (.const (.string ⟨#[]⟩))⟩])
  (.seq (.ops [⟨(some 6), none, .mksl 1 1 [.int .u8 0] (ci 0) (ci 64)⟩,
    ⟨(some 3), none, .mov (t 6)⟩])
  (.seq (.seq (.ops [⟨(some 7), none, .loadN 32 (t 1)⟩,
    ⟨(some 8), none, .mov (ci 0)⟩])
  (.block 0 (.loop (.seq (.ops [⟨(some 9), none, .bin .lss (t 8) (ci 32)⟩])
  (.seq (.cond (t 9) .skip
  (.exit 0))
  (.seq (.block 1 (.seq (.ops [⟨(some 10), none, .idxV 32 1 false (t 7) (t 8)⟩,
    ⟨(some 5), none, .mov (t 10)⟩])
  (.ops [⟨(some 11), none, .mov (t 3)⟩,
    ⟨(some 12), none, .mov (t 5)⟩,
    ⟨(some 13), none, .bin .shr (t 12) (.const (.int .u64 4))⟩,
    ⟨(some 14), none, .idxS (.const (.string ⟨#[48, 49, 50, 51, 52, 53, 54, 55, 56, 57, 97, 98, 99, 100, 101, 102]⟩)) (t 13)⟩,
    ⟨(some 15), none, .mov (t 5)⟩,
    ⟨(some 16), none, .bin .and (t 15) (.const (.int .u8 15))⟩,
    ⟨(some 17), none, .idxS (.const (.string ⟨#[48, 49, 50, 51, 52, 53, 54, 55, 56, 57, 97, 98, 99, 100, 101, 102]⟩)) (t 16)⟩,
    ⟨(some 18), none, .bslice 1 [.int .u8 0] 2 [(0, 1, (t 14)), (1, 1, (t 17))]⟩,
    ⟨(some 19), none, .app 1 1 (t 11) (t 18)⟩,
    ⟨(some 3), none, .mov (t 19)⟩])))
  (.ops [⟨(some 20), none, .bin .add (t 8) (ci 1)⟩,
    ⟨(some 8), none, .mov (t 20)⟩])))))))
  (.seq (.ops [⟨(some 21), none, .mov (t 3)⟩,
    ⟨(some 22), none, .b2s (t 21)⟩,
    ⟨(some 2), none, .mov (t 22)⟩])
  .ret)))), [.tmp 2]⟩
/-- quilt/sha256.HMAC -/
def ir_sha256_HMAC : IF := ⟨(.seq (.ops [⟨(some 2), none, .box (t 0)⟩,
    ⟨(some 4), none, .alloc (repl 32 [.int .u8 0])⟩])
  (.seq (.seq (.ops [⟨(some 8), none, .load1 (t 2)⟩,
    ⟨(some 9), none, .lenS (t 8)⟩,
    ⟨(some 10), none, .bin .gtr (t 9) (ci 64)⟩])
  (.jn (.cond (t 10) (.seq (.ops [⟨(some 11), none, .load1 (t 2)⟩,
    ⟨(some 12), none, .pcall C_sha256_Sum [(t 11)]⟩,
    ⟨(some 5), none, .alloc (repl 32 [.int .u8 0])⟩,
    ⟨none, none, .storN 32 (t 5) (t 12)⟩])
  (.ops [⟨(some 13), none, .slA 1 32 (t 5) none none⟩,
    ⟨(some 14), none, .b2s (t 13)⟩,
    ⟨none, none, .stor1 (t 2) (t 14)⟩]))
  .skip)))
  (.seq (.ops [⟨(some 15), none, .load1 (t 2)⟩,
    ⟨(some 16), none, .load1 (t 2)⟩,
    ⟨(some 17), none, .lenS (t 16)⟩,
    ⟨(some 18), none, .bin .sub (ci 64) (t 17)⟩,
    ⟨(some 19), none, .pcall C_strings_Repeat [(.const (.string ⟨#[0]⟩)), (t 18)]⟩,
    ⟨(some 20), none, .bin .add (t 15) (t 19)⟩,
    ⟨none, none, .stor1 (t 2) (t 20)⟩])
  (.seq (.ops [⟨(some 21), none, .mkclo 1 [(t 2)]⟩,
    ⟨(some 6), none, .mov (t 21)⟩])
  (.seq (.sops [.op ⟨(some 22), none, .mov (t 6)⟩,
    .dyn ⟨(some 23), none, .vcall V_sha256_HMAC (t 22) [(.const (.int .u8 54))]⟩ HV_sha256_HMAC (t 22) [(.const (.int .u8 54))],
    .op ⟨(some 24), none, .mov (t 1)⟩,
    .op ⟨(some 25), none, .bin .add (t 23) (t 24)⟩,
    .op ⟨(some 26), none, .pcall C_sha256_Sum [(t 25)]⟩,
    .op ⟨(some 7), none, .alloc (repl 32 [.int .u8 0])⟩,
    .op ⟨none, none, .storN 32 (t 7) (t 26)⟩])
  (.seq (.ops [⟨(some 27), none, .mov (t 6)⟩,
    ⟨(some 28), none, .vcall V_sha256_HMAC (t 27) [(.const (.int .u8 92))]⟩,
    ⟨(some 29), none, .slA 1 32 (t 7) none none⟩,
    ⟨(some 30), none, .b2s (t 29)⟩,
    ⟨(some 31), none, .bin .add (t 28) (t 30)⟩,
    ⟨(some 32), none, .pcall C_sha256_Sum [(t 31)]⟩,
    ⟨none, none, .storN 32 (t 4) (t 32)⟩])
  .ret)))))), [.cell 4 true 32]⟩
/-- quilt/quiltlaw02.masked -/
def ir_quiltlaw02_masked : IF := ⟨(.seq (.ops [⟨(some 4), none, .mov (.const (.string ⟨#[]⟩))⟩])
  (.seq (.ops [⟨(some 8), none, .bslice 1 [.int .u8 0] 0 []⟩,
    ⟨(some 5), none, .mov (t 8)⟩])
  (.seq (.seq (.ops [⟨(some 9), none, .mov (ci 0)⟩])
  (.block 0 (.loop (.seq (.ops [⟨(some 10), none, .bin .lss (t 9) (ci 64)⟩])
  (.seq (.cond (t 10) .skip
  (.exit 0))
  (.seq (.block 1 (.seq (.ops [⟨(some 11), none, .mov (t 9)⟩,
    ⟨(some 6), none, .mov (t 11)⟩])
  (.seq (.ops [⟨(some 7), none, .mov (.const (.int .u8 0))⟩])
  (.seq (.seq (.ops [⟨(some 12), none, .mov (t 6)⟩,
    ⟨(some 13), none, .mov (t 0)⟩,
    ⟨(some 14), none, .lenS (t 13)⟩,
    ⟨(some 15), none, .bin .lss (t 12) (t 14)⟩])
  (.jn (.cond (t 15) (.ops [⟨(some 16), none, .mov (t 0)⟩,
    ⟨(some 17), none, .mov (t 6)⟩,
    ⟨(some 18), none, .idxS (t 16) (t 17)⟩,
    ⟨(some 7), none, .mov (t 18)⟩])
  .skip)))
  (.ops [⟨(some 19), none, .mov (t 5)⟩,
    ⟨(some 20), none, .mov (t 7)⟩,
    ⟨(some 21), none, .mov (t 1)⟩,
    ⟨(some 22), none, .bin .xor (t 20) (t 21)⟩,
    ⟨(some 23), none, .bslice 1 [.int .u8 0] 1 [(0, 1, (t 22))]⟩,
    ⟨(some 24), none, .app 1 1 (t 19) (t 23)⟩,
    ⟨(some 5), none, .mov (t 24)⟩])))))
  (.ops [⟨(some 25), none, .bin .add (t 9) (ci 1)⟩,
    ⟨(some 9), none, .mov (t 25)⟩])))))))
  (.seq (.ops [⟨(some 26), none, .mov (t 5)⟩,
    ⟨(some 27), none, .b2s (t 26)⟩,
    ⟨(some 4), none, .mov (t 27)⟩])
  .ret)))), [.tmp 4]⟩
/-- quilt/quiltlaw02.awake -/
def ir_quiltlaw02_awake : IF := ⟨(.seq (.ops [⟨(some 0), none, .mov (.const (.bool false))⟩])
  (.seq (.ops [⟨(some 1), none, .pcall C_sha256_Sum [(.const (.string ⟨#[97, 98, 99]⟩))]⟩,
    ⟨(some 2), none, .pcall C_sha256_Hex [(t 1)]⟩,
    ⟨(some 3), none, .bin .eql (t 2) (.const (.string ⟨#[98, 97, 55, 56, 49, 54, 98, 102, 56, 102, 48, 49, 99, 102, 101, 97, 52, 49, 52, 49, 52, 48, 100, 101, 53, 100, 97, 101, 50, 50, 50, 51, 98, 48, 48, 51, 54, 49, 97, 51, 57, 54, 49, 55, 55, 97, 57, 99, 98, 52, 49, 48, 102, 102, 54, 49, 102, 50, 48, 48, 49, 53, 97, 100]⟩))⟩,
    ⟨(some 4), none, .mov (t 3)⟩,
    ⟨(some 5), (some (4, true)), .pcall C_sha256_HMAC [(.const (.string ⟨#[74, 101, 102, 101]⟩)), (.const (.string ⟨#[119, 104, 97, 116, 32, 100, 111, 32, 121, 97, 32, 119, 97, 110, 116, 32, 102, 111, 114, 32, 110, 111, 116, 104, 105, 110, 103, 63]⟩))]⟩,
    ⟨(some 6), (some (4, true)), .pcall C_sha256_Hex [(t 5)]⟩,
    ⟨(some 7), (some (4, true)), .bin .eql (t 6) (.const (.string ⟨#[53, 98, 100, 99, 99, 49, 52, 54, 98, 102, 54, 48, 55, 53, 52, 101, 54, 97, 48, 52, 50, 52, 50, 54, 48, 56, 57, 53, 55, 53, 99, 55, 53, 97, 48, 48, 51, 102, 48, 56, 57, 100, 50, 55, 51, 57, 56, 51, 57, 100, 101, 99, 53, 56, 98, 57, 54, 52, 101, 99, 51, 56, 52, 51]⟩))⟩,
    ⟨(some 8), none, .pick (t 4) (t 7) (.const (.bool false))⟩,
    ⟨(some 0), none, .mov (t 8)⟩])
  .ret)), [.tmp 0]⟩

/-- bytes.Compare -/
def ir_bytes_Compare : IF := ⟨(.seq (.ops [⟨(some 4), none, .mov (ci 0)⟩])
  (.seq (.ops [⟨(some 5), none, .mov (t 0)⟩,
    ⟨(some 6), none, .mov (t 1)⟩,
    ⟨(some 7), none, .pcall C_internal_bytealg_Compare [(t 5), (t 6)]⟩,
    ⟨(some 4), none, .mov (t 7)⟩])
  .ret)), [.tmp 4]⟩
/-- internal/stringslite.IndexByte -/
def ir_internal_stringslite_IndexByte : IF := ⟨(.seq (.ops [⟨(some 4), none, .mov (ci 0)⟩])
  (.seq (.ops [⟨(some 5), none, .mov (t 0)⟩,
    ⟨(some 6), none, .mov (t 1)⟩,
    ⟨(some 7), none, .pcall C_internal_bytealg_IndexByteString [(t 5), (t 6)]⟩,
    ⟨(some 4), none, .mov (t 7)⟩])
  .ret)), [.tmp 4]⟩
/-- strings.IndexByte -/
def ir_strings_IndexByte : IF := ⟨(.seq (.ops [⟨(some 4), none, .mov (ci 0)⟩])
  (.seq (.ops [⟨(some 5), none, .mov (t 0)⟩,
    ⟨(some 6), none, .mov (t 1)⟩,
    ⟨(some 7), none, .pcall C_internal_stringslite_IndexByte [(t 5), (t 6)]⟩,
    ⟨(some 4), none, .mov (t 7)⟩])
  .ret)), [.tmp 4]⟩


end Qk

/-
  Padding, bytes of a digest, masks of the reference.
-/
namespace Qk
open Go Go.RowKit

theorem d_ref_zeros : Does ir_quiltref02_zeros C_quiltref02_zeros := by
  intro (n : Int) (hn : n ≤ 1000000)
  refine ⟨Nat, fun k => k ≤ n.toNat, fun k => mks [(0, .int .i64 n), (3, .str (List.replicate k 0)), (4, .int .i64 k)] [] 0, fun k => n.toNat - k, 0, by omega, ?_, ?_⟩
  · refine sub_ren [] rfl (by decide) ⟨⟨_, rfl, rfl⟩, ⟨_, rfl, rfl⟩, ⟨_, rfl, rfl⟩, trivial⟩ trivial
  · intro k hk
    refine cond_split (fun h => ?_) (fun h => ?_)
    · have hT : (k : Int) < n := of_decide_eq_true h
      refine And.intro (by rw [List.length_replicate]; show k + 1 ≤ 9223372036854775807; omega) ?_
      refine And.intro (by omega) ?_
      refine ⟨k + 1, by omega, by dsimp only; omega, ?_⟩
      refine sub_ren [] rfl (by decide) ⟨⟨_, rfl, rfl⟩, ⟨_, rfl, eS ?_⟩, ⟨_, rfl, eI (by omega)⟩, trivial⟩ trivial
      exact List.replicate_succ'.symm
    · have hF : ¬ ((k : Int) < n) := of_decide_eq_false h
      have : k = n.toNat := by omega
      subst this
      refine ⟨_, (by first | exact SubSt.refl _ | exact SubTop.refl _), ?_⟩
      rfl

theorem d_ref_padded : Does ir_quiltref02_padded C_quiltref02_padded := by
  intro (l : List UInt8) (hl : l.length ≤ 1099511627776)
  have e0 : (l ++ [128]).length = l.length + 1 := by simp
  have e1 : Int.tmod (((l ++ [128]).length : Nat) : Int) 64 = (((l.length + 1) % 64 : Nat) : Int) := by rw [e0]; exact tmodN _ 64
  have e2 : Int.tmod (120 - (((l.length + 1) % 64 : Nat) : Int)) 64 = ((padN l.length : Nat) : Int) := by
    have : (120 - (((l.length + 1) % 64 : Nat) : Int)) = ((120 - (l.length + 1) % 64 : Nat) : Int) := by omega
    rw [this]; exact tmodN _ 64
  refine And.intro (by show l.length + 1 ≤ 9223372036854775807; omega) ?_
  refine And.intro (by decide) ?_
  refine And.intro (by rw [e1]; omega) ?_
  refine And.intro (by decide) ?_
  refine ⟨_, rfl, ?_, ?_⟩
  · show Int.tmod (120 - Int.tmod (((l ++ [128]).length : Nat) : Int) 64) 64 ≤ 1000000
    rw [e1, e2]; unfold padN; omega
  have e3 : List.replicate (Int.tmod (120 - Int.tmod (((l ++ [128]).length : Nat) : Int) 64) 64).toNat (0 : UInt8) = List.replicate (padN l.length) 0 := by
    rw [e1, e2]; rfl
  have hp : padN l.length ≤ 64 := by unfold padN; omega
  refine And.intro ?_ ?_
  · rw [e1, e2, e0, List.length_replicate]; omega
  refine ⟨Nat, fun k => k ≤ 8, fun k => mks [(3, .str (l ++ [128] ++ List.replicate (padN l.length) 0 ++ be8 (bitLen l) k)), (4, .int .u64 (bitLen l)), (5, .int .i64 (7 - k))] [] 0, fun k => 8 - k, 0, by omega, ?_, ?_⟩
  · refine sub_ren [] rfl (by decide) ⟨⟨_, rfl, eS ?_⟩, ⟨_, rfl, rfl⟩, ⟨_, rfl, rfl⟩, trivial⟩ trivial
    rw [e3]; simp [be8]
  · intro k hk
    refine cond_split (fun h => ?_) (fun h => ?_)
    · have hT : (0 : Int) ≤ 7 - k := of_decide_eq_true h
      refine And.intro (by omega) ?_
      refine And.intro (by omega) ?_
      refine And.intro rfl ?_
      refine ⟨[by8 (shrI .u64 (bitLen l) ((8 * (7 - (k : Int))) % 18446744073709551616))], ⟨?_, rfl⟩, ?_⟩
      · exact congrArg (fun z => [AV.int .u8 z]) (by8_int _).symm
      refine And.intro (by simp [be8_len]; omega) ?_
      refine And.intro (by omega) ?_
      refine ⟨k + 1, by omega, by dsimp only; omega, ?_⟩
      refine sub_ren [] rfl (by decide) ⟨⟨_, rfl, eS ?_⟩, ⟨_, rfl, rfl⟩, ⟨_, rfl, eI (by omega)⟩, trivial⟩ trivial
      rw [be8, ← List.append_assoc]
      have : (8 * (7 - (k : Int))) % 18446744073709551616 = 56 - 8 * (k : Int) := by omega
      rw [this]
    · have hF : ¬ (0 : Int) ≤ 7 - k := of_decide_eq_false h
      have : k = 8 := by omega
      subst this
      refine ⟨_, (by first | exact SubSt.refl _ | exact SubTop.refl _), ?_⟩
      rfl

theorem d_ref_Bytes : Does ir_quiltref02_Bytes C_quiltref02_Bytes := by
  intro (l : List UInt8) (hl : l.length = 32)
  refine And.intro (by decide) ?_
  refine And.intro rfl ?_
  refine ⟨l, ⟨?_, hl⟩, ?_⟩
  · show ((bys l).drop 0).take 32 = bys l
    exact (tda (by rw [bys_length, hl])).symm
  refine ⟨_, (by first | exact SubSt.refl _ | exact SubTop.refl _), ?_⟩
  rfl

theorem xor8 (a b : UInt8) : xorI .u8 (a.toNat : Int) (b.toNat : Int) = ((a ^^^ b).toNat : Int) := by
  have ha : a.toNat < 256 := a.toNat_lt
  have hb : b.toNat < 256 := b.toNat_lt
  unfold xorI
  simp only [BitVec.toNat_xor]
  have e1 : (BitVec.ofInt IntKind.u8.bits (a.toNat : Int)).toNat = a.toNat := by
    show (BitVec.ofInt 8 (a.toNat : Int)).toNat = a.toNat
    rw [BitVec.toNat_ofInt]; omega
  have e2 : (BitVec.ofInt IntKind.u8.bits (b.toNat : Int)).toNat = b.toNat := by
    show (BitVec.ofInt 8 (b.toNat : Int)).toNat = b.toNat
    rw [BitVec.toNat_ofInt]; omega
  rw [e1, e2]
  show (((a.toNat ^^^ b.toNat : Nat) : Int)) % 256 = _
  have : a.toNat ^^^ b.toNat < 2 ^ 8 := Nat.xor_lt_two_pow (by omega) (by omega)
  rw [UInt8.toNat_xor]
  omega

theorem take_snocD (l : List UInt8) {k : Nat} (h : k < l.length) : l.take (k + 1) = l.take k ++ [l.getD k 0] := by
  rw [List.take_succ_eq_append_getElem h]
  simp [List.getD, List.getElem?_eq_getElem h]

theorem d_ref_mask : Does ir_quiltref02_mask C_quiltref02_mask := by
  rintro ⟨l, x⟩ (hl : l.length ≤ 1099511627776)
  refine ⟨Nat, fun k => k ≤ l.length, fun k => mks [(0, .str l), (1, .int .u8 x.toNat), (5, .str (xorm (l.take k) x)), (6, .int .i64 k)] [] 0, fun k => l.length - k, 0, by omega, ?_, ?_⟩
  · refine sub_ren [] rfl (by decide) ⟨⟨_, rfl, rfl⟩, ⟨_, rfl, rfl⟩, ⟨_, rfl, rfl⟩, ⟨_, rfl, rfl⟩, trivial⟩ trivial
  · intro k hk
    refine cond_split (fun h => ?_) (fun h => ?_)
    · have hT : (k : Int) < l.length := of_decide_eq_true h
      refine And.intro (by omega) ?_
      refine And.intro rfl ?_
      refine ⟨[l.getD k 0 ^^^ x], ⟨?_, rfl⟩, ?_⟩
      · exact congrArg (fun z => [AV.int .u8 z]) (xor8 _ _)
      refine And.intro (by rw [xorm_len, List.length_take]; show min k l.length + 1 ≤ _; omega) ?_
      refine And.intro (by omega) ?_
      refine ⟨k + 1, by omega, by dsimp only; omega, ?_⟩
      refine sub_ren [] rfl (by decide) ⟨⟨_, rfl, rfl⟩, ⟨_, rfl, rfl⟩, ⟨_, rfl, eS ?_⟩, ⟨_, rfl, eI (by omega)⟩, trivial⟩ trivial
      rw [take_snocD l (by omega)]
      simp [xorm]
    · have hF : ¬ (k : Int) < l.length := of_decide_eq_false h
      have : k = l.length := by omega
      subst this
      refine ⟨_, (by first | exact SubSt.refl _ | exact SubTop.refl _), ?_⟩
      show AV.str (xorm (l.take l.length) x) = AV.str (xorm l x)
      rw [List.take_length]

end Qk

/-
  The digest of the reference.
-/
namespace Qk
open Go Go.RowKit

theorem dig_step (w : List Int) {i : Nat} (hi : i < 32) {sh : Int} (hs : sh = 24 - 8 * ((i % 4 : Nat) : Int)) {x : Int} (hx : x = w.getD (i / 4) 0) :
    (bys (dig w i ++ List.replicate (32 - i) 0)).set i (.int .u8 (shrI .u32 x sh % 256)) = bys (dig w (i + 1) ++ List.replicate (32 - (i + 1)) 0) := by
  rw [← by8_int, bys_set, fill_set 0 _ (dig_len w i) hi, hs, hx]
  rfl

theorem d_ref_Sum : Does ir_quiltref02_Sum C_quiltref02_Sum := by
  intro (l : List UInt8) (hl : l.length ≤ 1099511627776)
  have pl := pad_len l
  have pm := pad_mod l
  have hp : padN l.length ≤ 64 := by unfold padN; omega
  have li : (ints .u32 iv).length = 8 := rfl
  have l32 : (bys (List.replicate 32 0)).length = 32 := rfl
  refine And.intro rfl ?_
  refine And.intro ⟨li, ints_all .u32 iv⟩ ?_
  refine And.intro (Nat.le_refl 8) ?_
  refine ⟨_, lay_all (vs := ints .u32 iv) rfl, ?_⟩
  refine ⟨l, rfl, hl, ?_⟩
  refine ⟨Nat, fun k => k ≤ (pad l).length / 64, fun k => mks [(2, .ref 0 0), (3, .ref 1 0), (4, .str (pad l)), (5, .int .i64 (64 * k))]
    [(0, .cells (bys (List.replicate 32 0))), (1, .cells (ints .u32 (foldB (pad l) k)))] 2, fun k => (pad l).length / 64 - k, 0, by omega, ?_, ?_⟩
  · refine sub_ren [0, 1] rfl (by decide) ⟨⟨_, rfl, ⟨0, rfl, rfl⟩⟩, ⟨_, rfl, ⟨1, rfl, rfl⟩⟩, ⟨_, rfl, rfl⟩, ⟨_, rfl, rfl⟩, trivial⟩ ⟨⟨0, _, rfl, rfl, ⟨_, rfl, eB ?_⟩⟩, ⟨1, _, rfl, rfl, ⟨_, rfl, eR rfl⟩⟩, trivial⟩
    exact repl_bys 32
  · intro k hk
    have lf := foldB_len (pad l) k
    have lF : (ints .u32 (foldB (pad l) k)).length = 8 := by rw [ints_length, lf]
    refine And.intro (by omega) ?_
    refine cond_split (fun h => ?_) (fun h => ?_)
    · have hT : 64 * (k : Int) + 64 ≤ (pad l).length := of_decide_eq_true h
      refine ⟨ints .u32 (foldB (pad l) k), ⟨tda lF, lF⟩, ?_⟩
      refine And.intro (by omega) ?_
      refine And.intro (by omega) ?_
      refine And.intro (plainA_ints _ _).nn ?_
      refine ⟨⟨_, _⟩, rfl, ⟨lf, ?_⟩, ?_⟩
      · rw [List.length_take, List.length_drop]; omega
      have e1 : ((pad l).drop (64 * (k : Int)).toNat).take ((64 * (k : Int) + 64).toNat - (64 * (k : Int)).toNat) = ((pad l).drop (64 * k)).take 64 := by
        have e2 : (64 * (k : Int) + 64).toNat - (64 * (k : Int)).toNat = 64 := by omega
        have e3 : (64 * (k : Int)).toNat = 64 * k := by omega
        rw [e2, e3]
      rw [e1]
      have lc : (ints .u32 (foldB (pad l) (k + 1))).length = 8 := by rw [ints_length, foldB_len]
      refine And.intro ⟨lc, ints_all .u32 (foldB (pad l) (k + 1))⟩ ?_
      refine And.intro (by rw [lF]; exact Nat.le_refl 8) ?_
      refine ⟨_, lay_all (vs := ints .u32 (foldB (pad l) (k + 1))) (by rw [lF, lc]), ?_⟩
      refine And.intro (by omega) ?_
      refine ⟨k + 1, by omega, by dsimp only; omega, ?_⟩
      refine sub_ren [0, 1] rfl (by decide) ⟨⟨_, rfl, ⟨0, rfl, rfl⟩⟩, ⟨_, rfl, ⟨1, rfl, rfl⟩⟩, ⟨_, rfl, rfl⟩, ⟨_, rfl, eI (by omega)⟩, trivial⟩ ⟨⟨0, _, rfl, rfl, ⟨_, rfl, eB rfl⟩⟩, ⟨1, _, rfl, rfl, ⟨_, rfl, eR rfl⟩⟩, trivial⟩
    · have hF : ¬ 64 * (k : Int) + 64 ≤ (pad l).length := of_decide_eq_false h
      have : k = (pad l).length / 64 := by omega
      subst this
      refine And.intro rfl ?_
      refine And.intro ⟨rfl, by rw [repl_bys]; exact bys_all _⟩ ?_
      refine And.intro (Nat.le_refl 32) ?_
      refine ⟨_, lay_all (vs := repl 32 [AV.int .u8 0]) rfl, ?_⟩
      refine ⟨Nat, fun i => i ≤ 32, fun i => mks [(2, .ref 0 0), (3, .ref 1 0), (6, .ref 2 0), (7, .int .i64 i)]
        [(0, .cells (bys (List.replicate 32 0))), (1, .cells (ints .u32 (foldB (pad l) ((pad l).length / 64)))), (2, .cells (bys (dig (foldB (pad l) ((pad l).length / 64)) i ++ List.replicate (32 - i) 0)))] 3, fun i => 32 - i, 0, by omega, ?_, ?_⟩
      · refine sub_ren [0, 1, 2] rfl (by decide) ⟨⟨_, rfl, ⟨0, rfl, rfl⟩⟩, ⟨_, rfl, ⟨1, rfl, rfl⟩⟩, ⟨_, rfl, ⟨2, rfl, rfl⟩⟩, ⟨_, rfl, rfl⟩, trivial⟩ ⟨⟨0, _, rfl, rfl, ⟨_, rfl, eB rfl⟩⟩, ⟨1, _, rfl, rfl, ⟨_, rfl, eR rfl⟩⟩, ⟨2, _, rfl, rfl, ⟨_, rfl, eB ?_⟩⟩, trivial⟩
        exact repl_bys 32
      · intro i hi
        generalize hw : foldB (pad l) ((pad l).length / 64) = W
        rw [hw] at lf lF
        have ld : (bys (dig W i ++ List.replicate (32 - i) 0)).length = 32 := by rw [bys_length, List.length_append, dig_len, List.length_replicate]; omega
        have q : Int.tdiv (i : Int) 4 = ((i / 4 : Nat) : Int) := tdivN i 4
        have m : Int.tmod (i : Int) 4 = ((i % 4 : Nat) : Int) := tmodN i 4
        refine cond_split (fun h => ?_) (fun h => ?_)
        · have hT : (i : Int) < 32 := of_decide_eq_true h
          refine And.intro (by decide) ?_
          refine And.intro (by rw [q]; omega) ?_
          refine And.intro (by rw [q]; omega) ?_
          refine ⟨_, ints_get (xs := W) (by rw [q, lf]; omega), ?_⟩
          refine And.intro (by decide) ?_
          refine And.intro (by rw [m]; omega) ?_
          refine And.intro (by rw [m]; omega) ?_
          refine And.intro (by rw [m]; omega) ?_
          refine And.intro (by omega) ?_
          refine And.intro (by rw [ld]; omega) ?_
          refine And.intro (by omega) ?_
          refine ⟨i + 1, by omega, by dsimp only; omega, ?_⟩
          refine sub_ren [0, 1, 2] rfl (by decide) ⟨⟨_, rfl, ⟨0, rfl, rfl⟩⟩, ⟨_, rfl, ⟨1, rfl, rfl⟩⟩, ⟨_, rfl, ⟨2, rfl, rfl⟩⟩, ⟨_, rfl, eI (by omega)⟩, trivial⟩ ⟨⟨0, _, rfl, rfl, ⟨_, rfl, eB rfl⟩⟩, ⟨1, _, rfl, rfl, ⟨_, rfl, eR rfl⟩⟩, ⟨2, _, rfl, rfl, ⟨_, rfl, eB ?_⟩⟩, trivial⟩
          have e4 : 0 + (i : Int).toNat * 1 = i := by omega
          rw [e4]
          refine dig_step W (by omega) ?_ ?_
          · rw [m]; omega
          · rw [q]; congr 1; omega
        · have hF : ¬ ((i : Int) < 32) := of_decide_eq_false h
          have : i = 32 := by omega
          subst this
          have ln : (bys (dig W 32)).length = 32 := by rw [bys_length, dig_len]
          have e5 : dig W 32 ++ List.replicate (32 - 32) 0 = dig W 32 := by simp
          refine ⟨bys (dig W 32), ⟨by rw [e5]; exact tda ln, ln⟩, ?_⟩
          refine And.intro ⟨ln, bys_all _⟩ ?_
          refine And.intro (Nat.le_refl 32) ?_
          refine ⟨_, lay_all (by rw [ln]; rfl), ?_⟩
          refine ⟨_, (by first | exact SubSt.refl _ | exact SubTop.refl _), ?_⟩
          refine ⟨_, ⟨tda ln, ln, by omega⟩, ?_⟩
          rw [← hw]
          rfl

end Qk

/-
  Hexadecimal digits, the order, exclusive or: the reference and the program.
-/
namespace Qk
open Go Go.RowKit

theorem dig_piece {a : Nat} (h : a < 16) : (digs.drop a).take 1 = [hexd a] := by
  have : ∀ a : Fin 16, (digs.drop a.1).take 1 = [hexd a.1] := by decide
  exact this ⟨a, h⟩
theorem hex_len (d : List UInt8) : (hex d).length = 2 * d.length := by
  induction d with
  | nil => rfl
  | cons x d ih =>
    have : hex (x :: d) = hexB x ++ hex d := rfl
    rw [this, List.length_append, ih]
    show 2 + 2 * d.length = 2 * (d.length + 1)
    omega
theorem hex_snoc (d : List UInt8) (b : UInt8) : hex (d ++ [b]) = hex d ++ hexB b := by simp [hex]

theorem d_ref_Hex : Does ir_quiltref02_Hex C_quiltref02_Hex := by
  intro (d : List UInt8) (hd : d.length = 32)
  refine ⟨Nat, fun i => i ≤ 32, fun i => mks [(1, .ref 0 0), (3, .str (hex (d.take i))), (4, .int .i64 i)] [(0, .cells (bys d))] 1, fun i => 32 - i, 0, by omega, ?_, ?_⟩
  · refine sub_ren [0] rfl (by decide) ⟨⟨_, rfl, ⟨0, rfl, rfl⟩⟩, ⟨_, rfl, rfl⟩, ⟨_, rfl, rfl⟩, trivial⟩ ⟨⟨0, _, rfl, rfl, ⟨_, rfl, eB rfl⟩⟩, trivial⟩
  · intro i hi
    refine cond_split (fun h => ?_) (fun h => ?_)
    · have hT : (i : Int) < 32 := of_decide_eq_true h
      have e0 : 0 + (i : Int).toNat * 1 = i := by omega
      obtain ⟨c, hc⟩ : ∃ c, c = d.getD i 0 := ⟨_, rfl⟩
      have hb : c.toNat < 256 := c.toNat_lt
      have g : (bys d)[0 + (i : Int).toNat * 1]? = some (.int .u8 (c.toNat : Int)) := by rw [e0, hc]; exact bys_get (by omega)
      have q : Int.tdiv (c.toNat : Int) 16 = ((c.toNat / 16 : Nat) : Int) := tdivN c.toNat 16
      have m : Int.tmod (c.toNat : Int) 16 = ((c.toNat % 16 : Nat) : Int) := tmodN c.toNat 16
      have hl : (hex (d.take i)).length = 2 * i := by rw [hex_len, List.length_take]; omega
      refine And.intro (by omega) ?_
      refine ⟨_, g, ?_⟩
      refine And.intro (by decide) ?_
      refine And.intro (by omega) ?_
      refine ⟨_, g, ?_⟩
      refine And.intro (by decide) ?_
      refine And.intro ?_ ?_
      · rw [q]; exact ⟨by omega, by omega, by show _ ≤ (16 : Int); omega⟩
      refine And.intro ?_ ?_
      · refine Nat.le_trans (Nat.add_le_add_left (List.length_take_le _ _) _) ?_
        rw [q, hl]; omega
      refine And.intro (by omega) ?_
      refine ⟨_, g, ?_⟩
      refine And.intro (by decide) ?_
      refine And.intro (by omega) ?_
      refine ⟨_, g, ?_⟩
      refine And.intro (by decide) ?_
      refine And.intro ?_ ?_
      · rw [m]; exact ⟨by omega, by omega, by show _ ≤ (16 : Int); omega⟩
      have p1 : List.take ((Int.tdiv (c.toNat : Int) 16 % 256 + 1) % 256 |>.toNat |>.sub (Int.tdiv (c.toNat : Int) 16 % 256).toNat) (digs.drop (Int.tdiv (c.toNat : Int) 16 % 256).toNat) = [hexd (c.toNat / 16)] := by
        rw [q]
        have a1 : (((c.toNat / 16 : Nat) : Int) % 256).toNat = c.toNat / 16 := by omega
        have a2 : ((((c.toNat / 16 : Nat) : Int) % 256 + 1) % 256).toNat.sub (c.toNat / 16) = 1 := by
          show ((((c.toNat / 16 : Nat) : Int) % 256 + 1) % 256).toNat - (c.toNat / 16) = 1
          omega
        rw [a1, a2]
        exact dig_piece (by omega)
      have p2 : List.take ((Int.tmod (c.toNat : Int) 16 + 1) % 256 |>.toNat |>.sub (Int.tmod (c.toNat : Int) 16).toNat) (digs.drop (Int.tmod (c.toNat : Int) 16).toNat) = [hexd (c.toNat % 16)] := by
        rw [m]
        have a1 : (((c.toNat % 16 : Nat) : Int)).toNat = c.toNat % 16 := by omega
        have a2 : ((((c.toNat % 16 : Nat) : Int) + 1) % 256).toNat.sub (c.toNat % 16) = 1 := by
          show ((((c.toNat % 16 : Nat) : Int) + 1) % 256).toNat - (c.toNat % 16) = 1
          omega
        rw [a1, a2]
        exact dig_piece (by omega)
      refine And.intro ?_ ?_
      · refine Nat.le_trans (Nat.add_le_add_left (List.length_take_le _ _) _) ?_
        rw [List.length_append]
        refine Nat.le_trans (Nat.add_le_add_right (Nat.add_le_add_left (List.length_take_le _ _) _) _) ?_
        rw [q, m, hl]; omega
      refine And.intro (by omega) ?_
      refine ⟨i + 1, by omega, by dsimp only; omega, ?_⟩
      refine sub_ren [0] rfl (by decide) ⟨⟨_, rfl, ⟨0, rfl, rfl⟩⟩, ⟨_, rfl, eS ?_⟩, ⟨_, rfl, eI (by omega)⟩, trivial⟩ ⟨⟨0, _, rfl, rfl, ⟨_, rfl, eB rfl⟩⟩, trivial⟩
      rw [take_snocD d (by omega), hex_snoc, ← hc, List.append_assoc]
      show hex (d.take i) ++ (_ ++ _) = hex (d.take i) ++ ([hexd (c.toNat / 16)] ++ [hexd (c.toNat % 16)])
      rw [← p1, ← p2]
      rfl
    · have hF : ¬ ((i : Int) < 32) := of_decide_eq_false h
      have : i = 32 := by omega
      subst this
      refine ⟨_, (by first | exact SubSt.refl _ | exact SubTop.refl _), ?_⟩
      show AV.str (hex (d.take 32)) = AV.str (hex d)
      rw [List.take_of_length_le (by omega)]

theorem cmpB_step {a b : List UInt8} {i : Nat} (ha : i < a.length) (hb : i < b.length) : cmpB (a.drop i) (b.drop i) =
    if a.getD i 0 < b.getD i 0 then -1 else if b.getD i 0 < a.getD i 0 then 1 else cmpB (a.drop (i + 1)) (b.drop (i + 1)) := by
  rw [List.drop_eq_getElem_cons ha, List.drop_eq_getElem_cons hb]
  simp [cmpB, Lib.compareBytes, List.getD, List.getElem?_eq_getElem ha, List.getElem?_eq_getElem hb]

theorem d_ref_Compare : Does ir_quiltref02_Compare C_quiltref02_Compare := by
  rintro ⟨a, b⟩ ⟨ha, hb⟩
  dsimp only at ha hb
  refine ⟨Nat, fun i => i ≤ 32 ∧ cmpB (a.drop i) (b.drop i) = cmpB a b, fun i => mks [(2, .ref 0 0), (3, .ref 1 0), (5, .int .i64 i)] [(0, .cells (bys a)), (1, .cells (bys b))] 2, fun i => 32 - i, 0, ⟨by omega, rfl⟩, ?_, ?_⟩
  · refine sub_ren [0, 1] rfl (by decide) ⟨⟨_, rfl, ⟨0, rfl, rfl⟩⟩, ⟨_, rfl, ⟨1, rfl, rfl⟩⟩, ⟨_, rfl, rfl⟩, trivial⟩ ⟨⟨0, _, rfl, rfl, ⟨_, rfl, eB rfl⟩⟩, ⟨1, _, rfl, rfl, ⟨_, rfl, eB rfl⟩⟩, trivial⟩
  · rintro i ⟨hi, hc⟩
    have e0 : 0 + (i : Int).toNat * 1 = i := by omega
    refine cond_split (fun h => ?_) (fun h => ?_)
    · have hT : (i : Int) < 32 := of_decide_eq_true h
      have st := cmpB_step (a := a) (b := b) (i := i) (by omega) (by omega)
      refine And.intro (by omega) ?_
      refine ⟨_, bys_get (l := a) (by omega), ?_⟩
      refine And.intro (by omega) ?_
      refine ⟨_, bys_get (l := b) (by omega), ?_⟩
      rw [e0]
      refine cond_split (fun h => ?_) (fun h => ?_)
      · have hlt : ((a.getD i 0).toNat : Int) < (b.getD i 0).toNat := of_decide_eq_true h
        refine ⟨_, (by first | exact SubSt.refl _ | exact SubTop.refl _), ?_⟩
        rw [if_pos (UInt8.lt_iff_toNat_lt.2 (by omega))] at st
        exact congrArg (AV.int .i64) (by rw [← hc, st])
      · have hge : ¬ ((a.getD i 0).toNat : Int) < (b.getD i 0).toNat := of_decide_eq_false h
        refine And.intro (by omega) ?_
        refine ⟨_, bys_get (l := a) (by omega), ?_⟩
        refine And.intro (by omega) ?_
        refine ⟨_, bys_get (l := b) (by omega), ?_⟩
        rw [e0]
        rw [if_neg (fun h => hge (by have := UInt8.lt_iff_toNat_lt.1 h; omega))] at st
        refine cond_split (fun h => ?_) (fun h => ?_)
        · have hlt : ((b.getD i 0).toNat : Int) < (a.getD i 0).toNat := of_decide_eq_true h
          refine ⟨_, (by first | exact SubSt.refl _ | exact SubTop.refl _), ?_⟩
          rw [if_pos (UInt8.lt_iff_toNat_lt.2 (by omega))] at st
          exact congrArg (AV.int .i64) (by rw [← hc, st])
        · have hge2 : ¬ ((b.getD i 0).toNat : Int) < (a.getD i 0).toNat := of_decide_eq_false h
          rw [if_neg (fun h => hge2 (by have := UInt8.lt_iff_toNat_lt.1 h; omega))] at st
          refine And.intro (by omega) ?_
          refine ⟨i + 1, ⟨by omega, by rw [← hc, st]⟩, by dsimp only; omega, ?_⟩
          refine sub_ren [0, 1] rfl (by decide) ⟨⟨_, rfl, ⟨0, rfl, rfl⟩⟩, ⟨_, rfl, ⟨1, rfl, rfl⟩⟩, ⟨_, rfl, eI (by omega)⟩, trivial⟩ ⟨⟨0, _, rfl, rfl, ⟨_, rfl, eB rfl⟩⟩, ⟨1, _, rfl, rfl, ⟨_, rfl, eB rfl⟩⟩, trivial⟩
    · have hF : ¬ ((i : Int) < 32) := of_decide_eq_false h
      have : i = 32 := by omega
      subst this
      refine ⟨_, (by first | exact SubSt.refl _ | exact SubTop.refl _), ?_⟩
      refine congrArg (AV.int .i64) ?_
      rw [← hc, List.drop_of_length_le (by omega), List.drop_of_length_le (by omega)]
      rfl

def xorP (a b : List UInt8) (i : Nat) : List UInt8 := xorL (a.take i) (b.take i) ++ a.drop i
theorem xorP_len {a b : List UInt8} {i : Nat} (h : a.length = b.length) (hi : i ≤ a.length) : (xorP a b i).length = a.length := by
  simp [xorP, xorL]; omega
theorem xorP_get {a b : List UInt8} {i : Nat} (h : a.length = b.length) (hi : i < a.length) : (xorP a b i).getD i 0 = a.getD i 0 := by
  simp only [xorP, List.getD]
  rw [List.getElem?_append_right (by simp [xorL]; omega)]
  simp [xorL, ← h, Nat.min_eq_left (Nat.le_of_lt hi)]
theorem xorP_step {a b : List UInt8} {i : Nat} (h : a.length = b.length) (hi : i < a.length) : (xorP a b i).set i (a.getD i 0 ^^^ b.getD i 0) = xorP a b (i + 1) := by
  unfold xorP
  have l1 : (xorL (a.take i) (b.take i)).length = i := by simp [xorL]; omega
  rw [List.set_append_right _ _ (by omega), l1, Nat.sub_self, List.drop_eq_getElem_cons hi, List.set_cons_zero, take_snocD a hi, take_snocD b (by omega)]
  unfold xorL
  rw [List.zipWith_append (by simp; omega)]
  simp
theorem xorP_all {a b : List UInt8} (h : a.length = b.length) : xorP a b a.length = xorL a b := by
  unfold xorP; rw [List.take_length, h, List.take_length]; simp [← h]

theorem d_ref_Xor : Does ir_quiltref02_Xor C_quiltref02_Xor := by
  rintro ⟨a, b⟩ ⟨ha, hb⟩
  dsimp only at ha hb
  have hab : a.length = b.length := by omega
  refine ⟨Nat, fun i => i ≤ 32, fun i => mks [(2, .ref 0 0), (3, .ref 1 0), (4, .ref 2 0), (5, .int .i64 i)] [(0, .cells (bys (xorP a b i))), (1, .cells (bys b)), (2, .cells (bys (List.replicate 32 0)))] 3, fun i => 32 - i, 0, by omega, ?_, ?_⟩
  · refine sub_ren [0, 1, 2] rfl (by decide) ⟨⟨_, rfl, ⟨0, rfl, rfl⟩⟩, ⟨_, rfl, ⟨1, rfl, rfl⟩⟩, ⟨_, rfl, ⟨2, rfl, rfl⟩⟩, ⟨_, rfl, rfl⟩, trivial⟩ ⟨⟨0, _, rfl, rfl, ⟨_, rfl, eB ?_⟩⟩, ⟨1, _, rfl, rfl, ⟨_, rfl, eB rfl⟩⟩, ⟨2, _, rfl, rfl, ⟨_, rfl, eB ?_⟩⟩, trivial⟩
    · simp [xorP, xorL]
    · exact repl_bys 32
  · intro i hi
    have e0 : 0 + (i : Int).toNat * 1 = i := by omega
    have lx := xorP_len (i := i) hab (by omega)
    refine cond_split (fun h => ?_) (fun h => ?_)
    · have hT : (i : Int) < 32 := of_decide_eq_true h
      refine And.intro (by omega) ?_
      refine ⟨_, bys_get (l := xorP a b i) (by omega), ?_⟩
      refine And.intro (by omega) ?_
      refine ⟨_, bys_get (l := b) (by omega), ?_⟩
      refine And.intro (by omega) ?_
      refine And.intro (by rw [bys_length]; omega) ?_
      refine And.intro (by omega) ?_
      refine ⟨i + 1, by omega, by dsimp only; omega, ?_⟩
      refine sub_ren [0, 1, 2] rfl (by decide) ⟨⟨_, rfl, ⟨0, rfl, rfl⟩⟩, ⟨_, rfl, ⟨1, rfl, rfl⟩⟩, ⟨_, rfl, ⟨2, rfl, rfl⟩⟩, ⟨_, rfl, eI (by omega)⟩, trivial⟩ ⟨⟨0, _, rfl, rfl, ⟨_, rfl, eB ?_⟩⟩, ⟨1, _, rfl, rfl, ⟨_, rfl, eB rfl⟩⟩, ⟨2, _, rfl, rfl, ⟨_, rfl, eB rfl⟩⟩, trivial⟩
      rw [e0, xorP_get hab (by omega), xor8, bys_set, xorP_step hab (by omega)]
    · have hF : ¬ ((i : Int) < 32) := of_decide_eq_false h
      have : i = 32 := by omega
      subst this
      have ex : xorP a b 32 = xorL a b := by rw [← xorP_all hab, ha]
      have ln : (bys (xorL a b)).length = 32 := by rw [bys_length, ← ex, lx, ha]
      refine ⟨bys (xorL a b), ⟨by rw [ex]; exact tda ln, ln⟩, ?_⟩
      refine And.intro ⟨ln, bys_all _⟩ ?_
      refine And.intro (Nat.le_refl 32) ?_
      refine ⟨_, lay_all (by rw [ln]; rfl), ?_⟩
      refine ⟨_, (by first | exact SubSt.refl _ | exact SubTop.refl _), ?_⟩
      exact ⟨_, ⟨tda ln, ln, by omega⟩, rfl⟩

theorem d_sha256_Xor : Does ir_sha256_Xor C_sha256_Xor := by
  rintro ⟨a, b⟩ ⟨ha, hb⟩
  dsimp only at ha hb
  have hab : a.length = b.length := by omega
  refine ⟨Nat, fun i => i ≤ 32, fun i => mks [(2, .ref 0 0), (3, .ref 1 0), (4, .ref 2 0), (6, .int .i64 i)] [(0, .cells (bys (xorP a b i))), (1, .cells (bys b)), (2, .cells (bys (List.replicate 32 0)))] 3, fun i => 32 - i, 0, by omega, ?_, ?_⟩
  · refine sub_ren [0, 1, 2] rfl (by decide) ⟨⟨_, rfl, ⟨0, rfl, rfl⟩⟩, ⟨_, rfl, ⟨1, rfl, rfl⟩⟩, ⟨_, rfl, ⟨2, rfl, rfl⟩⟩, ⟨_, rfl, rfl⟩, trivial⟩ ⟨⟨0, _, rfl, rfl, ⟨_, rfl, eB ?_⟩⟩, ⟨1, _, rfl, rfl, ⟨_, rfl, eB rfl⟩⟩, ⟨2, _, rfl, rfl, ⟨_, rfl, eB ?_⟩⟩, trivial⟩
    · simp [xorP, xorL]
    · exact repl_bys 32
  · intro i hi
    have e0 : 0 + (i : Int).toNat * 1 = i := by omega
    have lx := xorP_len (i := i) hab (by omega)
    refine cond_split (fun h => ?_) (fun h => ?_)
    · have hT : (i : Int) < 32 := of_decide_eq_true h
      refine And.intro (by omega) ?_
      refine ⟨_, bys_get (l := xorP a b i) (by omega), ?_⟩
      refine And.intro (by omega) ?_
      refine ⟨_, bys_get (l := b) (by omega), ?_⟩
      refine And.intro (by omega) ?_
      refine And.intro (by rw [bys_length]; omega) ?_
      refine And.intro (by omega) ?_
      refine ⟨i + 1, by omega, by dsimp only; omega, ?_⟩
      refine sub_ren [0, 1, 2] rfl (by decide) ⟨⟨_, rfl, ⟨0, rfl, rfl⟩⟩, ⟨_, rfl, ⟨1, rfl, rfl⟩⟩, ⟨_, rfl, ⟨2, rfl, rfl⟩⟩, ⟨_, rfl, eI (by omega)⟩, trivial⟩ ⟨⟨0, _, rfl, rfl, ⟨_, rfl, eB ?_⟩⟩, ⟨1, _, rfl, rfl, ⟨_, rfl, eB rfl⟩⟩, ⟨2, _, rfl, rfl, ⟨_, rfl, eB rfl⟩⟩, trivial⟩
      rw [e0, xorP_get hab (by omega), xor8, bys_set, xorP_step hab (by omega)]
    · have hF : ¬ ((i : Int) < 32) := of_decide_eq_false h
      have : i = 32 := by omega
      subst this
      have ex : xorP a b 32 = xorL a b := by rw [← xorP_all hab, ha]
      have ln : (bys (xorL a b)).length = 32 := by rw [bys_length, ← ex, lx, ha]
      refine ⟨bys (xorL a b), ⟨by rw [ex]; exact tda ln, ln⟩, ?_⟩
      refine And.intro ⟨ln, bys_all _⟩ ?_
      refine And.intro (Nat.le_refl 32) ?_
      refine ⟨_, lay_all (by rw [ln]; rfl), ?_⟩
      refine ⟨_, (by first | exact SubSt.refl _ | exact SubTop.refl _), ?_⟩
      exact ⟨_, ⟨tda ln, ln, by omega⟩, rfl⟩

theorem d_sha256_Compare : Does ir_sha256_Compare C_sha256_Compare := by
  rintro ⟨a, b⟩ ⟨ha, hb⟩
  dsimp only at ha hb
  have la : (bys a).length = 32 := by rw [bys_length, ha]
  have lb : (bys b).length = 32 := by rw [bys_length, hb]
  refine And.intro (by decide) ?_
  refine And.intro (by decide) ?_
  refine And.intro (by rw [la]; decide) ?_
  refine And.intro (nnl_bys a) ?_
  refine And.intro (by rw [lb]; decide) ?_
  refine And.intro (nnl_bys b) ?_
  refine ⟨⟨a, b⟩, ?_, trivial, ?_⟩
  · show [AV.ilist 1 32 (((bys a).drop 0).take 32), AV.ilist 1 32 (((bys b).drop 0).take 32)] = [AV.ilist 1 a.length (bys a), AV.ilist 1 b.length (bys b)]
    rw [← tda la, ← tda lb, ha, hb]
  refine And.intro (plain_int _ _) ?_
  refine ⟨_, (by first | exact SubSt.refl _ | exact SubTop.refl _), ?_⟩
  rfl

theorem d_bytes_Compare : Does ir_bytes_Compare C_bytes_Compare := by
  rintro ⟨a, b⟩ _
  refine ⟨⟨a, b⟩, rfl, trivial, ?_⟩
  refine ⟨_, (by first | exact SubSt.refl _ | exact SubTop.refl _), ?_⟩
  rfl
theorem d_stringslite_IndexByte : Does ir_internal_stringslite_IndexByte C_internal_stringslite_IndexByte := by
  rintro ⟨l, c⟩ _
  refine ⟨⟨l, c⟩, rfl, trivial, ?_⟩
  refine ⟨_, (by first | exact SubSt.refl _ | exact SubTop.refl _), ?_⟩
  rfl
theorem d_strings_IndexByte : Does ir_strings_IndexByte C_strings_IndexByte := by
  rintro ⟨l, c⟩ _
  refine ⟨⟨l, c⟩, rfl, trivial, ?_⟩
  refine ⟨_, (by first | exact SubSt.refl _ | exact SubTop.refl _), ?_⟩
  rfl

end Qk

/-
  Digits, reading digests.
-/
namespace Qk
open Go Go.RowKit

theorem cond_t {b : Bool} {A B : Prop} (h : b = true) (a : A) : cond b A B := by rw [h]; exact a
theorem cond_f {b : Bool} {A B : Prop} (h : b = false) (a : B) : cond b A B := by rw [h]; exact a

theorem idxOf_first : ∀ {l : List UInt8} {c : UInt8} {i : Nat}, i < l.length → l.getD i 0 = c → (∀ j, j < i → l.getD j 0 ≠ c) → l.idxOf c = i
  | [], _, _, h, _, _ => by simp at h
  | x :: l, c, 0, _, h, _ => by
    have hx : x = c := by simpa [List.getD] using h
    simp [hx]
  | x :: l, c, i + 1, h, hi, hn => by
    have h0 : x ≠ c := by simpa [List.getD] using hn 0 (by omega)
    have := idxOf_first (l := l) (c := c) (i := i) (by simpa using h) (by simpa [List.getD] using hi) (fun j hj => by simpa [List.getD] using hn (j + 1) (by omega))
    have hb : (x == c) = false := by simpa using h0
    simp [List.idxOf_cons, hb, this]
theorem idxOf_none : ∀ {l : List UInt8} {c : UInt8}, (∀ j, j < l.length → l.getD j 0 ≠ c) → l.idxOf c = l.length
  | [], _, _ => rfl
  | x :: l, c, hn => by
    have h0 : x ≠ c := by simpa [List.getD] using hn 0 (by simp)
    have := idxOf_none (l := l) (c := c) (fun j hj => by simpa [List.getD] using hn (j + 1) (by simpa using hj))
    have hb : (x == c) = false := by simpa using h0
    simp [List.idxOf_cons, hb, this]
theorem digV_le (c : UInt8) : digV c ≤ 16 := by
  have := List.idxOf_le_length (a := c) (l := digs)
  exact this

theorem d_ref_digit : Does ir_quiltref02_digit C_quiltref02_digit := by
  intro (c : UInt8) _
  have ld : digs.length = 16 := rfl
  refine ⟨Nat, fun i => i ≤ 16 ∧ ∀ j, j < i → digs.getD j 0 ≠ c, fun i => mks [(0, .int .u8 c.toNat), (3, .int .i64 i)] [] 0, fun i => 16 - i, 0, ⟨by omega, fun j hj => by omega⟩, ?_, ?_⟩
  · refine sub_ren [] rfl (by decide) ⟨⟨_, rfl, rfl⟩, ⟨_, rfl, rfl⟩, trivial⟩ trivial
  · rintro i ⟨hi, hn⟩
    refine cond_split (fun h => ?_) (fun h => ?_)
    · have hT : (i : Int) < 16 := of_decide_eq_true h
      refine And.intro ⟨by omega, by show (i : Int) < 16; omega⟩ ?_
      refine cond_split (fun h => ?_) (fun h => ?_)
      · have he : ((digs.getD (i : Int).toNat 0).toNat : Int) = c.toNat := of_decide_eq_true h
        have e0 : (i : Int).toNat = i := by omega
        rw [e0] at he
        refine ⟨_, (by first | exact SubSt.refl _ | exact SubTop.refl _), ?_⟩
        have := idxOf_first (l := digs) (c := c) (i := i) (by omega) (UInt8.toNat_inj.1 (by omega)) hn
        show AV.int .u8 ((i : Int) % 256) = AV.int .u8 ((digs.idxOf c : Nat) : Int)
        rw [this]
        exact eI (by omega)
      · have he : ¬ ((digs.getD (i : Int).toNat 0).toNat : Int) = c.toNat := of_decide_eq_false h
        have e0 : (i : Int).toNat = i := by omega
        rw [e0] at he
        refine And.intro (by omega) ?_
        refine ⟨i + 1, ⟨by omega, ?_⟩, by dsimp only; omega, ?_⟩
        · intro j hj
          by_cases hji : j = i
          · subst hji
            intro e
            exact he (by rw [e])
          · exact hn j (by omega)
        refine sub_ren [] rfl (by decide) ⟨⟨_, rfl, rfl⟩, ⟨_, rfl, eI (by omega)⟩, trivial⟩ trivial
    · have hF : ¬ ((i : Int) < 16) := of_decide_eq_false h
      have : i = 16 := by omega
      subst this
      refine ⟨_, (by first | exact SubSt.refl _ | exact SubTop.refl _), ?_⟩
      have := idxOf_none (l := digs) (c := c) (fun j hj => hn j (by omega))
      show AV.int .u8 16 = AV.int .u8 ((digs.idxOf c : Nat) : Int)
      rw [this]
      rfl

theorem parse_no {l : List UInt8} (h : parses l = false) : parse l = (List.replicate 32 0, 3) := by
  unfold parse; rw [h]; rfl
theorem parse_yes {l : List UInt8} (h : parses l = true) : parse l = (unhex l 32, 0) := by
  unfold parse; rw [h]; rfl
theorem parses_len {l : List UInt8} (h : l.length ≠ 64) : parses l = false := by
  simp [parses, h]
theorem parses_bad {l : List UInt8} {i : Nat} (hi : i < l.length) (h : ¬ digV (l.getD i 0) < 16) : parses l = false := by
  cases hp : parses l with
  | false => rfl
  | true =>
    exfalso
    simp only [parses, Bool.and_eq_true, List.all_eq_true] at hp
    have := hp.2 (l.getD i 0) (by simp [List.getD, List.getElem?_eq_getElem hi])
    exact h (by simpa using this)
theorem parses_good {l : List UInt8} (hl : l.length = 64) (h : ∀ i, i < 64 → digV (l.getD i 0) < 16) : parses l = true := by
  simp only [parses, Bool.and_eq_true, List.all_eq_true, beq_iff_eq]
  refine ⟨hl, fun c hc => ?_⟩
  obtain ⟨i, hi, rfl⟩ := List.mem_iff_getElem.1 hc
  have := h i (by omega)
  simpa [List.getD, List.getElem?_eq_getElem hi] using this

theorem ret2 {d : List UInt8} {l : List UInt8} {n : Int} (hd : parse l = (d, n)) : AV.tup [.agg (bys d), .int .i64 n] = AV.tup [.agg (bys (parse l).1), .int .i64 (parse l).2] := by rw [hd]

theorem d_ref_Parse : Does ir_quiltref02_Parse C_quiltref02_Parse := by
  intro (l : List UInt8) _
  have l32 : (bys (List.replicate 32 0)).length = 32 := rfl
  have lz : (repl 32 [AV.int .u8 0]).length = 32 := rfl
  have hz : AllOne (repl 32 [AV.int .u8 0]) := by rw [repl_bys]; exact bys_all _
  refine cond_split (fun h => ?_) (fun h => ?_)
  · have hne : ¬ (l.length : Int) = 64 := by simpa using h
    refine And.intro lz ?_
    refine And.intro ⟨lz, hz⟩ ?_
    refine And.intro (Nat.le_refl 32) ?_
    refine ⟨_, lay_all (vs := repl 32 [AV.int .u8 0]) rfl, ?_⟩
    refine ⟨_, (by first | exact SubSt.refl _ | exact SubTop.refl _), ?_⟩
    refine ⟨_, ⟨tda lz, lz, by omega⟩, ?_⟩
    rw [repl_bys]
    exact ret2 (parse_no (parses_len (by omega)))
  · have hl' : (l.length : Int) = 64 := by simpa using h
    have hl : l.length = 64 := by omega
    refine And.intro lz ?_
    refine And.intro ⟨lz, hz⟩ ?_
    refine And.intro (Nat.le_refl 32) ?_
    refine ⟨_, lay_all (vs := repl 32 [AV.int .u8 0]) rfl, ?_⟩
    refine ⟨Nat, fun i => i ≤ 32 ∧ ∀ j, j < 2 * i → digV (l.getD j 0) < 16, fun i => mks [(0, .str l), (2, .ref 0 0), (3, .int .i64 0), (4, .ref 1 0), (5, .int .i64 i)]
      [(0, .cells (bys (List.replicate 32 0))), (1, .cells (bys (unhex l i ++ List.replicate (32 - i) 0)))] 2, fun i => 32 - i, 0, ⟨by omega, fun j hj => by omega⟩, ?_, ?_⟩
    · refine sub_ren [0, 1] rfl (by decide) ⟨⟨_, rfl, rfl⟩, ⟨_, rfl, ⟨0, rfl, rfl⟩⟩, ⟨_, rfl, rfl⟩, ⟨_, rfl, ⟨1, rfl, rfl⟩⟩, ⟨_, rfl, rfl⟩, trivial⟩ ⟨⟨0, _, rfl, rfl, ⟨_, rfl, eB ?_⟩⟩, ⟨1, _, rfl, rfl, ⟨_, rfl, eB ?_⟩⟩, trivial⟩
      · exact repl_bys 32
      · exact repl_bys 32
    · rintro i ⟨hi, hn⟩
      have lu : (bys (unhex l i ++ List.replicate (32 - i) 0)).length = 32 := by rw [bys_length, List.length_append, unhex_len, List.length_replicate]; omega
      refine cond_split (fun h => ?_) (fun h => ?_)
      · have hT : (i : Int) < 32 := of_decide_eq_true h
        have e0 : (2 * (i : Int)).toNat = 2 * i := by omega
        have e1 : (2 * (i : Int) + 1).toNat = 2 * i + 1 := by omega
        have b0 := digV_le (l.getD (2 * i) 0)
        have b1 := digV_le (l.getD (2 * i + 1) 0)
        refine And.intro (by omega) ?_
        refine And.intro (by omega) ?_
        rw [e0]
        refine ⟨_, rfl, trivial, ?_⟩
        refine And.intro (by omega) ?_
        refine And.intro (by omega) ?_
        refine And.intro (by omega) ?_
        rw [e1]
        refine ⟨_, rfl, trivial, ?_⟩
        have bad : ¬ (digV (l.getD (2 * i) 0) < 16 ∧ digV (l.getD (2 * i + 1) 0) < 16) → parse l = (List.replicate 32 0, 3) := by
          intro hb
          by_cases h1 : digV (l.getD (2 * i) 0) < 16
          · exact parse_no (parses_bad (i := 2 * i + 1) (by omega) (fun h2 => hb ⟨h1, h2⟩))
          · exact parse_no (parses_bad (i := 2 * i) (by omega) h1)
        refine cond_split (fun h => ?_) (fun h => ?_)
        · have hT2 : (15 : Int) < digV (l.getD (2 * i) 0) := of_decide_eq_true h
          refine cond_t h ?_
          refine cond_t h ?_
          refine And.intro lz ?_
          refine And.intro ⟨lz, hz⟩ ?_
          refine And.intro (Nat.le_refl 32) ?_
          refine ⟨_, lay_all (vs := repl 32 [AV.int .u8 0]) rfl, ?_⟩
          refine ⟨_, (by first | exact SubSt.refl _ | exact SubTop.refl _), ?_⟩
          refine ⟨_, ⟨tda lz, lz, by omega⟩, ?_⟩
          rw [repl_bys]
          exact ret2 (bad (by omega))
        · have hF2 : ¬ (15 : Int) < digV (l.getD (2 * i) 0) := of_decide_eq_false h
          refine cond_f h ?_
          refine cond_split (fun h2 => ?_) (fun h2 => ?_)
          · rw [h] at h2
            have hT3 : (15 : Int) < digV (l.getD (2 * i + 1) 0) := of_decide_eq_true h2
            refine And.intro lz ?_
            refine And.intro ⟨lz, hz⟩ ?_
            refine And.intro (Nat.le_refl 32) ?_
            refine ⟨_, lay_all (vs := repl 32 [AV.int .u8 0]) rfl, ?_⟩
            refine ⟨_, (by first | exact SubSt.refl _ | exact SubTop.refl _), ?_⟩
            refine ⟨_, ⟨tda lz, lz, by omega⟩, ?_⟩
            rw [repl_bys]
            exact ret2 (bad (by omega))
          · rw [h] at h2
            have hF3 : ¬ (15 : Int) < digV (l.getD (2 * i + 1) 0) := of_decide_eq_false h2
            refine And.intro (by omega) ?_
            refine And.intro (by rw [lu]; omega) ?_
            refine And.intro (by omega) ?_
            refine ⟨i + 1, ⟨by omega, ?_⟩, by dsimp only; omega, ?_⟩
            · intro j hj
              by_cases h1 : j = 2 * i
              · subst h1; omega
              by_cases h2 : j = 2 * i + 1
              · subst h2; omega
              exact hn j (by omega)
            refine sub_ren [0, 1] rfl (by decide) ⟨⟨_, rfl, rfl⟩, ⟨_, rfl, ⟨0, rfl, rfl⟩⟩, ⟨_, rfl, rfl⟩, ⟨_, rfl, ⟨1, rfl, rfl⟩⟩, ⟨_, rfl, eI (by omega)⟩, trivial⟩ ⟨⟨0, _, rfl, rfl, ⟨_, rfl, eB rfl⟩⟩, ⟨1, _, rfl, rfl, ⟨_, rfl, eB ?_⟩⟩, trivial⟩
            have e4 : 0 + (i : Int).toNat * 1 = i := by omega
            have e5 : (16 * (digV (l.getD (2 * i) 0) : Int) % 256 + digV (l.getD (2 * i + 1) 0)) % 256 = ((by8 (16 * (digV (l.getD (2 * i) 0) : Int) + digV (l.getD (2 * i + 1) 0))).toNat : Int) := by
              rw [by8_int]; omega
            rw [e4]
            rw [e5, bys_set, fill_set 0 _ (unhex_len l i) (by omega)]
            rfl
      · have hF : ¬ ((i : Int) < 32) := of_decide_eq_false h
        have : i = 32 := by omega
        subst this
        have ln : (bys (unhex l 32)).length = 32 := by rw [bys_length, unhex_len]
        have e5 : unhex l 32 ++ List.replicate (32 - 32) 0 = unhex l 32 := by simp
        refine ⟨bys (unhex l 32), ⟨by rw [e5]; exact tda ln, ln⟩, ?_⟩
        refine And.intro ⟨ln, bys_all _⟩ ?_
        refine And.intro (Nat.le_refl 32) ?_
        refine ⟨_, lay_all (by rw [ln]; rfl), ?_⟩
        refine ⟨_, (by first | exact SubSt.refl _ | exact SubTop.refl _), ?_⟩
        refine ⟨_, ⟨tda ln, ln, by omega⟩, ?_⟩
        exact ret2 (parse_yes (parses_good hl (fun i hi => hn i (by omega))))

end Qk

/-
  Keyed digests; hexadecimal forms of the program.
-/
namespace Qk
open Go Go.RowKit

theorem one1 {k : IntKind} {n : Int} : AllOne [AV.int k n] := by intro c hc; simp at hc; subst hc; rfl
theorem one2 {k j : IntKind} {n m : Int} : AllOne [AV.int k n, AV.int j m] := by
  intro c hc; simp at hc; rcases hc with rfl | rfl <;> rfl
theorem nnl_str (l : List UInt8) : NNL [AV.str l] := nnl_plain (by intro c hc; simp at hc; subst hc; exact plain_str _)

def maskP (l : List UInt8) (m : UInt8) (i : Nat) : List UInt8 := xorm (l.take i) m ++ l.drop i
theorem maskP_len (l : List UInt8) (m : UInt8) {i : Nat} (hi : i ≤ l.length) : (maskP l m i).length = l.length := by
  simp [maskP, xorm]; omega
theorem maskP_get {l : List UInt8} {m : UInt8} {i : Nat} (hi : i < l.length) : (maskP l m i).getD i 0 = l.getD i 0 := by
  simp only [maskP, List.getD]
  rw [List.getElem?_append_right (by simp [xorm]; omega)]
  simp [xorm, Nat.min_eq_left (Nat.le_of_lt hi)]
theorem maskP_step {l : List UInt8} {m : UInt8} {i : Nat} (hi : i < l.length) : (maskP l m i).set i (l.getD i 0 ^^^ m) = maskP l m (i + 1) := by
  unfold maskP
  have l1 : (xorm (l.take i) m).length = i := by simp [xorm]; omega
  rw [List.set_append_right _ _ (by omega), l1, Nat.sub_self, List.drop_eq_getElem_cons hi, List.set_cons_zero, take_snocD l hi]
  simp [xorm]
theorem maskP_all (l : List UInt8) (m : UInt8) : maskP l m l.length = xorm l m := by simp [maskP]

theorem d_sha256_HMAC_1 : Does ir_sha256_HMAC_1 C_sha256_HMAC_1 := by
  rintro ⟨m, l⟩ (hl : l.length ≤ 1099511627776)
  refine ⟨_, rfl, ?_⟩
  refine ⟨Nat, fun i => i ≤ l.length, fun i => mks [(0, .int .u8 m.toNat), (4, .sl 0 0 l.length), (9, .int .i64 l.length), (10, .int .i64 i)] [(0, .lst 1 (bys (maskP l m i)))] 1, fun i => l.length - i, 0, by omega, ?_, ?_⟩
  · refine sub_ren [0] rfl (by decide) ⟨⟨_, rfl, rfl⟩, ⟨_, rfl, ⟨0, rfl, rfl⟩⟩, ⟨_, rfl, rfl⟩, ⟨_, rfl, rfl⟩, trivial⟩ ⟨⟨0, _, rfl, rfl, ⟨_, rfl, eB rfl⟩⟩, trivial⟩
  · intro i hi
    have lm := maskP_len l m hi
    have e0 : (0 + (i : Int).toNat) * 1 = i := by omega
    refine cond_split (fun h => ?_) (fun h => ?_)
    · have hT : (i : Int) < l.length := of_decide_eq_true h
      refine And.intro ⟨rfl, by omega, by omega⟩ ?_
      refine ⟨_, bys_get (l := maskP l m i) (by omega), ?_⟩
      refine And.intro ⟨rfl, by omega, by omega⟩ ?_
      refine And.intro (by rw [bys_length]; omega) ?_
      refine And.intro (by omega) ?_
      refine ⟨i + 1, by omega, by dsimp only; omega, ?_⟩
      refine sub_ren [0] rfl (by decide) ⟨⟨_, rfl, rfl⟩, ⟨_, rfl, ⟨0, rfl, rfl⟩⟩, ⟨_, rfl, rfl⟩, ⟨_, rfl, eI (by omega)⟩, trivial⟩ ⟨⟨0, _, rfl, rfl, ⟨_, rfl, eB ?_⟩⟩, trivial⟩
      rw [e0, maskP_get (by omega), xor8, bys_set, maskP_step (by omega)]
    · have hF : ¬ (i : Int) < l.length := of_decide_eq_false h
      have : i = l.length := by omega
      subst this
      refine And.intro rfl ?_
      refine ⟨xorm l m, ⟨?_, xorm_len _ _⟩, ?_⟩
      · rw [maskP_all]
        exact (tda (by rw [bys_length, xorm_len])).symm
      refine ⟨_, (by first | exact SubSt.refl _ | exact SubTop.refl _), ?_⟩
      rfl

theorem repeat_zero (n : Nat) : repeatB [0] n = List.replicate n 0 := by
  unfold repeatB
  induction n with
  | zero => rfl
  | succ n ih => rw [List.replicate_succ, List.flatten_cons, ih]; rfl

theorem keyB_of {key k : List UInt8} (h : k = if 64 < key.length then sha key else key) : k ++ List.replicate (64 - k.length) 0 = keyB key := by
  unfold keyB; rw [← h]

theorem d_ref_HMAC : Does ir_quiltref02_HMAC C_quiltref02_HMAC := by
  rintro ⟨key, s⟩ ⟨hk, hs⟩
  dsimp only at hk hs
  refine jn_at (fun k : List UInt8 => mks [(0, .str k), (1, .str s), (4, .ref 0 0)] [(0, .cells (bys (List.replicate 32 0)))] 1) (fun k => k = if 64 < key.length then sha key else key) ?_ ?_
  · refine cond_split (fun h => ?_) (fun h => ?_)
    · have hT : (64 : Int) < key.length := of_decide_eq_true h
      refine ⟨key, rfl, by show key.length ≤ 1099511627776; omega, ?_⟩
      refine And.intro (plainA_bys _).nn ?_
      refine ⟨sha key, rfl, sha_len _, ?_⟩
      refine ⟨_, by rw [if_pos (by omega)], ?_⟩
      refine sub_ren [0] rfl (by decide) ⟨⟨_, rfl, rfl⟩, ⟨_, rfl, rfl⟩, ⟨_, rfl, ⟨0, rfl, rfl⟩⟩, trivial⟩ ⟨⟨0, _, rfl, rfl, ⟨_, rfl, eB ?_⟩⟩, trivial⟩
      exact repl_bys 32
    · have hF : ¬ (64 : Int) < key.length := of_decide_eq_false h
      refine ⟨_, by rw [if_neg (by omega)], ?_⟩
      refine sub_ren [0] rfl (by decide) ⟨⟨_, rfl, rfl⟩, ⟨_, rfl, rfl⟩, ⟨_, rfl, ⟨0, rfl, rfl⟩⟩, trivial⟩ ⟨⟨0, _, rfl, rfl, ⟨_, rfl, eB ?_⟩⟩, trivial⟩
      exact repl_bys 32
  · intro k hk
    have hlen : k.length ≤ 64 := by rw [hk]; split; · rw [sha_len]; omega
                                    · omega
    have e0 : ((64 : Int) - k.length).toNat = 64 - k.length := by omega
    have ek : k ++ List.replicate ((64 : Int) - k.length).toNat 0 = keyB key := by rw [e0]; exact keyB_of hk
    have lk := keyB_len key
    refine And.intro (by omega) ?_
    refine ⟨_, rfl, by show (64 : Int) - k.length ≤ 1000000; omega, ?_⟩
    refine And.intro (by rw [List.length_replicate]; omega) ?_
    rw [ek]
    refine ⟨⟨keyB key, 92⟩, rfl, by show (keyB key).length ≤ 1099511627776; omega, ?_⟩
    refine ⟨⟨keyB key, 54⟩, rfl, by show (keyB key).length ≤ 1099511627776; omega, ?_⟩
    have l2 := xorm_len (keyB key) 54
    have l3 := xorm_len (keyB key) 92
    refine And.intro (by show (xorm (keyB key) 54).length + s.length ≤ _; omega) ?_
    refine ⟨xorm (keyB key) 54 ++ s, rfl, by show (xorm (keyB key) 54 ++ s).length ≤ 1099511627776; rw [List.length_append]; omega, ?_⟩
    refine And.intro (plainA_bys _).nn ?_
    refine ⟨sha (xorm (keyB key) 54 ++ s), rfl, sha_len _, ?_⟩
    have l4 := sha_len (xorm (keyB key) 54 ++ s)
    refine And.intro (by show (xorm (keyB key) 92).length + (sha (xorm (keyB key) 54 ++ s)).length ≤ _; omega) ?_
    refine ⟨_, rfl, by show (xorm (keyB key) 92 ++ sha (xorm (keyB key) 54 ++ s)).length ≤ 1099511627776; rw [List.length_append]; omega, ?_⟩
    have ln : (bys (hmac key s)).length = 32 := by rw [bys_length, hmac_len]
    refine And.intro ⟨ln, bys_all _⟩ ?_
    refine And.intro (Nat.le_refl 32) ?_
    refine ⟨_, lay_all (vs := bys (hmac key s)) ln, ?_⟩
    refine ⟨_, (by first | exact SubSt.refl _ | exact SubTop.refl _), ?_⟩
    exact ⟨_, ⟨tda ln, ln, by omega⟩, rfl⟩

theorem d_sha256_HMAC : Does ir_sha256_HMAC C_sha256_HMAC := by
  rintro ⟨key, s⟩ ⟨hk, hs⟩
  dsimp only at hk hs
  refine ⟨_, rfl, ?_⟩
  refine jn_at (fun k : List UInt8 => mks [(1, .str s), (2, .ref 0 0), (4, .ref 1 0)] [(0, .cells [.str k]), (1, .cells (bys (List.replicate 32 0)))] 2) (fun k => k = if 64 < key.length then sha key else key) ?_ ?_
  · refine cond_split (fun h => ?_) (fun h => ?_)
    · have hT : (64 : Int) < key.length := of_decide_eq_true h
      refine ⟨_, rfl, ?_⟩
      refine ⟨key, rfl, by show key.length ≤ 1099511627776; omega, ?_⟩
      have ln : (bys (sha key)).length = 32 := by rw [bys_length, sha_len]
      refine And.intro ⟨ln, bys_all _⟩ ?_
      refine And.intro (Nat.le_refl 32) ?_
      refine ⟨_, lay_all (vs := bys (sha key)) (by rw [ln]; rfl), ?_⟩
      refine And.intro (by decide) ?_
      refine And.intro rfl ?_
      refine ⟨sha key, ⟨(tda ln).symm, sha_len _⟩, ?_⟩
      refine And.intro (Nat.zero_lt_succ _) ?_
      refine ⟨_, by rw [if_pos (by omega)], ?_⟩
      refine sub_ren [0, 1] rfl (by decide) ⟨⟨_, rfl, rfl⟩, ⟨_, rfl, ⟨0, rfl, rfl⟩⟩, ⟨_, rfl, ⟨1, rfl, rfl⟩⟩, trivial⟩ ⟨⟨0, _, rfl, rfl, ?_⟩, ⟨1, _, rfl, rfl, ⟨_, rfl, eB ?_⟩⟩, trivial⟩
      · exact ⟨_, rfl, eN (nnl_str _) rfl⟩
      · exact repl_bys 32
    · have hF : ¬ (64 : Int) < key.length := of_decide_eq_false h
      refine ⟨_, by rw [if_neg (by omega)], ?_⟩
      refine sub_ren [0, 1] rfl (by decide) ⟨⟨_, rfl, rfl⟩, ⟨_, rfl, ⟨0, rfl, rfl⟩⟩, ⟨_, rfl, ⟨1, rfl, rfl⟩⟩, trivial⟩ ⟨⟨0, _, rfl, rfl, ?_⟩, ⟨1, _, rfl, rfl, ⟨_, rfl, eB ?_⟩⟩, trivial⟩
      · exact ⟨_, rfl, eN (nnl_str _) rfl⟩
      · exact repl_bys 32
  · intro k hk
    have hlen : k.length ≤ 64 := by rw [hk]; split; · rw [sha_len]; omega
                                    · omega
    have e0 : ((64 : Int) - k.length).toNat = 64 - k.length := by omega
    have ek : k ++ repeatB [0] ((64 : Int) - k.length).toNat = keyB key := by rw [repeat_zero, e0]; exact keyB_of hk
    have lk := keyB_len key
    refine ⟨_, rfl, ?_⟩
    refine ⟨_, rfl, ?_⟩
    refine And.intro (by omega) ?_
    refine ⟨⟨[0], _⟩, rfl, ⟨by show (0 : Int) ≤ 64 - k.length; omega, by show (64 : Int) - k.length ≤ 1000000000; omega, by show 1 ≤ 1000; omega⟩, ?_⟩
    have l1 : (k ++ repeatB [0] ((64 : Int) - k.length).toNat).length = 64 := by rw [ek, lk]
    refine And.intro (by rw [List.length_append] at l1; show k.length + (repeatB [0] ((64 : Int) - k.length).toNat).length ≤ 9223372036854775807; omega) ?_
    rw [ek]
    refine And.intro (Nat.zero_lt_succ _) ?_
    refine And.intro (nnl_str _) ?_
    refine ⟨⟨54, keyB key⟩, rfl, by show (keyB key).length ≤ 1099511627776; omega, ?_⟩
    refine And.intro (plain_str _) ?_
    have l2 := xorm_len (keyB key) 54
    have l3 := xorm_len (keyB key) 92
    refine And.intro (by show (xorm (keyB key) 54).length + s.length ≤ _; omega) ?_
    refine ⟨xorm (keyB key) 54 ++ s, rfl, by show (xorm (keyB key) 54 ++ s).length ≤ 1099511627776; rw [List.length_append]; omega, ?_⟩
    have l4 := sha_len (xorm (keyB key) 54 ++ s)
    have l5 : (bys (sha (xorm (keyB key) 54 ++ s))).length = 32 := by rw [bys_length, l4]
    refine And.intro ⟨l5, bys_all _⟩ ?_
    refine And.intro (Nat.le_refl 32) ?_
    refine ⟨_, lay_all (vs := bys (sha (xorm (keyB key) 54 ++ s))) (by rw [l5]; rfl), ?_⟩
    refine And.intro (nnl_str _) ?_
    refine ⟨⟨92, keyB key⟩, rfl, by show (keyB key).length ≤ 1099511627776; omega, ?_⟩
    refine And.intro (plain_str _) ?_
    refine And.intro (by decide) ?_
    refine And.intro rfl ?_
    refine ⟨sha (xorm (keyB key) 54 ++ s), ⟨(tda l5).symm, l4⟩, ?_⟩
    refine And.intro (by show (xorm (keyB key) 92).length + (sha (xorm (keyB key) 54 ++ s)).length ≤ _; omega) ?_
    refine ⟨_, rfl, by show (xorm (keyB key) 92 ++ sha (xorm (keyB key) 54 ++ s)).length ≤ 1099511627776; rw [List.length_append]; omega, ?_⟩
    have ln : (bys (hmac key s)).length = 32 := by rw [bys_length, hmac_len]
    refine And.intro ⟨ln, bys_all _⟩ ?_
    refine And.intro (Nat.le_refl 32) ?_
    refine ⟨_, lay_all (vs := bys (hmac key s)) ln, ?_⟩
    refine ⟨_, (by first | exact SubSt.refl _ | exact SubTop.refl _), ?_⟩
    exact ⟨_, ⟨tda ln, ln, by omega⟩, rfl⟩

theorem shr4 (b : UInt8) : shrI .u8 (b.toNat : Int) 4 = ((b.toNat / 16 : Nat) : Int) := by
  unfold shrI
  show Int.fdiv (b.toNat : Int) (2 ^ 4) = _
  rw [show ((2 : Int) ^ 4) = ((16 : Nat) : Int) by rfl, Int.fdiv_eq_ediv_of_nonneg _ (by omega)]
  rfl
theorem and15 (b : UInt8) : andI .u8 (b.toNat : Int) 15 = ((b.toNat % 16 : Nat) : Int) := by
  have hb : b.toNat < 256 := b.toNat_lt
  unfold andI
  simp only [BitVec.toNat_and]
  have e1 : (BitVec.ofInt IntKind.u8.bits (b.toNat : Int)).toNat = b.toNat := by
    show (BitVec.ofInt 8 (b.toNat : Int)).toNat = b.toNat
    rw [BitVec.toNat_ofInt]; omega
  have e2 : (BitVec.ofInt IntKind.u8.bits 15).toNat = 2 ^ 4 - 1 := by rfl
  rw [e1, e2, Nat.and_two_pow_sub_one_eq_mod]
  show (((b.toNat % 2 ^ 4 : Nat) : Int)) % 256 = _
  omega

theorem d_sha256_Hex : Does ir_sha256_Hex C_sha256_Hex := by
  intro (d : List UInt8) (hd : d.length = 32)
  have ln : (bys d).length = 32 := by rw [bys_length, hd]
  refine And.intro (by decide) ⟨_, rfl, ?_⟩
  refine ⟨bys d, ⟨tda ln, ln⟩, ?_⟩
  refine ⟨Nat, fun i => i ≤ 32, fun i => mks [(1, .ref 0 0), (3, .sl 1 0 (2 * i)), (7, .agg (bys d)), (8, .int .i64 i)] [(0, .cells (bys d)), (1, .lst 1 (bys (hex (d.take i))))] 2, fun i => 32 - i, 0, by omega, ?_, ?_⟩
  · refine sub_ren [0, 1] rfl (by decide) ⟨⟨_, rfl, ⟨0, rfl, rfl⟩⟩, ⟨_, rfl, ⟨1, rfl, rfl⟩⟩, ⟨_, rfl, ?_⟩, ⟨_, rfl, rfl⟩, trivial⟩ ⟨⟨0, _, rfl, rfl, ⟨_, rfl, eB rfl⟩⟩, ⟨1, _, rfl, rfl, ⟨_, rfl, eB rfl⟩⟩, trivial⟩
    exact .inl ⟨rfl, nnl_bys _⟩
  · intro i hi
    have hl : (hex (d.take i)).length = 2 * i := by rw [hex_len, List.length_take]; omega
    refine cond_split (fun h => ?_) (fun h => ?_)
    · have hT : (i : Int) < 32 := of_decide_eq_true h
      have e0 : (i : Int).toNat * 1 = i := by omega
      obtain ⟨c, hc⟩ : ∃ c, c = d.getD i 0 := ⟨_, rfl⟩
      have hb : c.toNat < 256 := c.toNat_lt
      have g : (bys d)[(i : Int).toNat * 1]? = some (.int .u8 (c.toNat : Int)) := by rw [e0, hc]; exact bys_get (by omega)
      refine And.intro (by omega) ?_
      refine ⟨_, g, ?_⟩
      refine And.intro (by decide) ?_
      refine And.intro ?_ ?_
      · rw [shr4]; exact ⟨by omega, by show _ < (16 : Int); omega⟩
      refine And.intro ?_ ?_
      · rw [and15]; exact ⟨by omega, by show _ < (16 : Int); omega⟩
      refine And.intro ⟨(show (1 : Nat) ≠ 2 by decide), rfl, rfl, rfl, by rw [bys_length, hl]; omega, (show (0 + 2) * 1 ≤ 2 by decide), one2, by omega⟩ ⟨_, rfl, ?_⟩
      refine And.intro (by omega) ?_
      refine ⟨i + 1, by omega, by dsimp only; omega, ?_⟩
      refine sub_ren [0, 3] rfl (by decide) ⟨⟨_, rfl, ⟨0, rfl, rfl⟩⟩, ⟨_, rfl, ⟨3, rfl, eSl (by omega)⟩⟩, ⟨_, rfl, ?_⟩, ⟨_, rfl, eI (by omega)⟩, trivial⟩ ⟨⟨0, _, rfl, rfl, ⟨_, rfl, eB rfl⟩⟩, ⟨3, _, rfl, rfl, ⟨_, rfl, eB ?_⟩⟩, trivial⟩
      · exact .inl ⟨rfl, nnl_bys _⟩
      · rw [take_snocD d (by omega), hex_snoc, ← hc, bys_app, shr4, and15]
        refine congrArg (bys (hex (d.take i)) ++ ·) ?_
        have e1 : ((c.toNat / 16 : Nat) : Int).toNat = c.toNat / 16 := by omega
        have e2 : ((c.toNat % 16 : Nat) : Int).toNat = c.toNat % 16 := by omega
        rw [e1, e2]
        rfl
    · have hF : ¬ ((i : Int) < 32) := of_decide_eq_false h
      have : i = 32 := by omega
      subst this
      have e0 : d.take 32 = d := List.take_of_length_le (by omega)
      have l2 : (hex d).length = 64 := by rw [hex_len, hd]
      refine And.intro rfl ?_
      refine ⟨hex d, ⟨?_, l2⟩, ?_⟩
      · rw [e0]
        exact (tda (by rw [bys_length, l2])).symm
      refine ⟨_, (by first | exact SubSt.refl _ | exact SubTop.refl _), ?_⟩
      rfl

theorem d_masked : Does ir_quiltlaw02_masked C_quiltlaw02_masked := by
  rintro ⟨key, x⟩ (hk : key.length ≤ 64)
  have lm : ∀ i, (maskK key x i).length = i := by
    intro i; induction i with
    | zero => rfl
    | succ i ih => simp [maskK, ih]
  refine ⟨Nat, fun i => i ≤ 64, fun i => mks [(0, .str key), (1, .int .u8 x.toNat), (5, .sl 0 0 i), (9, .int .i64 i)] [(0, .lst 1 (bys (maskK key x i)))] 1, fun i => 64 - i, 0, by omega, ?_, ?_⟩
  · refine sub_ren [0] rfl (by decide) ⟨⟨_, rfl, rfl⟩, ⟨_, rfl, rfl⟩, ⟨_, rfl, ⟨0, rfl, rfl⟩⟩, ⟨_, rfl, rfl⟩, trivial⟩ ⟨⟨0, _, rfl, rfl, ⟨_, rfl, eB rfl⟩⟩, trivial⟩
  · intro i hi
    refine cond_split (fun h => ?_) (fun h => ?_)
    · have hT : (i : Int) < 64 := of_decide_eq_true h
      refine jn_at (fun _ : Unit => mks [(0, .str key), (1, .int .u8 x.toNat), (5, .sl 0 0 i), (7, .int .u8 (key.getD i 0).toNat), (9, .int .i64 i)] [(0, .lst 1 (bys (maskK key x i)))] 1) (fun _ => True) ?_ ?_
      · refine cond_split (fun h => ?_) (fun h => ?_)
        · have hT2 : (i : Int) < key.length := of_decide_eq_true h
          refine And.intro (by omega) ?_
          refine ⟨(), trivial, ?_⟩
          refine sub_ren [0] rfl (by decide) ⟨⟨_, rfl, rfl⟩, ⟨_, rfl, rfl⟩, ⟨_, rfl, ⟨0, rfl, rfl⟩⟩, ⟨_, rfl, rfl⟩, ⟨_, rfl, rfl⟩, trivial⟩ ⟨⟨0, _, rfl, rfl, ⟨_, rfl, eB rfl⟩⟩, trivial⟩
        · have hF2 : ¬ (i : Int) < key.length := of_decide_eq_false h
          refine ⟨(), trivial, ?_⟩
          refine sub_ren [0] rfl (by decide) ⟨⟨_, rfl, rfl⟩, ⟨_, rfl, rfl⟩, ⟨_, rfl, ⟨0, rfl, rfl⟩⟩, ⟨_, rfl, eI ?_⟩, ⟨_, rfl, rfl⟩, trivial⟩ ⟨⟨0, _, rfl, rfl, ⟨_, rfl, eB rfl⟩⟩, trivial⟩
          have : key.getD i 0 = 0 := by simp [List.getD, List.getElem?_eq_none (show key.length ≤ i by omega)]
          rw [this]; rfl
      · intro _ _
        refine And.intro ⟨(show (0 : Nat) ≠ 1 by decide), rfl, rfl, rfl, by rw [bys_length, lm]; omega, (show (0 + 1) * 1 ≤ 1 by decide), one1, by omega⟩ ⟨_, rfl, ?_⟩
        refine And.intro (by omega) ?_
        refine ⟨i + 1, by omega, by dsimp only; omega, ?_⟩
        refine sub_ren [2] rfl (by decide) ⟨⟨_, rfl, rfl⟩, ⟨_, rfl, rfl⟩, ⟨_, rfl, ⟨2, rfl, rfl⟩⟩, ⟨_, rfl, eI (by omega)⟩, trivial⟩ ⟨⟨2, _, rfl, rfl, ⟨_, rfl, eB ?_⟩⟩, trivial⟩
        rw [xor8, maskK, bys_app]
        rfl
    · have hF : ¬ ((i : Int) < 64) := of_decide_eq_false h
      have : i = 64 := by omega
      subst this
      refine And.intro rfl ?_
      refine ⟨maskK key x 64, ⟨?_, lm 64⟩, ?_⟩
      · exact (tda (by rw [bys_length, lm])).symm
      refine ⟨_, (by first | exact SubSt.refl _ | exact SubTop.refl _), ?_⟩
      rfl

end Qk

/-
  Reading digests, in the program.
-/
namespace Qk
open Go Go.RowKit

theorem nib_or {v w : Nat} (hv : v < 16) (hw : w < 16) : orI .u8 (shlI .u8 (v : Int) 4) (w : Int) = ((16 * v + w : Nat) : Int) := by
  have : ∀ v w : Fin 16, orI .u8 (shlI .u8 (v.1 : Int) 4) (w.1 : Int) = ((16 * v.1 + w.1 : Nat) : Int) := by decide +kernel
  exact this ⟨v, hv⟩ ⟨w, hw⟩

def nibA (l : List UInt8) (i : Nat) : List UInt8 :=
  if i % 2 = 0 then unhex l (i / 2) ++ List.replicate (32 - i / 2) 0 else unhex l (i / 2) ++ [by8 (digV (l.getD (2 * (i / 2)) 0))] ++ List.replicate (32 - (i / 2 + 1)) 0
theorem nibA_len {l : List UInt8} {i : Nat} (h : i ≤ 64) : (nibA l i).length = 32 := by
  unfold nibA
  split
  · rw [List.length_append, unhex_len, List.length_replicate]; omega
  · rw [List.length_append, List.length_append, unhex_len, List.length_replicate, List.length_singleton]; omega
theorem nib_step {l : List UInt8} {i : Nat} (hi : i < 64) (h1 : digV (l.getD i 0) < 16) (h0 : ∀ j, j < i → digV (l.getD j 0) < 16) :
    (bys (nibA l i)).set (i / 2) (.int .u8 (orI .u8 (shlI .u8 (((nibA l i).getD (i / 2) 0).toNat : Int) 4) ((digV (l.getD i 0) : Int) % 256))) = bys (nibA l (i + 1)) := by
  have e1 : ((digV (l.getD i 0) : Int) % 256) = (digV (l.getD i 0) : Int) := by omega
  by_cases hp : i % 2 = 0
  · have e2 : (i + 1) % 2 ≠ 0 := by omega
    have e3 : (i + 1) / 2 = i / 2 := by omega
    have e4 : 2 * (i / 2) = i := by omega
    have g : (nibA l i).getD (i / 2) 0 = 0 := by
      simp only [nibA, if_pos hp, List.getD]
      rw [List.getElem?_append_right (by rw [unhex_len]; omega), unhex_len, Nat.sub_self, List.getElem?_replicate]
      split <;> rfl
    rw [g, e1]
    have n := nib_or (v := 0) (w := digV (l.getD i 0)) (by omega) h1
    have n' : orI .u8 (shlI .u8 ((((0 : UInt8).toNat : Nat) : Int)) 4) (digV (l.getD i 0) : Int) = _ := n
    rw [n']
    have e5 : (((16 * 0 + digV (l.getD i 0) : Nat)) : Int) = ((by8 (digV (l.getD i 0))).toNat : Int) := by rw [by8_int]; omega
    rw [e5, bys_set]
    unfold nibA
    rw [if_pos hp, if_neg e2, e3, e4, fill_set 0 _ (unhex_len l (i / 2)) (by omega)]
  · have e2 : (i + 1) % 2 = 0 := by omega
    have e3 : (i + 1) / 2 = i / 2 + 1 := by omega
    have e4 : 2 * (i / 2) + 1 = i := by omega
    have g : (nibA l i).getD (i / 2) 0 = by8 (digV (l.getD (2 * (i / 2)) 0)) := by
      simp only [nibA, if_neg hp, List.getD, List.append_assoc]
      rw [List.getElem?_append_right (by rw [unhex_len]; omega), unhex_len, Nat.sub_self]
      rfl
    have h2 := h0 (2 * (i / 2)) (by omega)
    rw [g, e1]
    have e6 : ((by8 (digV (l.getD (2 * (i / 2)) 0))).toNat : Int) = (digV (l.getD (2 * (i / 2)) 0) : Int) := by rw [by8_int]; omega
    rw [e6, nib_or h2 h1]
    have e5 : (((16 * digV (l.getD (2 * (i / 2)) 0) + digV (l.getD i 0) : Nat)) : Int) = ((by8 (16 * (digV (l.getD (2 * (i / 2)) 0) : Int) + digV (l.getD (2 * (i / 2) + 1) 0))).toNat : Int) := by
      rw [by8_int, e4]; omega
    rw [e5, bys_set]
    unfold nibA
    rw [if_neg hp, if_pos e2, e3]
    rw [List.append_assoc, List.set_append_right _ _ (by rw [unhex_len]; omega), unhex_len, Nat.sub_self]
    simp [unhex]

theorem index_digs (c : UInt8) : (indexB digs c = digV c ∧ digV c < 16) ∨ (indexB digs c = -1 ∧ ¬ digV c < 16) := by
  unfold indexB digV
  by_cases h : c ∈ digs
  · refine .inl ⟨by rw [if_pos h], ?_⟩
    exact List.idxOf_lt_length_of_mem h
  · refine .inr ⟨by rw [if_neg h], fun h2 => h ?_⟩
    exact List.idxOf_lt_length_iff.1 h2

theorem d_sha256_Parse : Does ir_sha256_Parse C_sha256_Parse := by
  intro (l : List UInt8) _
  have l32 : (bys (List.replicate 32 0)).length = 32 := rfl
  have lz : (repl 32 [AV.int .u8 0]).length = 32 := rfl
  have hz : AllOne (repl 32 [AV.int .u8 0]) := by rw [repl_bys]; exact bys_all _
  refine cond_split (fun h => ?_) (fun h => ?_)
  · have hne : ¬ (l.length : Int) = 64 := by simpa using h
    refine And.intro lz ?_
    refine And.intro ⟨lz, hz⟩ ?_
    refine And.intro (Nat.le_refl 32) ?_
    refine ⟨_, lay_all (vs := repl 32 [AV.int .u8 0]) rfl, ?_⟩
    refine ⟨_, (by first | exact SubSt.refl _ | exact SubTop.refl _), ?_⟩
    refine ⟨_, ⟨tda lz, lz, by omega⟩, ?_⟩
    rw [repl_bys]
    exact ret2 (parse_no (parses_len (by omega)))
  · have hl' : (l.length : Int) = 64 := by simpa using h
    have hl : l.length = 64 := by omega
    refine ⟨Nat, fun i => i ≤ 64 ∧ ∀ j, j < i → digV (l.getD j 0) < 16, fun i => mks [(0, .str l), (2, .ref 0 0), (3, .int .i64 0), (4, .ref 1 0), (12, .int .i64 64), (13, .int .i64 i)]
      [(0, .cells (bys (List.replicate 32 0))), (1, .cells (bys (nibA l i)))] 2, fun i => 64 - i, 0, ⟨by omega, fun j hj => by omega⟩, ?_, ?_⟩
    · refine sub_ren [0, 1] rfl (by decide) ⟨⟨_, rfl, rfl⟩, ⟨_, rfl, ⟨0, rfl, rfl⟩⟩, ⟨_, rfl, rfl⟩, ⟨_, rfl, ⟨1, rfl, rfl⟩⟩, ⟨_, rfl, eI ?_⟩, ⟨_, rfl, rfl⟩, trivial⟩ ⟨⟨0, _, rfl, rfl, ⟨_, rfl, eB ?_⟩⟩, ⟨1, _, rfl, rfl, ⟨_, rfl, eB ?_⟩⟩, trivial⟩
      · exact hl'
      · exact repl_bys 32
      · exact repl_bys 32
    · rintro i ⟨hi, hn⟩
      have lu := nibA_len (l := l) hi
      refine cond_split (fun h => ?_) (fun h => ?_)
      · have hT : (i : Int) < 64 := of_decide_eq_true h
        have e0 : (i : Int).toNat = i := by omega
        have q : Int.tdiv (i : Int) 2 = ((i / 2 : Nat) : Int) := tdivN i 2
        have e1 : 0 + (Int.tdiv (i : Int) 2).toNat * 1 = i / 2 := by rw [q]; omega
        refine And.intro (by omega) ?_
        rw [e0]
        refine ⟨⟨digs, l.getD i 0⟩, rfl, trivial, ?_⟩
        refine cond_split (fun h => ?_) (fun h => ?_)
        · have hT2 : indexB digs (l.getD i 0) < 0 := of_decide_eq_true h
          refine And.intro lz ?_
          refine And.intro ⟨lz, hz⟩ ?_
          refine And.intro (Nat.le_refl 32) ?_
          refine ⟨_, lay_all (vs := repl 32 [AV.int .u8 0]) rfl, ?_⟩
          refine ⟨_, (by first | exact SubSt.refl _ | exact SubTop.refl _), ?_⟩
          refine ⟨_, ⟨tda lz, lz, by omega⟩, ?_⟩
          rw [repl_bys]
          rcases index_digs (l.getD i 0) with ⟨h2, h3⟩ | ⟨h2, h3⟩
          · omega
          · exact ret2 (parse_no (parses_bad (i := i) (by omega) h3))
        · have hF2 : ¬ indexB digs (l.getD i 0) < 0 := of_decide_eq_false h
          obtain ⟨h2, h3⟩ : indexB digs (l.getD i 0) = digV (l.getD i 0) ∧ digV (l.getD i 0) < 16 := by
            rcases index_digs (l.getD i 0) with h2 | ⟨h2, h3⟩
            · exact h2
            · omega
          refine And.intro (by decide) ?_
          refine And.intro (by rw [q]; omega) ?_
          refine And.intro (by decide) ?_
          refine And.intro (by rw [q]; omega) ?_
          refine And.intro (by rw [q]; omega) ?_
          refine ⟨_, bys_get (l := nibA l i) (by rw [e1]; omega), ?_⟩
          refine And.intro (by decide) ?_
          refine And.intro (by rw [q]; omega) ?_
          refine And.intro (by rw [e1, bys_length]; omega) ?_
          refine And.intro (by omega) ?_
          refine ⟨i + 1, ⟨by omega, ?_⟩, by dsimp only; omega, ?_⟩
          · intro j hj
            by_cases h1 : j = i
            · subst h1; exact h3
            exact hn j (by omega)
          refine sub_ren [0, 1] rfl (by decide) ⟨⟨_, rfl, rfl⟩, ⟨_, rfl, ⟨0, rfl, rfl⟩⟩, ⟨_, rfl, rfl⟩, ⟨_, rfl, ⟨1, rfl, rfl⟩⟩, ⟨_, rfl, rfl⟩, ⟨_, rfl, eI (by omega)⟩, trivial⟩ ⟨⟨0, _, rfl, rfl, ⟨_, rfl, eB rfl⟩⟩, ⟨1, _, rfl, rfl, ⟨_, rfl, eB ?_⟩⟩, trivial⟩
          rw [e1, h2, nib_step (by omega) h3 hn]
      · have hF : ¬ ((i : Int) < 64) := of_decide_eq_false h
        have : i = 64 := by omega
        subst this
        have ln : (bys (unhex l 32)).length = 32 := by rw [bys_length, unhex_len]
        have e5 : nibA l 64 = unhex l 32 := by
          show unhex l 32 ++ List.replicate 0 0 = unhex l 32
          simp
        refine ⟨bys (unhex l 32), ⟨by rw [e5]; exact tda ln, ln⟩, ?_⟩
        refine And.intro ⟨ln, bys_all _⟩ ?_
        refine And.intro (Nat.le_refl 32) ?_
        refine ⟨_, lay_all (by rw [ln]; rfl), ?_⟩
        refine ⟨_, (by first | exact SubSt.refl _ | exact SubTop.refl _), ?_⟩
        refine ⟨_, ⟨tda ln, ln, by omega⟩, ?_⟩
        exact ret2 (parse_yes (parses_good hl (fun i hi => hn i (by omega))))

end Qk

/-
  The digest of the program.
-/
namespace Qk
open Go Go.RowKit

theorem hfixOf {τ : List Nat} {m : Nat} (k : Nat) (hm : m = k) (h : ((List.range k).all fun i => decide (τ[i]? = some i)) = true) : ∀ i, i < m → τ[i]? = some i := by
  intro i hi
  subst hm
  rw [List.all_eq_true] at h
  simpa using h i (List.mem_range.2 hi)

/-- What follows the whole blocks. -/
def lastB (s : List UInt8) : List UInt8 := s.drop (64 * (s.length / 64)) ++ [128]
theorem lastB_len (s : List UInt8) : (lastB s).length = s.length % 64 + 1 := by
  simp [lastB]; omega
theorem pad_eq (s : List UInt8) : pad s = s.take (64 * (s.length / 64)) ++ (lastB s ++ List.replicate (padN s.length) 0 ++ be8 (bitLen s) 8) := by
  unfold pad lastB
  simp only [← List.append_assoc]
  rw [List.take_append_drop]
theorem block_whole {s : List UInt8} {k : Nat} (h : 64 * k + 64 ≤ s.length) : ((pad s).drop (64 * k)).take 64 = (s.drop (64 * k)).take 64 := by
  unfold pad
  rw [List.append_assoc, List.append_assoc, List.drop_append_of_le_length (by omega), List.take_append_of_le_length (by rw [List.length_drop]; omega)]
/-- What follows the whole blocks, padded. -/
def fullB (s : List UInt8) : List UInt8 := lastB s ++ List.replicate (padN s.length) 0 ++ be8 (bitLen s) 8
theorem block_last {s : List UInt8} (j : Nat) : ((pad s).drop (64 * (s.length / 64 + j))).take 64 = ((fullB s).drop (64 * j)).take 64 := by
  unfold fullB
  rw [pad_eq s, List.drop_append]
  have e : (s.take (64 * (s.length / 64))).length = 64 * (s.length / 64) := by rw [List.length_take]; omega
  rw [e, List.drop_of_length_le (by rw [e]; omega), List.nil_append]
  congr 2
  omega

set_option maxHeartbeats 4000000 in
theorem d_sha256_Sum : Does ir_sha256_Sum C_sha256_Sum := by
  intro (s : List UInt8) (hl : s.length ≤ 1099511627776)
  have pl := pad_len s
  have pm := pad_mod s
  have hp : padN s.length ≤ 63 := by unfold padN; omega
  have ll := lastB_len s
  have li : (ints .u32 iv).length = 8 := rfl
  refine ⟨(), rfl, trivial, ?_⟩
  refine And.intro ⟨li, ints_all .u32 iv⟩ ?_
  refine And.intro (Nat.le_refl 8) ?_
  refine ⟨_, lay_all (vs := ints .u32 iv) rfl, ?_⟩
  refine And.intro rfl ?_
  refine ⟨_, (by first | exact SubSt.refl _ | exact SubTop.refl _), ?_⟩
  refine And.intro rfl (fun lp => ?_)
  have q : Int.tdiv (s.length : Int) 64 = ((s.length / 64 : Nat) : Int) := tdivN s.length 64
  have body : ∀ k : Nat, 64 * k + 64 ≤ (pad s).length → (((pad s).drop (64 * k)).take 64).length = 64 := by
    intro k hk
    rw [List.length_take, List.length_drop]; omega
  refine ⟨_, rfl, ?_⟩
  refine And.intro (by decide) ?_
  refine And.intro (by rw [q]; omega) ?_
  refine And.intro (by rw [q]; omega) ?_
  refine ⟨Nat, fun k => k ≤ s.length / 64, fun k => mks [(0, .raw (.func (.yield lp) #[] #[])), (1, .ref 2 0), (3, .int .i64 (64 * (s.length / 64 : Nat))), (4, .int .i64 (64 * k))]
    [(0, .cells (bys (List.replicate 32 0))), (1, .cells (ints .u32 (foldB (pad s) k))), (2, .cells [.str s])] 3, fun k => s.length / 64 - k, 0, by omega, ?_, ?_⟩
  · refine sub_renF [0, 1, 2] (hfixOf 3 rfl (by decide)) rfl (by decide) ⟨⟨_, rfl, rfl⟩, ⟨_, rfl, ⟨2, rfl, rfl⟩⟩, ⟨_, rfl, eI ?_⟩, ⟨_, rfl, rfl⟩, trivial⟩ ⟨⟨0, _, rfl, rfl, ⟨_, rfl, eB ?_⟩⟩, ⟨1, _, rfl, rfl, ⟨_, rfl, eR rfl⟩⟩, ⟨2, _, rfl, rfl, ?_⟩, trivial⟩
    · rw [q]; omega
    · exact repl_bys 32
    · exact ⟨_, rfl, eN (nnl_str _) rfl⟩
  · intro k hk
    have lf := foldB_len (pad s) k
    have lF : (ints .u32 (foldB (pad s) k)).length = 8 := by rw [ints_length, lf]
    refine cond_split (fun h => ?_) (fun h => ?_)
    · have hT : 64 * (k : Int) < 64 * (s.length / 64 : Nat) := of_decide_eq_true h
      refine ⟨_, rfl, ?_⟩
      refine And.intro (by omega) ?_
      refine And.intro (by omega) ?_
      refine And.intro rfl ?_
      refine And.intro rfl ?_
      refine And.intro rfl ?_
      have e1 : (s.drop (64 * (k : Int)).toNat).take ((64 * (k : Int) + 64).toNat - (64 * (k : Int)).toNat) = ((pad s).drop (64 * k)).take 64 := by
        have e2 : (64 * (k : Int) + 64).toNat - (64 * (k : Int)).toNat = 64 := by omega
        have e3 : (64 * (k : Int)).toNat = 64 * k := by omega
        rw [e2, e3, block_whole (by omega)]
      have b2 := body k (by omega)
      rw [e1]
      refine ⟨ints .u32 (foldB (pad s) k), ⟨tda lF, lF⟩, ?_⟩
      refine And.intro (plainA_ints _ _).nn ?_
      refine ⟨⟨_, _⟩, rfl, ⟨lf, b2⟩, ?_⟩
      have lc : (ints .u32 (foldB (pad s) (k + 1))).length = 8 := by rw [ints_length, foldB_len]
      refine And.intro ⟨lc, ints_all .u32 (foldB (pad s) (k + 1))⟩ ?_
      refine And.intro (by rw [lF]; exact Nat.le_refl 8) ?_
      refine ⟨_, lay_all (vs := ints .u32 (foldB (pad s) (k + 1))) (by rw [lF, lc]), ?_⟩
      refine And.intro (by omega) ?_
      refine ⟨k + 1, by omega, by dsimp only; omega, ?_⟩
      refine sub_renF [0, 1, 2] (hfixOf 3 rfl (by decide)) rfl (by decide) ⟨⟨_, rfl, rfl⟩, ⟨_, rfl, ⟨2, rfl, rfl⟩⟩, ⟨_, rfl, rfl⟩, ⟨_, rfl, eI (by omega)⟩, trivial⟩ ⟨⟨0, _, rfl, rfl, ⟨_, rfl, eB rfl⟩⟩, ⟨1, _, rfl, rfl, ⟨_, rfl, eR rfl⟩⟩, ⟨2, _, rfl, rfl, ?_⟩, trivial⟩
      exact ⟨_, rfl, eN (nnl_str _) rfl⟩
    · have hF : ¬ 64 * (k : Int) < 64 * (s.length / 64 : Nat) := of_decide_eq_false h
      have : k = s.length / 64 := by omega
      subst this
      refine ⟨_, rfl, ?_⟩
      refine And.intro ⟨by omega, by omega, by omega⟩ ?_
      have e6 : (s.drop (64 * ((s.length / 64 : Nat) : Int)).toNat).take ((s.length : Int).toNat - (64 * ((s.length / 64 : Nat) : Int)).toNat) = s.drop (64 * (s.length / 64)) := by
        have e2 : (64 * ((s.length / 64 : Nat) : Int)).toNat = 64 * (s.length / 64) := by omega
        rw [e2, List.take_of_length_le]
        rw [List.length_drop]; omega
      rw [e6]
      have l6 : (s.drop (64 * (s.length / 64))).length = s.length % 64 := by rw [List.length_drop]; omega
      refine And.intro ⟨(show (3 : Nat) ≠ 4 by decide), rfl, rfl, rfl, by rw [List.length_map, Nat.mul_one], (show (0 + 1) * 1 ≤ 1 by decide), one1, by rw [l6]; omega⟩ ⟨_, rfl, ?_⟩
      refine ⟨Nat, fun k => k ≤ padN s.length, fun k => mks [(0, .raw (.func (.yield lp) #[] #[])), (1, .ref 2 0), (5, .sl 3 0 (s.length % 64 + 1 + k))]
        [(0, .cells (bys (List.replicate 32 0))), (1, .cells (ints .u32 (foldB (pad s) (s.length / 64)))), (2, .cells [.str s]), (3, .lst 1 (bys (lastB s ++ List.replicate k 0)))] 4, fun k => padN s.length - k, 0, by omega, ?_, ?_⟩
      · refine sub_renF [0, 1, 2, 5] (hfixOf 3 rfl (by decide)) rfl (by decide) ⟨⟨_, rfl, rfl⟩, ⟨_, rfl, ⟨2, rfl, rfl⟩⟩, ⟨_, rfl, ⟨5, rfl, eSl ?_⟩⟩, trivial⟩ ⟨⟨0, _, rfl, rfl, ⟨_, rfl, eB rfl⟩⟩, ⟨1, _, rfl, rfl, ⟨_, rfl, eR rfl⟩⟩, ⟨2, _, rfl, rfl, ?_⟩, ⟨5, _, rfl, rfl, ⟨_, rfl, eB ?_⟩⟩, trivial⟩
        · rw [l6]
        · exact ⟨_, rfl, eN (nnl_str _) rfl⟩
        · simp only [lastB, List.replicate_zero, List.append_nil, bys_app]
          rfl
      · intro k hk
        have q2 : Int.tmod ((s.length % 64 + 1 + k : Nat) : Int) 64 = (((s.length % 64 + 1 + k) % 64 : Nat) : Int) := tmodN _ 64
        have l7 : (bys (lastB s ++ List.replicate k 0)).length = s.length % 64 + 1 + k := by rw [bys_length, List.length_append, ll, List.length_replicate]
        refine And.intro (by decide) ?_
        refine cond_split (fun h => ?_) (fun h => ?_)
        · have hT : ¬ Int.tmod ((s.length % 64 + 1 + k : Nat) : Int) 64 = 56 := by simpa using h
          rw [q2] at hT
          refine And.intro ⟨(show (3 : Nat) ≠ 4 by decide), rfl, rfl, rfl, by rw [l7]; omega, (show (0 + 1) * 1 ≤ 1 by decide), one1, by omega⟩ ⟨_, rfl, ?_⟩
          refine ⟨k + 1, by unfold padN at hk ⊢; omega, by unfold padN at hk ⊢; dsimp only; omega, ?_⟩
          refine sub_renF [0, 1, 2, 5] (hfixOf 3 rfl (by decide)) rfl (by decide) ⟨⟨_, rfl, rfl⟩, ⟨_, rfl, ⟨2, rfl, rfl⟩⟩, ⟨_, rfl, ⟨5, rfl, eSl (by omega)⟩⟩, trivial⟩ ⟨⟨0, _, rfl, rfl, ⟨_, rfl, eB rfl⟩⟩, ⟨1, _, rfl, rfl, ⟨_, rfl, eR rfl⟩⟩, ⟨2, _, rfl, rfl, ?_⟩, ⟨5, _, rfl, rfl, ⟨_, rfl, eB ?_⟩⟩, trivial⟩
          · exact ⟨_, rfl, eN (nnl_str _) rfl⟩
          · rw [List.replicate_succ', ← List.append_assoc, bys_app (lastB s ++ _)]
            rfl
        · have hF : Int.tmod ((s.length % 64 + 1 + k : Nat) : Int) 64 = 56 := by simpa using h
          rw [q2] at hF
          have : k = padN s.length := by unfold padN at hk ⊢; omega
          subst this
          refine ⟨Nat, fun k => k ≤ 8, fun k => mks [(0, .raw (.func (.yield lp) #[] #[])), (1, .ref 2 0), (5, .sl 3 0 (s.length % 64 + 1 + padN s.length + k)), (6, .int .i64 (56 - 8 * k))]
            [(0, .cells (bys (List.replicate 32 0))), (1, .cells (ints .u32 (foldB (pad s) (s.length / 64)))), (2, .cells [.str s]), (3, .lst 1 (bys (lastB s ++ List.replicate (padN s.length) 0 ++ be8 (bitLen s) k)))] 4, fun k => 8 - k, 0, by omega, ?_, ?_⟩
          · refine sub_renF [0, 1, 2, 3] (hfixOf 3 rfl (by decide)) rfl (by decide) ⟨⟨_, rfl, rfl⟩, ⟨_, rfl, ⟨2, rfl, rfl⟩⟩, ⟨_, rfl, ⟨3, rfl, rfl⟩⟩, ⟨_, rfl, rfl⟩, trivial⟩ ⟨⟨0, _, rfl, rfl, ⟨_, rfl, eB rfl⟩⟩, ⟨1, _, rfl, rfl, ⟨_, rfl, eR rfl⟩⟩, ⟨2, _, rfl, rfl, ?_⟩, ⟨3, _, rfl, rfl, ⟨_, rfl, eB ?_⟩⟩, trivial⟩
            · exact ⟨_, rfl, eN (nnl_str _) rfl⟩
            · simp [be8]
          · intro k hk
            have l8 : (bys (lastB s ++ List.replicate (padN s.length) 0 ++ be8 (bitLen s) k)).length = s.length % 64 + 1 + padN s.length + k := by
              rw [bys_length, List.length_append, List.length_append, ll, List.length_replicate, be8_len]
            refine cond_split (fun h => ?_) (fun h => ?_)
            · have hT : (0 : Int) ≤ 56 - 8 * k := of_decide_eq_true h
              refine ⟨_, rfl, ?_⟩
              refine And.intro (by omega) ?_
              refine And.intro ⟨(show (3 : Nat) ≠ 4 by decide), rfl, rfl, rfl, by rw [l8]; omega, (show (0 + 1) * 1 ≤ 1 by decide), one1, by omega⟩ ⟨_, rfl, ?_⟩
              refine And.intro (by omega) ?_
              refine ⟨k + 1, by omega, by dsimp only; omega, ?_⟩
              refine sub_renF [0, 1, 2, 5] (hfixOf 3 rfl (by decide)) rfl (by decide) ⟨⟨_, rfl, rfl⟩, ⟨_, rfl, ⟨2, rfl, rfl⟩⟩, ⟨_, rfl, ⟨5, rfl, eSl (by omega)⟩⟩, ⟨_, rfl, eI (by omega)⟩, trivial⟩ ⟨⟨0, _, rfl, rfl, ⟨_, rfl, eB rfl⟩⟩, ⟨1, _, rfl, rfl, ⟨_, rfl, eR rfl⟩⟩, ⟨2, _, rfl, rfl, ?_⟩, ⟨5, _, rfl, rfl, ⟨_, rfl, eB ?_⟩⟩, trivial⟩
              · exact ⟨_, rfl, eN (nnl_str _) rfl⟩
              · rw [be8, ← List.append_assoc]
                refine Eq.trans ?_ (bys_app (lastB s ++ List.replicate (padN s.length) 0 ++ be8 (bitLen s) k) _).symm
                refine congrArg (bys (lastB s ++ List.replicate (padN s.length) 0 ++ be8 (bitLen s) k) ++ ·) ?_
                exact congrArg (fun z => [AV.int .u8 z]) (by8_int _).symm
            · have hF : ¬ (0 : Int) ≤ 56 - 8 * k := of_decide_eq_false h
              have : k = 8 := by omega
              subst this
              have lL : (fullB s).length = s.length % 64 + 1 + padN s.length + 8 := by rw [bys_length] at l8; exact l8
              refine ⟨Nat, fun j => s.length / 64 + j ≤ (pad s).length / 64, fun j => mks [(0, .raw (.func (.yield lp) #[] #[])), (5, .sl 3 0 (fullB s).length), (7, .int .i64 (64 * j))]
                [(0, .cells (bys (List.replicate 32 0))), (1, .cells (ints .u32 (foldB (pad s) (s.length / 64 + j)))), (2, .cells [.str s]), (3, .lst 1 (bys (fullB s)))] 4, fun j => (pad s).length / 64 - (s.length / 64 + j), 0, by omega, ?_, ?_⟩
              · refine sub_renF [0, 1, 2, 3] (hfixOf 3 rfl (by decide)) rfl (by decide) ⟨⟨_, rfl, rfl⟩, ⟨_, rfl, ⟨3, rfl, eSl ?_⟩⟩, ⟨_, rfl, rfl⟩, trivial⟩ ⟨⟨0, _, rfl, rfl, ⟨_, rfl, eB rfl⟩⟩, ⟨1, _, rfl, rfl, ⟨_, rfl, eR rfl⟩⟩, ⟨2, _, rfl, rfl, ?_⟩, ⟨3, _, rfl, rfl, ⟨_, rfl, eB rfl⟩⟩, trivial⟩
                · rw [lL]
                · exact ⟨_, rfl, eN (nnl_str _) rfl⟩
              · intro j hj
                have lf := foldB_len (pad s) (s.length / 64 + j)
                have lF : (ints .u32 (foldB (pad s) (s.length / 64 + j))).length = 8 := by rw [ints_length, lf]
                refine cond_split (fun h => ?_) (fun h => ?_)
                · have hT : 64 * (j : Int) < (fullB s).length := of_decide_eq_true h
                  refine And.intro (by omega) ?_
                  refine And.intro ⟨rfl, by omega, by omega, by omega⟩ ?_
                  refine And.intro rfl ?_
                  have b2 := body (s.length / 64 + j) (by omega)
                  refine ⟨((pad s).drop (64 * (s.length / 64 + j))).take 64, ⟨?_, ?_⟩, ?_⟩
                  · have e2 : (64 * (j : Int) + 64).toNat - (64 * (j : Int)).toNat = 64 := by omega
                    have e3 : 0 + (64 * (j : Int)).toNat = 64 * j := by omega
                    rw [e2, e3, block_last]
                    simp [bys, List.map_drop, List.map_take]
                  · rw [b2]; omega
                  refine And.intro rfl ?_
                  refine And.intro rfl ?_
                  refine And.intro rfl ?_
                  refine ⟨ints .u32 (foldB (pad s) (s.length / 64 + j)), ⟨tda lF, lF⟩, ?_⟩
                  refine And.intro (plainA_ints _ _).nn ?_
                  refine ⟨⟨_, _⟩, rfl, ⟨lf, b2⟩, ?_⟩
                  have lc : (ints .u32 (foldB (pad s) (s.length / 64 + j + 1))).length = 8 := by rw [ints_length, foldB_len]
                  refine And.intro ⟨lc, ints_all .u32 (foldB (pad s) (s.length / 64 + j + 1))⟩ ?_
                  refine And.intro (by rw [lF]; exact Nat.le_refl 8) ?_
                  refine ⟨_, lay_all (vs := ints .u32 (foldB (pad s) (s.length / 64 + j + 1))) (by rw [lF, lc]), ?_⟩
                  refine And.intro (by omega) ?_
                  refine ⟨j + 1, by omega, by dsimp only; omega, ?_⟩
                  refine sub_renF [0, 1, 2, 3] (hfixOf 3 rfl (by decide)) rfl (by decide) ⟨⟨_, rfl, rfl⟩, ⟨_, rfl, ⟨3, rfl, rfl⟩⟩, ⟨_, rfl, eI (by omega)⟩, trivial⟩ ⟨⟨0, _, rfl, rfl, ⟨_, rfl, eB rfl⟩⟩, ⟨1, _, rfl, rfl, ⟨_, rfl, eR rfl⟩⟩, ⟨2, _, rfl, rfl, ?_⟩, ⟨3, _, rfl, rfl, ⟨_, rfl, eB rfl⟩⟩, trivial⟩
                  exact ⟨_, rfl, eN (nnl_str _) rfl⟩
                · have hF : ¬ 64 * (j : Int) < (fullB s).length := of_decide_eq_false h
                  have hfin : s.length / 64 + j = (pad s).length / 64 := by omega
                  rw [hfin] at lF
                  refine ⟨mks [] [(0, .cells (bys (List.replicate 32 0))), (1, .cells (ints .u32 (foldB (pad s) ((pad s).length / 64))))] 3, ?_, ?_⟩
                  · refine sub_renF [0, 1, 2] (hfixOf 3 rfl (by decide)) rfl (by decide) trivial ⟨⟨0, _, rfl, rfl, ⟨_, rfl, eB rfl⟩⟩, ⟨1, _, rfl, rfl, ⟨_, rfl, eR' ?_⟩⟩, trivial⟩
                    rw [hfin]
                  refine ⟨ints .u32 (foldB (pad s) ((pad s).length / 64)), ⟨tda lF, lF⟩, ?_⟩
                  generalize hw : foldB (pad s) ((pad s).length / 64) = W
                  rw [hw] at lF
                  have lW : W.length = 8 := by rw [ints_length] at lF; exact lF
                  refine ⟨Nat, fun i => i ≤ 8, fun i => mks [(2, .ref 0 0), (5, .ref 1 0), (16, .agg (ints .u32 W)), (17, .int .i64 i)]
                    [(0, .cells (bys (List.replicate 32 0))), (1, .cells (bys (dig W (4 * i) ++ List.replicate (32 - 4 * i) 0)))] 2, fun i => 8 - i, 0, by omega, ?_, ?_⟩
                  · refine sub_ren [0, 3] rfl (by decide) ⟨⟨_, rfl, ⟨0, rfl, rfl⟩⟩, ⟨_, rfl, ⟨3, rfl, rfl⟩⟩, ⟨_, rfl, ?_⟩, ⟨_, rfl, rfl⟩, trivial⟩ ⟨⟨0, _, rfl, rfl, ⟨_, rfl, eB rfl⟩⟩, ⟨3, _, rfl, rfl, ⟨_, rfl, eB ?_⟩⟩, trivial⟩
                    · exact .inl ⟨rfl, nnl_ints _ _⟩
                    · exact repl_bys 32
                  · intro i hi
                    refine cond_split (fun h => ?_) (fun h => ?_)
                    · have hT : (i : Int) < 8 := of_decide_eq_true h
                      refine And.intro (by omega) ?_
                      refine ⟨_, ints_get (xs := W) (by omega), ?_⟩
                      refine ⟨Nat, fun k => k ≤ 4, fun k => mks [(2, .ref 0 0), (5, .ref 1 0), (6, .int .i64 i), (7, .int .u32 (W.getD i 0)), (16, .agg (ints .u32 W)), (17, .int .i64 i), (21, .int .i64 k)]
                        [(0, .cells (bys (List.replicate 32 0))), (1, .cells (bys (dig W (4 * i + k) ++ List.replicate (32 - (4 * i + k)) 0)))] 2, fun k => 4 - k, 0, by omega, ?_, ?_⟩
                      · refine sub_ren [0, 1] rfl (by decide) ⟨⟨_, rfl, ⟨0, rfl, rfl⟩⟩, ⟨_, rfl, ⟨1, rfl, rfl⟩⟩, ⟨_, rfl, rfl⟩, ⟨_, rfl, eI ?_⟩, ⟨_, rfl, ?_⟩, ⟨_, rfl, rfl⟩, ⟨_, rfl, rfl⟩, trivial⟩ ⟨⟨0, _, rfl, rfl, ⟨_, rfl, eB rfl⟩⟩, ⟨1, _, rfl, rfl, ⟨_, rfl, eB rfl⟩⟩, trivial⟩
                        · congr 1; omega
                        · exact .inl ⟨rfl, nnl_ints _ _⟩
                      · intro k hk
                        refine cond_split (fun h => ?_) (fun h => ?_)
                        · have hT : (k : Int) < 4 := of_decide_eq_true h
                          refine And.intro (by omega) ?_
                          refine And.intro (by omega) ?_
                          refine And.intro (by omega) ?_
                          refine And.intro (by omega) ?_
                          refine And.intro (by omega) ?_
                          refine And.intro (by omega) ?_
                          have ld : (bys (dig W (4 * i + k) ++ List.replicate (32 - (4 * i + k)) 0)).length = 32 := by rw [bys_length, List.length_append, dig_len, List.length_replicate]; omega
                          refine And.intro (by rw [ld]; omega) ?_
                          refine And.intro (by omega) ?_
                          refine ⟨k + 1, by omega, by dsimp only; omega, ?_⟩
                          refine sub_ren [0, 1] rfl (by decide) ⟨⟨_, rfl, ⟨0, rfl, rfl⟩⟩, ⟨_, rfl, ⟨1, rfl, rfl⟩⟩, ⟨_, rfl, rfl⟩, ⟨_, rfl, rfl⟩, ⟨_, rfl, ?_⟩, ⟨_, rfl, rfl⟩, ⟨_, rfl, eI (by omega)⟩, trivial⟩ ⟨⟨0, _, rfl, rfl, ⟨_, rfl, eB rfl⟩⟩, ⟨1, _, rfl, rfl, ⟨_, rfl, eB ?_⟩⟩, trivial⟩
                          · exact .inl ⟨rfl, nnl_ints _ _⟩
                          · have e4 : 0 + (4 * (i : Int) + k).toNat * 1 = 4 * i + k := by omega
                            rw [e4]
                            refine dig_step W (by omega) ?_ ?_
                            · have : (4 * i + k) % 4 = k := by omega
                              rw [this]
                            · have : (4 * i + k) / 4 = i := by omega
                              rw [this]
                        · have hF : ¬ ((k : Int) < 4) := of_decide_eq_false h
                          have : k = 4 := by omega
                          subst this
                          refine And.intro (by omega) ?_
                          refine ⟨i + 1, by omega, by dsimp only; omega, ?_⟩
                          refine sub_ren [0, 1] rfl (by decide) ⟨⟨_, rfl, ⟨0, rfl, rfl⟩⟩, ⟨_, rfl, ⟨1, rfl, rfl⟩⟩, ⟨_, rfl, ?_⟩, ⟨_, rfl, eI (by omega)⟩, trivial⟩ ⟨⟨0, _, rfl, rfl, ⟨_, rfl, eB rfl⟩⟩, ⟨1, _, rfl, rfl, ⟨_, rfl, eB rfl⟩⟩, trivial⟩
                          exact .inl ⟨rfl, nnl_ints _ _⟩
                    · have hF : ¬ ((i : Int) < 8) := of_decide_eq_false h
                      have : i = 8 := by omega
                      subst this
                      have ln : (bys (dig W 32)).length = 32 := by rw [bys_length, dig_len]
                      have e5 : dig W (4 * 8) ++ List.replicate (32 - 4 * 8) 0 = dig W 32 := by simp
                      refine ⟨bys (dig W 32), ⟨by rw [e5]; exact tda ln, ln⟩, ?_⟩
                      refine And.intro ⟨ln, bys_all _⟩ ?_
                      refine And.intro (Nat.le_refl 32) ?_
                      refine ⟨_, lay_all (by rw [ln]; rfl), ?_⟩
                      refine ⟨_, (by first | exact SubSt.refl _ | exact SubTop.refl _), ?_⟩
                      refine ⟨_, ⟨tda ln, ln, by omega⟩, ?_⟩
                      rw [← hw]
                      rfl

end Qk

/-
  The compression, reckoned with natural numbers: quick for the kernel, and equal to what the functions compute.
-/
namespace Qk
open Go Go.RowKit

/-- The value of x, at hand. -/
def force {α : Type} (x : Nat) (k : Nat → α) : α := match x with
  | 0 => k 0
  | Nat.succ n => k (Nat.succ n)
theorem force_eq {α : Type} (x : Nat) (k : Nat → α) : force x k = k x := by cases x <;> rfl

def m32 (x : Nat) : Nat := Nat.mod x 4294967296
def dbl (x : Nat) : Nat := Nat.mul x 4294967297
def s1F (e : Nat) : Nat := force (dbl e) fun d => m32 (Nat.xor (Nat.xor (Nat.shiftRight d 6) (Nat.shiftRight d 11)) (Nat.shiftRight d 25))
def s0F (a : Nat) : Nat := force (dbl a) fun d => m32 (Nat.xor (Nat.xor (Nat.shiftRight d 2) (Nat.shiftRight d 13)) (Nat.shiftRight d 22))
def g0F (x : Nat) : Nat := force (dbl x) fun d => Nat.xor (m32 (Nat.xor (Nat.shiftRight d 7) (Nat.shiftRight d 18))) (Nat.shiftRight x 3)
def g1F (x : Nat) : Nat := force (dbl x) fun d => Nat.xor (m32 (Nat.xor (Nat.shiftRight d 17) (Nat.shiftRight d 19))) (Nat.shiftRight x 10)
def chF (e f g : Nat) : Nat := Nat.xor (Nat.land e f) (Nat.land (Nat.xor 4294967295 e) g)
def mjF (a b c : Nat) : Nat := Nat.xor (Nat.xor (Nat.land a b) (Nat.land a c)) (Nat.land b c)
def t1F (e f g h k w : Nat) : Nat := Nat.add (Nat.add (Nat.add (Nat.add h (s1F e)) (chF e f g)) k) w
def t2F (a b c : Nat) : Nat := Nat.add (s0F a) (mjF a b c)
def nwF (w0 w1 w9 w14 : Nat) : Nat := m32 (Nat.add (Nat.add (Nat.add (g1F w14) w9) (g0F w1)) w0)

/-- The rounds: the constants to come; the next sixteen words; the state; what is done with the state at the end. -/
def rF {α : Type} (K : Nat → Nat → Nat → Nat → Nat → Nat → Nat → Nat → α) : List Nat →
    Nat → Nat → Nat → Nat → Nat → Nat → Nat → Nat → Nat → Nat → Nat → Nat → Nat → Nat → Nat → Nat →
    Nat → Nat → Nat → Nat → Nat → Nat → Nat → Nat → α
  | [], _, _, _, _, _, _, _, _, _, _, _, _, _, _, _, _, a, b, c, d, e, f, g, h => K a b c d e f g h
  | k :: ks, w0, w1, w2, w3, w4, w5, w6, w7, w8, w9, w10, w11, w12, w13, w14, w15, a, b, c, d, e, f, g, h =>
    force (t1F e f g h k w0) fun t1 => force (m32 (Nat.add t1 (t2F a b c))) fun na => force (m32 (Nat.add d t1)) fun ne => force (nwF w0 w1 w9 w14) fun nw =>
      rF K ks w1 w2 w3 w4 w5 w6 w7 w8 w9 w10 w11 w12 w13 w14 w15 nw na a b c ne e f g

def kcN : List Nat := [1116352408, 1899447441, 3049323471, 3921009573, 961987163, 1508970993, 2453635748, 2870763221, 3624381080, 310598401, 607225278, 1426881987, 1925078388, 2162078206, 2614888103, 3248222580, 3835390401, 4022224774, 264347078, 604807628, 770255983, 1249150122, 1555081692, 1996064986, 2554220882, 2821834349, 2952996808, 3210313671, 3336571891, 3584528711, 113926993, 338241895, 666307205, 773529912, 1294757372, 1396182291, 1695183700, 1986661051, 2177026350, 2456956037, 2730485921, 2820302411, 3259730800, 3345764771, 3516065817, 3600352804, 4094571909, 275423344, 430227734, 506948616, 659060556, 883997877, 958139571, 1322822218, 1537002063, 1747873779, 1955562222, 2024104815, 2227730452, 2361852424, 2428436474, 2756734187, 3204031479, 3329325298]
theorem kcN_eq : kc = kcN.map fun (n : Nat) => (n : Int) := by decide +kernel

/-- One block: the state, the sixteen words of the block; what is done with the state behind it. -/
def cF {α : Type} (a b c d e f g h w0 w1 w2 w3 w4 w5 w6 w7 w8 w9 w10 w11 w12 w13 w14 w15 : Nat) (K : Nat → Nat → Nat → Nat → Nat → Nat → Nat → Nat → α) : α :=
  rF (fun a' b' c' d' e' f' g' h' => force (m32 (Nat.add a a')) fun a => force (m32 (Nat.add b b')) fun b => force (m32 (Nat.add c c')) fun c => force (m32 (Nat.add d d')) fun d =>
    force (m32 (Nat.add e e')) fun e => force (m32 (Nat.add f f')) fun f => force (m32 (Nat.add g g')) fun g => force (m32 (Nat.add h h')) fun h => K a b c d e f g h) kcN
    w0 w1 w2 w3 w4 w5 w6 w7 w8 w9 w10 w11 w12 w13 w14 w15 a b c d e f g h

theorem m32_lt (x : Nat) : m32 x < 4294967296 := Nat.mod_lt _ (by decide)

theorem ofInt32 {a : Nat} (ha : a < 4294967296) : (BitVec.ofInt IntKind.u32.bits (a : Int)).toNat = a := by
  show (BitVec.ofInt 32 (a : Int)).toNat = a
  rw [BitVec.toNat_ofInt]; omega
theorem xorI_nat {a b : Nat} (ha : a < 4294967296) (hb : b < 4294967296) : xorI .u32 (a : Int) (b : Int) = ((Nat.xor a b : Nat) : Int) := by
  have h : a ^^^ b < 2 ^ 32 := Nat.xor_lt_two_pow (by omega) (by omega)
  unfold xorI
  simp only [BitVec.toNat_xor]
  rw [ofInt32 ha, ofInt32 hb]
  show ((a ^^^ b : Nat) : Int) % 4294967296 = ((a ^^^ b : Nat) : Int)
  omega
theorem andI_nat {a b : Nat} (ha : a < 4294967296) (hb : b < 4294967296) : andI .u32 (a : Int) (b : Int) = ((Nat.land a b : Nat) : Int) := by
  have h : a &&& b < 2 ^ 32 := Nat.and_lt_two_pow _ (by omega)
  unfold andI
  simp only [BitVec.toNat_and]
  rw [ofInt32 ha, ofInt32 hb]
  show ((a &&& b : Nat) : Int) % 4294967296 = ((a &&& b : Nat) : Int)
  omega
theorem xor_lt {a b : Nat} (ha : a < 4294967296) (hb : b < 4294967296) : Nat.xor a b < 4294967296 := by
  have h : a ^^^ b < 2 ^ 32 := Nat.xor_lt_two_pow (by omega) (by omega)
  exact h
theorem land_lt {a b : Nat} (hb : b < 4294967296) : Nat.land a b < 4294967296 := by
  have h : a &&& b < 2 ^ 32 := Nat.and_lt_two_pow _ (by omega)
  exact h
theorem shrI_nat (a n : Nat) (hn : n ≤ 32) : shrI .u32 (a : Int) (n : Int) = ((Nat.shiftRight a n : Nat) : Int) := by
  unfold shrI
  have e : min (n : Int).toNat IntKind.u32.bits = n := by
    show min (n : Int).toNat 32 = n
    omega
  rw [e]
  have e2 : ((2 : Int) ^ n) = ((2 ^ n : Nat) : Int) := by push_cast; rfl
  rw [e2, Int.fdiv_eq_ediv_of_nonneg _ (Int.natCast_nonneg _)]
  show _ = ((a >>> n : Nat) : Int)
  rw [Nat.shiftRight_eq_div_pow]
  push_cast
  rfl
theorem shr_lt {a n : Nat} (ha : a < 4294967296) : Nat.shiftRight a n < 4294967296 := by
  show a >>> n < _
  rw [Nat.shiftRight_eq_div_pow]
  exact Nat.lt_of_le_of_lt (Nat.div_le_self _ _) ha

/-- A rotation is a shift of the doubled word. -/
theorem rot_nat {x : Nat} (n : Nat) (hx : x < 4294967296) (h1 : 1 ≤ n) (h2 : n ≤ 31) : rotr (x : Int) (n : Int) = ((m32 (Nat.shiftRight (dbl x) n) : Nat) : Int) := by
  unfold rotr
  have e1 : ((32 - (n : Int)) % 18446744073709551616) = ((32 - n : Nat) : Int) := by omega
  rw [e1, shrI_nat x n (by omega)]
  have hp : 2 ^ n * 2 ^ (32 - n) = 4294967296 := by rw [← Nat.pow_add, show n + (32 - n) = 32 by omega]
  have hpos : 0 < 2 ^ n := Nat.two_pow_pos n
  have hpos2 : 0 < 2 ^ (32 - n) := Nat.two_pow_pos _
  have e2 : shlI .u32 (x : Int) ((32 - n : Nat) : Int) = ((x % 2 ^ n * 2 ^ (32 - n) : Nat) : Int) := by
    unfold shlI
    have e : min ((32 - n : Nat) : Int).toNat IntKind.u32.bits = 32 - n := by
      show min ((32 - n : Nat) : Int).toNat 32 = 32 - n
      omega
    rw [e]
    show ((x : Int) * 2 ^ (32 - n)) % 4294967296 = _
    have e3 : (x : Int) * 2 ^ (32 - n) = ((x * 2 ^ (32 - n) : Nat) : Int) := by push_cast; rfl
    have e4 : x * 2 ^ (32 - n) % 4294967296 = x % 2 ^ n * 2 ^ (32 - n) := by
      rw [← hp, Nat.mul_mod_mul_right]
    rw [e3]
    omega
  rw [e2]
  have hs : Nat.shiftRight x n = x / 2 ^ n := Nat.shiftRight_eq_div_pow x n
  have hq : x / 2 ^ n < 2 ^ (32 - n) := by
    rw [Nat.div_lt_iff_lt_mul hpos, Nat.mul_comm, hp]; exact hx
  have hr : x % 2 ^ n * 2 ^ (32 - n) < 4294967296 := by
    rw [← hp]; exact Nat.mul_lt_mul_of_pos_right (Nat.mod_lt _ hpos) hpos2
  have hxq : x / 2 ^ n ≤ x := Nat.div_le_self _ _
  have hor : (x % 2 ^ n * 2 ^ (32 - n)) ||| (x / 2 ^ n) = x % 2 ^ n * 2 ^ (32 - n) + x / 2 ^ n := or_add hq
  rw [orI_nat (by rw [hs]; omega) hr, hs, Nat.or_comm, hor]
  have e5 : m32 (Nat.shiftRight (dbl x) n) = x % 2 ^ n * 2 ^ (32 - n) + x / 2 ^ n := by
    show (x * 4294967297) >>> n % 4294967296 = _
    rw [Nat.shiftRight_eq_div_pow]
    have e6 : x * 4294967297 = x * 2 ^ (32 - n) * 2 ^ n + x := by
      rw [Nat.mul_assoc, Nat.mul_comm (2 ^ (32 - n)), hp]; omega
    rw [e6, Nat.add_comm, Nat.add_mul_div_right _ _ hpos]
    have e7 : x * 2 ^ (32 - n) % 4294967296 = x % 2 ^ n * 2 ^ (32 - n) := by
      rw [← hp, Nat.mul_mod_mul_right]
    rw [Nat.add_mod, e7, Nat.mod_eq_of_lt (show x / 2 ^ n < 4294967296 by omega)]
    have hsum : x / 2 ^ n + x % 2 ^ n * 2 ^ (32 - n) < 4294967296 := by
      have h3 : x % 2 ^ n ≤ 2 ^ n - 1 := by have := Nat.mod_lt x hpos; omega
      have h4 : x % 2 ^ n * 2 ^ (32 - n) ≤ (2 ^ n - 1) * 2 ^ (32 - n) := Nat.mul_le_mul_right _ h3
      have h5 : (2 ^ n - 1) * 2 ^ (32 - n) = 4294967296 - 2 ^ (32 - n) := by rw [Nat.sub_mul, hp, Nat.one_mul]
      have h6 : 2 ^ (32 - n) ≤ 4294967296 := by rw [← hp]; exact Nat.le_mul_of_pos_left _ hpos
      omega
    rw [Nat.mod_eq_of_lt hsum, Nat.add_comm]
  rw [e5]

theorem m32_xor (a b : Nat) : Nat.xor (m32 a) (m32 b) = m32 (Nat.xor a b) := by
  show (a % 2 ^ 32) ^^^ (b % 2 ^ 32) = (a ^^^ b) % 2 ^ 32
  rw [Nat.xor_mod_two_pow]

theorem rot3 {x : Nat} (i j k : Nat) (hx : x < 4294967296) (i1 : 1 ≤ i ∧ i ≤ 31) (j1 : 1 ≤ j ∧ j ≤ 31) (k1 : 1 ≤ k ∧ k ≤ 31) :
    xorI .u32 (xorI .u32 (rotr (x : Int) (i : Int)) (rotr (x : Int) (j : Int))) (rotr (x : Int) (k : Int)) = ((m32 (Nat.xor (Nat.xor (Nat.shiftRight (dbl x) i) (Nat.shiftRight (dbl x) j)) (Nat.shiftRight (dbl x) k)) : Nat) : Int) := by
  rw [rot_nat i hx i1.1 i1.2, rot_nat j hx j1.1 j1.2, rot_nat k hx k1.1 k1.2, xorI_nat (m32_lt _) (m32_lt _), xorI_nat (xor_lt (m32_lt _) (m32_lt _)) (m32_lt _), m32_xor, m32_xor]
theorem rot2s {x : Nat} (i j k : Nat) (hx : x < 4294967296) (i1 : 1 ≤ i ∧ i ≤ 31) (j1 : 1 ≤ j ∧ j ≤ 31) (k1 : k ≤ 31) :
    xorI .u32 (xorI .u32 (rotr (x : Int) (i : Int)) (rotr (x : Int) (j : Int))) (shrI .u32 (x : Int) (k : Int)) = ((Nat.xor (m32 (Nat.xor (Nat.shiftRight (dbl x) i) (Nat.shiftRight (dbl x) j))) (Nat.shiftRight x k) : Nat) : Int) := by
  rw [rot_nat i hx i1.1 i1.2, rot_nat j hx j1.1 j1.2, shrI_nat x k (by omega), xorI_nat (m32_lt _) (m32_lt _), xorI_nat (xor_lt (m32_lt _) (m32_lt _)) (shr_lt hx), m32_xor]

theorem sig0_nat {x : Nat} (hx : x < 4294967296) : sig0 (x : Int) = ((g0F x : Nat) : Int) := by
  unfold g0F; rw [force_eq]; exact rot2s 7 18 3 hx (by decide) (by decide) (by decide)
theorem sig1_nat {x : Nat} (hx : x < 4294967296) : sig1 (x : Int) = ((g1F x : Nat) : Int) := by
  unfold g1F; rw [force_eq]; exact rot2s 17 19 10 hx (by decide) (by decide) (by decide)
theorem g0F_lt {x : Nat} (hx : x < 4294967296) : g0F x < 4294967296 := by unfold g0F; rw [force_eq]; exact xor_lt (m32_lt _) (shr_lt hx)
theorem g1F_lt {x : Nat} (hx : x < 4294967296) : g1F x < 4294967296 := by unfold g1F; rw [force_eq]; exact xor_lt (m32_lt _) (shr_lt hx)
theorem s1F_lt (x : Nat) : s1F x < 4294967296 := by unfold s1F; rw [force_eq]; exact m32_lt _
theorem s0F_lt (x : Nat) : s0F x < 4294967296 := by unfold s0F; rw [force_eq]; exact m32_lt _

/-- Words below the bound. -/
structure W8 (a b c d e f g h : Nat) : Prop where
  a : a < 4294967296
  b : b < 4294967296
  c : c < 4294967296
  d : d < 4294967296
  e : e < 4294967296
  f : f < 4294967296
  g : g < 4294967296
  h : h < 4294967296

def v8 (a b c d e f g h : Nat) : V8 := ⟨a, b, c, d, e, f, g, h⟩

theorem rnd_nat {a b c d e f g h : Nat} (hw : W8 a b c d e f g h) {k w : Nat} :
    rnd (v8 a b c d e f g h) (k : Int) (w : Int) = v8 (m32 (Nat.add (t1F e f g h k w) (t2F a b c))) a b c (m32 (Nat.add d (t1F e f g h k w))) e f g := by
  have c1 : cplU (e : Int) = ((Nat.xor 4294967295 e : Nat) : Int) := by
    unfold cplU
    exact xorI_nat (a := 4294967295) (by decide) hw.e
  have x1 : xorI .u32 (xorI .u32 (rotr (e : Int) 6) (rotr (e : Int) 11)) (rotr (e : Int) 25) = ((s1F e : Nat) : Int) := by
    unfold s1F; rw [force_eq]; exact rot3 6 11 25 hw.e (by decide) (by decide) (by decide)
  have x2 : xorI .u32 (xorI .u32 (rotr (a : Int) 2) (rotr (a : Int) 13)) (rotr (a : Int) 22) = ((s0F a : Nat) : Int) := by
    unfold s0F; rw [force_eq]; exact rot3 2 13 22 hw.a (by decide) (by decide) (by decide)
  have x3 : xorI .u32 (andI .u32 (e : Int) (f : Int)) (andI .u32 (cplU (e : Int)) (g : Int)) = ((chF e f g : Nat) : Int) := by
    rw [c1, andI_nat hw.e hw.f, andI_nat (xor_lt (by decide) hw.e) hw.g, xorI_nat (land_lt hw.f) (land_lt hw.g)]; rfl
  have x4 : xorI .u32 (xorI .u32 (andI .u32 (a : Int) (b : Int)) (andI .u32 (a : Int) (c : Int))) (andI .u32 (b : Int) (c : Int)) = ((mjF a b c : Nat) : Int) := by
    rw [andI_nat hw.a hw.b, andI_nat hw.a hw.c, andI_nat hw.b hw.c, xorI_nat (land_lt hw.b) (land_lt hw.c), xorI_nat (xor_lt (land_lt hw.b) (land_lt hw.c)) (land_lt hw.c)]; rfl
  have y1 : tOne (v8 a b c d e f g h) (k : Int) (w : Int) = ((m32 (t1F e f g h k w) : Nat) : Int) := by
    unfold tOne v8
    dsimp only
    rw [x1, x3]
    show _ = (((h + s1F e + chF e f g + k + w) % 4294967296 : Nat) : Int)
    omega
  have y2 : tTwo (v8 a b c d e f g h) = ((m32 (t2F a b c) : Nat) : Int) := by
    unfold tTwo v8
    dsimp only
    rw [x2, x4]
    show _ = (((s0F a + mjF a b c) % 4294967296 : Nat) : Int)
    omega
  unfold rnd
  rw [y1, y2]
  have z1 : (((m32 (t1F e f g h k w) : Nat) : Int) + ((m32 (t2F a b c) : Nat) : Int)) % 4294967296 = ((m32 (Nat.add (t1F e f g h k w) (t2F a b c)) : Nat) : Int) := by
    show (((t1F e f g h k w % 4294967296 : Nat) : Int) + ((t2F a b c % 4294967296 : Nat) : Int)) % 4294967296 = (((t1F e f g h k w + t2F a b c) % 4294967296 : Nat) : Int)
    omega
  have z2 : ((d : Int) + ((m32 (t1F e f g h k w) : Nat) : Int)) % 4294967296 = ((m32 (Nat.add d (t1F e f g h k w)) : Nat) : Int) := by
    show ((d : Int) + ((t1F e f g h k w % 4294967296 : Nat) : Int)) % 4294967296 = (((d + t1F e f g h k w) % 4294967296 : Nat) : Int)
    omega
  show (⟨_, _, _, _, _, _, _, _⟩ : V8) = ⟨_, _, _, _, _, _, _, _⟩
  simp only [v8, V8.mk.injEq, and_true, true_and]
  exact ⟨z1, z2⟩

/-- The word t of a block, for every t. -/
def wAt (l : List UInt8) (t : Nat) : Int := (sched l (t + 1)).getD t 0
theorem wAt_eq (l : List UInt8) : ∀ (n t : Nat), t < n → (sched l n).getD t 0 = wAt l t := by
  intro n
  induction n with
  | zero => intro t h; omega
  | succ n ih =>
    intro t h
    by_cases ht : t = n
    · subst ht; rfl
    · rw [← ih t (by omega), sched]
      simp [List.getD, List.getElem?_append, sched_len, show t < n by omega]
theorem wAt_next (l : List UInt8) (t : Nat) : wAt l (t + 16) = (((sig1 (wAt l (t + 14)) + wAt l (t + 9)) % 4294967296 + sig0 (wAt l (t + 1))) % 4294967296 + wAt l t) % 4294967296 := by
  have h : wAt l (t + 16) = nextW (sched l (t + 16)) (t + 16) := by
    unfold wAt
    rw [sched]
    simp [List.getD, sched_len]
    intro h; omega
  rw [h]
  unfold nextW
  rw [wAt_eq l _ _ (by omega), wAt_eq l _ _ (by omega), wAt_eq l _ _ (by omega), wAt_eq l _ _ (by omega)]
  rw [show t + 16 - 2 = t + 14 by omega, show t + 16 - 7 = t + 9 by omega, show t + 16 - 15 = t + 1 by omega, show t + 16 - 16 = t by omega]

theorem nw_nat {l : List UInt8} {t w0 w1 w9 w14 : Nat} (h0 : wAt l t = (w0 : Int)) (h1 : wAt l (t + 1) = (w1 : Int)) (h9 : wAt l (t + 9) = (w9 : Int)) (h14 : wAt l (t + 14) = (w14 : Int))
    (l1 : w1 < 4294967296) (l14 : w14 < 4294967296) : wAt l (t + 16) = ((nwF w0 w1 w9 w14 : Nat) : Int) := by
  rw [wAt_next, h0, h1, h9, h14, sig1_nat l14, sig0_nat l1]
  show _ = (((g1F w14 + w9 + g0F w1 + w0) % 4294967296 : Nat) : Int)
  omega

/-- The sixteen words from t on. -/
structure Win (l : List UInt8) (t w0 w1 w2 w3 w4 w5 w6 w7 w8 w9 w10 w11 w12 w13 w14 w15 : Nat) : Prop where
  p0 : wAt l t = (w0 : Int) ∧ w0 < 4294967296
  p1 : wAt l (t + 1) = (w1 : Int) ∧ w1 < 4294967296
  p2 : wAt l (t + 2) = (w2 : Int) ∧ w2 < 4294967296
  p3 : wAt l (t + 3) = (w3 : Int) ∧ w3 < 4294967296
  p4 : wAt l (t + 4) = (w4 : Int) ∧ w4 < 4294967296
  p5 : wAt l (t + 5) = (w5 : Int) ∧ w5 < 4294967296
  p6 : wAt l (t + 6) = (w6 : Int) ∧ w6 < 4294967296
  p7 : wAt l (t + 7) = (w7 : Int) ∧ w7 < 4294967296
  p8 : wAt l (t + 8) = (w8 : Int) ∧ w8 < 4294967296
  p9 : wAt l (t + 9) = (w9 : Int) ∧ w9 < 4294967296
  p10 : wAt l (t + 10) = (w10 : Int) ∧ w10 < 4294967296
  p11 : wAt l (t + 11) = (w11 : Int) ∧ w11 < 4294967296
  p12 : wAt l (t + 12) = (w12 : Int) ∧ w12 < 4294967296
  p13 : wAt l (t + 13) = (w13 : Int) ∧ w13 < 4294967296
  p14 : wAt l (t + 14) = (w14 : Int) ∧ w14 < 4294967296
  p15 : wAt l (t + 15) = (w15 : Int) ∧ w15 < 4294967296

theorem Win.next {l : List UInt8} {t w0 w1 w2 w3 w4 w5 w6 w7 w8 w9 w10 w11 w12 w13 w14 w15 : Nat} (h : Win l t w0 w1 w2 w3 w4 w5 w6 w7 w8 w9 w10 w11 w12 w13 w14 w15) :
    Win l (t + 1) w1 w2 w3 w4 w5 w6 w7 w8 w9 w10 w11 w12 w13 w14 w15 (nwF w0 w1 w9 w14) := by
  have e : ∀ j, t + 1 + j = t + (j + 1) := by intro j; omega
  refine ⟨h.p1, ?_, ?_, ?_, ?_, ?_, ?_, ?_, ?_, ?_, ?_, ?_, ?_, ?_, ?_, ?_⟩ <;> rw [e]
  · exact h.p2
  · exact h.p3
  · exact h.p4
  · exact h.p5
  · exact h.p6
  · exact h.p7
  · exact h.p8
  · exact h.p9
  · exact h.p10
  · exact h.p11
  · exact h.p12
  · exact h.p13
  · exact h.p14
  · exact h.p15
  · exact ⟨nw_nat h.p0.1 h.p1.1 h.p9.1 h.p14.1 h.p1.2 h.p14.2, m32_lt _⟩

theorem rF_ok {α : Type} (K : Nat → Nat → Nat → Nat → Nat → Nat → Nat → Nat → α) (l : List UInt8) (v : V8) : ∀ (ks : List Nat) (t : Nat) {w0 w1 w2 w3 w4 w5 w6 w7 w8 w9 w10 w11 w12 w13 w14 w15 a b c d e f g h : Nat},
    t + ks.length = 64 → kcN.drop t = ks → Win l t w0 w1 w2 w3 w4 w5 w6 w7 w8 w9 w10 w11 w12 w13 w14 w15 → W8 a b c d e f g h → rnds (sched l 64) v t = v8 a b c d e f g h →
    ∃ a' b' c' d' e' f' g' h', W8 a' b' c' d' e' f' g' h' ∧ rnds (sched l 64) v 64 = v8 a' b' c' d' e' f' g' h' ∧
      rF K ks w0 w1 w2 w3 w4 w5 w6 w7 w8 w9 w10 w11 w12 w13 w14 w15 a b c d e f g h = K a' b' c' d' e' f' g' h'
  | [], t, _, _, _, _, _, _, _, _, _, _, _, _, _, _, _, _, a, b, c, d, e, f, g, h, ht, _, _, hv, hr => by
    simp at ht
    subst ht
    exact ⟨a, b, c, d, e, f, g, h, hv, hr, rfl⟩
  | k :: ks, t, w0, w1, w2, w3, w4, w5, w6, w7, w8, w9, w10, w11, w12, w13, w14, w15, a, b, c, d, e, f, g, h, ht, hk, hw, hv, hr => by
    simp only [List.length_cons] at ht
    have hkt : kcN[t]? = some k := by
      have := congrArg (·[0]?) hk
      simpa [List.getElem?_drop] using this
    have hkc : kc.getD t 0 = (k : Int) := by
      rw [kcN_eq]; simp [List.getD, hkt]
    have hk' : kcN.drop (t + 1) = ks := by
      have := congrArg List.tail hk
      simpa [List.tail_drop] using this
    have hstep : rnds (sched l 64) v (t + 1) = v8 (m32 (Nat.add (t1F e f g h k w0) (t2F a b c))) a b c (m32 (Nat.add d (t1F e f g h k w0))) e f g := by
      rw [rnds, hr, hkc, wAt_eq l 64 t (by omega), hw.p0.1]
      exact rnd_nat hv
    obtain ⟨a', b', c', d', e', f', g', h', q1, q2, q3⟩ := rF_ok K l v ks (t + 1) (by omega) hk' hw.next
      ⟨m32_lt _, hv.a, hv.b, hv.c, m32_lt _, hv.e, hv.f, hv.g⟩ hstep
    refine ⟨a', b', c', d', e', f', g', h', q1, q2, ?_⟩
    rw [← q3, rF]
    simp only [force_eq]

def ofN (l : List Nat) : List Int := l.map fun (n : Nat) => (n : Int)

/-- A block, quickly. -/
theorem cF_ok {α : Type} (K : Nat → Nat → Nat → Nat → Nat → Nat → Nat → Nat → α) {l : List UInt8} {a b c d e f g h w0 w1 w2 w3 w4 w5 w6 w7 w8 w9 w10 w11 w12 w13 w14 w15 : Nat} (hw : Win l 0 w0 w1 w2 w3 w4 w5 w6 w7 w8 w9 w10 w11 w12 w13 w14 w15) (hv : W8 a b c d e f g h) :
    ∃ a' b' c' d' e' f' g' h', W8 a' b' c' d' e' f' g' h' ∧ comp (ofN [a, b, c, d, e, f, g, h]) l = ofN [a', b', c', d', e', f', g', h'] ∧
      cF a b c d e f g h w0 w1 w2 w3 w4 w5 w6 w7 w8 w9 w10 w11 w12 w13 w14 w15 K = K a' b' c' d' e' f' g' h' := by
  obtain ⟨a', b', c', d', e', f', g', h', q1, q2, q3⟩ := rF_ok (fun a' b' c' d' e' f' g' h' => force (m32 (Nat.add a a')) fun a => force (m32 (Nat.add b b')) fun b => force (m32 (Nat.add c c')) fun c => force (m32 (Nat.add d d')) fun d =>
    force (m32 (Nat.add e e')) fun e => force (m32 (Nat.add f f')) fun f => force (m32 (Nat.add g g')) fun g => force (m32 (Nat.add h h')) fun h => K a b c d e f g h) l (v8 a b c d e f g h) kcN 0 rfl rfl hw hv rfl
  refine ⟨m32 (Nat.add a a'), m32 (Nat.add b b'), m32 (Nat.add c c'), m32 (Nat.add d d'), m32 (Nat.add e e'), m32 (Nat.add f f'), m32 (Nat.add g g'), m32 (Nat.add h h'),
    ⟨m32_lt _, m32_lt _, m32_lt _, m32_lt _, m32_lt _, m32_lt _, m32_lt _, m32_lt _⟩, ?_, ?_⟩
  · unfold comp
    have e1 : V8.of (ofN [a, b, c, d, e, f, g, h]) = v8 a b c d e f g h := rfl
    rw [e1, q2]
    have e2 : ∀ x y : Nat, ((x : Int) + (y : Int)) % 4294967296 = ((m32 (Nat.add x y) : Nat) : Int) := by
      intro x y
      show ((x : Int) + (y : Int)) % 4294967296 = (((x + y) % 4294967296 : Nat) : Int)
      omega
    simp only [addTo, ofN, V8.list, v8, List.map_cons, List.map_nil, List.set_cons_zero, List.set_cons_succ, List.getD_cons_zero, List.getD_cons_succ, e2]
  · unfold cF
    rw [q3]
    simp only [force_eq]

end Qk

/-
  The blocks of a message in words; the digests of the examples.
-/
namespace Qk
open Go Go.RowKit

def wN (l : List UInt8) (t : Nat) : Nat := Nat.add (Nat.mul (Nat.add (Nat.mul (Nat.add (Nat.mul (l.getD (Nat.mul 4 t) 0).toNat 256) (l.getD (Nat.add (Nat.mul 4 t) 1) 0).toNat) 256) (l.getD (Nat.add (Nat.mul 4 t) 2) 0).toNat) 256) (l.getD (Nat.add (Nat.mul 4 t) 3) 0).toNat
theorem word_nat {l : List UInt8} {t : Nat} (h : 4 * t + 4 ≤ l.length) : word l t = ((wN l t : Nat) : Int) ∧ wN l t < 4294967296 := by
  rw [word_eq h]
  obtain ⟨c0, h0⟩ : ∃ c, c = l.getD (4 * t) 0 := ⟨_, rfl⟩
  obtain ⟨c1, h1⟩ : ∃ c, c = l.getD (4 * t + 1) 0 := ⟨_, rfl⟩
  obtain ⟨c2, h2⟩ : ∃ c, c = l.getD (4 * t + 2) 0 := ⟨_, rfl⟩
  obtain ⟨c3, h3⟩ : ∃ c, c = l.getD (4 * t + 3) 0 := ⟨_, rfl⟩
  have e : wN l t = ((c0.toNat * 256 + c1.toNat) * 256 + c2.toNat) * 256 + c3.toNat := by rw [h0, h1, h2, h3]; rfl
  rw [← h0, ← h1, ← h2, ← h3, e]
  have l0 : c0.toNat < 256 := c0.toNat_lt
  have l1 : c1.toNat < 256 := c1.toNat_lt
  have l2 : c2.toNat < 256 := c2.toNat_lt
  have l3 : c3.toNat < 256 := c3.toNat_lt
  refine ⟨?_, by omega⟩
  simp only [List.foldl_cons, List.foldl_nil]
  have b0 := byteW_nat (a := 0) c0 (by omega)
  have b1 := byteW_nat (a := 0 * 256 + c0.toNat) c1 (by omega)
  have b2 := byteW_nat (a := (0 * 256 + c0.toNat) * 256 + c1.toNat) c2 (by omega)
  have b3 := byteW_nat (a := ((0 * 256 + c0.toNat) * 256 + c1.toNat) * 256 + c2.toNat) c3 (by omega)
  have b0' : byteW 0 c0 = _ := b0
  rw [b0', b1, b2, b3]
  omega
theorem wAt_word {l : List UInt8} {t : Nat} (h : t < 16) : wAt l t = word l t := by
  unfold wAt
  rw [sched]
  simp [List.getD, sched_len]
  intro h2; omega
theorem wAt_nat {l : List UInt8} (hl : l.length = 64) {t : Nat} (h : t < 16) : wAt l t = ((wN l t : Nat) : Int) ∧ wN l t < 4294967296 := by
  rw [wAt_word h]; exact word_nat (by omega)

theorem win_of {l : List UInt8} (hl : l.length = 64) : Win l 0 (wN l 0) (wN l 1) (wN l 2) (wN l 3) (wN l 4) (wN l 5) (wN l 6) (wN l 7) (wN l 8) (wN l 9) (wN l 10) (wN l 11) (wN l 12) (wN l 13) (wN l 14) (wN l 15) :=
  ⟨wAt_nat hl (by omega), wAt_nat hl (by omega), wAt_nat hl (by omega), wAt_nat hl (by omega), wAt_nat hl (by omega), wAt_nat hl (by omega), wAt_nat hl (by omega), wAt_nat hl (by omega),
   wAt_nat hl (by omega), wAt_nat hl (by omega), wAt_nat hl (by omega), wAt_nat hl (by omega), wAt_nat hl (by omega), wAt_nat hl (by omega), wAt_nat hl (by omega), wAt_nat hl (by omega)⟩

def list8 (a b c d e f g h : Nat) : List Nat := [a, b, c, d, e, f, g, h]
/-- One block of bytes, quickly. -/
def bF {α : Type} (l : List UInt8) (a b c d e f g h : Nat) (K : Nat → Nat → Nat → Nat → Nat → Nat → Nat → Nat → α) : α :=
  cF a b c d e f g h (wN l 0) (wN l 1) (wN l 2) (wN l 3) (wN l 4) (wN l 5) (wN l 6) (wN l 7) (wN l 8) (wN l 9) (wN l 10) (wN l 11) (wN l 12) (wN l 13) (wN l 14) (wN l 15) K
theorem bF_ok {α : Type} (K : Nat → Nat → Nat → Nat → Nat → Nat → Nat → Nat → α) {l : List UInt8} (hl : l.length = 64) {a b c d e f g h : Nat} (hv : W8 a b c d e f g h) :
    ∃ a' b' c' d' e' f' g' h', W8 a' b' c' d' e' f' g' h' ∧ comp (ofN [a, b, c, d, e, f, g, h]) l = ofN [a', b', c', d', e', f', g', h'] ∧ bF l a b c d e f g h K = K a' b' c' d' e' f' g' h' :=
  cF_ok K (win_of hl) hv

/-- A message of blocks, quickly. -/
def msgF : List (List UInt8) → Nat → Nat → Nat → Nat → Nat → Nat → Nat → Nat → List Nat
  | [], a, b, c, d, e, f, g, h => [a, b, c, d, e, f, g, h]
  | l :: ls, a, b, c, d, e, f, g, h => bF l a b c d e f g h (msgF ls)
theorem msgF_ok : ∀ (ls : List (List UInt8)) {a b c d e f g h : Nat}, (∀ l ∈ ls, l.length = 64) → W8 a b c d e f g h → ls.foldl comp (ofN [a, b, c, d, e, f, g, h]) = ofN (msgF ls a b c d e f g h)
  | [], _, _, _, _, _, _, _, _, _, _ => rfl
  | l :: ls, a, b, c, d, e, f, g, h, hl, hv => by
    obtain ⟨a', b', c', d', e', f', g', h', q1, q2, q3⟩ := bF_ok (msgF ls) (hl l (by simp)) hv
    rw [List.foldl_cons, q2, msgF_ok ls (fun l hm => hl l (by simp [hm])) q1, msgF, q3]

def chunks (m : List UInt8) : Nat → List (List UInt8)
  | 0 => []
  | k + 1 => chunks m k ++ [(m.drop (64 * k)).take 64]
theorem foldB_chunks (m : List UInt8) (k : Nat) : foldB m k = (chunks m k).foldl comp iv := by
  induction k with
  | zero => rfl
  | succ k ih => rw [foldB, chunks, List.foldl_append, ← ih]; rfl
theorem iv_eq : iv = ofN [1779033703, 3144134277, 1013904242, 2773480762, 1359893119, 2600822924, 528734635, 1541459225] := rfl
theorem iv_lt : W8 1779033703 3144134277 1013904242 2773480762 1359893119 2600822924 528734635 1541459225 := by constructor <;> decide

theorem chunks_len (m : List UInt8) : ∀ k, 64 * k ≤ m.length → ∀ l ∈ chunks m k, l.length = 64
  | 0, _, l, hl => by simp [chunks] at hl
  | k + 1, hk, l, hl => by
    rw [chunks, List.mem_append] at hl
    rcases hl with hl | hl
    · exact chunks_len m k (by omega) l hl
    · simp only [List.mem_singleton] at hl
      rw [hl, List.length_take, List.length_drop]; omega

/-- The digest, quickly. -/
def shaW (l : List UInt8) : List Nat := msgF (chunks (pad l) ((pad l).length / 64)) 1779033703 3144134277 1013904242 2773480762 1359893119 2600822924 528734635 1541459225
def shaF (l : List UInt8) : List UInt8 := dig (ofN (shaW l)) 32
theorem shaF_eq (l : List UInt8) : sha l = shaF l := by
  unfold sha shaF shaW
  rw [foldB_chunks, iv_eq, msgF_ok _ (chunks_len _ _ (by omega)) iv_lt]
def hmacF (key s : List UInt8) : List UInt8 :=
  let k := (if 64 < key.length then shaF key else key) ++ List.replicate (64 - (if 64 < key.length then shaF key else key).length) 0
  shaF (xorm k 0x5c ++ shaF (xorm k 0x36 ++ s))
theorem hmacF_eq (key s : List UInt8) : hmac key s = hmacF key s := by
  unfold hmac hmacF keyB
  simp only [shaF_eq]

theorem sha_abc : sha [97, 98, 99] = [186, 120, 22, 191, 143, 1, 207, 234, 65, 65, 64, 222, 93, 174, 34, 35, 176, 3, 97, 163, 150, 23, 122, 156, 180, 16, 255, 97, 242, 0, 21, 173] := by
  rw [shaF_eq]; decide +kernel
theorem hex_abc : hex (sha [97, 98, 99]) = [98, 97, 55, 56, 49, 54, 98, 102, 56, 102, 48, 49, 99, 102, 101, 97, 52, 49, 52, 49, 52, 48, 100, 101, 53, 100, 97, 101, 50, 50, 50, 51, 98, 48, 48, 51, 54, 49, 97, 51, 57, 54, 49, 55, 55, 97, 57, 99, 98, 52, 49, 48, 102, 102, 54, 49, 102, 50, 48, 48, 49, 53, 97, 100] := by
  rw [sha_abc]; decide +kernel
theorem hex_jefe : hex (hmac [74, 101, 102, 101] [119, 104, 97, 116, 32, 100, 111, 32, 121, 97, 32, 119, 97, 110, 116, 32, 102, 111, 114, 32, 110, 111, 116, 104, 105, 110, 103, 63]) =
    [53, 98, 100, 99, 99, 49, 52, 54, 98, 102, 54, 48, 55, 53, 52, 101, 54, 97, 48, 52, 50, 52, 50, 54, 48, 56, 57, 53, 55, 53, 99, 55, 53, 97, 48, 48, 51, 102, 48, 56, 57, 100, 50, 55, 51, 57, 56, 51, 57, 100, 101, 99, 53, 56, 98, 57, 54, 52, 101, 99, 51, 56, 52, 51] := by
  rw [hmacF_eq]; decide +kernel

end Qk

/-
  Chapter 02: what the tie to the program needs.
-/
namespace Qk
open Go Go.RowKit

theorem keeps_repeat {G : Gl} {f : FuncId} {fn : Func} (hf : G.P.funcs[f]? = some fn) (hb : fn.body.isNone = false) (hname : (fn.name == "runtime.NumGoroutine") = false)
    (h : ∀ (s : ByteArray) (c : Nat) (w : World), c ≤ 9223372036854775807 → s.size * c ≤ 140737488355328 → Calls G.P f #[.string s, .int .i64 c] w fun e w' => e = .returned (.string ⟨(Lib.repeatL s.data.toList c).toArray⟩) ∧ Below w.heap.size w w') :
    KeepsC G C_strings_Repeat (fun _ => none) f #[] := by
  refine keeps_calls hf hb hname ?_
  rintro w Φ vs ⟨l, n⟩ hphi hs hr ⟨h0, h1, h2⟩
  dsimp only at h0 h1 h2
  obtain ⟨x, y, rfl, r1, r2⟩ := two_args hs hr
  simp only [Rep] at r1 r2
  subst r1
  subst r2
  have e : ((n.toNat : Nat) : Int) = n := by omega
  have hsz : (ByteArray.mk l.toArray).size = l.length := by simp [ByteArray.size]
  refine ⟨_, ?_, by
    have := h ⟨l.toArray⟩ n.toNat w (by omega) (by
      rw [hsz]
      exact Nat.le_trans (Nat.mul_le_mul h2 (show n.toNat ≤ 1000000000 by omega)) (by decide))
    rw [e] at this
    exact this⟩
  simp only [Rep, C_strings_Repeat, repeatB, repeatL_eq]
theorem nn_parse : ∀ x, C_sha256_Parse.ok x → NN (C_sha256_Parse.res x) := fun x _ => (plain_tup (by
  intro c hc
  simp only [List.mem_cons, List.not_mem_nil, or_false] at hc
  rcases hc with rfl | rfl
  · exact plainA_bys _
  · exact plain_int _ _)).nn
end Qk
