/-
  Chapter 53: contracts, forms, the functions.
-/
import Derived.Test.YtalfpjkemegbjaaNe
import Derived.Test.YtalfpjkemegbjaaNc

/-
  What the functions of chapter 53 compute: secrets, leaves, tags, signatures; their contracts.
-/
namespace Qk
open Go Go.RowKit

/-- The rows f 0, f 1, .. one behind the other. -/
def catF (f : Nat → List UInt8) : Nat → List UInt8
  | 0 => []
  | n + 1 => catF f n ++ f n
theorem catF_len {f : Nat → List UInt8} {c : Nat} (h : ∀ n, (f n).length = c) (n : Nat) : (catF f n).length = c * n := by
  induction n with
  | zero => rfl
  | succ n ih => rw [catF, List.length_append, ih, h, Nat.mul_succ]
theorem catF_flat (f : Nat → List UInt8) (n : Nat) : ((List.range n).map f).flatten = catF f n := by
  induction n with
  | zero => rfl
  | succ n ih => rw [List.range_succ, List.map_append, List.flatten_append, ih]; simp [catF]
theorem catF_congr {f g : Nat → List UInt8} {n : Nat} (h : ∀ k, k < n → f k = g k) : catF f n = catF g n := by
  induction n with
  | zero => rfl
  | succ n ih => rw [catF, catF, ih (fun k hk => h k (by omega)), h n (by omega)]

def All32 (ds : List (List UInt8)) : Prop := ∀ d ∈ ds, d.length = 32
theorem flat_len : ∀ {ds : List (List UInt8)}, All32 ds → ds.flatten.length = 32 * ds.length
  | [], _ => rfl
  | d :: ds, h => by
    rw [List.flatten_cons, List.length_append, flat_len (fun x hx => h x (by simp [hx])), h d (by simp), List.length_cons]
    omega
theorem flat_get : ∀ {ds : List (List UInt8)} {p : Nat}, All32 ds → p < ds.length → (ds.flatten.drop (32 * p)).take 32 = ds.getD p []
  | [], _, _, h => by simp at h
  | d :: ds, 0, h, _ => by
    have := h d (by simp)
    simp [List.flatten_cons, List.getD, List.take_append_of_le_length (show 32 ≤ d.length by omega), List.take_of_length_le (show d.length ≤ 32 by omega)]
  | d :: ds, p + 1, h, hp => by
    have h32 := h d (by simp)
    have ih := flat_get (ds := ds) (p := p) (fun x hx => h x (by simp [hx])) (by simpa using hp)
    rw [List.flatten_cons, List.drop_append]
    have : d.drop (32 * (p + 1)) = [] := List.drop_of_length_le (by omega)
    rw [this, List.nil_append, show 32 * (p + 1) - d.length = 32 * p by omega, ih]
    simp [List.getD]
theorem getD_len {ds : List (List UInt8)} {p : Nat} (h : All32 ds) (hp : p < ds.length) : (ds.getD p []).length = 32 := by
  simp only [List.getD, List.getElem?_eq_getElem hp, Option.getD_some]
  exact h _ (List.getElem_mem hp)

/-- A list of digests. -/
def dl (ds : List (List UInt8)) : AV := .ilist 32 ds.length (bys ds.flatten)

structure Sg where
  i : Int
  rev : List (List UInt8)
  oth : List (List UInt8)
  path : List (List UInt8)
def Sg.ok (g : Sg) : Prop := All32 g.rev ∧ All32 g.oth ∧ All32 g.path
def sgL (g : Sg) : List AV := [.int .i64 g.i, dl g.rev, dl g.oth, dl g.path]
def sgA (g : Sg) : AV := .agg (sgL g)

def secB (seed : List UInt8) (k p v : Int) : List UInt8 := hmac seed [by8 k, by8 p, by8 v]
def pubAt (seed : List UInt8) (k : Int) (n : Nat) : List UInt8 := sha (secB seed k (n / 2 : Nat) (n % 2 : Nat))
def leafK (seed : List UInt8) (k : Int) : List UInt8 := sha (0 :: catF (pubAt seed k) 256)
def nodeB (a b : List UInt8) : List UInt8 := sha (1 :: (a ++ b))
def rootB (seed : List UInt8) : List UInt8 := nodeB (nodeB (leafK seed 0) (leafK seed 1)) (nodeB (leafK seed 2) (leafK seed 3))
def bitB (d : List UInt8) (p : Nat) : Nat := (d.getD (p / 8) 0).toNat / 2 ^ (7 - p % 8) % 2
def tagI (m : List UInt8) : List Int := (List.range 128).map fun p => (bitB (sha m) p : Int)

def signP (seed : List UInt8) (i : Int) : List (List UInt8) :=
  [leafK seed (i / 2 * 2 + 1 - i % 2), nodeB (leafK seed (2 - i / 2 * 2)) (leafK seed (2 - i / 2 * 2 + 1))]
def revAt (seed : List UInt8) (i : Int) (m : List UInt8) (p : Nat) : List UInt8 := secB seed i p (bitB (sha m) p)
def othAt (seed : List UInt8) (i : Int) (m : List UInt8) (p : Nat) : List UInt8 := sha (secB seed i p (1 - bitB (sha m) p))
def signG (seed : List UInt8) (i : Int) (m : List UInt8) : Sg := ⟨i, (List.range 128).map (revAt seed i m), (List.range 128).map (othAt seed i m), signP seed i⟩
def inR (i : Int) : Prop := 0 ≤ i ∧ i < 4
instance (i : Int) : Decidable (inR i) := by unfold inR; exact inferInstance
def signS (seed : List UInt8) (i : Int) (m : List UInt8) : Sg := if inR i then signG seed i m else ⟨0, [], [], []⟩
def signE (i : Int) : Int := if inR i then 0 else 2

def chk (g : Sg) : Int := if inR g.i then (if g.rev.length = 128 ∧ g.oth.length = 128 ∧ g.path.length = 2 then 0 else 1) else 2
def claimAt (b : Nat → Nat) (g : Sg) (n : Nat) : List UInt8 := if b (n / 2) = n % 2 then sha (g.rev.getD (n / 2) []) else g.oth.getD (n / 2) []
def climb : List UInt8 → Nat → List (List UInt8) → List UInt8
  | d, _, [] => d
  | d, k, b :: r => climb (if k % 2 = 0 then nodeB d b else nodeB b d) (k / 2) r
def claimS (m : List UInt8) (g : Sg) : List UInt8 := 0 :: catF (claimAt (bitB (sha m)) g) 256
def top (m : List UInt8) (g : Sg) : List UInt8 := climb (sha (claimS m g)) g.i.toNat g.path
def verB (root m : List UInt8) (g : Sg) : Bool := decide (chk g = 0) && decide (top m g = root)

theorem nodeB_len (a b : List UInt8) : (nodeB a b).length = 32 := sha_len _
theorem leafK_len (s : List UInt8) (k : Int) : (leafK s k).length = 32 := sha_len _
theorem secB_len (s : List UInt8) (k p v : Int) : (secB s k p v).length = 32 := hmac_len _ _
theorem pubAt_len (s : List UInt8) (k : Int) (n : Nat) : (pubAt s k n).length = 32 := sha_len _
theorem bitB_le (d : List UInt8) (p : Nat) : bitB d p < 2 := Nat.mod_lt _ (by decide)

def dArg (d : List UInt8) : AV := .agg (bys d)

def C_lamport_secret : PC := ⟨List UInt8 × Int × Int × Int, fun x => [.str x.1, .int .i64 x.2.1, .int .i64 x.2.2.1, .int .i64 x.2.2.2], fun x => x.1.length ≤ 1000000000, fun x => .agg (bys (secB x.1 x.2.1 x.2.2.1 x.2.2.2))⟩
def C_quiltref53_secret : PC := ⟨List UInt8 × Int × Int × Int, fun x => [.str x.1, .int .i64 x.2.1, .int .i64 x.2.2.1, .int .i64 x.2.2.2], fun x => x.1.length ≤ 1000000000, fun x => .agg (bys (secB x.1 x.2.1 x.2.2.1 x.2.2.2))⟩
def C_lamport_public : PC := ⟨List UInt8, fun d => [.agg (bys d)], fun d => d.length = 32, fun d => .agg (bys (sha d))⟩
def C_quiltref53_public : PC := ⟨List UInt8, fun d => [.agg (bys d)], fun d => d.length = 32, fun d => .agg (bys (sha d))⟩
def C_lamport_node : PC := ⟨List UInt8 × List UInt8, fun x => [.agg (bys x.1), .agg (bys x.2)], fun x => x.1.length = 32 ∧ x.2.length = 32, fun x => .agg (bys (nodeB x.1 x.2))⟩
def C_quiltref53_node : PC := ⟨List UInt8 × List UInt8, fun x => [.agg (bys x.1), .agg (bys x.2)], fun x => x.1.length = 32 ∧ x.2.length = 32, fun x => .agg (bys (nodeB x.1 x.2))⟩
def C_quiltref53_above : PC := ⟨List UInt8 × List UInt8, fun x => [.agg (bys x.1), .agg (bys x.2)], fun x => x.1.length = 32 ∧ x.2.length = 32, fun x => .str (1 :: (x.1 ++ x.2))⟩
def C_lamport_leaf : PC := ⟨List UInt8 × Int, fun x => [.str x.1, .int .i64 x.2], fun x => x.1.length ≤ 1000000000, fun x => .agg (bys (leafK x.1 x.2))⟩
def C_quiltref53_leaf : PC := ⟨List UInt8 × Int, fun x => [.str x.1, .int .i64 x.2], fun x => x.1.length ≤ 1000000000, fun x => .agg (bys (leafK x.1 x.2))⟩
def F_quiltref53_leaves : FC := ⟨List UInt8, fun s => [.str s], fun s => s.length ≤ 1000000000, 32, fun _ => 4, fun s => bys (List.flatten [leafK s 0, leafK s 1, leafK s 2, leafK s 3])⟩
def C_lamport_Public : PC := ⟨List UInt8, fun s => [.str s], fun s => s.length ≤ 1000000000, fun s => .agg (bys (rootB s))⟩
def C_quiltref53_Public : PC := ⟨List UInt8, fun s => [.str s], fun s => s.length ≤ 1000000000, fun s => .agg (bys (rootB s))⟩
def C_lamport_tag : PC := ⟨List UInt8, fun m => [.str m], fun m => m.length ≤ 1000000000, fun m => .agg (ints .i64 (tagI m))⟩
def C_quiltref53_Tag : PC := ⟨List UInt8, fun m => [.str m], fun m => m.length ≤ 1000000000, fun m => .str ((sha m).take 16)⟩
def C_quiltref53_Bit : PC := ⟨List UInt8 × Nat, fun x => [.str x.1, .int .i64 x.2], fun x => x.2 < 128 ∧ x.1.length = 16, fun x => .int .i64 (bitB x.1 x.2)⟩
def C_lamport_Sign : PC := ⟨List UInt8 × Int × List UInt8, fun x => [.str x.1, .int .i64 x.2.1, .str x.2.2], fun x => x.1.length ≤ 1000000000 ∧ x.2.2.length ≤ 1000000000, fun x => .tup [sgA (signS x.1 x.2.1 x.2.2), .int .i64 (signE x.2.1)]⟩
def C_quiltref53_Sign : PC := ⟨List UInt8 × Int × List UInt8, fun x => [.str x.1, .int .i64 x.2.1, .str x.2.2], fun x => x.1.length ≤ 1000000000 ∧ x.2.2.length ≤ 1000000000, fun x => .tup [sgA (signS x.1 x.2.1 x.2.2), .int .i64 (signE x.2.1)]⟩
def C_lamport_Check : PC := ⟨Sg, fun g => [sgA g], fun _ => True, fun g => .int .i64 (chk g)⟩
def C_quiltref53_Check : PC := ⟨Sg, fun g => [sgA g], fun _ => True, fun g => .int .i64 (chk g)⟩
def C_lamport_Verify : PC := ⟨List UInt8 × List UInt8 × Sg, fun x => [.agg (bys x.1), .str x.2.1, sgA x.2.2], fun x => x.1.length = 32 ∧ x.2.1.length ≤ 1000000000 ∧ x.2.2.ok, fun x => .bool (verB x.1 x.2.1 x.2.2)⟩
def C_quiltref53_Verify : PC := ⟨List UInt8 × List UInt8 × Sg, fun x => [.agg (bys x.1), .str x.2.1, sgA x.2.2], fun x => x.1.length = 32 ∧ x.2.1.length ≤ 1000000000 ∧ x.2.2.ok, fun x => .bool (verB x.1 x.2.1 x.2.2)⟩
def C_quiltref02_Same : PC := ⟨List (List UInt8) × List (List UInt8), fun x => [dl x.1, dl x.2], fun x => All32 x.1 ∧ All32 x.2 ∧ x.1.length ≤ 1000000000, fun x => .bool (decide (x.1 = x.2))⟩
def sameB (a b : Sg) : Bool := decide (a.i = b.i) && decide (a.rev = b.rev) && decide (a.oth = b.oth) && decide (a.path = b.path)
def lenOk (g : Sg) : Prop := g.rev.length ≤ 1000000000 ∧ g.oth.length ≤ 1000000000 ∧ g.path.length ≤ 1000000000
def C_quiltref53_Same : PC := ⟨Sg × Sg, fun x => [sgA x.1, sgA x.2], fun x => x.1.ok ∧ x.2.ok ∧ lenOk x.1, fun x => .bool (sameB x.1 x.2)⟩
def greatB (g : Sg) : Bool := decide (200 < g.rev.length) || decide (200 < g.oth.length) || decide (10 < g.path.length)
def C_quiltref53_Great : PC := ⟨Sg, fun g => [sgA g], fun _ => True, fun g => .bool (greatB g)⟩
def strs (l : List (List UInt8)) : List AV := l.map .str
def longB (l : List (List UInt8)) : Bool := l.any fun s => decide (200 < s.length)
def C_quiltlaw53_long : PC := ⟨List (List UInt8), fun l => [.ilist 1 l.length (strs l)], fun l => l.length ≤ 1000000000, fun l => .bool (longB l)⟩
/-- The strings that are hashed to verify. -/
def above1 (t : Nat → Nat) (g : Sg) : List UInt8 :=
  if g.i.toNat % 2 = 0 then 1 :: (sha (0 :: catF (claimAt t g) 256) ++ g.path.getD 0 []) else 1 :: (g.path.getD 0 [] ++ sha (0 :: catF (claimAt t g) 256))
def above2 (t : Nat → Nat) (g : Sg) : List UInt8 :=
  if g.i.toNat / 2 % 2 = 0 then 1 :: (sha (above1 t g) ++ g.path.getD 1 []) else 1 :: (g.path.getD 1 [] ++ sha (above1 t g))
def strsG (t : Nat → Nat) (g : Sg) : List (List UInt8) := g.rev ++ [0 :: catF (claimAt t g) 256, above1 t g, above2 t g]
def F_quiltref53_Strings : FC := ⟨List UInt8 × Sg, fun x => [.str x.1, sgA x.2], fun x => x.1.length = 16 ∧ x.2.ok ∧ chk x.2 = 0, 1, fun _ => 131, fun x => strs (strsG (bitB x.1) x.2)⟩
def C_quiltlaw53_awake : PC := ⟨Unit, fun _ => [], fun _ => True, fun _ => .bool true⟩

end Qk

/-
  The functions of chapter 53 in the executor's form (printed by a program).
-/
namespace Qk
open Go Go.RowKit

/-- quilt/lamport.secret -/
def ir_lamport_secret : IF := ⟨(.seq (.ops [⟨(some 8), none, .alloc (repl 32 [.int .u8 0])⟩])
  (.seq (.ops [⟨(some 9), none, .mov (t 0)⟩,
    ⟨(some 10), none, .mov (t 1)⟩,
    ⟨(some 11), none, .conv .u8 (t 10)⟩,
    ⟨(some 12), none, .mov (t 2)⟩,
    ⟨(some 13), none, .conv .u8 (t 12)⟩,
    ⟨(some 14), none, .mov (t 3)⟩,
    ⟨(some 15), none, .conv .u8 (t 14)⟩,
    ⟨(some 16), none, .bslice 1 [.int .u8 0] 3 [(0, 1, (t 11)), (1, 1, (t 13)), (2, 1, (t 15))]⟩,
    ⟨(some 17), none, .b2s (t 16)⟩,
    ⟨(some 18), none, .pcall C_sha256_HMAC [(t 9), (t 17)]⟩,
    ⟨none, none, .storN 32 (t 8) (t 18)⟩])
  .ret)), [.cell 8 true 32]⟩
/-- quilt/lamport.public -/
def ir_lamport_public : IF := ⟨(.seq (.ops [⟨(some 1), none, .box (t 0)⟩,
    ⟨(some 2), none, .alloc (repl 32 [.int .u8 0])⟩])
  (.seq (.ops [⟨(some 3), none, .slA 1 32 (t 1) none none⟩,
    ⟨(some 4), none, .b2s (t 3)⟩,
    ⟨(some 5), none, .pcall C_sha256_Sum [(t 4)]⟩,
    ⟨none, none, .storN 32 (t 2) (t 5)⟩])
  .ret)), [.cell 2 true 32]⟩
/-- quilt/lamport.node -/
def ir_lamport_node : IF := ⟨(.seq (.ops [⟨(some 2), none, .box (t 0)⟩,
    ⟨(some 3), none, .box (t 1)⟩,
    ⟨(some 4), none, .alloc (repl 32 [.int .u8 0])⟩])
  (.seq (.ops [⟨(some 5), none, .slA 1 32 (t 2) none none⟩,
    ⟨(some 6), none, .b2s (t 5)⟩,
    ⟨(some 7), none, .bin .add (.const (.string ⟨#[1]⟩)) (t 6)⟩,
    ⟨(some 8), none, .slA 1 32 (t 3) none none⟩,
    ⟨(some 9), none, .b2s (t 8)⟩,
    ⟨(some 10), none, .bin .add (t 7) (t 9)⟩,
    ⟨(some 11), none, .pcall C_sha256_Sum [(t 10)]⟩,
    ⟨none, none, .storN 32 (t 4) (t 11)⟩])
  .ret)), [.cell 4 true 32]⟩
def V_lamport_published_1 : Nat → Option PC := look []
def HV_lamport_published_1 : Nat → Option HTran := look []
/-- quilt/lamport.published$1 -/
def ir_lamport_published_1 : IF := ⟨(.seq (.ops [⟨(some 6), none, .mov (ci 0)⟩])
  (.block 0 (.loop (.seq (.ops [⟨(some 7), none, .bin .lss (t 6) (ci 128)⟩])
  (.seq (.cond (t 7) .skip
  (.exit 0))
  (.seq (.block 1 (.seq (.ops [⟨(some 8), none, .mov (t 6)⟩,
    ⟨(some 4), none, .mov (t 8)⟩])
  (.seq (.ops [⟨(some 9), none, .mov (ci 0)⟩])
  (.block 2 (.loop (.seq (.ops [⟨(some 10), none, .bin .lss (t 9) (ci 2)⟩])
  (.seq (.cond (t 10) .skip
  (.exit 2))
  (.seq (.block 3 (.seq (.ops [⟨(some 11), none, .mov (t 9)⟩,
    ⟨(some 5), none, .mov (t 11)⟩])
  (.seq (.sops [.op ⟨(some 12), none, .mov (t 0)⟩,
    .op ⟨(some 13), none, .load1 (t 1)⟩,
    .op ⟨(some 14), none, .load1 (t 2)⟩,
    .op ⟨(some 15), none, .mov (t 4)⟩,
    .op ⟨(some 16), none, .mov (t 5)⟩,
    .op ⟨(some 17), none, .pcall C_lamport_secret [(t 13), (t 14), (t 15), (t 16)]⟩,
    .op ⟨(some 18), none, .pcall C_lamport_public [(t 17)]⟩,
    .dyn ⟨(some 19), none, .vcall V_lamport_published_1 (t 12) [(t 18)]⟩ HV_lamport_published_1 (t 12) [(t 18)],
    .op ⟨(some 20), none, .not (t 19)⟩])
  (.cond (t 20) .ret
  .skip))))
  (.ops [⟨(some 21), none, .bin .add (t 9) (ci 1)⟩,
    ⟨(some 9), none, .mov (t 21)⟩])))))))))
  (.ops [⟨(some 22), none, .bin .add (t 6) (ci 1)⟩,
    ⟨(some 6), none, .mov (t 22)⟩]))))))), []⟩
def T_lamport_published_1 : ITran := itr 3 ir_lamport_published_1.code ir_lamport_published_1.res
/-- quilt/lamport.published -/
def ir_lamport_published : IF := ⟨(.seq (.ops [⟨(some 2), none, .box (t 0)⟩,
    ⟨(some 3), none, .box (t 1)⟩,
    ⟨(some 4), none, .mov (.const .nilFunc)⟩])
  (.seq (.ops [⟨(some 5), none, .mkclo 3 [(t 2), (t 3)]⟩,
    ⟨(some 4), none, .mov (t 5)⟩])
  .ret)), [.tmp 4]⟩
def H_lamport_published : HTran := inl 2 ir_lamport_published.code ir_lamport_published.res
def V_lamport_claimed_1 : Nat → Option PC := look []
def HV_lamport_claimed_1 : Nat → Option HTran := look []
/-- quilt/lamport.claimed$1 -/
def ir_lamport_claimed_1 : IF := ⟨(.seq (.ops [⟨(some 7), none, .load1 (t 1)⟩,
    ⟨(some 8), none, .pcall C_lamport_tag [(t 7)]⟩,
    ⟨(some 9), none, .mov (ci 0)⟩])
  (.block 0 (.loop (.seq (.ops [⟨(some 10), none, .bin .lss (t 9) (ci 128)⟩])
  (.seq (.cond (t 10) .skip
  (.exit 0))
  (.seq (.block 1 (.seq (.ops [⟨(some 11), none, .mov (t 9)⟩,
    ⟨(some 12), none, .idxV 128 1 false (t 8) (t 9)⟩,
    ⟨(some 4), none, .mov (t 11)⟩,
    ⟨(some 5), none, .mov (t 12)⟩])
  (.seq (.ops [⟨(some 13), none, .build 64 (repl 64 [.int .u8 0]) []⟩,
    ⟨(some 6), none, .alloc (repl 64 [.int .u8 0])⟩,
    ⟨none, none, .storN 64 (t 6) (t 13)⟩])
  (.seq (.jn (.rops [(10, 15), (12, 15), (13, 15)] [⟨(some 14), none, .mov (t 5)⟩,
    ⟨(some 15), none, .mov (t 5)⟩,
    ⟨(some 16), none, .bin .sub (ci 1) (t 15)⟩,
    ⟨(some 17), none, .fldA 1 (t 2)⟩,
    ⟨(some 18), none, .load1 (t 17)⟩,
    ⟨(some 19), none, .mov (t 4)⟩,
    ⟨(some 20), none, .idxL 32 (t 18) (t 19)⟩,
    ⟨(some 21), none, .loadN 32 (t 20)⟩,
    ⟨(some 22), none, .pcall C_lamport_public [(t 21)]⟩,
    ⟨(some 23), none, .fldA 2 (t 2)⟩,
    ⟨(some 24), none, .load1 (t 23)⟩,
    ⟨(some 25), none, .mov (t 4)⟩,
    ⟨(some 26), none, .idxL 32 (t 24) (t 25)⟩,
    ⟨(some 27), none, .loadN 32 (t 26)⟩,
    ⟨(some 28), none, .idxA 32 2 (t 6) (t 14)⟩,
    ⟨none, none, .storN 32 (t 28) (t 22)⟩,
    ⟨(some 29), none, .idxA 32 2 (t 6) (t 16)⟩,
    ⟨none, none, .storN 32 (t 29) (t 27)⟩]))
  (.seq (.sops [.op ⟨(some 30), none, .mov (t 0)⟩,
    .op ⟨(some 31), none, .idxA 32 2 (t 6) (ci 0)⟩,
    .op ⟨(some 32), none, .loadN 32 (t 31)⟩,
    .dyn ⟨(some 33), none, .vcall V_lamport_claimed_1 (t 30) [(t 32)]⟩ HV_lamport_claimed_1 (t 30) [(t 32)],
    .op ⟨(some 34), none, .not (t 33)⟩,
    .op ⟨(some 35), none, .mov (t 34)⟩,
    .op ⟨(some 36), (some (35, false)), .mov (t 0)⟩,
    .op ⟨(some 37), (some (35, false)), .idxA 32 2 (t 6) (ci 1)⟩,
    .op ⟨(some 38), (some (35, false)), .loadN 32 (t 37)⟩,
    .dyn ⟨(some 39), (some (35, false)), .vcall V_lamport_claimed_1 (t 36) [(t 38)]⟩ HV_lamport_claimed_1 (t 36) [(t 38)],
    .op ⟨(some 40), (some (35, false)), .not (t 39)⟩,
    .op ⟨(some 41), none, .pick (t 35) (.const (.bool true)) (t 40)⟩])
  (.cond (t 41) .ret
  .skip))))))
  (.ops [⟨(some 42), none, .bin .add (t 9) (ci 1)⟩,
    ⟨(some 9), none, .mov (t 42)⟩]))))))), []⟩
def T_lamport_claimed_1 : ITran := itr 3 ir_lamport_claimed_1.code ir_lamport_claimed_1.res
/-- quilt/lamport.claimed -/
def ir_lamport_claimed : IF := ⟨(.seq (.ops [⟨(some 2), none, .box (t 0)⟩,
    ⟨(some 3), none, .box (t 1)⟩,
    ⟨(some 4), none, .mov (.const .nilFunc)⟩])
  (.seq (.ops [⟨(some 5), none, .mkclo 4 [(t 2), (t 3)]⟩,
    ⟨(some 4), none, .mov (t 5)⟩])
  .ret)), [.tmp 4]⟩
def H_lamport_claimed : HTran := inl 2 ir_lamport_claimed.code ir_lamport_claimed.res
def IT_lamport_leafOf : Nat → Option ITran := look [(3, T_lamport_published_1), (4, T_lamport_claimed_1)]
/-- quilt/lamport.leafOf -/
def ir_lamport_leafOf : IF := ⟨(.seq (.ops [⟨(some 2), none, .alloc (repl 32 [.int .u8 0])⟩])
  (.seq (.jn (.ops [⟨(some 3), none, .newb [.raw (.pointer none), .raw (.slice none 0 0)]⟩]))
  (.seq (.jn (.sops [.call none (some 5) H___strings_Builder__WriteByte [(t 3), (.const (.int .u8 0))]]))
  (.seq (.seq (.ops [⟨(some 6), none, .mov (t 0)⟩])
  (.block 0 (.rfunc IT_lamport_leafOf (t 6) [7] (.seq (.ops [⟨(some 4), none, .alloc (repl 32 [.int .u8 0])⟩,
    ⟨none, none, .storN 32 (t 4) (t 7)⟩])
  (.block 1 (.sops [.op ⟨(some 8), none, .slA 1 32 (t 4) none none⟩,
    .call none (some 9) H___strings_Builder__Write [(t 3), (t 8)]]))))))
  (.seq (.sops [.call none (some 10) H___strings_Builder__String [(t 3)],
    .op ⟨(some 11), none, .pcall C_sha256_Sum [(t 10)]⟩,
    .op ⟨none, none, .storN 32 (t 2) (t 11)⟩])
  .ret))))), [.cell 2 true 32]⟩
def H_lamport_leafOf : HTran := inl 1 ir_lamport_leafOf.code ir_lamport_leafOf.res
/-- quilt/lamport.leaf -/
def ir_lamport_leaf : IF := ⟨(.seq (.ops [⟨(some 4), none, .alloc (repl 32 [.int .u8 0])⟩])
  (.seq (.sops [.op ⟨(some 5), none, .mov (t 0)⟩,
    .op ⟨(some 6), none, .mov (t 1)⟩,
    .call none (some 7) H_lamport_published [(t 5), (t 6)],
    .call none (some 8) H_lamport_leafOf [(t 7)],
    .op ⟨none, none, .storN 32 (t 4) (t 8)⟩])
  .ret)), [.cell 4 true 32]⟩
/-- quilt/lamport.Public -/
def ir_lamport_Public : IF := ⟨(.seq (.ops [⟨(some 2), none, .alloc (repl 32 [.int .u8 0])⟩])
  (.seq (.ops [⟨(some 3), none, .alloc (repl 128 [.int .u8 0])⟩])
  (.seq (.seq (.ops [⟨(some 7), none, .mov (ci 0)⟩])
  (.block 0 (.loop (.seq (.ops [⟨(some 8), none, .bin .lss (t 7) (ci 4)⟩])
  (.seq (.cond (t 8) .skip
  (.exit 0))
  (.seq (.block 1 (.seq (.ops [⟨(some 9), none, .mov (t 7)⟩,
    ⟨(some 4), none, .mov (t 9)⟩])
  (.ops [⟨(some 10), none, .mov (t 4)⟩,
    ⟨(some 11), none, .mov (t 0)⟩,
    ⟨(some 12), none, .mov (t 4)⟩,
    ⟨(some 13), none, .pcall C_lamport_leaf [(t 11), (t 12)]⟩,
    ⟨(some 14), none, .idxA 32 4 (t 3) (t 10)⟩,
    ⟨none, none, .storN 32 (t 14) (t 13)⟩])))
  (.ops [⟨(some 15), none, .bin .add (t 7) (ci 1)⟩,
    ⟨(some 7), none, .mov (t 15)⟩])))))))
  (.seq (.seq (.ops [⟨(some 5), none, .mov (ci 2)⟩])
  (.block 2 (.loop (.seq (.seq (.ops [⟨(some 16), none, .mov (t 5)⟩,
    ⟨(some 17), none, .bin .gtr (t 16) (ci 0)⟩])
  (.cond (t 17) .skip
  (.exit 2)))
  (.seq (.block 3 (.seq (.ops [⟨(some 20), none, .mov (t 5)⟩,
    ⟨(some 21), none, .mov (ci 0)⟩])
  (.block 4 (.loop (.seq (.ops [⟨(some 22), none, .bin .lss (t 21) (t 20)⟩])
  (.seq (.cond (t 22) .skip
  (.exit 4))
  (.seq (.block 5 (.seq (.ops [⟨(some 23), none, .mov (t 21)⟩,
    ⟨(some 6), none, .mov (t 23)⟩])
  (.ops [⟨(some 24), none, .mov (t 6)⟩,
    ⟨(some 25), none, .mov (t 6)⟩,
    ⟨(some 26), none, .bin .mul (ci 2) (t 25)⟩,
    ⟨(some 27), none, .idxA 32 4 (t 3) (t 26)⟩,
    ⟨(some 28), none, .loadN 32 (t 27)⟩,
    ⟨(some 29), none, .mov (t 6)⟩,
    ⟨(some 30), none, .bin .mul (ci 2) (t 29)⟩,
    ⟨(some 31), none, .bin .add (t 30) (ci 1)⟩,
    ⟨(some 32), none, .idxA 32 4 (t 3) (t 31)⟩,
    ⟨(some 33), none, .loadN 32 (t 32)⟩,
    ⟨(some 34), none, .pcall C_lamport_node [(t 28), (t 33)]⟩,
    ⟨(some 35), none, .idxA 32 4 (t 3) (t 24)⟩,
    ⟨none, none, .storN 32 (t 35) (t 34)⟩])))
  (.ops [⟨(some 36), none, .bin .add (t 21) (ci 1)⟩,
    ⟨(some 21), none, .mov (t 36)⟩]))))))))
  (.ops [⟨(some 18), none, .mov (t 5)⟩,
    ⟨(some 19), none, .bin .quo (t 18) (ci 2)⟩,
    ⟨(some 5), none, .mov (t 19)⟩]))))))
  (.seq (.ops [⟨(some 37), none, .idxA 32 4 (t 3) (ci 0)⟩,
    ⟨(some 38), none, .loadN 32 (t 37)⟩,
    ⟨none, none, .storN 32 (t 2) (t 38)⟩])
  .ret))))), [.cell 2 true 32]⟩
/-- quilt/lamport.tag -/
def ir_lamport_tag : IF := ⟨(.seq (.ops [⟨(some 2), none, .alloc (repl 128 [.int .i64 0])⟩])
  (.seq (.ops [⟨(some 6), none, .mov (t 0)⟩,
    ⟨(some 7), none, .pcall C_sha256_Sum [(t 6)]⟩,
    ⟨(some 3), none, .alloc (repl 32 [.int .u8 0])⟩,
    ⟨none, none, .storN 32 (t 3) (t 7)⟩])
  (.seq (.ops [⟨(some 4), none, .alloc (repl 128 [.int .i64 0])⟩])
  (.seq (.seq (.ops [⟨(some 8), none, .mov (ci 0)⟩])
  (.block 0 (.loop (.seq (.ops [⟨(some 9), none, .bin .lss (t 8) (ci 128)⟩])
  (.seq (.cond (t 9) .skip
  (.exit 0))
  (.seq (.block 1 (.seq (.ops [⟨(some 10), none, .mov (t 8)⟩,
    ⟨(some 5), none, .mov (t 10)⟩])
  (.ops [⟨(some 11), none, .mov (t 5)⟩,
    ⟨(some 12), none, .mov (t 5)⟩,
    ⟨(some 13), none, .bin .quo (t 12) (ci 8)⟩,
    ⟨(some 14), none, .idxA 1 32 (t 3) (t 13)⟩,
    ⟨(some 15), none, .load1 (t 14)⟩,
    ⟨(some 16), none, .mov (t 5)⟩,
    ⟨(some 17), none, .bin .rem (t 16) (ci 8)⟩,
    ⟨(some 18), none, .bin .sub (ci 7) (t 17)⟩,
    ⟨(some 19), none, .bin .shr (t 15) (t 18)⟩,
    ⟨(some 20), none, .conv .i64 (t 19)⟩,
    ⟨(some 21), none, .bin .and (t 20) (ci 1)⟩,
    ⟨(some 22), none, .idxA 1 128 (t 4) (t 11)⟩,
    ⟨none, none, .stor1 (t 22) (t 21)⟩])))
  (.ops [⟨(some 23), none, .bin .add (t 8) (ci 1)⟩,
    ⟨(some 8), none, .mov (t 23)⟩])))))))
  (.seq (.ops [⟨(some 24), none, .loadN 128 (t 4)⟩,
    ⟨none, none, .storN 128 (t 2) (t 24)⟩])
  .ret))))), [.cell 2 true 128]⟩
/-- quilt/lamport.Sign -/
def ir_lamport_Sign : IF := ⟨(.seq (.ops [⟨(some 6), none, .alloc [.int .i64 0, .raw (.slice none 0 0), .raw (.slice none 0 0), .raw (.slice none 0 0)]⟩,
    ⟨(some 7), none, .mov (ci 0)⟩])
  (.seq (.seq (.ops [⟨(some 12), none, .mov (t 1)⟩,
    ⟨(some 13), none, .bin .lss (t 12) (ci 0)⟩,
    ⟨(some 14), none, .mov (t 13)⟩,
    ⟨(some 15), (some (14, false)), .mov (t 1)⟩,
    ⟨(some 16), (some (14, false)), .bin .geq (t 15) (ci 4)⟩,
    ⟨(some 17), none, .pick (t 14) (.const (.bool true)) (t 16)⟩])
  (.cond (t 17) (.seq (.ops [⟨(some 18), none, .build 4 [.int .i64 0, .raw (.slice none 0 0), .raw (.slice none 0 0), .raw (.slice none 0 0)] []⟩,
    ⟨none, none, .storN 4 (t 6) (t 18)⟩,
    ⟨(some 7), none, .mov (ci 2)⟩])
  .ret)
  .skip))
  (.seq (.ops [⟨(some 19), none, .mov (t 1)⟩,
    ⟨(some 20), none, .build 4 [.int .i64 0, .raw (.slice none 0 0), .raw (.slice none 0 0), .raw (.slice none 0 0)] [(0, 1, (t 19))]⟩,
    ⟨(some 8), none, .alloc [.int .i64 0, .raw (.slice none 0 0), .raw (.slice none 0 0), .raw (.slice none 0 0)]⟩,
    ⟨none, none, .storN 4 (t 8) (t 20)⟩])
  (.seq (.seq (.ops [⟨(some 21), none, .mov (t 2)⟩,
    ⟨(some 22), none, .pcall C_lamport_tag [(t 21)]⟩,
    ⟨(some 23), none, .mov (ci 0)⟩])
  (.block 0 (.loop (.seq (.ops [⟨(some 24), none, .bin .lss (t 23) (ci 128)⟩])
  (.seq (.cond (t 24) .skip
  (.exit 0))
  (.seq (.block 1 (.seq (.ops [⟨(some 25), none, .mov (t 23)⟩,
    ⟨(some 26), none, .idxV 128 1 false (t 22) (t 23)⟩,
    ⟨(some 9), none, .mov (t 25)⟩,
    ⟨(some 10), none, .mov (t 26)⟩])
  (.seq (.jn (.rops [(1, 7)] [⟨(some 27), none, .fldA 1 (t 8)⟩,
    ⟨(some 28), none, .load1 (t 27)⟩,
    ⟨(some 29), none, .mov (t 0)⟩,
    ⟨(some 30), none, .mov (t 1)⟩,
    ⟨(some 31), none, .mov (t 9)⟩,
    ⟨(some 32), none, .mov (t 10)⟩,
    ⟨(some 33), none, .pcall C_lamport_secret [(t 29), (t 30), (t 31), (t 32)]⟩,
    ⟨(some 34), none, .bslice 32 (repl 32 [.int .u8 0]) 1 [(0, 32, (t 33))]⟩,
    ⟨(some 35), none, .app 32 32 (t 28) (t 34)⟩,
    ⟨(some 36), none, .fldA 1 (t 8)⟩,
    ⟨none, none, .stor1 (t 36) (t 35)⟩]))
  (.jn (.rops [(1, 9)] [⟨(some 37), none, .fldA 2 (t 8)⟩,
    ⟨(some 38), none, .load1 (t 37)⟩,
    ⟨(some 39), none, .mov (t 0)⟩,
    ⟨(some 40), none, .mov (t 1)⟩,
    ⟨(some 41), none, .mov (t 9)⟩,
    ⟨(some 42), none, .mov (t 10)⟩,
    ⟨(some 43), none, .bin .sub (ci 1) (t 42)⟩,
    ⟨(some 44), none, .pcall C_lamport_secret [(t 39), (t 40), (t 41), (t 43)]⟩,
    ⟨(some 45), none, .pcall C_lamport_public [(t 44)]⟩,
    ⟨(some 46), none, .bslice 32 (repl 32 [.int .u8 0]) 1 [(0, 32, (t 45))]⟩,
    ⟨(some 47), none, .app 32 32 (t 38) (t 46)⟩,
    ⟨(some 48), none, .fldA 2 (t 8)⟩,
    ⟨none, none, .stor1 (t 48) (t 47)⟩])))))
  (.ops [⟨(some 49), none, .bin .add (t 23) (ci 1)⟩,
    ⟨(some 23), none, .mov (t 49)⟩])))))))
  (.seq (.ops [⟨(some 50), none, .mov (t 1)⟩,
    ⟨(some 51), none, .bin .quo (t 50) (ci 2)⟩,
    ⟨(some 52), none, .bin .mul (t 51) (ci 2)⟩,
    ⟨(some 53), none, .bin .xor (t 52) (ci 2)⟩,
    ⟨(some 11), none, .mov (t 53)⟩])
  (.seq (.jn (.ops [⟨(some 54), none, .mov (t 0)⟩,
    ⟨(some 55), none, .mov (t 1)⟩,
    ⟨(some 56), none, .bin .xor (t 55) (ci 1)⟩,
    ⟨(some 57), none, .pcall C_lamport_leaf [(t 54), (t 56)]⟩,
    ⟨(some 58), none, .mov (t 0)⟩,
    ⟨(some 59), none, .mov (t 11)⟩,
    ⟨(some 60), none, .pcall C_lamport_leaf [(t 58), (t 59)]⟩,
    ⟨(some 61), none, .mov (t 0)⟩,
    ⟨(some 62), none, .mov (t 11)⟩,
    ⟨(some 63), none, .bin .add (t 62) (ci 1)⟩,
    ⟨(some 64), none, .pcall C_lamport_leaf [(t 61), (t 63)]⟩,
    ⟨(some 65), none, .pcall C_lamport_node [(t 60), (t 64)]⟩,
    ⟨(some 66), none, .bslice 32 (repl 32 [.int .u8 0]) 2 [(0, 32, (t 57)), (32, 32, (t 65))]⟩,
    ⟨(some 67), none, .fldA 3 (t 8)⟩,
    ⟨none, none, .stor1 (t 67) (t 66)⟩]))
  (.seq (.ops [⟨(some 68), none, .loadN 4 (t 8)⟩,
    ⟨none, none, .storN 4 (t 6) (t 68)⟩,
    ⟨(some 7), none, .mov (ci 0)⟩])
  .ret))))))), [.cell 6 true 4, .tmp 7]⟩
/-- quilt/lamport.Check -/
def ir_lamport_Check : IF := ⟨(.seq (.ops [⟨(some 1), none, .box (t 0)⟩,
    ⟨(some 2), none, .mov (ci 0)⟩])
  (.seq (.seq (.ops [⟨(some 3), none, .fldA 0 (t 1)⟩,
    ⟨(some 4), none, .load1 (t 3)⟩,
    ⟨(some 5), none, .bin .lss (t 4) (ci 0)⟩,
    ⟨(some 6), none, .mov (t 5)⟩,
    ⟨(some 7), (some (6, false)), .fldA 0 (t 1)⟩,
    ⟨(some 8), (some (6, false)), .load1 (t 7)⟩,
    ⟨(some 9), (some (6, false)), .bin .geq (t 8) (ci 4)⟩,
    ⟨(some 10), none, .pick (t 6) (.const (.bool true)) (t 9)⟩])
  (.cond (t 10) (.seq (.ops [⟨(some 2), none, .mov (ci 2)⟩])
  .ret)
  .skip))
  (.seq (.seq (.ops [⟨(some 11), none, .fldA 1 (t 1)⟩,
    ⟨(some 12), none, .load1 (t 11)⟩,
    ⟨(some 13), none, .lenL (t 12)⟩,
    ⟨(some 14), none, .bin .neq (t 13) (ci 128)⟩,
    ⟨(some 15), none, .mov (t 14)⟩,
    ⟨(some 16), (some (15, false)), .fldA 2 (t 1)⟩,
    ⟨(some 17), (some (15, false)), .load1 (t 16)⟩,
    ⟨(some 18), (some (15, false)), .lenL (t 17)⟩,
    ⟨(some 19), (some (15, false)), .bin .neq (t 18) (ci 128)⟩,
    ⟨(some 20), none, .pick (t 15) (.const (.bool true)) (t 19)⟩,
    ⟨(some 21), none, .mov (t 20)⟩,
    ⟨(some 22), (some (21, false)), .fldA 3 (t 1)⟩,
    ⟨(some 23), (some (21, false)), .load1 (t 22)⟩,
    ⟨(some 24), (some (21, false)), .lenL (t 23)⟩,
    ⟨(some 25), (some (21, false)), .bin .neq (t 24) (ci 2)⟩,
    ⟨(some 26), none, .pick (t 21) (.const (.bool true)) (t 25)⟩])
  (.cond (t 26) (.seq (.ops [⟨(some 2), none, .mov (ci 1)⟩])
  .ret)
  .skip))
  (.seq (.ops [⟨(some 2), none, .mov (ci 0)⟩])
  .ret)))), [.tmp 2]⟩
/-- quilt/lamport.Verify -/
def ir_lamport_Verify : IF := ⟨(.seq (.ops [⟨(some 3), none, .box (t 0)⟩,
    ⟨(some 5), none, .box (t 2)⟩,
    ⟨(some 6), none, .mov (.const (.bool false))⟩])
  (.seq (.seq (.ops [⟨(some 11), none, .loadN 4 (t 5)⟩,
    ⟨(some 12), none, .pcall C_lamport_Check [(t 11)]⟩,
    ⟨(some 13), none, .bin .neq (t 12) (ci 0)⟩])
  (.cond (t 13) (.seq (.ops [⟨(some 6), none, .mov (.const (.bool false))⟩])
  .ret)
  .skip))
  (.seq (.sops [.op ⟨(some 14), none, .mov (t 1)⟩,
    .op ⟨(some 15), none, .loadN 4 (t 5)⟩,
    .call none (some 16) H_lamport_claimed [(t 14), (t 15)],
    .call none (some 17) H_lamport_leafOf [(t 16)],
    .op ⟨(some 7), none, .alloc (repl 32 [.int .u8 0])⟩,
    .op ⟨none, none, .storN 32 (t 7) (t 17)⟩])
  (.seq (.ops [⟨(some 18), none, .fldA 0 (t 5)⟩,
    ⟨(some 19), none, .load1 (t 18)⟩,
    ⟨(some 8), none, .mov (t 19)⟩])
  (.seq (.seq (.ops [⟨(some 20), none, .fldA 3 (t 5)⟩,
    ⟨(some 21), none, .load1 (t 20)⟩,
    ⟨(some 22), none, .lenL (t 21)⟩,
    ⟨(some 23), none, .mov (ci 0)⟩])
  (.block 0 (.loop (.seq (.ops [⟨(some 24), none, .bin .lss (t 23) (t 22)⟩])
  (.seq (.cond (t 24) .skip
  (.exit 0))
  (.seq (.block 1 (.seq (.ops [⟨(some 25), none, .idxL 32 (t 21) (t 23)⟩,
    ⟨(some 26), none, .loadN 32 (t 25)⟩,
    ⟨(some 10), none, .alloc (repl 32 [.int .u8 0])⟩,
    ⟨none, none, .storN 32 (t 10) (t 26)⟩])
  (.seq (.seq (.ops [⟨(some 27), none, .mov (t 8)⟩,
    ⟨(some 28), none, .bin .rem (t 27) (ci 2)⟩,
    ⟨(some 29), none, .bin .eql (t 28) (ci 0)⟩])
  (.jn (.cond (t 29) (.ops [⟨(some 30), none, .loadN 32 (t 7)⟩,
    ⟨(some 31), none, .loadN 32 (t 10)⟩,
    ⟨(some 32), none, .pcall C_lamport_node [(t 30), (t 31)]⟩,
    ⟨none, none, .storN 32 (t 7) (t 32)⟩])
  (.ops [⟨(some 33), none, .loadN 32 (t 10)⟩,
    ⟨(some 34), none, .loadN 32 (t 7)⟩,
    ⟨(some 35), none, .pcall C_lamport_node [(t 33), (t 34)]⟩,
    ⟨none, none, .storN 32 (t 7) (t 35)⟩]))))
  (.ops [⟨(some 36), none, .mov (t 8)⟩,
    ⟨(some 37), none, .bin .quo (t 36) (ci 2)⟩,
    ⟨(some 8), none, .mov (t 37)⟩]))))
  (.ops [⟨(some 38), none, .bin .add (t 23) (ci 1)⟩,
    ⟨(some 23), none, .mov (t 38)⟩])))))))
  (.seq (.ops [⟨(some 39), none, .loadN 32 (t 7)⟩,
    ⟨(some 40), none, .loadN 32 (t 3)⟩,
    ⟨(some 41), none, .aeq false (repl 32 [some (some .u8)]) (t 39) (t 40)⟩,
    ⟨(some 6), none, .mov (t 41)⟩])
  .ret)))))), [.tmp 6]⟩
/-- quilt/quiltref53.secret -/
def ir_quiltref53_secret : IF := ⟨(.seq (.ops [⟨(some 8), none, .alloc (repl 32 [.int .u8 0])⟩])
  (.seq (.ops [⟨(some 9), none, .mov (t 0)⟩,
    ⟨(some 10), none, .mov (t 1)⟩,
    ⟨(some 11), none, .conv .u8 (t 10)⟩,
    ⟨(some 12), none, .mov (t 2)⟩,
    ⟨(some 13), none, .conv .u8 (t 12)⟩,
    ⟨(some 14), none, .mov (t 3)⟩,
    ⟨(some 15), none, .conv .u8 (t 14)⟩,
    ⟨(some 16), none, .bslice 1 [.int .u8 0] 3 [(0, 1, (t 11)), (1, 1, (t 13)), (2, 1, (t 15))]⟩,
    ⟨(some 17), none, .b2s (t 16)⟩,
    ⟨(some 18), none, .pcall C_quiltref02_HMAC [(t 9), (t 17)]⟩,
    ⟨none, none, .storN 32 (t 8) (t 18)⟩])
  .ret)), [.cell 8 true 32]⟩
/-- quilt/quiltref53.public -/
def ir_quiltref53_public : IF := ⟨(.seq (.ops [⟨(some 1), none, .box (t 0)⟩,
    ⟨(some 2), none, .alloc (repl 32 [.int .u8 0])⟩])
  (.seq (.ops [⟨(some 3), none, .loadN 32 (t 1)⟩,
    ⟨(some 4), none, .pcall C_quiltref02_Bytes [(t 3)]⟩,
    ⟨(some 5), none, .pcall C_quiltref02_Sum [(t 4)]⟩,
    ⟨none, none, .storN 32 (t 2) (t 5)⟩])
  .ret)), [.cell 2 true 32]⟩
/-- quilt/quiltref53.above -/
def ir_quiltref53_above : IF := ⟨(.seq (.ops [⟨(some 2), none, .box (t 0)⟩,
    ⟨(some 3), none, .box (t 1)⟩,
    ⟨(some 4), none, .mov (.const (.string ⟨#[]⟩))⟩])
  (.seq (.ops [⟨(some 5), none, .loadN 32 (t 2)⟩,
    ⟨(some 6), none, .pcall C_quiltref02_Bytes [(t 5)]⟩,
    ⟨(some 7), none, .bin .add (.const (.string ⟨#[1]⟩)) (t 6)⟩,
    ⟨(some 8), none, .loadN 32 (t 3)⟩,
    ⟨(some 9), none, .pcall C_quiltref02_Bytes [(t 8)]⟩,
    ⟨(some 10), none, .bin .add (t 7) (t 9)⟩,
    ⟨(some 4), none, .mov (t 10)⟩])
  .ret)), [.tmp 4]⟩
/-- quilt/quiltref53.node -/
def ir_quiltref53_node : IF := ⟨(.seq (.ops [⟨(some 2), none, .box (t 0)⟩,
    ⟨(some 3), none, .box (t 1)⟩,
    ⟨(some 4), none, .alloc (repl 32 [.int .u8 0])⟩])
  (.seq (.ops [⟨(some 5), none, .loadN 32 (t 2)⟩,
    ⟨(some 6), none, .loadN 32 (t 3)⟩,
    ⟨(some 7), none, .pcall C_quiltref53_above [(t 5), (t 6)]⟩,
    ⟨(some 8), none, .pcall C_quiltref02_Sum [(t 7)]⟩,
    ⟨none, none, .storN 32 (t 4) (t 8)⟩])
  .ret)), [.cell 4 true 32]⟩
/-- quilt/quiltref53.leaf -/
def ir_quiltref53_leaf : IF := ⟨(.seq (.ops [⟨(some 4), none, .alloc (repl 32 [.int .u8 0])⟩])
  (.seq (.ops [⟨(some 7), none, .bslice 1 [.int .u8 0] 1 [(0, 1, (.const (.int .u8 0)))]⟩,
    ⟨(some 5), none, .mov (t 7)⟩])
  (.seq (.seq (.ops [⟨(some 6), none, .mov (ci 0)⟩])
  (.block 0 (.loop (.seq (.seq (.ops [⟨(some 8), none, .mov (t 6)⟩,
    ⟨(some 9), none, .bin .lss (t 8) (ci 128)⟩])
  (.cond (t 9) .skip
  (.exit 0)))
  (.seq (.block 1 (.seq (.ops [⟨(some 12), none, .mov (t 5)⟩,
    ⟨(some 13), none, .mov (t 0)⟩,
    ⟨(some 14), none, .mov (t 1)⟩,
    ⟨(some 15), none, .mov (t 6)⟩,
    ⟨(some 16), none, .pcall C_quiltref53_secret [(t 13), (t 14), (t 15), (ci 0)]⟩,
    ⟨(some 17), none, .pcall C_quiltref53_public [(t 16)]⟩,
    ⟨(some 18), none, .pcall C_quiltref02_Bytes [(t 17)]⟩,
    ⟨(some 19), none, .app 1 1 (t 12) (t 18)⟩,
    ⟨(some 5), none, .mov (t 19)⟩])
  (.ops [⟨(some 20), none, .mov (t 5)⟩,
    ⟨(some 21), none, .mov (t 0)⟩,
    ⟨(some 22), none, .mov (t 1)⟩,
    ⟨(some 23), none, .mov (t 6)⟩,
    ⟨(some 24), none, .pcall C_quiltref53_secret [(t 21), (t 22), (t 23), (ci 1)]⟩,
    ⟨(some 25), none, .pcall C_quiltref53_public [(t 24)]⟩,
    ⟨(some 26), none, .pcall C_quiltref02_Bytes [(t 25)]⟩,
    ⟨(some 27), none, .app 1 1 (t 20) (t 26)⟩,
    ⟨(some 5), none, .mov (t 27)⟩])))
  (.ops [⟨(some 10), none, .mov (t 6)⟩,
    ⟨(some 11), none, .bin .add (t 10) (ci 1)⟩,
    ⟨(some 6), none, .mov (t 11)⟩]))))))
  (.seq (.ops [⟨(some 28), none, .mov (t 5)⟩,
    ⟨(some 29), none, .b2s (t 28)⟩,
    ⟨(some 30), none, .pcall C_quiltref02_Sum [(t 29)]⟩,
    ⟨none, none, .storN 32 (t 4) (t 30)⟩])
  .ret)))), [.cell 4 true 32]⟩
/-- quilt/quiltref53.leaves -/
def ir_quiltref53_leaves : IF := ⟨(.seq (.ops [⟨(some 2), none, .mov (.const (.slice none 0 0))⟩])
  (.seq (.ops [⟨(some 5), none, .bslice 32 (repl 32 [.int .u8 0]) 0 []⟩,
    ⟨(some 3), none, .mov (t 5)⟩])
  (.seq (.seq (.ops [⟨(some 4), none, .mov (ci 0)⟩])
  (.block 0 (.loop (.seq (.seq (.ops [⟨(some 6), none, .mov (t 4)⟩,
    ⟨(some 7), none, .bin .lss (t 6) (ci 4)⟩])
  (.cond (t 7) .skip
  (.exit 0)))
  (.seq (.block 1 (.ops [⟨(some 10), none, .mov (t 3)⟩,
    ⟨(some 11), none, .mov (t 0)⟩,
    ⟨(some 12), none, .mov (t 4)⟩,
    ⟨(some 13), none, .pcall C_quiltref53_leaf [(t 11), (t 12)]⟩,
    ⟨(some 14), none, .bslice 32 (repl 32 [.int .u8 0]) 1 [(0, 32, (t 13))]⟩,
    ⟨(some 15), none, .app 32 32 (t 10) (t 14)⟩,
    ⟨(some 3), none, .mov (t 15)⟩]))
  (.ops [⟨(some 8), none, .mov (t 4)⟩,
    ⟨(some 9), none, .bin .add (t 8) (ci 1)⟩,
    ⟨(some 4), none, .mov (t 9)⟩]))))))
  (.seq (.ops [⟨(some 16), none, .mov (t 3)⟩,
    ⟨(some 2), none, .mov (t 16)⟩])
  .ret)))), [.tmp 2]⟩
/-- quilt/quiltref53.Public -/
def ir_quiltref53_Public : IF := ⟨(.seq (.ops [⟨(some 2), none, .alloc (repl 32 [.int .u8 0])⟩])
  (.seq (.ops [⟨(some 4), none, .mov (t 0)⟩,
    ⟨(some 5), none, .pcallF F_quiltref53_leaves [(t 4)]⟩,
    ⟨(some 3), none, .mov (t 5)⟩])
  (.seq (.ops [⟨(some 6), none, .mov (t 3)⟩,
    ⟨(some 7), none, .idxL 32 (t 6) (ci 0)⟩,
    ⟨(some 8), none, .loadN 32 (t 7)⟩,
    ⟨(some 9), none, .mov (t 3)⟩,
    ⟨(some 10), none, .idxL 32 (t 9) (ci 1)⟩,
    ⟨(some 11), none, .loadN 32 (t 10)⟩,
    ⟨(some 12), none, .pcall C_quiltref53_node [(t 8), (t 11)]⟩,
    ⟨(some 13), none, .mov (t 3)⟩,
    ⟨(some 14), none, .idxL 32 (t 13) (ci 2)⟩,
    ⟨(some 15), none, .loadN 32 (t 14)⟩,
    ⟨(some 16), none, .mov (t 3)⟩,
    ⟨(some 17), none, .idxL 32 (t 16) (ci 3)⟩,
    ⟨(some 18), none, .loadN 32 (t 17)⟩,
    ⟨(some 19), none, .pcall C_quiltref53_node [(t 15), (t 18)]⟩,
    ⟨(some 20), none, .pcall C_quiltref53_node [(t 12), (t 19)]⟩,
    ⟨none, none, .storN 32 (t 2) (t 20)⟩])
  .ret))), [.cell 2 true 32]⟩
/-- quilt/quiltref53.Tag -/
def ir_quiltref53_Tag : IF := ⟨(.seq (.ops [⟨(some 2), none, .mov (.const (.string ⟨#[]⟩))⟩])
  (.seq (.ops [⟨(some 4), none, .mov (t 0)⟩,
    ⟨(some 5), none, .pcall C_quiltref02_Sum [(t 4)]⟩,
    ⟨(some 3), none, .alloc (repl 32 [.int .u8 0])⟩,
    ⟨none, none, .storN 32 (t 3) (t 5)⟩])
  (.seq (.ops [⟨(some 6), none, .loadN 32 (t 3)⟩,
    ⟨(some 7), none, .pcall C_quiltref02_Bytes [(t 6)]⟩,
    ⟨(some 8), none, .slS (t 7) none (some (ci 16))⟩,
    ⟨(some 2), none, .mov (t 8)⟩])
  .ret))), [.tmp 2]⟩
/-- quilt/quiltref53.Bit -/
def ir_quiltref53_Bit : IF := ⟨(.seq (.ops [⟨(some 4), none, .mov (ci 0)⟩])
  (.seq (.ops [⟨(some 5), none, .mov (t 0)⟩,
    ⟨(some 6), none, .mov (t 1)⟩,
    ⟨(some 7), none, .bin .quo (t 6) (ci 8)⟩,
    ⟨(some 8), none, .idxS (t 5) (t 7)⟩,
    ⟨(some 9), none, .conv .i64 (t 8)⟩,
    ⟨(some 10), none, .mov (t 1)⟩,
    ⟨(some 11), none, .bin .rem (t 10) (ci 8)⟩,
    ⟨(some 12), none, .bin .sub (ci 7) (t 11)⟩,
    ⟨(some 13), none, .bin .shr (t 9) (t 12)⟩,
    ⟨(some 14), none, .bin .and (t 13) (ci 1)⟩,
    ⟨(some 4), none, .mov (t 14)⟩])
  .ret)), [.tmp 4]⟩
/-- quilt/quiltref53.Sign -/
def ir_quiltref53_Sign : IF := ⟨(.seq (.ops [⟨(some 6), none, .alloc [.int .i64 0, .raw (.slice none 0 0), .raw (.slice none 0 0), .raw (.slice none 0 0)]⟩,
    ⟨(some 7), none, .mov (ci 0)⟩])
  (.seq (.seq (.ops [⟨(some 14), none, .mov (t 1)⟩,
    ⟨(some 15), none, .bin .lss (t 14) (ci 0)⟩,
    ⟨(some 16), none, .mov (t 15)⟩,
    ⟨(some 17), (some (16, false)), .mov (t 1)⟩,
    ⟨(some 18), (some (16, false)), .bin .gtr (t 17) (ci 3)⟩,
    ⟨(some 19), none, .pick (t 16) (.const (.bool true)) (t 18)⟩])
  (.cond (t 19) (.seq (.ops [⟨(some 20), none, .build 4 [.int .i64 0, .raw (.slice none 0 0), .raw (.slice none 0 0), .raw (.slice none 0 0)] []⟩,
    ⟨none, none, .storN 4 (t 6) (t 20)⟩,
    ⟨(some 7), none, .mov (ci 2)⟩])
  .ret)
  .skip))
  (.seq (.ops [⟨(some 21), none, .mov (t 1)⟩,
    ⟨(some 22), none, .build 4 [.int .i64 0, .raw (.slice none 0 0), .raw (.slice none 0 0), .raw (.slice none 0 0)] [(0, 1, (t 21))]⟩,
    ⟨(some 8), none, .alloc [.int .i64 0, .raw (.slice none 0 0), .raw (.slice none 0 0), .raw (.slice none 0 0)]⟩,
    ⟨none, none, .storN 4 (t 8) (t 22)⟩])
  (.seq (.ops [⟨(some 23), none, .mov (t 2)⟩,
    ⟨(some 24), none, .pcall C_quiltref53_Tag [(t 23)]⟩,
    ⟨(some 9), none, .mov (t 24)⟩])
  (.seq (.seq (.ops [⟨(some 10), none, .mov (ci 0)⟩])
  (.block 0 (.loop (.seq (.seq (.ops [⟨(some 25), none, .mov (t 10)⟩,
    ⟨(some 26), none, .bin .lss (t 25) (ci 128)⟩])
  (.cond (t 26) .skip
  (.exit 0)))
  (.seq (.block 1 (.seq (.ops [⟨(some 29), none, .mov (t 9)⟩,
    ⟨(some 30), none, .mov (t 10)⟩,
    ⟨(some 31), none, .pcall C_quiltref53_Bit [(t 29), (t 30)]⟩,
    ⟨(some 11), none, .mov (t 31)⟩])
  (.seq (.jn (.rops [(1, 7)] [⟨(some 32), none, .fldA 1 (t 8)⟩,
    ⟨(some 33), none, .load1 (t 32)⟩,
    ⟨(some 34), none, .mov (t 0)⟩,
    ⟨(some 35), none, .mov (t 1)⟩,
    ⟨(some 36), none, .mov (t 10)⟩,
    ⟨(some 37), none, .mov (t 11)⟩,
    ⟨(some 38), none, .pcall C_quiltref53_secret [(t 34), (t 35), (t 36), (t 37)]⟩,
    ⟨(some 39), none, .bslice 32 (repl 32 [.int .u8 0]) 1 [(0, 32, (t 38))]⟩,
    ⟨(some 40), none, .app 32 32 (t 33) (t 39)⟩,
    ⟨(some 41), none, .fldA 1 (t 8)⟩,
    ⟨none, none, .stor1 (t 41) (t 40)⟩]))
  (.jn (.rops [(1, 9)] [⟨(some 42), none, .fldA 2 (t 8)⟩,
    ⟨(some 43), none, .load1 (t 42)⟩,
    ⟨(some 44), none, .mov (t 0)⟩,
    ⟨(some 45), none, .mov (t 1)⟩,
    ⟨(some 46), none, .mov (t 10)⟩,
    ⟨(some 47), none, .mov (t 11)⟩,
    ⟨(some 48), none, .bin .sub (ci 1) (t 47)⟩,
    ⟨(some 49), none, .pcall C_quiltref53_secret [(t 44), (t 45), (t 46), (t 48)]⟩,
    ⟨(some 50), none, .pcall C_quiltref53_public [(t 49)]⟩,
    ⟨(some 51), none, .bslice 32 (repl 32 [.int .u8 0]) 1 [(0, 32, (t 50))]⟩,
    ⟨(some 52), none, .app 32 32 (t 43) (t 51)⟩,
    ⟨(some 53), none, .fldA 2 (t 8)⟩,
    ⟨none, none, .stor1 (t 53) (t 52)⟩])))))
  (.ops [⟨(some 27), none, .mov (t 10)⟩,
    ⟨(some 28), none, .bin .add (t 27) (ci 1)⟩,
    ⟨(some 10), none, .mov (t 28)⟩]))))))
  (.seq (.ops [⟨(some 54), none, .mov (t 0)⟩,
    ⟨(some 55), none, .pcallF F_quiltref53_leaves [(t 54)]⟩,
    ⟨(some 12), none, .mov (t 55)⟩])
  (.seq (.ops [⟨(some 56), none, .mov (t 1)⟩,
    ⟨(some 57), none, .bin .quo (t 56) (ci 2)⟩,
    ⟨(some 58), none, .bin .mul (t 57) (ci 2)⟩,
    ⟨(some 59), none, .bin .sub (ci 2) (t 58)⟩,
    ⟨(some 13), none, .mov (t 59)⟩])
  (.seq (.jn (.ops [⟨(some 60), none, .mov (t 12)⟩,
    ⟨(some 61), none, .mov (t 1)⟩,
    ⟨(some 62), none, .bin .quo (t 61) (ci 2)⟩,
    ⟨(some 63), none, .bin .mul (t 62) (ci 2)⟩,
    ⟨(some 64), none, .bin .add (t 63) (ci 1)⟩,
    ⟨(some 65), none, .mov (t 1)⟩,
    ⟨(some 66), none, .bin .rem (t 65) (ci 2)⟩,
    ⟨(some 67), none, .bin .sub (t 64) (t 66)⟩,
    ⟨(some 68), none, .idxL 32 (t 60) (t 67)⟩,
    ⟨(some 69), none, .loadN 32 (t 68)⟩,
    ⟨(some 70), none, .mov (t 12)⟩,
    ⟨(some 71), none, .mov (t 13)⟩,
    ⟨(some 72), none, .idxL 32 (t 70) (t 71)⟩,
    ⟨(some 73), none, .loadN 32 (t 72)⟩,
    ⟨(some 74), none, .mov (t 12)⟩,
    ⟨(some 75), none, .mov (t 13)⟩,
    ⟨(some 76), none, .bin .add (t 75) (ci 1)⟩,
    ⟨(some 77), none, .idxL 32 (t 74) (t 76)⟩,
    ⟨(some 78), none, .loadN 32 (t 77)⟩,
    ⟨(some 79), none, .pcall C_quiltref53_node [(t 73), (t 78)]⟩,
    ⟨(some 80), none, .bslice 32 (repl 32 [.int .u8 0]) 2 [(0, 32, (t 69)), (32, 32, (t 79))]⟩,
    ⟨(some 81), none, .fldA 3 (t 8)⟩,
    ⟨none, none, .stor1 (t 81) (t 80)⟩]))
  (.seq (.ops [⟨(some 82), none, .loadN 4 (t 8)⟩,
    ⟨none, none, .storN 4 (t 6) (t 82)⟩,
    ⟨(some 7), none, .mov (ci 0)⟩])
  .ret))))))))), [.cell 6 true 4, .tmp 7]⟩
/-- quilt/quiltref53.Check -/
def ir_quiltref53_Check : IF := ⟨(.seq (.ops [⟨(some 1), none, .box (t 0)⟩,
    ⟨(some 2), none, .mov (ci 0)⟩])
  (.seq (.seq (.ops [⟨(some 3), none, .fldA 0 (t 1)⟩,
    ⟨(some 4), none, .load1 (t 3)⟩,
    ⟨(some 5), none, .bin .lss (t 4) (ci 0)⟩,
    ⟨(some 6), none, .mov (t 5)⟩,
    ⟨(some 7), (some (6, false)), .fldA 0 (t 1)⟩,
    ⟨(some 8), (some (6, false)), .load1 (t 7)⟩,
    ⟨(some 9), (some (6, false)), .bin .gtr (t 8) (ci 3)⟩,
    ⟨(some 10), none, .pick (t 6) (.const (.bool true)) (t 9)⟩])
  (.cond (t 10) (.seq (.ops [⟨(some 2), none, .mov (ci 2)⟩])
  .ret)
  .skip))
  (.seq (.seq (.ops [⟨(some 11), none, .fldA 1 (t 1)⟩,
    ⟨(some 12), none, .load1 (t 11)⟩,
    ⟨(some 13), none, .lenL (t 12)⟩,
    ⟨(some 14), none, .bin .neq (t 13) (ci 128)⟩,
    ⟨(some 15), none, .mov (t 14)⟩,
    ⟨(some 16), (some (15, false)), .fldA 2 (t 1)⟩,
    ⟨(some 17), (some (15, false)), .load1 (t 16)⟩,
    ⟨(some 18), (some (15, false)), .lenL (t 17)⟩,
    ⟨(some 19), (some (15, false)), .bin .neq (t 18) (ci 128)⟩,
    ⟨(some 20), none, .pick (t 15) (.const (.bool true)) (t 19)⟩,
    ⟨(some 21), none, .mov (t 20)⟩,
    ⟨(some 22), (some (21, false)), .fldA 3 (t 1)⟩,
    ⟨(some 23), (some (21, false)), .load1 (t 22)⟩,
    ⟨(some 24), (some (21, false)), .lenL (t 23)⟩,
    ⟨(some 25), (some (21, false)), .bin .neq (t 24) (ci 2)⟩,
    ⟨(some 26), none, .pick (t 21) (.const (.bool true)) (t 25)⟩])
  (.cond (t 26) (.seq (.ops [⟨(some 2), none, .mov (ci 1)⟩])
  .ret)
  .skip))
  (.seq (.ops [⟨(some 2), none, .mov (ci 0)⟩])
  .ret)))), [.tmp 2]⟩
/-- quilt/quiltref53.Strings -/
def ir_quiltref53_Strings : IF := ⟨(.seq (.ops [⟨(some 3), none, .box (t 1)⟩,
    ⟨(some 4), none, .mov (.const (.slice none 0 0))⟩])
  (.seq (.ops [⟨(some 13), none, .bslice 1 [.str []] 0 []⟩,
    ⟨(some 5), none, .mov (t 13)⟩])
  (.seq (.ops [⟨(some 14), none, .bslice 1 [.int .u8 0] 1 [(0, 1, (.const (.int .u8 0)))]⟩,
    ⟨(some 6), none, .mov (t 14)⟩])
  (.seq (.seq (.ops [⟨(some 7), none, .mov (ci 0)⟩])
  (.block 0 (.loop (.seq (.seq (.ops [⟨(some 15), none, .mov (t 7)⟩,
    ⟨(some 16), none, .bin .lss (t 15) (ci 128)⟩])
  (.cond (t 16) .skip
  (.exit 0)))
  (.seq (.block 1 (.seq (.ops [⟨(some 19), none, .fldA 1 (t 3)⟩,
    ⟨(some 20), none, .load1 (t 19)⟩,
    ⟨(some 21), none, .mov (t 7)⟩,
    ⟨(some 22), none, .idxL 32 (t 20) (t 21)⟩,
    ⟨(some 23), none, .loadN 32 (t 22)⟩,
    ⟨(some 24), none, .pcall C_quiltref02_Bytes [(t 23)]⟩,
    ⟨(some 8), none, .mov (t 24)⟩])
  (.seq (.ops [⟨(some 25), none, .mov (t 5)⟩,
    ⟨(some 26), none, .mov (t 8)⟩,
    ⟨(some 27), none, .bslice 1 [.str []] 1 [(0, 1, (t 26))]⟩,
    ⟨(some 28), none, .app 1 16 (t 25) (t 27)⟩,
    ⟨(some 5), none, .mov (t 28)⟩])
  (.seq (.jn (.rops [(1, 7), (3, 7), (5, 7), (6, 7), (1, 8), (3, 8), (5, 8), (6, 8), (7, 8), (3, 9), (5, 9), (6, 9)] [⟨(some 29), none, .mov (t 8)⟩,
    ⟨(some 30), none, .pcall C_quiltref02_Sum [(t 29)]⟩,
    ⟨(some 31), none, .fldA 2 (t 3)⟩,
    ⟨(some 32), none, .load1 (t 31)⟩,
    ⟨(some 33), none, .mov (t 7)⟩,
    ⟨(some 34), none, .idxL 32 (t 32) (t 33)⟩,
    ⟨(some 35), none, .loadN 32 (t 34)⟩,
    ⟨(some 9), none, .alloc (repl 32 [.int .u8 0])⟩,
    ⟨(some 10), none, .alloc (repl 32 [.int .u8 0])⟩,
    ⟨none, none, .storN 32 (t 9) (t 30)⟩,
    ⟨none, none, .storN 32 (t 10) (t 35)⟩]))
  (.seq (.seq (.ops [⟨(some 36), none, .mov (t 0)⟩,
    ⟨(some 37), none, .mov (t 7)⟩,
    ⟨(some 38), none, .pcall C_quiltref53_Bit [(t 36), (t 37)]⟩,
    ⟨(some 39), none, .bin .eql (t 38) (ci 1)⟩])
  (.jn (.cond (t 39) (.ops [⟨(some 40), none, .loadN 32 (t 10)⟩,
    ⟨(some 41), none, .loadN 32 (t 9)⟩,
    ⟨none, none, .storN 32 (t 9) (t 40)⟩,
    ⟨none, none, .storN 32 (t 10) (t 41)⟩])
  .skip)))
  (.seq (.ops [⟨(some 42), none, .mov (t 6)⟩,
    ⟨(some 43), none, .loadN 32 (t 9)⟩,
    ⟨(some 44), none, .pcall C_quiltref02_Bytes [(t 43)]⟩,
    ⟨(some 45), none, .app 1 1 (t 42) (t 44)⟩,
    ⟨(some 6), none, .mov (t 45)⟩])
  (.ops [⟨(some 46), none, .mov (t 6)⟩,
    ⟨(some 47), none, .loadN 32 (t 10)⟩,
    ⟨(some 48), none, .pcall C_quiltref02_Bytes [(t 47)]⟩,
    ⟨(some 49), none, .app 1 1 (t 46) (t 48)⟩,
    ⟨(some 6), none, .mov (t 49)⟩])))))))
  (.ops [⟨(some 17), none, .mov (t 7)⟩,
    ⟨(some 18), none, .bin .add (t 17) (ci 1)⟩,
    ⟨(some 7), none, .mov (t 18)⟩]))))))
  (.seq (.ops [⟨(some 50), none, .mov (t 5)⟩,
    ⟨(some 51), none, .mov (t 6)⟩,
    ⟨(some 52), none, .b2s (t 51)⟩,
    ⟨(some 53), none, .bslice 1 [.str []] 1 [(0, 1, (t 52))]⟩,
    ⟨(some 54), none, .app 1 16 (t 50) (t 53)⟩,
    ⟨(some 5), none, .mov (t 54)⟩])
  (.seq (.ops [⟨(some 55), none, .mov (t 6)⟩,
    ⟨(some 56), none, .b2s (t 55)⟩,
    ⟨(some 57), none, .pcall C_quiltref02_Sum [(t 56)]⟩,
    ⟨(some 11), none, .alloc (repl 32 [.int .u8 0])⟩,
    ⟨none, none, .storN 32 (t 11) (t 57)⟩])
  (.seq (.ops [⟨(some 58), none, .loadN 32 (t 11)⟩,
    ⟨(some 59), none, .fldA 3 (t 3)⟩,
    ⟨(some 60), none, .load1 (t 59)⟩,
    ⟨(some 61), none, .idxL 32 (t 60) (ci 0)⟩,
    ⟨(some 62), none, .loadN 32 (t 61)⟩,
    ⟨(some 63), none, .pcall C_quiltref53_above [(t 58), (t 62)]⟩,
    ⟨(some 12), none, .mov (t 63)⟩])
  (.seq (.seq (.ops [⟨(some 64), none, .fldA 0 (t 3)⟩,
    ⟨(some 65), none, .load1 (t 64)⟩,
    ⟨(some 66), none, .bin .rem (t 65) (ci 2)⟩,
    ⟨(some 67), none, .bin .eql (t 66) (ci 1)⟩])
  (.jn (.cond (t 67) (.ops [⟨(some 68), none, .fldA 3 (t 3)⟩,
    ⟨(some 69), none, .load1 (t 68)⟩,
    ⟨(some 70), none, .idxL 32 (t 69) (ci 0)⟩,
    ⟨(some 71), none, .loadN 32 (t 70)⟩,
    ⟨(some 72), none, .loadN 32 (t 11)⟩,
    ⟨(some 73), none, .pcall C_quiltref53_above [(t 71), (t 72)]⟩,
    ⟨(some 12), none, .mov (t 73)⟩])
  .skip)))
  (.seq (.ops [⟨(some 74), none, .mov (t 5)⟩,
    ⟨(some 75), none, .mov (t 12)⟩,
    ⟨(some 76), none, .bslice 1 [.str []] 1 [(0, 1, (t 75))]⟩,
    ⟨(some 77), none, .app 1 16 (t 74) (t 76)⟩,
    ⟨(some 5), none, .mov (t 77)⟩])
  (.seq (.ops [⟨(some 78), none, .mov (t 12)⟩,
    ⟨(some 79), none, .pcall C_quiltref02_Sum [(t 78)]⟩,
    ⟨none, none, .storN 32 (t 11) (t 79)⟩])
  (.seq (.ops [⟨(some 80), none, .loadN 32 (t 11)⟩,
    ⟨(some 81), none, .fldA 3 (t 3)⟩,
    ⟨(some 82), none, .load1 (t 81)⟩,
    ⟨(some 83), none, .idxL 32 (t 82) (ci 1)⟩,
    ⟨(some 84), none, .loadN 32 (t 83)⟩,
    ⟨(some 85), none, .pcall C_quiltref53_above [(t 80), (t 84)]⟩,
    ⟨(some 12), none, .mov (t 85)⟩])
  (.seq (.seq (.ops [⟨(some 86), none, .fldA 0 (t 3)⟩,
    ⟨(some 87), none, .load1 (t 86)⟩,
    ⟨(some 88), none, .bin .gtr (t 87) (ci 1)⟩])
  (.jn (.cond (t 88) (.ops [⟨(some 89), none, .fldA 3 (t 3)⟩,
    ⟨(some 90), none, .load1 (t 89)⟩,
    ⟨(some 91), none, .idxL 32 (t 90) (ci 1)⟩,
    ⟨(some 92), none, .loadN 32 (t 91)⟩,
    ⟨(some 93), none, .loadN 32 (t 11)⟩,
    ⟨(some 94), none, .pcall C_quiltref53_above [(t 92), (t 93)]⟩,
    ⟨(some 12), none, .mov (t 94)⟩])
  .skip)))
  (.seq (.ops [⟨(some 95), none, .mov (t 5)⟩,
    ⟨(some 96), none, .mov (t 12)⟩,
    ⟨(some 97), none, .bslice 1 [.str []] 1 [(0, 1, (t 96))]⟩,
    ⟨(some 98), none, .app 1 16 (t 95) (t 97)⟩,
    ⟨(some 4), none, .mov (t 98)⟩])
  .ret))))))))))))), [.tmp 4]⟩
/-- quilt/quiltref53.Verify -/
def ir_quiltref53_Verify : IF := ⟨(.seq (.ops [⟨(some 3), none, .box (t 0)⟩,
    ⟨(some 5), none, .box (t 2)⟩,
    ⟨(some 6), none, .mov (.const (.bool false))⟩])
  (.seq (.seq (.ops [⟨(some 8), none, .loadN 4 (t 5)⟩,
    ⟨(some 9), none, .pcall C_quiltref53_Check [(t 8)]⟩,
    ⟨(some 10), none, .bin .neq (t 9) (ci 0)⟩])
  (.cond (t 10) (.seq (.ops [⟨(some 6), none, .mov (.const (.bool false))⟩])
  .ret)
  .skip))
  (.seq (.ops [⟨(some 11), none, .mov (t 1)⟩,
    ⟨(some 12), none, .pcall C_quiltref53_Tag [(t 11)]⟩,
    ⟨(some 13), none, .loadN 4 (t 5)⟩,
    ⟨(some 14), none, .pcallF F_quiltref53_Strings [(t 12), (t 13)]⟩,
    ⟨(some 7), none, .mov (t 14)⟩])
  (.seq (.ops [⟨(some 15), none, .mov (t 7)⟩,
    ⟨(some 16), none, .mov (t 7)⟩,
    ⟨(some 17), none, .lenL (t 16)⟩,
    ⟨(some 18), none, .bin .sub (t 17) (ci 1)⟩,
    ⟨(some 19), none, .idxL 1 (t 15) (t 18)⟩,
    ⟨(some 20), none, .load1 (t 19)⟩,
    ⟨(some 21), none, .pcall C_quiltref02_Sum [(t 20)]⟩,
    ⟨(some 22), none, .loadN 32 (t 3)⟩,
    ⟨(some 23), none, .aeq false (repl 32 [some (some .u8)]) (t 21) (t 22)⟩,
    ⟨(some 6), none, .mov (t 23)⟩])
  .ret)))), [.tmp 6]⟩
/-- quilt/quiltref02.Same -/
def ir_quiltref02_Same : IF := ⟨(.seq (.ops [⟨(some 4), none, .mov (.const (.bool false))⟩])
  (.seq (.seq (.ops [⟨(some 6), none, .mov (t 0)⟩,
    ⟨(some 7), none, .lenL (t 6)⟩,
    ⟨(some 8), none, .mov (t 1)⟩,
    ⟨(some 9), none, .lenL (t 8)⟩,
    ⟨(some 10), none, .bin .neq (t 7) (t 9)⟩])
  (.cond (t 10) (.seq (.ops [⟨(some 4), none, .mov (.const (.bool false))⟩])
  .ret)
  .skip))
  (.seq (.seq (.ops [⟨(some 5), none, .mov (ci 0)⟩])
  (.block 0 (.loop (.seq (.seq (.ops [⟨(some 11), none, .mov (t 5)⟩,
    ⟨(some 12), none, .mov (t 0)⟩,
    ⟨(some 13), none, .lenL (t 12)⟩,
    ⟨(some 14), none, .bin .lss (t 11) (t 13)⟩])
  (.cond (t 14) .skip
  (.exit 0)))
  (.seq (.block 1 (.seq (.ops [⟨(some 17), none, .mov (t 0)⟩,
    ⟨(some 18), none, .mov (t 5)⟩,
    ⟨(some 19), none, .idxL 32 (t 17) (t 18)⟩,
    ⟨(some 20), none, .loadN 32 (t 19)⟩,
    ⟨(some 21), none, .mov (t 1)⟩,
    ⟨(some 22), none, .mov (t 5)⟩,
    ⟨(some 23), none, .idxL 32 (t 21) (t 22)⟩,
    ⟨(some 24), none, .loadN 32 (t 23)⟩,
    ⟨(some 25), none, .aeq true (repl 32 [some (some .u8)]) (t 20) (t 24)⟩])
  (.cond (t 25) (.seq (.ops [⟨(some 4), none, .mov (.const (.bool false))⟩])
  .ret)
  .skip)))
  (.ops [⟨(some 15), none, .mov (t 5)⟩,
    ⟨(some 16), none, .bin .add (t 15) (ci 1)⟩,
    ⟨(some 5), none, .mov (t 16)⟩]))))))
  (.seq (.ops [⟨(some 4), none, .mov (.const (.bool true))⟩])
  .ret)))), [.tmp 4]⟩
/-- quilt/quiltref53.Same -/
def ir_quiltref53_Same : IF := ⟨(.seq (.ops [⟨(some 2), none, .box (t 0)⟩,
    ⟨(some 3), none, .box (t 1)⟩,
    ⟨(some 4), none, .mov (.const (.bool false))⟩])
  (.seq (.ops [⟨(some 5), none, .fldA 0 (t 2)⟩,
    ⟨(some 6), none, .load1 (t 5)⟩,
    ⟨(some 7), none, .fldA 0 (t 3)⟩,
    ⟨(some 8), none, .load1 (t 7)⟩,
    ⟨(some 9), none, .bin .eql (t 6) (t 8)⟩,
    ⟨(some 10), none, .mov (t 9)⟩,
    ⟨(some 11), (some (10, true)), .fldA 1 (t 2)⟩,
    ⟨(some 12), (some (10, true)), .load1 (t 11)⟩,
    ⟨(some 13), (some (10, true)), .fldA 1 (t 3)⟩,
    ⟨(some 14), (some (10, true)), .load1 (t 13)⟩,
    ⟨(some 15), (some (10, true)), .pcall C_quiltref02_Same [(t 12), (t 14)]⟩,
    ⟨(some 16), none, .pick (t 10) (t 15) (.const (.bool false))⟩,
    ⟨(some 17), none, .mov (t 16)⟩,
    ⟨(some 18), (some (17, true)), .fldA 2 (t 2)⟩,
    ⟨(some 19), (some (17, true)), .load1 (t 18)⟩,
    ⟨(some 20), (some (17, true)), .fldA 2 (t 3)⟩,
    ⟨(some 21), (some (17, true)), .load1 (t 20)⟩,
    ⟨(some 22), (some (17, true)), .pcall C_quiltref02_Same [(t 19), (t 21)]⟩,
    ⟨(some 23), none, .pick (t 17) (t 22) (.const (.bool false))⟩,
    ⟨(some 24), none, .mov (t 23)⟩,
    ⟨(some 25), (some (24, true)), .fldA 3 (t 2)⟩,
    ⟨(some 26), (some (24, true)), .load1 (t 25)⟩,
    ⟨(some 27), (some (24, true)), .fldA 3 (t 3)⟩,
    ⟨(some 28), (some (24, true)), .load1 (t 27)⟩,
    ⟨(some 29), (some (24, true)), .pcall C_quiltref02_Same [(t 26), (t 28)]⟩,
    ⟨(some 30), none, .pick (t 24) (t 29) (.const (.bool false))⟩,
    ⟨(some 4), none, .mov (t 30)⟩])
  .ret)), [.tmp 4]⟩
/-- quilt/quiltref53.Great -/
def ir_quiltref53_Great : IF := ⟨(.seq (.ops [⟨(some 1), none, .box (t 0)⟩,
    ⟨(some 2), none, .mov (.const (.bool false))⟩])
  (.seq (.ops [⟨(some 3), none, .fldA 1 (t 1)⟩,
    ⟨(some 4), none, .load1 (t 3)⟩,
    ⟨(some 5), none, .lenL (t 4)⟩,
    ⟨(some 6), none, .bin .gtr (t 5) (ci 200)⟩,
    ⟨(some 7), none, .mov (t 6)⟩,
    ⟨(some 8), (some (7, false)), .fldA 2 (t 1)⟩,
    ⟨(some 9), (some (7, false)), .load1 (t 8)⟩,
    ⟨(some 10), (some (7, false)), .lenL (t 9)⟩,
    ⟨(some 11), (some (7, false)), .bin .gtr (t 10) (ci 200)⟩,
    ⟨(some 12), none, .pick (t 7) (.const (.bool true)) (t 11)⟩,
    ⟨(some 13), none, .mov (t 12)⟩,
    ⟨(some 14), (some (13, false)), .fldA 3 (t 1)⟩,
    ⟨(some 15), (some (13, false)), .load1 (t 14)⟩,
    ⟨(some 16), (some (13, false)), .lenL (t 15)⟩,
    ⟨(some 17), (some (13, false)), .bin .gtr (t 16) (ci 10)⟩,
    ⟨(some 18), none, .pick (t 13) (.const (.bool true)) (t 17)⟩,
    ⟨(some 2), none, .mov (t 18)⟩])
  .ret)), [.tmp 2]⟩
/-- quilt/quiltlaw53.long -/
def ir_quiltlaw53_long : IF := ⟨(.seq (.ops [⟨(some 2), none, .mov (.const (.bool false))⟩])
  (.seq (.seq (.ops [⟨(some 5), none, .mov (t 0)⟩,
    ⟨(some 6), none, .lenL (t 5)⟩,
    ⟨(some 7), none, .mov (ci 0)⟩])
  (.block 0 (.loop (.seq (.ops [⟨(some 8), none, .bin .lss (t 7) (t 6)⟩])
  (.seq (.cond (t 8) .skip
  (.exit 0))
  (.seq (.block 1 (.seq (.ops [⟨(some 9), none, .idxL 1 (t 5) (t 7)⟩,
    ⟨(some 10), none, .load1 (t 9)⟩,
    ⟨(some 4), none, .mov (t 10)⟩])
  (.seq (.ops [⟨(some 11), none, .mov (t 4)⟩,
    ⟨(some 12), none, .lenS (t 11)⟩,
    ⟨(some 13), none, .bin .gtr (t 12) (ci 200)⟩])
  (.cond (t 13) (.seq (.ops [⟨(some 2), none, .mov (.const (.bool true))⟩])
  .ret)
  .skip))))
  (.ops [⟨(some 14), none, .bin .add (t 7) (ci 1)⟩,
    ⟨(some 7), none, .mov (t 14)⟩])))))))
  (.seq (.ops [⟨(some 2), none, .mov (.const (.bool false))⟩])
  .ret))), [.tmp 2]⟩

end Qk

/-
  Secrets, public strings, nodes, tags: each function does what it is said to do.
-/
namespace Qk
open Go Go.RowKit
attribute [local irreducible] sha hmac

theorem by3 (k p v : Int) : [AV.int .u8 (k % 256), .int .u8 (p % 256), .int .u8 (v % 256)] = [by8 k, by8 p, by8 v].map fun b => AV.int .u8 b.toNat := by
  simp only [List.map_cons, List.map_nil, by8_int]

theorem d_lamport_secret : Does ir_lamport_secret C_lamport_secret := by
  rintro ⟨seed, k, p, v⟩ hs
  dsimp only [C_lamport_secret] at hs
  refine And.intro rfl ⟨[by8 k, by8 p, by8 v], ⟨by3 k p v, rfl⟩, ?_⟩
  refine ⟨⟨seed, _⟩, rfl, ⟨hs, by show 3 ≤ _; omega⟩, ?_⟩
  have ln : (bys (secB seed k p v)).length = 32 := by rw [bys_length, secB_len]
  refine And.intro ⟨ln, bys_all (secB seed k p v)⟩ ?_
  refine And.intro (Nat.le_refl 32) ?_
  refine ⟨_, lay_all (vs := bys (secB seed k p v)) ln, ?_⟩
  refine ⟨_, (by first | exact SubSt.refl _ | exact SubTop.refl _), ?_⟩
  exact ⟨_, ⟨tda ln, ln, by omega⟩, rfl⟩

theorem d_ref_secret : Does ir_quiltref53_secret C_quiltref53_secret := by
  rintro ⟨seed, k, p, v⟩ hs
  dsimp only [C_quiltref53_secret] at hs
  refine And.intro rfl ⟨[by8 k, by8 p, by8 v], ⟨by3 k p v, rfl⟩, ?_⟩
  refine ⟨⟨seed, _⟩, rfl, ⟨hs, by show 3 ≤ _; omega⟩, ?_⟩
  have ln : (bys (secB seed k p v)).length = 32 := by rw [bys_length, secB_len]
  refine And.intro ⟨ln, bys_all (secB seed k p v)⟩ ?_
  refine And.intro (Nat.le_refl 32) ?_
  refine ⟨_, lay_all (vs := bys (secB seed k p v)) ln, ?_⟩
  refine ⟨_, (by first | exact SubSt.refl _ | exact SubTop.refl _), ?_⟩
  exact ⟨_, ⟨tda ln, ln, by omega⟩, rfl⟩

theorem d_lamport_public : Does ir_lamport_public C_lamport_public := by
  intro (d : List UInt8) (hd : d.length = 32)
  have l0 : (bys d).length = 32 := by rw [bys_length, hd]
  refine And.intro (by decide) ?_
  refine And.intro rfl ?_
  refine ⟨d, ⟨(tda l0).symm, hd⟩, ?_⟩
  refine ⟨d, rfl, by show d.length ≤ _; omega, ?_⟩
  have ln : (bys (sha d)).length = 32 := by rw [bys_length, sha_len]
  refine And.intro ⟨ln, bys_all _⟩ ?_
  refine And.intro (Nat.le_refl 32) ?_
  refine ⟨_, lay_all (vs := bys (sha d)) ln, ?_⟩
  refine ⟨_, (by first | exact SubSt.refl _ | exact SubTop.refl _), ?_⟩
  exact ⟨_, ⟨tda ln, ln, by omega⟩, rfl⟩

theorem d_ref_public : Does ir_quiltref53_public C_quiltref53_public := by
  intro (d : List UInt8) (hd : d.length = 32)
  have l0 : (bys d).length = 32 := by rw [bys_length, hd]
  refine ⟨bys d, ⟨tda l0, l0⟩, ?_⟩
  refine And.intro (plainA_bys _).nn ?_
  refine ⟨d, rfl, hd, ?_⟩
  refine ⟨d, rfl, by show d.length ≤ _; omega, ?_⟩
  have ln : (bys (sha d)).length = 32 := by rw [bys_length, sha_len]
  refine And.intro ⟨ln, bys_all _⟩ ?_
  refine And.intro (Nat.le_refl 32) ?_
  refine ⟨_, lay_all (vs := bys (sha d)) ln, ?_⟩
  refine ⟨_, (by first | exact SubSt.refl _ | exact SubTop.refl _), ?_⟩
  exact ⟨_, ⟨tda ln, ln, by omega⟩, rfl⟩

theorem d_lamport_node : Does ir_lamport_node C_lamport_node := by
  rintro ⟨a, b⟩ ⟨ha, hb⟩
  dsimp only at ha hb
  have la : (bys a).length = 32 := by rw [bys_length, ha]
  have lb : (bys b).length = 32 := by rw [bys_length, hb]
  refine And.intro (by decide) ?_
  refine And.intro rfl ?_
  refine ⟨a, ⟨(tda la).symm, ha⟩, ?_⟩
  refine And.intro (by show 1 + a.length ≤ _; omega) ?_
  refine And.intro (by decide) ?_
  refine And.intro rfl ?_
  refine ⟨b, ⟨(tda lb).symm, hb⟩, ?_⟩
  refine And.intro (by show (1 :: a).length + b.length ≤ _; rw [List.length_cons]; omega) ?_
  refine ⟨1 :: (a ++ b), rfl, by show (1 :: (a ++ b)).length ≤ _; rw [List.length_cons, List.length_append]; omega, ?_⟩
  have ln : (bys (nodeB a b)).length = 32 := by rw [bys_length, nodeB_len]
  refine And.intro ⟨ln, bys_all (nodeB a b)⟩ ?_
  refine And.intro (Nat.le_refl 32) ?_
  refine ⟨_, lay_all (vs := bys (nodeB a b)) ln, ?_⟩
  refine ⟨_, (by first | exact SubSt.refl _ | exact SubTop.refl _), ?_⟩
  exact ⟨_, ⟨tda ln, ln, by omega⟩, rfl⟩

theorem d_ref_above : Does ir_quiltref53_above C_quiltref53_above := by
  rintro ⟨a, b⟩ ⟨ha, hb⟩
  dsimp only at ha hb
  have la : (bys a).length = 32 := by rw [bys_length, ha]
  have lb : (bys b).length = 32 := by rw [bys_length, hb]
  refine ⟨bys a, ⟨tda la, la⟩, ?_⟩
  refine And.intro (plainA_bys _).nn ?_
  refine ⟨a, rfl, ha, ?_⟩
  refine And.intro (by show 1 + a.length ≤ _; omega) ?_
  refine ⟨bys b, ⟨tda lb, lb⟩, ?_⟩
  refine And.intro (plainA_bys _).nn ?_
  refine ⟨b, rfl, hb, ?_⟩
  refine And.intro (by show (1 :: a).length + b.length ≤ _; rw [List.length_cons]; omega) ?_
  refine ⟨_, (by first | exact SubSt.refl _ | exact SubTop.refl _), ?_⟩
  rfl

theorem d_ref_node : Does ir_quiltref53_node C_quiltref53_node := by
  rintro ⟨a, b⟩ ⟨ha, hb⟩
  dsimp only at ha hb
  have la : (bys a).length = 32 := by rw [bys_length, ha]
  have lb : (bys b).length = 32 := by rw [bys_length, hb]
  refine ⟨bys a, ⟨tda la, la⟩, ?_⟩
  refine ⟨bys b, ⟨tda lb, lb⟩, ?_⟩
  refine And.intro (plainA_bys _).nn (And.intro (plainA_bys _).nn ?_)
  refine ⟨⟨a, b⟩, rfl, ⟨ha, hb⟩, ?_⟩
  refine ⟨1 :: (a ++ b), rfl, by show (1 :: (a ++ b)).length ≤ _; rw [List.length_cons, List.length_append]; omega, ?_⟩
  have ln : (bys (nodeB a b)).length = 32 := by rw [bys_length, nodeB_len]
  refine And.intro ⟨ln, bys_all (nodeB a b)⟩ ?_
  refine And.intro (Nat.le_refl 32) ?_
  refine ⟨_, lay_all (vs := bys (nodeB a b)) ln, ?_⟩
  refine ⟨_, (by first | exact SubSt.refl _ | exact SubTop.refl _), ?_⟩
  exact ⟨_, ⟨tda ln, ln, by omega⟩, rfl⟩

theorem d_ref_Tag : Does ir_quiltref53_Tag C_quiltref53_Tag := by
  intro (m : List UInt8) (hm : m.length ≤ 1000000000)
  refine ⟨m, rfl, by show m.length ≤ _; omega, ?_⟩
  have ln : (bys (sha m)).length = 32 := by rw [bys_length, sha_len]
  refine And.intro ⟨ln, bys_all _⟩ ?_
  refine And.intro (Nat.le_refl 32) ?_
  refine ⟨_, lay_all (vs := bys (sha m)) ln, ?_⟩
  refine ⟨bys (sha m), ⟨tda ln, ln⟩, ?_⟩
  refine And.intro (plainA_bys _).nn ?_
  refine ⟨sha m, rfl, sha_len _, ?_⟩
  refine And.intro (by rw [sha_len]; decide) ?_
  refine ⟨_, (by first | exact SubSt.refl _ | exact SubTop.refl _), ?_⟩
  rfl

theorem and1 (n : Nat) (h : n < 9223372036854775808) : andI .i64 (n : Int) 1 = ((n % 2 : Nat) : Int) := by
  unfold andI
  simp only [BitVec.toNat_and]
  have e1 : (BitVec.ofInt IntKind.i64.bits (n : Int)).toNat = n := by
    show (BitVec.ofInt 64 (n : Int)).toNat = n
    rw [BitVec.toNat_ofInt]; omega
  have e2 : (BitVec.ofInt IntKind.i64.bits 1).toNat = 2 ^ 1 - 1 := by rfl
  rw [e1, e2, Nat.and_two_pow_sub_one_eq_mod]
  have h2 : n % 2 = 0 ∨ n % 2 = 1 := by omega
  rcases h2 with h2 | h2 <;> rw [show n % 2 ^ 1 = n % 2 by rfl, h2] <;> rfl

theorem shrN (k : IntKind) (a b : Nat) (hb : b ≤ k.bits) : shrI k (a : Int) (b : Int) = ((a / 2 ^ b : Nat) : Int) := by
  unfold shrI
  have e : min (b : Int).toNat k.bits = b := by rw [Int.toNat_natCast]; omega
  rw [e, Int.fdiv_eq_ediv_of_nonneg _ (by exact Int.le_of_lt (Int.pow_pos (by decide)))]
  rw [Int.natCast_ediv, Int.natCast_pow]
  rfl

theorem d_ref_Bit : Does ir_quiltref53_Bit C_quiltref53_Bit := by
  rintro ⟨d, p⟩ ⟨hp, hd⟩
  dsimp only at hp hd
  obtain ⟨c, hc⟩ : ∃ c, c = d.getD (p / 8) 0 := ⟨_, rfl⟩
  have hcl : c.toNat < 256 := c.toNat_lt
  have q : Int.tdiv (p : Int) 8 = ((p / 8 : Nat) : Int) := tdivN p 8
  have r : Int.tmod (p : Int) 8 = ((p % 8 : Nat) : Int) := tmodN p 8
  have e1 : (Int.tdiv (p : Int) 8).toNat = p / 8 := by rw [q]; omega
  have hr : p % 8 < 8 := Nat.mod_lt _ (by decide)
  refine And.intro (by decide) ?_
  refine And.intro (by rw [q]; constructor <;> omega) ?_
  refine And.intro (by rw [q]; dsimp only; omega) ?_
  rw [e1, ← hc]
  refine And.intro (by constructor <;> omega) ?_
  refine And.intro (by decide) ?_
  refine And.intro (by rw [r]; constructor <;> omega) ?_
  refine And.intro (by rw [r]; omega) ?_
  refine ⟨_, (by first | exact SubSt.refl _ | exact SubTop.refl _), ?_⟩
  have e2 : (7 : Int) - Int.tmod (p : Int) 8 = ((7 - p % 8 : Nat) : Int) := by rw [r]; omega
  show AV.int .i64 (andI .i64 (shrI .i64 (c.toNat : Int) (7 - Int.tmod (p : Int) 8)) 1) = AV.int .i64 (bitB d p : Nat)
  rw [e2, shrN .i64 _ _ (by show 7 - p % 8 ≤ 64; omega), and1 _ (by have := Nat.div_le_self c.toNat (2 ^ (7 - p % 8)); omega)]
  unfold bitB
  rw [← hc]

end Qk

/-
  Leaves of the program: a builder of strings that is filled by an iterator.
-/
namespace Qk
open Go Go.RowKit
attribute [local irreducible] sha hmac

/-- A step that nothing runs, behind a piece of code. -/
theorem jn_to {c : Cx} {b : IC} {K : Exit → St → Prop} {S : St} (h : awp c b (fun e S' => match e with | .normal => ∃ S'', SubSt c.m S' S'' ∧ K .normal S'' | e => K e S') S) : awp c (.jn b) K S := by
  refine ⟨_, ?_, h⟩
  intro e S' hk
  cases e with
  | normal => exact hk
  | exit id => exact ⟨S', SubSt.refl _, hk⟩
  | goto l => exact ⟨S', SubSt.refl _, hk⟩
  | ret => exact ⟨S', SubSt.refl _, hk⟩
  | panic ch => exact ⟨S', SubSt.refl _, hk⟩
  | outgrown => exact ⟨S', SubSt.refl _, hk⟩

theorem nnl_int (k : IntKind) (n : Int) : NNL [AV.int k n] := nnl_plain (by intro c hc; simp at hc; subst hc; exact plain_int _ _)

theorem renB {τ : List Nat} {a a' n m l l' : Nat} (h1 : τ[a]? = some a') (h2 : τ[n]? = some m) (hl : l = l') : RenC τ [.ref a 0, .sl n 0 l] [.ref a' 0, .sl m 0 l'] := by
  subst hl
  refine .inr ?_
  simp only [RenL, RenV]
  exact ⟨_, _, rfl, ⟨_, h1, rfl⟩, ⟨_, _, rfl, ⟨_, h2, rfl⟩, rfl⟩⟩

theorem t_published {seed : List UInt8} {k : Int} {H : Heap} {nx : Nat} {K : AV → Heap → Nat → Prop}
    (h : K (.clo 3 [.ref nx 0, .ref (nx + 1) 0]) (upd (upd H nx (some (.cells [.str seed]))) (nx + 1) (some (.cells [.int .i64 k]))) (nx + 2)) : H_lamport_published [.str seed, .int .i64 k] H nx K := by
  refine And.intro rfl ?_
  refine ⟨_, (by first | exact SubSt.refl _ | exact SubTop.refl _), ?_⟩
  exact h

set_option maxRecDepth 2000 in
set_option maxHeartbeats 400000 in
theorem t_leafOf_pub {seed : List UInt8} {k : Int} {K : AV → Heap → Nat → Prop} (hs : seed.length ≤ 1000000000) (hK : K (.agg (bys (leafK seed k))) (mkh [(0, .cells (bys (List.replicate 32 0))), (3, .cells (bys (leafK seed k)))]) 4) :
    H_lamport_leafOf [.clo 3 [.ref 1 0, .ref 2 0]] (mkh [(2, .cells [.int .i64 k]), (1, .cells [.str seed]), (0, .cells (repl 32 [.int .u8 0]))]) 3 K := by
  have l32 : (bys (List.replicate 32 0)).length = 32 := rfl
  refine And.intro rfl ?_
  refine jn_to ?_
  refine ⟨_, sub_nil 4 1 true 1 rfl rfl, ?_⟩
  refine jn_to ?_
  refine ⟨4, 5, [], 0, rfl, ⟨(show (4 : Nat) ≠ 5 by decide), _, rfl, rfl, .inl rfl⟩, (show 4 < 6 by decide), (show 5 < 6 by decide), by decide, ?_⟩
  refine ⟨mks [(0, .clo 3 [.ref 1 0, .ref 2 0]), (2, .ref 3 0), (3, .ref 4 0)] [(0, .cells (bys (List.replicate 32 0))), (1, .cells [.str seed]), (2, .cells [.int .i64 k]), (3, .cells (bys (List.replicate 32 0))),
    (4, .cl true [.ref 4 0, .sl 5 0 ([0] : List UInt8).length]), (5, .ls true 1 (bys [0]))] 6, ?_, ?_⟩
  · refine sub_renF [0, 1, 2, 3, 4, 7] (hfixOf 3 rfl (by decide)) rfl (by decide) ⟨⟨_, rfl, ?_⟩, ⟨_, rfl, ⟨3, rfl, rfl⟩⟩, ⟨_, rfl, ⟨4, rfl, rfl⟩⟩, trivial⟩ ⟨⟨0, _, rfl, rfl, ⟨_, rfl, eB ?_⟩⟩, ⟨1, _, rfl, rfl, ?_⟩, ⟨2, _, rfl, rfl, ?_⟩, ⟨3, _, rfl, rfl, ⟨_, rfl, eB ?_⟩⟩, ⟨4, _, rfl, rfl, ?_⟩, ⟨7, _, rfl, rfl, ?_⟩, trivial⟩
    · exact .inr ⟨_, rfl, ⟨_, _, rfl, ⟨1, rfl, rfl⟩, ⟨_, _, rfl, ⟨2, rfl, rfl⟩, rfl⟩⟩⟩
    · exact repl_bys 32
    · exact ⟨_, rfl, eN (nnl_str _) rfl⟩
    · exact ⟨_, rfl, eN (nnl_int _ _) rfl⟩
    · exact repl_bys 32
    · exact ⟨_, rfl, renB (a' := 4) (m := 7) rfl rfl rfl⟩
    · exact ⟨_, rfl, eB rfl⟩
  refine And.intro rfl (fun lp => ?_)
  have cl := catF_len (pubAt_len seed k)
  refine ⟨Nat, fun p => p ≤ 128, fun p => mks [(0, .raw (.func (.yield lp) #[] #[])), (1, .ref 1 0), (2, .ref 2 0), (6, .int .i64 p)]
    [(0, .cells (bys (List.replicate 32 0))), (1, .cells [.str seed]), (2, .cells [.int .i64 k]), (3, .cells (bys (List.replicate 32 0))), (4, .cl true [.ref 4 0, .sl 6 0 (0 :: catF (pubAt seed k) (2 * p)).length]), (6, .ls true 1 (bys (0 :: catF (pubAt seed k) (2 * p))))] 7,
    fun p => 128 - p, 0, by omega, ?_, ?_⟩
  · refine sub_renG [0, 1, 2, 3, 4, 5, 5] _ rfl (hfixOf 6 rfl (by decide)) rfl rfl ⟨⟨_, rfl, rfl⟩, ⟨_, rfl, ⟨1, rfl, rfl⟩⟩, ⟨_, rfl, ⟨2, rfl, rfl⟩⟩, ⟨_, rfl, rfl⟩, trivial⟩ ⟨⟨0, _, rfl, rfl, ⟨_, rfl, eB rfl⟩⟩, ⟨1, _, rfl, rfl, ?_⟩, ⟨2, _, rfl, rfl, ?_⟩, ⟨3, _, rfl, rfl, ⟨_, rfl, eB rfl⟩⟩, ⟨4, _, rfl, rfl, ?_⟩, ⟨5, _, rfl, rfl, ?_⟩, trivial⟩
    · exact ⟨_, rfl, eN (nnl_str _) rfl⟩
    · exact ⟨_, rfl, eN (nnl_int _ _) rfl⟩
    · exact ⟨_, rfl, renB (a' := 4) (m := 5) rfl rfl rfl⟩
    · exact ⟨_, rfl, eB rfl⟩
  · intro p hp
    refine cond_split (fun h => ?_) (fun h => ?_)
    · have hT : (p : Int) < 128 := of_decide_eq_true h
      refine ⟨Nat, fun v => v ≤ 2, fun v => mks [(0, .raw (.func (.yield lp) #[] #[])), (1, .ref 1 0), (2, .ref 2 0), (4, .int .i64 p), (6, .int .i64 p), (9, .int .i64 v)]
        [(0, .cells (bys (List.replicate 32 0))), (1, .cells [.str seed]), (2, .cells [.int .i64 k]), (3, .cells (bys (List.replicate 32 0))), (4, .cl true [.ref 4 0, .sl 6 0 (0 :: catF (pubAt seed k) (2 * p + v)).length]), (6, .ls true 1 (bys (0 :: catF (pubAt seed k) (2 * p + v))))] 7,
        fun v => 2 - v, 0, by omega, ?_, ?_⟩
      · refine sub_renG [0, 1, 2, 3, 4, 5, 6] _ rfl (hfixOf 6 rfl (by decide)) rfl rfl ⟨⟨_, rfl, rfl⟩, ⟨_, rfl, ⟨1, rfl, rfl⟩⟩, ⟨_, rfl, ⟨2, rfl, rfl⟩⟩, ⟨_, rfl, rfl⟩, ⟨_, rfl, rfl⟩, ⟨_, rfl, rfl⟩, trivial⟩ ⟨⟨0, _, rfl, rfl, ⟨_, rfl, eB rfl⟩⟩, ⟨1, _, rfl, rfl, ?_⟩, ⟨2, _, rfl, rfl, ?_⟩, ⟨3, _, rfl, rfl, ⟨_, rfl, eB rfl⟩⟩, ⟨4, _, rfl, rfl, ?_⟩, ⟨6, _, rfl, rfl, ?_⟩, trivial⟩
        · exact ⟨_, rfl, eN (nnl_str _) rfl⟩
        · exact ⟨_, rfl, eN (nnl_int _ _) rfl⟩
        · exact ⟨_, rfl, renB (a' := 4) (m := 6) rfl rfl rfl⟩
        · exact ⟨_, rfl, eB rfl⟩
      · intro v hv
        refine cond_split (fun h => ?_) (fun h => ?_)
        · have hTv : (v : Int) < 2 := of_decide_eq_true h
          refine ⟨_, rfl, ?_⟩
          refine ⟨_, rfl, ?_⟩
          refine ⟨⟨seed, k, (p : Int), (v : Int)⟩, rfl, hs, ?_⟩
          refine And.intro (plainA_bys _).nn ?_
          refine ⟨secB seed k p v, rfl, secB_len _ _ _ _, ?_⟩
          refine And.intro rfl ?_
          refine And.intro rfl ?_
          refine And.intro rfl ?_
          have e1 : sha (secB seed k p v) = pubAt seed k (2 * p + v) := by
            have a1 : (2 * p + v) / 2 = p := by omega
            have a2 : (2 * p + v) % 2 = v := by omega
            unfold pubAt; rw [a1, a2]
          have ln : (bys (sha (secB seed k p v))).length = 32 := by rw [bys_length, sha_len]
          refine And.intro ⟨ln, bys_all _⟩ ?_
          refine And.intro (Nat.le_refl 32) ?_
          refine ⟨_, lay_all (vs := bys (sha (secB seed k p v))) ln, ?_⟩
          refine And.intro (by decide) ?_
          have lc := cl (2 * p + v)
          refine ⟨4, 6, 0 :: catF (pubAt seed k) (2 * p + v), 7, 0, 32, _, pubAt seed k (2 * p + v), _, rfl, ⟨(show (4 : Nat) ≠ 6 by decide), _, rfl, rfl, .inr rfl⟩, rfl, (show (4 : Nat) ≠ 7 by decide), (show (6 : Nat) ≠ 7 by decide),
            (show 4 < 8 by decide), (show 6 < 8 by decide), (show 7 < 8 by decide), by rw [ln]; decide, by rw [← e1]; exact (tda ln).symm, bys_all _, by rw [List.length_cons, lc]; omega, ?_⟩
          refine And.intro (by omega) ?_
          refine ⟨v + 1, by omega, by dsimp only; omega, ?_⟩
          refine sub_renG [0, 1, 2, 3, 4, 5, 8] _ rfl (hfixOf 6 rfl (by decide)) rfl rfl ⟨⟨_, rfl, rfl⟩, ⟨_, rfl, ⟨1, rfl, rfl⟩⟩, ⟨_, rfl, ⟨2, rfl, rfl⟩⟩, ⟨_, rfl, rfl⟩, ⟨_, rfl, rfl⟩, ⟨_, rfl, eI (by omega)⟩, trivial⟩ ⟨⟨0, _, rfl, rfl, ⟨_, rfl, eB rfl⟩⟩, ⟨1, _, rfl, rfl, ?_⟩, ⟨2, _, rfl, rfl, ?_⟩, ⟨3, _, rfl, rfl, ⟨_, rfl, eB rfl⟩⟩, ⟨4, _, rfl, rfl, ?_⟩, ⟨8, _, rfl, rfl, ?_⟩, trivial⟩
          · exact ⟨_, rfl, eN (nnl_str _) rfl⟩
          · exact ⟨_, rfl, eN (nnl_int _ _) rfl⟩
          · exact ⟨_, rfl, renB (a' := 4) (m := 8) rfl rfl rfl⟩
          · exact ⟨_, rfl, eB rfl⟩
        · have hFv : ¬ (v : Int) < 2 := of_decide_eq_false h
          have : v = 2 := by omega
          subst this
          refine And.intro (by omega) ?_
          refine ⟨p + 1, by omega, by dsimp only; omega, ?_⟩
          refine sub_renG [0, 1, 2, 3, 4, 5, 6] _ rfl (hfixOf 6 rfl (by decide)) rfl rfl ⟨⟨_, rfl, rfl⟩, ⟨_, rfl, ⟨1, rfl, rfl⟩⟩, ⟨_, rfl, ⟨2, rfl, rfl⟩⟩, ⟨_, rfl, eI (by omega)⟩, trivial⟩ ⟨⟨0, _, rfl, rfl, ⟨_, rfl, eB rfl⟩⟩, ⟨1, _, rfl, rfl, ?_⟩, ⟨2, _, rfl, rfl, ?_⟩, ⟨3, _, rfl, rfl, ⟨_, rfl, eB rfl⟩⟩, ⟨4, _, rfl, rfl, ?_⟩, ⟨6, _, rfl, rfl, ?_⟩, trivial⟩
          · exact ⟨_, rfl, eN (nnl_str _) rfl⟩
          · exact ⟨_, rfl, eN (nnl_int _ _) rfl⟩
          · exact ⟨_, rfl, renB (a' := 4) (m := 6) rfl rfl rfl⟩
          · exact ⟨_, rfl, eB rfl⟩
    · have hF : ¬ ((p : Int) < 128) := of_decide_eq_false h
      have : p = 128 := by omega
      subst this
      refine ⟨_, (by first | exact SubSt.refl _ | exact SubTop.refl _), ?_⟩
      have lc : (0 :: catF (pubAt seed k) 256).length = 8193 := by rw [List.length_cons, cl]
      refine ⟨4, 6, _, 0 :: catF (pubAt seed k) 256, rfl, (show (4 : Nat) ≠ 6 by decide), rfl, rfl, by rw [lc]; decide, ?_⟩
      refine ⟨0 :: catF (pubAt seed k) 256, rfl, by show (0 :: catF (pubAt seed k) 256).length ≤ _; rw [lc]; decide, ?_⟩
      have ln : (bys (leafK seed k)).length = 32 := by rw [bys_length, leafK_len]
      refine And.intro ⟨ln, bys_all (leafK seed k)⟩ ?_
      refine And.intro (by rw [l32]; exact Nat.le_refl 32) ?_
      refine ⟨_, lay_all (vs := bys (leafK seed k)) (by rw [ln, l32]), ?_⟩
      refine ⟨mks [(2, .ref 3 0)] [(0, .cells (bys (List.replicate 32 0))), (3, .cells (bys (leafK seed k)))] 4, ?_, ?_⟩
      · refine sub_renF [0, 1, 2, 3] (hfixOf 3 rfl (by decide)) rfl (by decide) ⟨⟨_, rfl, ⟨3, rfl, rfl⟩⟩, trivial⟩ ⟨⟨0, _, rfl, rfl, ⟨_, rfl, eB rfl⟩⟩, ⟨3, _, rfl, rfl, ⟨_, rfl, eB rfl⟩⟩, trivial⟩
      refine ⟨_, ⟨tda ln, ln, by omega⟩, ?_⟩
      exact hK

theorem d_lamport_leaf : Does ir_lamport_leaf C_lamport_leaf := by
  rintro ⟨seed, k⟩ hs
  dsimp only [C_lamport_leaf] at hs
  refine t_published ?_
  refine t_leafOf_pub hs ?_
  have ln : (bys (leafK seed k)).length = 32 := by rw [bys_length, leafK_len]
  refine And.intro ⟨ln, bys_all (leafK seed k)⟩ ?_
  refine And.intro (Nat.le_refl 32) ?_
  refine ⟨_, lay_all (vs := bys (leafK seed k)) ln, ?_⟩
  refine ⟨_, (by first | exact SubSt.refl _ | exact SubTop.refl _), ?_⟩
  exact ⟨_, ⟨tda ln, ln, by omega⟩, rfl⟩

end Qk

/-
  Leaves of the reference, roots, tags.
-/
namespace Qk
open Go Go.RowKit
attribute [local irreducible] sha hmac

theorem fillA_one {S : St} {zs : List AV} {off sz : Nat} {x : Operand} {cs : List AV} {r : List (Nat × Nat × Operand)} (hx : S.ev x = some (.agg cs)) (h1 : cs.length = sz) (h2 : off + sz ≤ zs.length) :
    fillA S zs ((off, sz, x) :: r) = fillA S (lay zs off cs) r := by
  have h3 : Nat.ble (off + sz) zs.length = true := Nat.ble_eq_true_of_le h2
  simp [fillA, hx, h1, h3]

theorem bys_drop (l : List UInt8) (n : Nat) : (bys l).drop n = bys (l.drop n) := by simp [bys]
theorem bys_take (l : List UInt8) (n : Nat) : (bys l).take n = bys (l.take n) := by simp [bys]
theorem bys_flat {ds : List (List UInt8)} {p : Nat} (h : All32 ds) (hp : p < ds.length) : ((bys ds.flatten).drop (p * 32)).take 32 = bys (ds.getD p []) := by
  rw [bys_drop, bys_take, Nat.mul_comm, flat_get h hp]
theorem bys_lay (l m : List UInt8) (n : Nat) : lay (bys l) n (bys m) = bys (l.take n ++ m ++ l.drop (n + m.length)) := by
  simp [lay, bys]
theorem flat_set : ∀ {ds : List (List UInt8)} {p : Nat} {d : List UInt8}, All32 ds → p < ds.length → d.length = 32 → (ds.set p d).flatten = ds.flatten.take (p * 32) ++ d ++ ds.flatten.drop (p * 32 + d.length)
  | [], _, _, _, h, _ => by simp at h
  | x :: ds, 0, d, h, _, hd => by
    have hx := h x (by simp)
    rw [List.set_cons_zero, List.flatten_cons, List.flatten_cons, hd]
    simp [List.drop_append_of_le_length (show 32 ≤ x.length by omega), List.drop_of_length_le (show x.length ≤ 32 by omega)]
  | x :: ds, p + 1, d, h, hp, hd => by
    have hx := h x (by simp)
    have ih := flat_set (ds := ds) (p := p) (d := d) (fun y hy => h y (by simp [hy])) (by simpa using hp) hd
    rw [List.set_cons_succ, List.flatten_cons, List.flatten_cons, ih, List.take_append, List.drop_append]
    have e1 : x.take ((p + 1) * 32) = x := List.take_of_length_le (by omega)
    have e2 : x.drop ((p + 1) * 32 + d.length) = [] := List.drop_of_length_le (by omega)
    have e3 : (p + 1) * 32 - x.length = p * 32 := by omega
    have e4 : (p + 1) * 32 + d.length - x.length = p * 32 + d.length := by omega
    rw [e1, e2, e3, e4]
    simp
theorem lay_flat {ds : List (List UInt8)} {p : Nat} {d : List UInt8} (h : All32 ds) (hp : p < ds.length) (hd : d.length = 32) : lay (bys ds.flatten) (p * 32) (bys d) = bys (ds.set p d).flatten := by
  rw [bys_lay, flat_set h hp hd]
theorem All32.set {ds : List (List UInt8)} (h : All32 ds) {p : Nat} {d : List UInt8} (hd : d.length = 32) : All32 (ds.set p d) := by
  intro x hx
  rcases List.mem_or_eq_of_mem_set hx with h1 | h1
  · exact h x h1
  · rw [h1]; exact hd

theorem d_ref_leaf : Does ir_quiltref53_leaf C_quiltref53_leaf := by
  rintro ⟨seed, k⟩ hs
  dsimp only [C_quiltref53_leaf] at hs
  have cl := catF_len (pubAt_len seed k)
  refine ⟨Nat, fun p => p ≤ 128, fun p => mks [(0, .str seed), (1, .int .i64 k), (4, .ref 0 0), (5, .sl 1 0 (1 + 32 * (2 * p))), (6, .int .i64 p)]
    [(0, .cells (bys (List.replicate 32 0))), (1, .lst 1 (bys (0 :: catF (pubAt seed k) (2 * p))))] 2, fun p => 128 - p, 0, by omega, ?_, ?_⟩
  · refine sub_ren [0, 1] rfl (by decide) ⟨⟨_, rfl, rfl⟩, ⟨_, rfl, rfl⟩, ⟨_, rfl, ⟨0, rfl, rfl⟩⟩, ⟨_, rfl, ⟨1, rfl, eSl ?_⟩⟩, ⟨_, rfl, rfl⟩, trivial⟩ ⟨⟨0, _, rfl, rfl, ⟨_, rfl, eB ?_⟩⟩, ⟨1, _, rfl, rfl, ⟨_, rfl, eB ?_⟩⟩, trivial⟩
    · rfl
    · exact repl_bys 32
    · rfl
  · intro p hp
    set_option maxRecDepth 2000 in
    refine cond_split (fun h => ?_) (fun h => ?_)
    · have hT : (p : Int) < 128 := of_decide_eq_true h
      have e1 : ∀ v : Nat, v < 2 → sha (secB seed k p v) = pubAt seed k (2 * p + v) := by
        intro v hv
        have a1 : (2 * p + v) / 2 = p := by omega
        have a2 : (2 * p + v) % 2 = v := by omega
        unfold pubAt; rw [a1, a2]
      refine ⟨⟨seed, k, (p : Int), 0⟩, rfl, hs, ?_⟩
      refine And.intro (plainA_bys _).nn ?_
      refine ⟨secB seed k p 0, rfl, secB_len _ _ _ _, ?_⟩
      refine And.intro (plainA_bys _).nn ?_
      refine ⟨sha (secB seed k p 0), rfl, sha_len _, ?_⟩
      refine And.intro ⟨rfl, rfl, rfl, by rw [bys_length, List.length_cons, cl]; omega, by rw [sha_len]; omega⟩ ⟨_, rfl, ?_⟩
      refine ⟨⟨seed, k, (p : Int), 1⟩, rfl, hs, ?_⟩
      refine And.intro (plainA_bys _).nn ?_
      refine ⟨secB seed k p 1, rfl, secB_len _ _ _ _, ?_⟩
      refine And.intro (plainA_bys _).nn ?_
      refine ⟨sha (secB seed k p 1), rfl, sha_len _, ?_⟩
      refine And.intro ⟨rfl, rfl, rfl, by rw [List.length_append, bys_length, List.length_cons, cl, List.length_map]; omega, by rw [sha_len, sha_len]; omega⟩ ⟨_, rfl, ?_⟩
      refine And.intro (by omega) ?_
      refine ⟨p + 1, by omega, by dsimp only; omega, ?_⟩
      refine sub_ren [0, 3] rfl (by decide) ⟨⟨_, rfl, rfl⟩, ⟨_, rfl, rfl⟩, ⟨_, rfl, ⟨0, rfl, rfl⟩⟩, ⟨_, rfl, ⟨3, rfl, eSl ?_⟩⟩, ⟨_, rfl, eI (by omega)⟩, trivial⟩ ⟨⟨0, _, rfl, rfl, ⟨_, rfl, eB rfl⟩⟩, ⟨3, _, rfl, rfl, ⟨_, rfl, eB ?_⟩⟩, trivial⟩
      · rw [sha_len, sha_len]; omega
      · show bys (0 :: catF (pubAt seed k) (2 * p)) ++ bys (sha (secB seed k p ((0 : Nat) : Int))) ++ bys (sha (secB seed k p ((1 : Nat) : Int))) = bys (0 :: ((catF (pubAt seed k) (2 * p) ++ pubAt seed k (2 * p + 0)) ++ pubAt seed k (2 * p + 1)))
        rw [e1 0 (by omega), e1 1 (by omega), ← bys_app, ← bys_app]
        rfl
    · have hF : ¬ ((p : Int) < 128) := of_decide_eq_false h
      have : p = 128 := by omega
      subst this
      have lc : (0 :: catF (pubAt seed k) 256).length = 8193 := by rw [List.length_cons, cl]
      refine And.intro rfl ?_
      refine ⟨0 :: catF (pubAt seed k) 256, ⟨?_, by rw [lc]⟩, ?_⟩
      · exact (tda (by rw [bys_length, lc])).symm
      refine ⟨0 :: catF (pubAt seed k) 256, rfl, by show (0 :: catF (pubAt seed k) 256).length ≤ _; rw [lc]; decide, ?_⟩
      have ln : (bys (leafK seed k)).length = 32 := by rw [bys_length, leafK_len]
      refine And.intro ⟨ln, bys_all (leafK seed k)⟩ ?_
      refine And.intro (Nat.le_refl 32) ?_
      refine ⟨_, lay_all (vs := bys (leafK seed k)) ln, ?_⟩
      refine ⟨_, (by first | exact SubSt.refl _ | exact SubTop.refl _), ?_⟩
      exact ⟨_, ⟨tda ln, ln, by omega⟩, rfl⟩

def leafF (s : List UInt8) (i : Nat) : List UInt8 := leafK s i

theorem d_ref_leaves : DoesF ir_quiltref53_leaves F_quiltref53_leaves := by
  intro (s : List UInt8) (hs : s.length ≤ 1000000000)
  have cl : ∀ n, (catF (leafF s) n).length = 32 * n := catF_len (fun n => leafK_len s n)
  refine ⟨Nat, fun i => i ≤ 4, fun i => mks [(0, .str s), (3, .sl 0 0 i), (4, .int .i64 i)] [(0, .lst 32 (bys (catF (leafF s) i)))] 1, fun i => 4 - i, 0, by omega, ?_, ?_⟩
  · refine sub_ren [0] rfl (by decide) ⟨⟨_, rfl, rfl⟩, ⟨_, rfl, ⟨0, rfl, eSl ?_⟩⟩, ⟨_, rfl, rfl⟩, trivial⟩ ⟨⟨0, _, rfl, rfl, ⟨_, rfl, eB rfl⟩⟩, trivial⟩
    rfl
  · intro i hi
    refine cond_split (fun h => ?_) (fun h => ?_)
    · have hT : (i : Int) < 4 := of_decide_eq_true h
      refine ⟨⟨s, (i : Int)⟩, rfl, hs, ?_⟩
      have ln : (bys (leafK s i)).length = 32 := by rw [bys_length, leafK_len]
      conv => whnf
      dsimp only [St.set]
      rw [fillA_one (cs := bys (leafK s i)) rfl ln (show 0 + 32 ≤ 32 by decide), ← lay_all (vs := bys (leafK s i)) (cs := repl 1 (repl 32 [AV.int .u8 0])) ln]
      refine And.intro ⟨(show (0 : Nat) ≠ 1 by decide), rfl, rfl, rfl, by rw [bys_length, cl]; omega, by rw [ln]; decide, bys_all _, by omega⟩ ⟨_, rfl, ?_⟩
      refine And.intro (by omega) ?_
      refine ⟨i + 1, by omega, by omega, ?_⟩
      refine sub_ren [2] rfl (by decide) ⟨⟨_, rfl, rfl⟩, ⟨_, rfl, ⟨2, rfl, eSl ?_⟩⟩, ⟨_, rfl, eI (by omega)⟩, trivial⟩ ⟨⟨2, _, rfl, rfl, ⟨_, rfl, eB ?_⟩⟩, trivial⟩
      · rfl
      · show bys (catF (leafF s) i) ++ ((bys (leafK s i)).drop 0).take 32 = bys (catF (leafF s) i ++ leafF s i)
        rw [← tda ln, bys_app]
        rfl
    · have hF : ¬ ((i : Int) < 4) := of_decide_eq_false h
      have : i = 4 := by omega
      subst this
      refine ⟨_, (by first | exact SubSt.refl _ | exact SubTop.refl _), ?_⟩
      refine ⟨0, false, rfl, ?_, plain_bys _⟩
      have e : catF (leafF s) 4 = List.flatten [leafK s 0, leafK s 1, leafK s 2, leafK s 3] := (catF_flat (leafF s) 4).symm
      exact congrArg (fun l => some (AO.ls false 32 (bys l))) e

theorem d_ref_Public : Does ir_quiltref53_Public C_quiltref53_Public := by
  intro (s : List UInt8) (hs : s.length ≤ 1000000000)
  obtain ⟨L, hL⟩ : ∃ L : List (List UInt8), L = [leafK s 0, leafK s 1, leafK s 2, leafK s 3] := ⟨_, rfl⟩
  have aL : All32 L := by rw [hL]; intro d hd; simp at hd; rcases hd with rfl | rfl | rfl | rfl <;> exact leafK_len _ _
  have lL : L.length = 4 := by rw [hL]; rfl
  have lf : (bys L.flatten).length = 128 := by rw [bys_length, flat_len aL, lL]
  have get : ∀ p, p < 4 → ((bys L.flatten).drop (p * 32)).take 32 = bys (L.getD p []) := fun p hp => bys_flat aL (by omega)
  have l32 : ∀ k, (bys (leafK s k)).length = 32 := fun k => by rw [bys_length, leafK_len]
  have g0 := get 0 (by decide)
  have g1 := get 1 (by decide)
  have g2 := get 2 (by decide)
  have g3 := get 3 (by decide)
  rw [hL] at g0 g1 g2 g3
  refine ⟨s, rfl, hs, ?_⟩
  refine And.intro ⟨rfl, by decide, (show (0 : Int) < 4 by decide)⟩ ?_
  refine ⟨bys (leafK s 0), ⟨g0.symm, l32 _⟩, ?_⟩
  refine And.intro ⟨rfl, by decide, (show (1 : Int) < 4 by decide)⟩ ?_
  refine ⟨bys (leafK s 1), ⟨g1.symm, l32 _⟩, ?_⟩
  refine And.intro (plainA_bys _).nn (And.intro (plainA_bys _).nn ?_)
  refine ⟨⟨leafK s 0, leafK s 1⟩, rfl, ⟨leafK_len _ _, leafK_len _ _⟩, ?_⟩
  refine And.intro ⟨rfl, by decide, (show (2 : Int) < 4 by decide)⟩ ?_
  refine ⟨bys (leafK s 2), ⟨g2.symm, l32 _⟩, ?_⟩
  refine And.intro ⟨rfl, by decide, (show (3 : Int) < 4 by decide)⟩ ?_
  refine ⟨bys (leafK s 3), ⟨g3.symm, l32 _⟩, ?_⟩
  refine And.intro (plainA_bys _).nn (And.intro (plainA_bys _).nn ?_)
  refine ⟨⟨leafK s 2, leafK s 3⟩, rfl, ⟨leafK_len _ _, leafK_len _ _⟩, ?_⟩
  refine And.intro (plainA_bys _).nn (And.intro (plainA_bys _).nn ?_)
  refine ⟨⟨nodeB (leafK s 0) (leafK s 1), nodeB (leafK s 2) (leafK s 3)⟩, rfl, ⟨nodeB_len _ _, nodeB_len _ _⟩, ?_⟩
  have ln : (bys (rootB s)).length = 32 := by rw [bys_length]; exact nodeB_len _ _
  refine And.intro ⟨ln, bys_all (rootB s)⟩ ?_
  refine And.intro (Nat.le_refl 32) ?_
  refine ⟨_, lay_all (vs := bys (rootB s)) ln, ?_⟩
  refine ⟨_, (by first | exact SubSt.refl _ | exact SubTop.refl _), ?_⟩
  exact ⟨_, ⟨tda ln, ln, by omega⟩, rfl⟩

end Qk

/-
  The root of the program; tags; the form of signatures.
-/
namespace Qk
open Go Go.RowKit
attribute [local irreducible] sha hmac

/-- A level, from which the i first nodes of the next have been made. -/
def lvl (ds : List (List UInt8)) : Nat → List (List UInt8)
  | 0 => ds
  | i + 1 => (lvl ds i).set i (nodeB ((lvl ds i).getD (2 * i) []) ((lvl ds i).getD (2 * i + 1) []))
theorem lvl_len (ds : List (List UInt8)) (i : Nat) : (lvl ds i).length = ds.length := by
  induction i with
  | zero => rfl
  | succ i ih => simp [lvl, ih]
theorem lvl_32 {ds : List (List UInt8)} (h : All32 ds) (i : Nat) : All32 (lvl ds i) := by
  induction i with
  | zero => exact h
  | succ i ih => exact ih.set (nodeB_len _ _)
def nOf : Nat → Nat
  | 0 => 2
  | 1 => 1
  | _ => 0
def outv (ds : List (List UInt8)) : Nat → List (List UInt8)
  | 0 => ds
  | x + 1 => lvl (outv ds x) (nOf x)
theorem outv_len (ds : List (List UInt8)) (i : Nat) : (outv ds i).length = ds.length := by
  induction i with
  | zero => rfl
  | succ i ih => rw [outv, lvl_len, ih]
theorem outv_32 {ds : List (List UInt8)} (h : All32 ds) (i : Nat) : All32 (outv ds i) := by
  induction i with
  | zero => exact h
  | succ i ih => exact lvl_32 ih _

theorem d_lamport_Public : Does ir_lamport_Public C_lamport_Public := by
  intro (s : List UInt8) (hs : s.length ≤ 1000000000)
  have cl : ∀ n, (catF (leafF s) n).length = 32 * n := catF_len (fun n => leafK_len s n)
  obtain ⟨L, hL⟩ : ∃ L : List (List UInt8), L = [leafK s 0, leafK s 1, leafK s 2, leafK s 3] := ⟨_, rfl⟩
  have aL : All32 L := by rw [hL]; intro d hd; simp at hd; rcases hd with rfl | rfl | rfl | rfl <;> exact leafK_len _ _
  have lL : L.length = 4 := by rw [hL]; rfl
  have eL : catF (leafF s) 4 = L.flatten := by rw [hL]; exact (catF_flat (leafF s) 4).symm
  refine ⟨Nat, fun k => k ≤ 4, fun k => mks [(0, .str s), (2, .ref 0 0), (3, .ref 1 0), (7, .int .i64 k)] [(0, .cells (bys (List.replicate 32 0))), (1, .cells (bys (catF (leafF s) k ++ List.replicate (32 * (4 - k)) 0)))] 2, fun k => 4 - k, 0, by omega, ?_, ?_⟩
  · refine sub_ren [0, 1] rfl (by decide) ⟨⟨_, rfl, rfl⟩, ⟨_, rfl, ⟨0, rfl, rfl⟩⟩, ⟨_, rfl, ⟨1, rfl, rfl⟩⟩, ⟨_, rfl, rfl⟩, trivial⟩ ⟨⟨0, _, rfl, rfl, ⟨_, rfl, eB ?_⟩⟩, ⟨1, _, rfl, rfl, ⟨_, rfl, eB ?_⟩⟩, trivial⟩
    · exact repl_bys 32
    · exact repl_bys 128
  · intro k hk
    have lc : (bys (catF (leafF s) k ++ List.replicate (32 * (4 - k)) 0)).length = 128 := by rw [bys_length, List.length_append, cl, List.length_replicate]; omega
    refine cond_split (fun h => ?_) (fun h => ?_)
    · have hT : (k : Int) < 4 := of_decide_eq_true h
      refine ⟨⟨s, (k : Int)⟩, rfl, hs, ?_⟩
      refine And.intro (by omega) ?_
      have ln : (bys (leafK s k)).length = 32 := by rw [bys_length, leafK_len]
      refine And.intro ⟨ln, bys_all (leafK s k)⟩ ?_
      refine And.intro (by rw [lc]; omega) ?_
      refine ⟨_, rfl, ?_⟩
      refine And.intro (by omega) ?_
      refine ⟨k + 1, by omega, by dsimp only; omega, ?_⟩
      refine sub_ren [0, 1] rfl (by decide) ⟨⟨_, rfl, rfl⟩, ⟨_, rfl, ⟨0, rfl, rfl⟩⟩, ⟨_, rfl, ⟨1, rfl, rfl⟩⟩, ⟨_, rfl, eI (by omega)⟩, trivial⟩ ⟨⟨0, _, rfl, rfl, ⟨_, rfl, eB rfl⟩⟩, ⟨1, _, rfl, rfl, ⟨_, rfl, eB ?_⟩⟩, trivial⟩
      have e0 : 0 + (k : Int).toNat * 32 = 32 * k := by omega
      rw [e0, bys_lay, leafK_len]
      refine congrArg bys ?_
      have e1 : (catF (leafF s) k ++ List.replicate (32 * (4 - k)) 0).take (32 * k) = catF (leafF s) k := by
        rw [List.take_append_of_le_length (by rw [cl]; exact Nat.le_refl _), List.take_of_length_le (by rw [cl]; exact Nat.le_refl _)]
      have e2 : (catF (leafF s) k ++ List.replicate (32 * (4 - k)) 0).drop (32 * k + 32) = List.replicate (32 * (4 - (k + 1))) 0 := by
        rw [List.drop_append, List.drop_of_length_le (by rw [cl]; omega), List.nil_append, cl, List.drop_replicate]
        congr 1
        omega
      rw [e1, e2]
      rfl
    · have hF : ¬ ((k : Int) < 4) := of_decide_eq_false h
      have : k = 4 := by omega
      subst this
      refine ⟨Nat, fun x => x ≤ 2, fun x => mks [(2, .ref 0 0), (3, .ref 1 0), (5, .int .i64 (nOf x))] [(0, .cells (bys (List.replicate 32 0))), (1, .cells (bys (outv L x).flatten))] 2, fun x => 2 - x, 0, by omega, ?_, ?_⟩
      · refine sub_ren [0, 1] rfl (by decide) ⟨⟨_, rfl, ⟨0, rfl, rfl⟩⟩, ⟨_, rfl, ⟨1, rfl, rfl⟩⟩, ⟨_, rfl, rfl⟩, trivial⟩ ⟨⟨0, _, rfl, rfl, ⟨_, rfl, eB rfl⟩⟩, ⟨1, _, rfl, rfl, ⟨_, rfl, eB ?_⟩⟩, trivial⟩
        rw [eL]
        simp [outv]
      · intro x hx
        have lo := outv_len L x
        have ao := outv_32 aL x
        refine cond_split (fun h => ?_) (fun h => ?_)
        · have hT : (0 : Int) < (nOf x : Nat) := of_decide_eq_true h
          have hx2 : x < 2 := by
            rcases Nat.lt_or_ge x 2 with h1 | h1
            · exact h1
            · have : x = 2 := by omega
              subst this
              exact absurd hT (by decide)
          have hn : nOf x ≤ 2 := by
            match x, hx2 with
            | 0, _ => decide
            | 1, _ => decide
          refine ⟨Nat, fun i => i ≤ nOf x, fun i => mks [(2, .ref 0 0), (3, .ref 1 0), (5, .int .i64 (nOf x)), (20, .int .i64 (nOf x)), (21, .int .i64 i)] [(0, .cells (bys (List.replicate 32 0))), (1, .cells (bys (lvl (outv L x) i).flatten))] 2, fun i => nOf x - i, 0, by omega, ?_, ?_⟩
          · refine sub_ren [0, 1] rfl (by decide) ⟨⟨_, rfl, ⟨0, rfl, rfl⟩⟩, ⟨_, rfl, ⟨1, rfl, rfl⟩⟩, ⟨_, rfl, rfl⟩, ⟨_, rfl, rfl⟩, ⟨_, rfl, rfl⟩, trivial⟩ ⟨⟨0, _, rfl, rfl, ⟨_, rfl, eB rfl⟩⟩, ⟨1, _, rfl, rfl, ⟨_, rfl, eB rfl⟩⟩, trivial⟩
          · intro i hi
            have ll := lvl_len (outv L x) i
            have al := lvl_32 ao i
            have lf : (bys (lvl (outv L x) i).flatten).length = 128 := by rw [bys_length, flat_len al, ll, lo, lL]
            refine cond_split (fun h => ?_) (fun h => ?_)
            · have hTi : (i : Int) < nOf x := of_decide_eq_true h
              have e0 : 0 + (2 * (i : Int)).toNat * 32 = 2 * i * 32 := by omega
              have e1 : 0 + (2 * (i : Int) + 1).toNat * 32 = (2 * i + 1) * 32 := by omega
              refine And.intro (by omega) ?_
              refine And.intro (by omega) ?_
              refine ⟨bys ((lvl (outv L x) i).getD (2 * i) []), ⟨by rw [e0, bys_flat al (by omega)], by rw [bys_length, getD_len al (by omega)]⟩, ?_⟩
              refine And.intro (by omega) ?_
              refine And.intro (by omega) ?_
              refine And.intro (by omega) ?_
              refine ⟨bys ((lvl (outv L x) i).getD (2 * i + 1) []), ⟨by rw [e1, bys_flat al (by omega)], by rw [bys_length, getD_len al (by omega)]⟩, ?_⟩
              refine And.intro (plainA_bys _).nn (And.intro (plainA_bys _).nn ?_)
              refine ⟨⟨_, _⟩, rfl, ⟨getD_len al (by omega), getD_len al (by omega)⟩, ?_⟩
              refine And.intro (by omega) ?_
              have ln : (bys (nodeB ((lvl (outv L x) i).getD (2 * i) []) ((lvl (outv L x) i).getD (2 * i + 1) []))).length = 32 := by rw [bys_length, nodeB_len]
              refine And.intro ⟨ln, bys_all (nodeB ((lvl (outv L x) i).getD (2 * i) []) ((lvl (outv L x) i).getD (2 * i + 1) []))⟩ ?_
              refine And.intro (by rw [lf]; omega) ?_
              refine ⟨_, rfl, ?_⟩
              refine And.intro (by omega) ?_
              refine ⟨i + 1, by omega, by dsimp only; omega, ?_⟩
              refine sub_ren [0, 1] rfl (by decide) ⟨⟨_, rfl, ⟨0, rfl, rfl⟩⟩, ⟨_, rfl, ⟨1, rfl, rfl⟩⟩, ⟨_, rfl, rfl⟩, ⟨_, rfl, rfl⟩, ⟨_, rfl, eI (by omega)⟩, trivial⟩ ⟨⟨0, _, rfl, rfl, ⟨_, rfl, eB rfl⟩⟩, ⟨1, _, rfl, rfl, ⟨_, rfl, eB ?_⟩⟩, trivial⟩
              have e2 : 0 + (i : Int).toNat * 32 = i * 32 := by omega
              rw [e2, lay_flat al (by omega) (nodeB_len _ _)]
              rfl
            · have hFi : ¬ (i : Int) < nOf x := of_decide_eq_false h
              have : i = nOf x := by omega
              subst this
              refine And.intro (by decide) ?_
              have q : Int.tdiv ((nOf x : Nat) : Int) 2 = ((nOf x / 2 : Nat) : Int) := tdivN (nOf x) 2
              refine And.intro (by rw [q]; omega) ?_
              refine ⟨x + 1, by omega, by dsimp only; omega, ?_⟩
              refine sub_ren [0, 1] rfl (by decide) ⟨⟨_, rfl, ⟨0, rfl, rfl⟩⟩, ⟨_, rfl, ⟨1, rfl, rfl⟩⟩, ⟨_, rfl, eI ?_⟩, trivial⟩ ⟨⟨0, _, rfl, rfl, ⟨_, rfl, eB rfl⟩⟩, ⟨1, _, rfl, rfl, ⟨_, rfl, eB rfl⟩⟩, trivial⟩
              rw [q]
              match x, hx2 with
              | 0, _ => rfl
              | 1, _ => rfl
        · have hF : ¬ (0 : Int) < (nOf x : Nat) := of_decide_eq_false h
          have hx2 : x = 2 := by
            match x, hx with
            | 0, _ => exact absurd (show (0 : Int) < 2 by decide) hF
            | 1, _ => exact absurd (show (0 : Int) < 1 by decide) hF
            | 2, _ => rfl
          subst hx2
          have er : (outv L 2).getD 0 [] = rootB s := by rw [hL]; rfl
          have g0 := bys_flat (p := 0) ao (by omega)
          rw [er] at g0
          have ln : (bys (rootB s)).length = 32 := by rw [bys_length]; exact nodeB_len _ _
          refine And.intro ⟨by decide, by decide⟩ ?_
          refine ⟨bys (rootB s), ⟨g0.symm, ln⟩, ?_⟩
          refine And.intro ⟨ln, bys_all (rootB s)⟩ ?_
          refine And.intro (Nat.le_refl 32) ?_
          refine ⟨_, lay_all (vs := bys (rootB s)) ln, ?_⟩
          refine ⟨_, (by first | exact SubSt.refl _ | exact SubTop.refl _), ?_⟩
          exact ⟨_, ⟨tda ln, ln, by omega⟩, rfl⟩

theorem d_lamport_tag : Does ir_lamport_tag C_lamport_tag := by
  intro (m : List UInt8) (hm : m.length ≤ 1000000000)
  obtain ⟨d, hd⟩ : ∃ d, d = sha m := ⟨_, rfl⟩
  have ld : d.length = 32 := by rw [hd, sha_len]
  refine ⟨m, rfl, by show m.length ≤ _; omega, ?_⟩
  have ln : (bys (sha m)).length = 32 := by rw [bys_length, sha_len]
  refine And.intro ⟨ln, bys_all _⟩ ?_
  refine And.intro (Nat.le_refl 32) ?_
  refine ⟨_, lay_all (vs := bys (sha m)) ln, ?_⟩
  rw [← hd]
  refine ⟨Nat, fun p => p ≤ 128, fun p => mks [(2, .ref 0 0), (3, .ref 1 0), (4, .ref 2 0), (8, .int .i64 p)]
    [(0, .cells (ints .i64 (List.replicate 128 0))), (1, .cells (bys d)), (2, .cells (ints .i64 ((List.range p).map (fun p => (bitB d p : Int)) ++ List.replicate (128 - p) 0)))] 3, fun p => 128 - p, 0, by omega, ?_, ?_⟩
  · refine sub_ren [0, 1, 2] rfl (by decide) ⟨⟨_, rfl, ⟨0, rfl, rfl⟩⟩, ⟨_, rfl, ⟨1, rfl, rfl⟩⟩, ⟨_, rfl, ⟨2, rfl, rfl⟩⟩, ⟨_, rfl, rfl⟩, trivial⟩ ⟨⟨0, _, rfl, rfl, ⟨_, rfl, eR' ?_⟩⟩, ⟨1, _, rfl, rfl, ⟨_, rfl, eB rfl⟩⟩, ⟨2, _, rfl, rfl, ⟨_, rfl, eR' ?_⟩⟩, trivial⟩
    · exact repl_ints 128 .i64 0
    · exact repl_ints 128 .i64 0
  · intro p hp
    have lr : ((List.range p).map (fun p => (bitB d p : Int))).length = p := by simp
    have lc : (ints .i64 ((List.range p).map (fun p => (bitB d p : Int)) ++ List.replicate (128 - p) 0)).length = 128 := by rw [ints_length, List.length_append, lr, List.length_replicate]; omega
    set_option maxRecDepth 2000 in
    refine cond_split (fun h => ?_) (fun h => ?_)
    · have hT : (p : Int) < 128 := of_decide_eq_true h
      obtain ⟨c, hc⟩ : ∃ c, c = d.getD (p / 8) 0 := ⟨_, rfl⟩
      have hcl : c.toNat < 256 := c.toNat_lt
      have q : Int.tdiv (p : Int) 8 = ((p / 8 : Nat) : Int) := tdivN p 8
      have r : Int.tmod (p : Int) 8 = ((p % 8 : Nat) : Int) := tmodN p 8
      have hr : p % 8 < 8 := Nat.mod_lt _ (by decide)
      have e1 : 0 + (Int.tdiv (p : Int) 8).toNat * 1 = p / 8 := by rw [q]; omega
      have e2 : (7 : Int) - Int.tmod (p : Int) 8 = ((7 - p % 8 : Nat) : Int) := by rw [r]; omega
      refine And.intro (by decide) ?_
      refine And.intro (by rw [q]; constructor <;> omega) ?_
      refine And.intro (by rw [q]; omega) ?_
      refine ⟨.int .u8 (c.toNat : Int), by rw [e1, hc]; exact bys_get (by omega), ?_⟩
      refine And.intro (by decide) ?_
      refine And.intro (by rw [r]; constructor <;> omega) ?_
      refine And.intro (by rw [r]; omega) ?_
      rw [e2, shrN .u8 _ _ (show 7 - p % 8 ≤ 8 by omega)]
      obtain ⟨g, hg⟩ : ∃ g, g = c.toNat / 2 ^ (7 - p % 8) := ⟨_, rfl⟩
      rw [← hg]
      have hlt : g ≤ c.toNat := by rw [hg]; exact Nat.div_le_self _ _
      refine And.intro (by omega) ?_
      refine And.intro (by omega) ?_
      refine And.intro (by rw [lc]; omega) ?_
      refine And.intro (by omega) ?_
      refine ⟨p + 1, by omega, by dsimp only; omega, ?_⟩
      refine sub_ren [0, 1, 2] rfl (by decide) ⟨⟨_, rfl, ⟨0, rfl, rfl⟩⟩, ⟨_, rfl, ⟨1, rfl, rfl⟩⟩, ⟨_, rfl, ⟨2, rfl, rfl⟩⟩, ⟨_, rfl, eI (by omega)⟩, trivial⟩ ⟨⟨0, _, rfl, rfl, ⟨_, rfl, eR rfl⟩⟩, ⟨1, _, rfl, rfl, ⟨_, rfl, eB rfl⟩⟩, ⟨2, _, rfl, rfl, ⟨_, rfl, eR' ?_⟩⟩, trivial⟩
      have e0 : 0 + (p : Int).toNat * 1 = p := by omega
      rw [and1 _ (by omega), e0, ints_set, fill_set 0 _ lr (by omega), List.range_succ, List.map_append]
      have e3 : ((g % 2 : Nat) : Int) = (bitB d p : Int) := by unfold bitB; rw [← hc, hg]
      rw [e3]
      rfl
    · have hF : ¬ (p : Int) < 128 := of_decide_eq_false h
      have : p = 128 := by omega
      subst this
      have e5 : (List.range 128).map (fun p => (bitB d p : Int)) ++ List.replicate (128 - 128) 0 = tagI m := by
        unfold tagI; rw [← hd]; simp
      rw [e5] at lc
      have lt := lc
      refine ⟨ints .i64 (tagI m), ⟨by rw [e5]; exact tda lc, lc⟩, ?_⟩
      refine And.intro ⟨lc, ints_all _ _⟩ ?_
      refine And.intro (Nat.le_refl 128) ?_
      refine ⟨_, lay_all (vs := ints .i64 (tagI m)) (by rw [lc]; rfl), ?_⟩
      refine ⟨_, (by first | exact SubSt.refl _ | exact SubTop.refl _), ?_⟩
      exact ⟨_, ⟨tda lc, lc, by omega⟩, rfl⟩

end Qk

/-
  Signing.
-/
namespace Qk
open Go Go.RowKit
attribute [local irreducible] sha hmac

theorem tagI_get {m : List UInt8} {p : Nat} (h : p < 128) : (tagI m).getD p 0 = (bitB (sha m) p : Int) := by
  unfold tagI
  simp [List.getD, h]

/-- A signature whose lists are being filled. -/
theorem renS {τ : List Nat} {i : Int} {a a' b b' l l' k k' : Nat} {r : AV} (hr : ∃ x, r = .raw x) (h1 : τ[a]? = some a') (h2 : τ[b]? = some b') (hl : l = l') (hk : k = k') :
    RenC τ [.int .i64 i, .sl a 0 l, .sl b 0 k, r] [.int .i64 i, .sl a' 0 l', .sl b' 0 k', r] := by
  subst hl
  subst hk
  obtain ⟨x, rfl⟩ := hr
  refine .inr ?_
  simp only [RenL, RenV]
  exact ⟨_, _, rfl, rfl, ⟨_, _, rfl, ⟨_, h1, rfl⟩, ⟨_, _, rfl, ⟨_, h2, rfl⟩, ⟨_, _, rfl, rfl, rfl⟩⟩⟩⟩

theorem one_sig {i : Int} {a b c : AV} (ha : a.isOne = true) (hb : b.isOne = true) (hc : c.isOne = true) : AllOne [.int .i64 i, a, b, c] := by
  intro x hx
  simp at hx
  rcases hx with rfl | rfl | rfl | rfl
  · rfl
  · exact ha
  · exact hb
  · exact hc

theorem nnl_sig (i : Int) (x y z : Value) : NNL [.int .i64 i, .raw x, .raw y, .raw z] := nnl_plain (by
  intro c hc
  simp at hc
  rcases hc with rfl | rfl | rfl | rfl
  · exact plain_int _ _
  · exact plain_raw _
  · exact plain_raw _
  · exact plain_raw _)

theorem signS_out {seed m : List UInt8} {i : Int} (h : ¬ inR i) : sgA (signS seed i m) = .agg [.int .i64 0, .ilist 32 0 [], .ilist 32 0 [], .ilist 32 0 []] := by
  unfold signS
  rw [if_neg h]
  rfl
theorem signE_out {i : Int} (h : ¬ inR i) : signE i = 2 := by unfold signE; rw [if_neg h]
theorem signE_in {i : Int} (h : inR i) : signE i = 0 := by unfold signE; rw [if_pos h]
theorem signS_in {seed m : List UInt8} {i : Int} (h : inR i) : sgA (signS seed i m) = .agg [.int .i64 i, .ilist 32 128 (bys (catF (revAt seed i m) 128)), .ilist 32 128 (bys (catF (othAt seed i m) 128)), .ilist 32 2 (bys (signP seed i).flatten)] := by
  unfold signS
  rw [if_pos h]
  simp only [signG, sgA, sgL, dl, catF_flat, List.length_map, List.length_range]
  rfl

theorem xor_other {i : Int} (h : inR i) : xorI .i64 (Int.tdiv i 2 * 2) 2 = 2 - i / 2 * 2 ∧ xorI .i64 i 1 = i / 2 * 2 + 1 - i % 2 ∧ Int.tdiv i 2 = i / 2 ∧ Int.tmod i 2 = i % 2 := by
  obtain ⟨h1, h2⟩ := h
  have : i = 0 ∨ i = 1 ∨ i = 2 ∨ i = 3 := by omega
  rcases this with rfl | rfl | rfl | rfl <;> exact ⟨rfl, rfl, rfl, rfl⟩

/-- The end of signing: what has been made is looked at as a value. -/
theorem sign_end {S : St} {i : Int} {A B C : List UInt8} {a b c n0 : Nat} {ta tb tc : Bool} (h6 : S.env 6 = some (.ref n0 0)) (h7 : S.env 7 = some (.int .i64 0))
    (h0 : S.heap n0 = some (.cells [.int .i64 i, .sl a 0 128, .sl b 0 128, .sl c 0 2])) (ha : S.heap a = some (.ls ta 32 (bys A))) (hb : S.heap b = some (.ls tb 32 (bys B))) (hc : S.heap c = some (.ls tc 32 (bys C)))
    (lA : A.length = 4096) (lB : B.length = 4096) (lC : C.length = 64) (hn : n0 ≠ a ∧ n0 ≠ b ∧ n0 ≠ c) :
    retK [.cell 6 true 4, .tmp 7] (.tup [.agg [.int .i64 i, .ilist 32 128 (bys A), .ilist 32 128 (bys B), .ilist 32 2 (bys C)], .int .i64 0]) .ret S := by
  have fz : ∀ {n e l k : Nat} {t : Bool} {L : List UInt8}, S.heap n = some (.ls t 32 (bys L)) → L.length = l * 32 → n ∈ [a, b, c] → FzV S [a, b, c] (.ilist 32 l (bys L)) (.sl n 0 l) := by
    intro n e l k t L h1 h2 h3
    unfold FzV
    refine .inr (.inr ⟨n, 0, t, bys L, rfl, h3, h1, by rw [bys_length, h2]; simp, ?_, nnl_bys _⟩)
    rw [Nat.zero_mul]
    exact tda (by rw [bys_length, h2])
  refine ⟨mks [(6, .ref n0 0), (7, .int .i64 0)] [(n0, .cells [.int .i64 i, .ilist 32 128 (bys A), .ilist 32 128 (bys B), .ilist 32 2 (bys C)])] S.next, sub_frz [a, b, c] ?_ ?_ (Nat.le_refl _), ?_⟩
  · exact ⟨⟨_, h6, by unfold FzV; rfl⟩, ⟨_, h7, by unfold FzV; rfl⟩, trivial⟩
  · refine ⟨⟨?_, _, h0, _, rfl, .inr ?_⟩, trivial⟩
    · simp; exact hn
    · unfold FzL
      refine ⟨_, _, rfl, by unfold FzV; rfl, ?_⟩
      unfold FzL
      refine ⟨_, _, rfl, fz (e := 0) (k := 0) ha lA (by simp), ?_⟩
      unfold FzL
      refine ⟨_, _, rfl, fz (e := 0) (k := 0) hb lB (by simp), ?_⟩
      unfold FzL
      refine ⟨_, _, rfl, fz (e := 0) (k := 0) hc lC (by simp), ?_⟩
      unfold FzL
      rfl
  · have hh : (mks [(6, AV.ref n0 0), (7, .int .i64 0)] [(n0, AO.cells [.int .i64 i, .ilist 32 128 (bys A), .ilist 32 128 (bys B), .ilist 32 2 (bys C)])] S.next).heap n0 = some (.cells [.int .i64 i, .ilist 32 128 (bys A), .ilist 32 128 (bys B), .ilist 32 2 (bys C)]) := by
      simp [mks, mkh]
    conv => whnf
    rw [hh]
    exact ⟨_, ⟨rfl, rfl, Nat.zero_le _⟩, rfl⟩

/-- Nothing is signed. -/
theorem sign_none {S : St} {n0 : Nat} (h6 : S.env 6 = some (.ref n0 0)) (h7 : S.env 7 = some (.int .i64 2)) (h0 : S.heap n0 = some (.cells [.int .i64 0, .raw (.slice none 0 0), .raw (.slice none 0 0), .raw (.slice none 0 0)])) :
    retK [.cell 6 true 4, .tmp 7] (.tup [.agg [.int .i64 0, .ilist 32 0 [], .ilist 32 0 [], .ilist 32 0 []], .int .i64 2]) .ret S := by
  have fz : FzV S [] (.ilist 32 0 []) (.raw (.slice none 0 0)) := by
    unfold FzV
    exact .inr (.inl ⟨rfl, rfl, rfl⟩)
  refine ⟨mks [(6, .ref n0 0), (7, .int .i64 2)] [(n0, .cells [.int .i64 0, .ilist 32 0 [], .ilist 32 0 [], .ilist 32 0 []])] S.next, sub_frz [] ?_ ?_ (Nat.le_refl _), ?_⟩
  · exact ⟨⟨_, h6, by unfold FzV; rfl⟩, ⟨_, h7, by unfold FzV; rfl⟩, trivial⟩
  · refine ⟨⟨by simp, _, h0, _, rfl, .inr ?_⟩, trivial⟩
    unfold FzL
    refine ⟨_, _, rfl, by unfold FzV; rfl, ?_⟩
    unfold FzL
    refine ⟨_, _, rfl, fz, ?_⟩
    unfold FzL
    refine ⟨_, _, rfl, fz, ?_⟩
    unfold FzL
    refine ⟨_, _, rfl, fz, ?_⟩
    unfold FzL
    rfl
  · have hh : (mks [(6, AV.ref n0 0), (7, .int .i64 2)] [(n0, AO.cells [.int .i64 0, .ilist 32 0 [], .ilist 32 0 [], .ilist 32 0 []])] S.next).heap n0 = some (.cells [.int .i64 0, .ilist 32 0 [], .ilist 32 0 [], .ilist 32 0 []]) := by
      simp [mks, mkh]
    conv => whnf
    rw [hh]
    exact ⟨_, ⟨rfl, rfl, Nat.zero_le _⟩, rfl⟩

end Qk

/-
  Signing: the two functions.
-/
namespace Qk
open Go Go.RowKit
attribute [local irreducible] sha hmac

theorem path_len (seed : List UInt8) (i : Int) : (signP seed i).flatten.length = 64 := by
  simp [signP, leafK_len, nodeB_len]
theorem rev_len (seed m : List UInt8) (i : Int) (n : Nat) : (catF (revAt seed i m) n).length = 32 * n := catF_len (fun _ => secB_len _ _ _ _) n
theorem oth_len (seed m : List UInt8) (i : Int) (n : Nat) : (catF (othAt seed i m) n).length = 32 * n := catF_len (fun _ => sha_len _) n

/-- Two digests, one behind the other. -/
theorem two_lay {a b : List UInt8} (ha : a.length = 32) (hb : b.length = 32) : lay (lay (repl 2 (repl 32 [AV.int .u8 0])) 0 (bys a)) 32 (bys b) = bys (a ++ b) := by
  have e : repl 2 (repl 32 [AV.int .u8 0]) = bys (List.replicate 64 0) := by
    show repl 32 [AV.int .u8 0] ++ (repl 32 [AV.int .u8 0] ++ []) = _
    rw [repl_bys, List.append_nil, ← bys_app, List.replicate_append_replicate]
  rw [e, bys_lay, bys_lay, ha, hb]
  refine congrArg bys ?_
  have e1 : (List.take 0 (List.replicate 64 (0 : UInt8)) ++ a ++ List.drop (0 + 32) (List.replicate 64 0)) = a ++ List.replicate 32 0 := by simp
  rw [e1, List.take_append_of_le_length (by omega), List.take_of_length_le (by omega), List.drop_of_length_le (by simp; omega), List.append_nil]

theorem fill_two {S : St} {x y : Operand} {a b : List UInt8} (hx : S.ev x = some (.agg (bys a))) (hy : S.ev y = some (.agg (bys b))) (ha : a.length = 32) (hb : b.length = 32) :
    fillA S (repl 2 (repl 32 [AV.int .u8 0])) [(0, 32, x), (32, 32, y)] = some (bys (a ++ b)) := by
  have e : repl 2 (repl 32 [AV.int .u8 0]) = bys (List.replicate 64 0) := by
    show repl 32 [AV.int .u8 0] ++ (repl 32 [AV.int .u8 0] ++ []) = _
    rw [repl_bys, List.append_nil, ← bys_app, List.replicate_append_replicate]
  rw [fillA_one hx (by rw [bys_length, ha]) (by rw [e, bys_length, List.length_replicate]; decide), fillA_one hy (by rw [bys_length, hb]) ?_, two_lay ha hb]
  · rfl
  · rw [e, bys_lay, bys_length]
    simp [ha]

theorem x_bslice {esz : Nat} {zs : List AV} {n : Nat} {parts : List (Nat × Nat × Operand)} {S : St} {K : AV → St → Prop} {cs : List AV} (h : fillA S (repl n zs) parts = some cs)
    (hK : K (.sl S.next 0 n) { S with heap := upd S.heap S.next (some (.ls false esz cs)), next := S.next + 1 }) : ex1 (.bslice esz zs n parts) S K := by
  simp only [ex1, h]
  exact hK

theorem x_bsliceO {esz : Nat} {zs : List AV} {n : Nat} {parts : List (Nat × Nat × Operand)} {S : St} {d : Option Nat} {r : List IOp} {K : St → Prop} {cs : List AV} (h : fillA S (repl n zs) parts = some cs)
    (hK : exOs r (St.set { S with heap := upd S.heap S.next (some (.ls false esz cs)), next := S.next + 1 } d (.sl S.next 0 n)) K) : exOs (⟨d, none, .bslice esz zs n parts⟩ :: r) S K :=
  by
  simp only [exOs, exO, ex1, h]
  exact hK

theorem renS3 {τ : List Nat} {i : Int} {a a' b b' c c' l l' k k' j j' : Nat} (h1 : τ[a]? = some a') (h2 : τ[b]? = some b') (h3 : τ[c]? = some c') (hl : l = l') (hk : k = k') (hj : j = j') :
    RenC τ [.int .i64 i, .sl a 0 l, .sl b 0 k, .sl c 0 j] [.int .i64 i, .sl a' 0 l', .sl b' 0 k', .sl c' 0 j'] := by
  subst hl
  subst hk
  subst hj
  refine .inr ?_
  simp only [RenL, RenV]
  exact ⟨_, _, rfl, rfl, ⟨_, _, rfl, ⟨_, h1, rfl⟩, ⟨_, _, rfl, ⟨_, h2, rfl⟩, ⟨_, _, rfl, ⟨_, h3, rfl⟩, rfl⟩⟩⟩⟩

theorem d_lamport_Sign : Does ir_lamport_Sign C_lamport_Sign := by
  rintro ⟨seed, i, m⟩ ⟨hs, hm⟩
  dsimp only at hs hm
  -- the index is out of range
  have out : ¬ inR i → (PC.res C_lamport_Sign (seed, i, m)) = .tup [.agg [.int .i64 0, .ilist 32 0 [], .ilist 32 0 [], .ilist 32 0 []], .int .i64 2] := by
    intro hi
    show AV.tup [sgA (signS seed i m), .int .i64 (signE i)] = _
    rw [signS_out hi, signE_out hi]
  refine cond_split (fun h => ?_) (fun h => ?_)
  · have hT : i < 0 := of_decide_eq_true h
    have hi : ¬ inR i := fun h => by have := h.1; omega
    refine cond_t h ?_
    refine cond_t h ?_
    refine And.intro rfl ?_
    refine And.intro ⟨rfl, one_sig rfl rfl rfl⟩ ?_
    refine And.intro (Nat.le_refl 4) ?_
    refine ⟨_, rfl, ?_⟩
    rw [out hi]
    exact sign_none rfl rfl rfl
  · have hF : ¬ i < 0 := of_decide_eq_false h
    refine cond_f h ?_
    refine cond_split (fun h2 => ?_) (fun h2 => ?_)
    · have hi : ¬ inR i := fun h3 => by
        rw [h] at h2
        have h4 : (4 : Int) ≤ i := of_decide_eq_true h2
        have := h3.2
        omega
      refine And.intro rfl ?_
      refine And.intro ⟨rfl, one_sig rfl rfl rfl⟩ ?_
      refine And.intro (Nat.le_refl 4) ?_
      refine ⟨_, rfl, ?_⟩
      rw [out hi]
      exact sign_none rfl rfl rfl
    · have hi : inR i := by
        rw [h] at h2
        have h4 : ¬ (4 : Int) ≤ i := of_decide_eq_false h2
        exact ⟨by omega, by omega⟩
      have hi4 := hi.2
      have hi0 := hi.1
      obtain ⟨x1, x2, x3, x4⟩ := xor_other hi
      refine And.intro rfl ?_
      refine And.intro ⟨rfl, one_sig rfl rfl rfl⟩ ?_
      refine And.intro (Nat.le_refl 4) ?_
      refine ⟨_, rfl, ?_⟩
      refine ⟨m, rfl, hm, ?_⟩
      refine ⟨Nat, fun p => p ≤ 128, fun p => mks [(0, .str seed), (1, .int .i64 i), (6, .ref 0 0), (8, .ref 1 0), (22, .agg (ints .i64 (tagI m))), (23, .int .i64 p)]
        [(0, .cells [.int .i64 0, .raw (.slice none 0 0), .raw (.slice none 0 0), .raw (.slice none 0 0)]), (1, .cells [.int .i64 i, .sl 2 0 p, .sl 3 0 p, .raw (.slice none 0 0)]),
          (2, .lst 32 (bys (catF (revAt seed i m) p))), (3, .lst 32 (bys (catF (othAt seed i m) p)))] 4, fun p => 128 - p, 0, by omega, ?_, ?_⟩
      · refine (sub_nil 1 1 false 32 rfl rfl).trans ((sub_nil 1 2 false 32 rfl rfl).trans ?_)
        refine sub_ren [0, 1, 2, 3] rfl (by decide) ⟨⟨_, rfl, rfl⟩, ⟨_, rfl, rfl⟩, ⟨_, rfl, ⟨0, rfl, rfl⟩⟩, ⟨_, rfl, ⟨1, rfl, rfl⟩⟩, ⟨_, rfl, ?_⟩, ⟨_, rfl, rfl⟩, trivial⟩ ⟨⟨0, _, rfl, rfl, ?_⟩, ⟨1, _, rfl, rfl, ?_⟩, ⟨2, _, rfl, rfl, ⟨_, rfl, eB rfl⟩⟩, ⟨3, _, rfl, rfl, ⟨_, rfl, eB rfl⟩⟩, trivial⟩
        · exact .inl ⟨rfl, nnl_ints _ _⟩
        · exact ⟨_, rfl, eN (nnl_sig _ _ _ _) rfl⟩
        · exact ⟨_, rfl, renS (a' := 2) (b' := 3) ⟨_, rfl⟩ rfl rfl rfl rfl⟩
      · intro p hp
        set_option maxRecDepth 2000 in
        refine cond_split (fun h => ?_) (fun h => ?_)
        · have hT : (p : Int) < 128 := of_decide_eq_true h
          have hb := bitB_le (sha m) p
          have lt : (tagI m).length = 128 := by simp [tagI]
          have tg : (tagI m).getD ((p : Int).toNat * 1) 0 = (bitB (sha m) p : Int) := by
            have : (p : Int).toNat * 1 = p := by omega
            rw [this]; exact tagI_get (by omega)
          refine And.intro (by omega) ?_
          refine ⟨_, ints_get (xs := tagI m) (by omega), ?_⟩
          rw [tg]
          -- the revealed one
          refine jn_to ?_
          refine ⟨_, rfl, ?_⟩
          refine ⟨⟨seed, i, (p : Int), (bitB (sha m) p : Int)⟩, rfl, hs, ?_⟩
          have ln : (bys (revAt seed i m p)).length = 32 := by rw [bys_length]; exact secB_len _ _ _ _
          conv => whnf
          dsimp only [St.set, St.nx]
          rw [fillA_one (cs := bys (revAt seed i m p)) rfl ln (show 0 + 32 ≤ 32 by decide), ← lay_all (vs := bys (revAt seed i m p)) (cs := repl 1 (repl 32 [AV.int .u8 0])) ln]
          refine And.intro ⟨(show (2 : Nat) ≠ 11 by decide), rfl, rfl, rfl, by rw [bys_length, rev_len]; omega, by rw [ln]; decide, bys_all _, by omega⟩ ⟨_, rfl, ?_⟩
          refine And.intro (show 1 < 4 by decide) ?_
          refine And.intro rfl ?_
          refine ⟨mks [(0, .str seed), (1, .int .i64 i), (6, .ref 0 0), (8, .ref 1 0), (9, .int .i64 p), (10, .int .i64 (bitB (sha m) p)), (22, .agg (ints .i64 (tagI m))), (23, .int .i64 p)]
            [(0, .cells [.int .i64 0, .raw (.slice none 0 0), .raw (.slice none 0 0), .raw (.slice none 0 0)]), (1, .cells [.int .i64 i, .sl 2 0 (p + 1), .sl 3 0 p, .raw (.slice none 0 0)]),
              (2, .lst 32 (bys (catF (revAt seed i m) (p + 1)))), (3, .lst 32 (bys (catF (othAt seed i m) p)))] 4, ?_, ?_⟩
          · refine sub_ren [0, 1, 12, 3] rfl (by decide) ⟨⟨_, rfl, rfl⟩, ⟨_, rfl, rfl⟩, ⟨_, rfl, ⟨0, rfl, rfl⟩⟩, ⟨_, rfl, ⟨1, rfl, rfl⟩⟩, ⟨_, rfl, rfl⟩, ⟨_, rfl, rfl⟩, ⟨_, rfl, ?_⟩, ⟨_, rfl, rfl⟩, trivial⟩ ⟨⟨0, _, rfl, rfl, ?_⟩, ⟨1, _, rfl, rfl, ?_⟩, ⟨12, _, rfl, rfl, ⟨_, rfl, eB ?_⟩⟩, ⟨3, _, rfl, rfl, ⟨_, rfl, eB rfl⟩⟩, trivial⟩
            · exact .inl ⟨rfl, nnl_ints _ _⟩
            · exact ⟨_, rfl, eN (nnl_sig _ _ _ _) rfl⟩
            · exact ⟨_, rfl, renS (a' := 12) (b' := 3) ⟨_, rfl⟩ rfl rfl rfl rfl⟩
            · show bys (catF (revAt seed i m) p) ++ ((bys (revAt seed i m p)).drop 0).take 32 = bys (catF (revAt seed i m) p ++ revAt seed i m p)
              rw [← tda ln, bys_app]
          -- the other one
          refine jn_to ?_
          refine ⟨_, rfl, ?_⟩
          refine And.intro (by omega) ?_
          refine ⟨⟨seed, i, (p : Int), 1 - (bitB (sha m) p : Int)⟩, rfl, hs, ?_⟩
          refine And.intro (plainA_bys _).nn ?_
          refine ⟨secB seed i p (1 - (bitB (sha m) p : Int)), rfl, secB_len _ _ _ _, ?_⟩
          have ln2 : (bys (othAt seed i m p)).length = 32 := by rw [bys_length]; exact sha_len _
          conv => whnf
          dsimp only [St.set, St.nx]
          rw [fillA_one (cs := bys (othAt seed i m p)) rfl ln2 (show 0 + 32 ≤ 32 by decide), ← lay_all (vs := bys (othAt seed i m p)) (cs := repl 1 (repl 32 [AV.int .u8 0])) ln2]
          refine And.intro ⟨(show (3 : Nat) ≠ 13 by decide), rfl, rfl, rfl, by rw [bys_length, oth_len]; omega, by rw [ln2]; decide, bys_all _, by omega⟩ ⟨_, rfl, ?_⟩
          refine And.intro (show 2 < 4 by decide) ?_
          refine And.intro rfl ?_
          refine ⟨mks [(0, .str seed), (1, .int .i64 i), (6, .ref 0 0), (8, .ref 1 0), (22, .agg (ints .i64 (tagI m))), (23, .int .i64 p)]
            [(0, .cells [.int .i64 0, .raw (.slice none 0 0), .raw (.slice none 0 0), .raw (.slice none 0 0)]), (1, .cells [.int .i64 i, .sl 2 0 (p + 1), .sl 3 0 (p + 1), .raw (.slice none 0 0)]),
              (2, .lst 32 (bys (catF (revAt seed i m) (p + 1)))), (3, .lst 32 (bys (catF (othAt seed i m) (p + 1))))] 4, ?_, ?_⟩
          · refine sub_ren [0, 1, 2, 14] rfl (by decide) ⟨⟨_, rfl, rfl⟩, ⟨_, rfl, rfl⟩, ⟨_, rfl, ⟨0, rfl, rfl⟩⟩, ⟨_, rfl, ⟨1, rfl, rfl⟩⟩, ⟨_, rfl, ?_⟩, ⟨_, rfl, rfl⟩, trivial⟩ ⟨⟨0, _, rfl, rfl, ?_⟩, ⟨1, _, rfl, rfl, ?_⟩, ⟨2, _, rfl, rfl, ⟨_, rfl, eB rfl⟩⟩, ⟨14, _, rfl, rfl, ⟨_, rfl, eB ?_⟩⟩, trivial⟩
            · exact .inl ⟨rfl, nnl_ints _ _⟩
            · exact ⟨_, rfl, eN (nnl_sig _ _ _ _) rfl⟩
            · exact ⟨_, rfl, renS (a' := 2) (b' := 14) ⟨_, rfl⟩ rfl rfl rfl rfl⟩
            · show bys (catF (othAt seed i m) p) ++ ((bys (othAt seed i m p)).drop 0).take 32 = bys (catF (othAt seed i m) p ++ othAt seed i m p)
              rw [← tda ln2, bys_app]
          refine And.intro (by omega) ?_
          refine ⟨p + 1, by omega, by omega, ?_⟩
          refine sub_ren [0, 1, 2, 3] rfl (by decide) ⟨⟨_, rfl, rfl⟩, ⟨_, rfl, rfl⟩, ⟨_, rfl, ⟨0, rfl, rfl⟩⟩, ⟨_, rfl, ⟨1, rfl, rfl⟩⟩, ⟨_, rfl, ?_⟩, ⟨_, rfl, eI (by omega)⟩, trivial⟩ ⟨⟨0, _, rfl, rfl, ?_⟩, ⟨1, _, rfl, rfl, ?_⟩, ⟨2, _, rfl, rfl, ⟨_, rfl, eB rfl⟩⟩, ⟨3, _, rfl, rfl, ⟨_, rfl, eB rfl⟩⟩, trivial⟩
          · exact .inl ⟨rfl, nnl_ints _ _⟩
          · exact ⟨_, rfl, eN (nnl_sig _ _ _ _) rfl⟩
          · exact ⟨_, rfl, renS (a' := 2) (b' := 3) ⟨_, rfl⟩ rfl rfl rfl rfl⟩
        · have hF : ¬ (p : Int) < 128 := of_decide_eq_false h
          have : p = 128 := by omega
          subst this
          refine And.intro (by decide) ?_
          refine And.intro (by omega) ?_
          refine And.intro (by omega) ?_
          refine jn_to ?_
          refine ⟨⟨seed, i / 2 * 2 + 1 - i % 2⟩, congrArg (fun z => [AV.str seed, AV.int .i64 z]) x2, hs, ?_⟩
          refine ⟨⟨seed, 2 - i / 2 * 2⟩, congrArg (fun z => [AV.str seed, AV.int .i64 z]) x1, hs, ?_⟩
          refine And.intro (by rw [x1]; omega) ?_
          refine ⟨⟨seed, 2 - i / 2 * 2 + 1⟩, congrArg (fun z => [AV.str seed, AV.int .i64 (z + 1)]) x1, hs, ?_⟩
          refine And.intro (plainA_bys _).nn (And.intro (plainA_bys _).nn ?_)
          refine ⟨⟨leafK seed (2 - i / 2 * 2), leafK seed (2 - i / 2 * 2 + 1)⟩, rfl, ⟨leafK_len _ _, leafK_len _ _⟩, ?_⟩
          dsimp only
          refine x_bsliceO (cs := bys (leafK seed (i / 2 * 2 + 1 - i % 2) ++ nodeB (leafK seed (2 - i / 2 * 2)) (leafK seed (2 - i / 2 * 2 + 1)))) ?_ ?_
          · exact fill_two rfl rfl (leafK_len _ _) (nodeB_len _ _)
          have ep : (signP seed i).flatten = leafK seed (i / 2 * 2 + 1 - i % 2) ++ nodeB (leafK seed (2 - i / 2 * 2)) (leafK seed (2 - i / 2 * 2 + 1)) := by simp [signP]
          rw [← ep]
          refine And.intro (show 3 < 4 by decide) ?_
          refine ⟨mks [(6, .ref 0 0), (8, .ref 1 0)]
            [(0, .cells [.int .i64 0, .raw (.slice none 0 0), .raw (.slice none 0 0), .raw (.slice none 0 0)]), (1, .cells [.int .i64 i, .sl 2 0 128, .sl 3 0 128, .sl 4 0 2]),
              (2, .lst 32 (bys (catF (revAt seed i m) 128))), (3, .lst 32 (bys (catF (othAt seed i m) 128))), (4, .lst 32 (bys (signP seed i).flatten))] 5, ?_, ?_⟩
          · refine sub_ren [0, 1, 2, 3, 4] rfl (by decide) ⟨⟨_, rfl, ⟨0, rfl, rfl⟩⟩, ⟨_, rfl, ⟨1, rfl, rfl⟩⟩, trivial⟩ ⟨⟨0, _, rfl, rfl, ?_⟩, ⟨1, _, rfl, rfl, ?_⟩, ⟨2, _, rfl, rfl, ⟨_, rfl, eB rfl⟩⟩, ⟨3, _, rfl, rfl, ⟨_, rfl, eB rfl⟩⟩, ⟨4, _, rfl, rfl, ⟨_, rfl, eB rfl⟩⟩, trivial⟩
            · exact ⟨_, rfl, eN (nnl_sig _ _ _ _) rfl⟩
            · exact ⟨_, rfl, renS3 (a' := 2) (b' := 3) (c' := 4) rfl rfl rfl rfl rfl rfl⟩
          refine ⟨_, ⟨rfl, rfl⟩, ?_⟩
          refine And.intro ⟨rfl, one_sig rfl rfl rfl⟩ ?_
          refine And.intro (Nat.le_refl 4) ?_
          refine ⟨_, rfl, ?_⟩
          have hin : (PC.res C_lamport_Sign (seed, i, m)) = .tup [.agg [.int .i64 i, .ilist 32 128 (bys (catF (revAt seed i m) 128)), .ilist 32 128 (bys (catF (othAt seed i m) 128)), .ilist 32 2 (bys (signP seed i).flatten)], .int .i64 0] := by
            show AV.tup [sgA (signS seed i m), .int .i64 (signE i)] = _
            rw [signS_in hi, signE_in hi]
          rw [hin]
          exact sign_end (n0 := 0) (a := 2) (b := 3) (c := 4) rfl rfl rfl rfl rfl rfl (rev_len _ _ _ _) (oth_len _ _ _ _) (path_len _ _) ⟨by decide, by decide, by decide⟩

end Qk
