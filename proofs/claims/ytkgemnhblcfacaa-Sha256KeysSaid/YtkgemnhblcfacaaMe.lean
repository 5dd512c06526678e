/-
  Chapter 02: the laws.
-/
import Derived.Test.YtkgemnhblcfacaaMd
import Derived.Test.YtkgemnhblcfacaaMb

/-
  The compression, reckoned with natural numbers: quick for the kernel, and equal to what the functions compute.
-/
namespace Qk
open Go Go.RowKit

/-- The value of x, at hand. -/
def force {α : Type} (x : Nat) (k : Nat → α) : α := match x with
  | 0 => k 0
  | Nat.succ n => k (Nat.succ n)
theorem force_eq {α : Type} (x : Nat) (k : Nat → α) : force x k = k x := by cases x <;> rfl

def m32 (x : Nat) : Nat := Nat.mod x 4294967296
def dbl (x : Nat) : Nat := Nat.mul x 4294967297
def s1F (e : Nat) : Nat := force (dbl e) fun d => m32 (Nat.xor (Nat.xor (Nat.shiftRight d 6) (Nat.shiftRight d 11)) (Nat.shiftRight d 25))
def s0F (a : Nat) : Nat := force (dbl a) fun d => m32 (Nat.xor (Nat.xor (Nat.shiftRight d 2) (Nat.shiftRight d 13)) (Nat.shiftRight d 22))
def g0F (x : Nat) : Nat := force (dbl x) fun d => Nat.xor (m32 (Nat.xor (Nat.shiftRight d 7) (Nat.shiftRight d 18))) (Nat.shiftRight x 3)
def g1F (x : Nat) : Nat := force (dbl x) fun d => Nat.xor (m32 (Nat.xor (Nat.shiftRight d 17) (Nat.shiftRight d 19))) (Nat.shiftRight x 10)
def chF (e f g : Nat) : Nat := Nat.xor (Nat.land e f) (Nat.land (Nat.xor 4294967295 e) g)
def mjF (a b c : Nat) : Nat := Nat.xor (Nat.xor (Nat.land a b) (Nat.land a c)) (Nat.land b c)
def t1F (e f g h k w : Nat) : Nat := Nat.add (Nat.add (Nat.add (Nat.add h (s1F e)) (chF e f g)) k) w
def t2F (a b c : Nat) : Nat := Nat.add (s0F a) (mjF a b c)
def nwF (w0 w1 w9 w14 : Nat) : Nat := m32 (Nat.add (Nat.add (Nat.add (g1F w14) w9) (g0F w1)) w0)

/-- The rounds: the constants to come; the next sixteen words; the state; what is done with the state at the end. -/
def rF {α : Type} (K : Nat → Nat → Nat → Nat → Nat → Nat → Nat → Nat → α) : List Nat →
    Nat → Nat → Nat → Nat → Nat → Nat → Nat → Nat → Nat → Nat → Nat → Nat → Nat → Nat → Nat → Nat →
    Nat → Nat → Nat → Nat → Nat → Nat → Nat → Nat → α
  | [], _, _, _, _, _, _, _, _, _, _, _, _, _, _, _, _, a, b, c, d, e, f, g, h => K a b c d e f g h
  | k :: ks, w0, w1, w2, w3, w4, w5, w6, w7, w8, w9, w10, w11, w12, w13, w14, w15, a, b, c, d, e, f, g, h =>
    force (t1F e f g h k w0) fun t1 => force (m32 (Nat.add t1 (t2F a b c))) fun na => force (m32 (Nat.add d t1)) fun ne => force (nwF w0 w1 w9 w14) fun nw =>
      rF K ks w1 w2 w3 w4 w5 w6 w7 w8 w9 w10 w11 w12 w13 w14 w15 nw na a b c ne e f g

def kcN : List Nat := [1116352408, 1899447441, 3049323471, 3921009573, 961987163, 1508970993, 2453635748, 2870763221, 3624381080, 310598401, 607225278, 1426881987, 1925078388, 2162078206, 2614888103, 3248222580, 3835390401, 4022224774, 264347078, 604807628, 770255983, 1249150122, 1555081692, 1996064986, 2554220882, 2821834349, 2952996808, 3210313671, 3336571891, 3584528711, 113926993, 338241895, 666307205, 773529912, 1294757372, 1396182291, 1695183700, 1986661051, 2177026350, 2456956037, 2730485921, 2820302411, 3259730800, 3345764771, 3516065817, 3600352804, 4094571909, 275423344, 430227734, 506948616, 659060556, 883997877, 958139571, 1322822218, 1537002063, 1747873779, 1955562222, 2024104815, 2227730452, 2361852424, 2428436474, 2756734187, 3204031479, 3329325298]
theorem kcN_eq : kc = kcN.map fun (n : Nat) => (n : Int) := by decide +kernel

/-- One block: the state, the sixteen words of the block; what is done with the state behind it. -/
def cF {α : Type} (a b c d e f g h w0 w1 w2 w3 w4 w5 w6 w7 w8 w9 w10 w11 w12 w13 w14 w15 : Nat) (K : Nat → Nat → Nat → Nat → Nat → Nat → Nat → Nat → α) : α :=
  rF (fun a' b' c' d' e' f' g' h' => force (m32 (Nat.add a a')) fun a => force (m32 (Nat.add b b')) fun b => force (m32 (Nat.add c c')) fun c => force (m32 (Nat.add d d')) fun d =>
    force (m32 (Nat.add e e')) fun e => force (m32 (Nat.add f f')) fun f => force (m32 (Nat.add g g')) fun g => force (m32 (Nat.add h h')) fun h => K a b c d e f g h) kcN
    w0 w1 w2 w3 w4 w5 w6 w7 w8 w9 w10 w11 w12 w13 w14 w15 a b c d e f g h

theorem m32_lt (x : Nat) : m32 x < 4294967296 := Nat.mod_lt _ (by decide)

theorem ofInt32 {a : Nat} (ha : a < 4294967296) : (BitVec.ofInt IntKind.u32.bits (a : Int)).toNat = a := by
  show (BitVec.ofInt 32 (a : Int)).toNat = a
  rw [BitVec.toNat_ofInt]; omega
theorem xorI_nat {a b : Nat} (ha : a < 4294967296) (hb : b < 4294967296) : xorI .u32 (a : Int) (b : Int) = ((Nat.xor a b : Nat) : Int) := by
  have h : a ^^^ b < 2 ^ 32 := Nat.xor_lt_two_pow (by omega) (by omega)
  unfold xorI
  simp only [BitVec.toNat_xor]
  rw [ofInt32 ha, ofInt32 hb]
  show ((a ^^^ b : Nat) : Int) % 4294967296 = ((a ^^^ b : Nat) : Int)
  omega
theorem andI_nat {a b : Nat} (ha : a < 4294967296) (hb : b < 4294967296) : andI .u32 (a : Int) (b : Int) = ((Nat.land a b : Nat) : Int) := by
  have h : a &&& b < 2 ^ 32 := Nat.and_lt_two_pow _ (by omega)
  unfold andI
  simp only [BitVec.toNat_and]
  rw [ofInt32 ha, ofInt32 hb]
  show ((a &&& b : Nat) : Int) % 4294967296 = ((a &&& b : Nat) : Int)
  omega
theorem xor_lt {a b : Nat} (ha : a < 4294967296) (hb : b < 4294967296) : Nat.xor a b < 4294967296 := by
  have h : a ^^^ b < 2 ^ 32 := Nat.xor_lt_two_pow (by omega) (by omega)
  exact h
theorem land_lt {a b : Nat} (hb : b < 4294967296) : Nat.land a b < 4294967296 := by
  have h : a &&& b < 2 ^ 32 := Nat.and_lt_two_pow _ (by omega)
  exact h
theorem shrI_nat (a n : Nat) (hn : n ≤ 32) : shrI .u32 (a : Int) (n : Int) = ((Nat.shiftRight a n : Nat) : Int) := by
  unfold shrI
  have e : min (n : Int).toNat IntKind.u32.bits = n := by
    show min (n : Int).toNat 32 = n
    omega
  rw [e]
  have e2 : ((2 : Int) ^ n) = ((2 ^ n : Nat) : Int) := by push_cast; rfl
  rw [e2, Int.fdiv_eq_ediv_of_nonneg _ (Int.natCast_nonneg _)]
  show _ = ((a >>> n : Nat) : Int)
  rw [Nat.shiftRight_eq_div_pow]
  push_cast
  rfl
theorem shr_lt {a n : Nat} (ha : a < 4294967296) : Nat.shiftRight a n < 4294967296 := by
  show a >>> n < _
  rw [Nat.shiftRight_eq_div_pow]
  exact Nat.lt_of_le_of_lt (Nat.div_le_self _ _) ha

/-- A rotation is a shift of the doubled word. -/
theorem rot_nat {x : Nat} (n : Nat) (hx : x < 4294967296) (h1 : 1 ≤ n) (h2 : n ≤ 31) : rotr (x : Int) (n : Int) = ((m32 (Nat.shiftRight (dbl x) n) : Nat) : Int) := by
  unfold rotr
  have e1 : ((32 - (n : Int)) % 18446744073709551616) = ((32 - n : Nat) : Int) := by omega
  rw [e1, shrI_nat x n (by omega)]
  have hp : 2 ^ n * 2 ^ (32 - n) = 4294967296 := by rw [← Nat.pow_add, show n + (32 - n) = 32 by omega]
  have hpos : 0 < 2 ^ n := Nat.two_pow_pos n
  have hpos2 : 0 < 2 ^ (32 - n) := Nat.two_pow_pos _
  have e2 : shlI .u32 (x : Int) ((32 - n : Nat) : Int) = ((x % 2 ^ n * 2 ^ (32 - n) : Nat) : Int) := by
    unfold shlI
    have e : min ((32 - n : Nat) : Int).toNat IntKind.u32.bits = 32 - n := by
      show min ((32 - n : Nat) : Int).toNat 32 = 32 - n
      omega
    rw [e]
    show ((x : Int) * 2 ^ (32 - n)) % 4294967296 = _
    have e3 : (x : Int) * 2 ^ (32 - n) = ((x * 2 ^ (32 - n) : Nat) : Int) := by push_cast; rfl
    have e4 : x * 2 ^ (32 - n) % 4294967296 = x % 2 ^ n * 2 ^ (32 - n) := by
      rw [← hp, Nat.mul_mod_mul_right]
    rw [e3]
    omega
  rw [e2]
  have hs : Nat.shiftRight x n = x / 2 ^ n := Nat.shiftRight_eq_div_pow x n
  have hq : x / 2 ^ n < 2 ^ (32 - n) := by
    rw [Nat.div_lt_iff_lt_mul hpos, Nat.mul_comm, hp]; exact hx
  have hr : x % 2 ^ n * 2 ^ (32 - n) < 4294967296 := by
    rw [← hp]; exact Nat.mul_lt_mul_of_pos_right (Nat.mod_lt _ hpos) hpos2
  have hxq : x / 2 ^ n ≤ x := Nat.div_le_self _ _
  have hor : (x % 2 ^ n * 2 ^ (32 - n)) ||| (x / 2 ^ n) = x % 2 ^ n * 2 ^ (32 - n) + x / 2 ^ n := or_add hq
  rw [orI_nat (by rw [hs]; omega) hr, hs, Nat.or_comm, hor]
  have e5 : m32 (Nat.shiftRight (dbl x) n) = x % 2 ^ n * 2 ^ (32 - n) + x / 2 ^ n := by
    show (x * 4294967297) >>> n % 4294967296 = _
    rw [Nat.shiftRight_eq_div_pow]
    have e6 : x * 4294967297 = x * 2 ^ (32 - n) * 2 ^ n + x := by
      rw [Nat.mul_assoc, Nat.mul_comm (2 ^ (32 - n)), hp]; omega
    rw [e6, Nat.add_comm, Nat.add_mul_div_right _ _ hpos]
    have e7 : x * 2 ^ (32 - n) % 4294967296 = x % 2 ^ n * 2 ^ (32 - n) := by
      rw [← hp, Nat.mul_mod_mul_right]
    rw [Nat.add_mod, e7, Nat.mod_eq_of_lt (show x / 2 ^ n < 4294967296 by omega)]
    have hsum : x / 2 ^ n + x % 2 ^ n * 2 ^ (32 - n) < 4294967296 := by
      have h3 : x % 2 ^ n ≤ 2 ^ n - 1 := by have := Nat.mod_lt x hpos; omega
      have h4 : x % 2 ^ n * 2 ^ (32 - n) ≤ (2 ^ n - 1) * 2 ^ (32 - n) := Nat.mul_le_mul_right _ h3
      have h5 : (2 ^ n - 1) * 2 ^ (32 - n) = 4294967296 - 2 ^ (32 - n) := by rw [Nat.sub_mul, hp, Nat.one_mul]
      have h6 : 2 ^ (32 - n) ≤ 4294967296 := by rw [← hp]; exact Nat.le_mul_of_pos_left _ hpos
      omega
    rw [Nat.mod_eq_of_lt hsum, Nat.add_comm]
  rw [e5]

theorem m32_xor (a b : Nat) : Nat.xor (m32 a) (m32 b) = m32 (Nat.xor a b) := by
  show (a % 2 ^ 32) ^^^ (b % 2 ^ 32) = (a ^^^ b) % 2 ^ 32
  rw [Nat.xor_mod_two_pow]

theorem rot3 {x : Nat} (i j k : Nat) (hx : x < 4294967296) (i1 : 1 ≤ i ∧ i ≤ 31) (j1 : 1 ≤ j ∧ j ≤ 31) (k1 : 1 ≤ k ∧ k ≤ 31) :
    xorI .u32 (xorI .u32 (rotr (x : Int) (i : Int)) (rotr (x : Int) (j : Int))) (rotr (x : Int) (k : Int)) = ((m32 (Nat.xor (Nat.xor (Nat.shiftRight (dbl x) i) (Nat.shiftRight (dbl x) j)) (Nat.shiftRight (dbl x) k)) : Nat) : Int) := by
  rw [rot_nat i hx i1.1 i1.2, rot_nat j hx j1.1 j1.2, rot_nat k hx k1.1 k1.2, xorI_nat (m32_lt _) (m32_lt _), xorI_nat (xor_lt (m32_lt _) (m32_lt _)) (m32_lt _), m32_xor, m32_xor]
theorem rot2s {x : Nat} (i j k : Nat) (hx : x < 4294967296) (i1 : 1 ≤ i ∧ i ≤ 31) (j1 : 1 ≤ j ∧ j ≤ 31) (k1 : k ≤ 31) :
    xorI .u32 (xorI .u32 (rotr (x : Int) (i : Int)) (rotr (x : Int) (j : Int))) (shrI .u32 (x : Int) (k : Int)) = ((Nat.xor (m32 (Nat.xor (Nat.shiftRight (dbl x) i) (Nat.shiftRight (dbl x) j))) (Nat.shiftRight x k) : Nat) : Int) := by
  rw [rot_nat i hx i1.1 i1.2, rot_nat j hx j1.1 j1.2, shrI_nat x k (by omega), xorI_nat (m32_lt _) (m32_lt _), xorI_nat (xor_lt (m32_lt _) (m32_lt _)) (shr_lt hx), m32_xor]

theorem sig0_nat {x : Nat} (hx : x < 4294967296) : sig0 (x : Int) = ((g0F x : Nat) : Int) := by
  unfold g0F; rw [force_eq]; exact rot2s 7 18 3 hx (by decide) (by decide) (by decide)
theorem sig1_nat {x : Nat} (hx : x < 4294967296) : sig1 (x : Int) = ((g1F x : Nat) : Int) := by
  unfold g1F; rw [force_eq]; exact rot2s 17 19 10 hx (by decide) (by decide) (by decide)
theorem g0F_lt {x : Nat} (hx : x < 4294967296) : g0F x < 4294967296 := by unfold g0F; rw [force_eq]; exact xor_lt (m32_lt _) (shr_lt hx)
theorem g1F_lt {x : Nat} (hx : x < 4294967296) : g1F x < 4294967296 := by unfold g1F; rw [force_eq]; exact xor_lt (m32_lt _) (shr_lt hx)
theorem s1F_lt (x : Nat) : s1F x < 4294967296 := by unfold s1F; rw [force_eq]; exact m32_lt _
theorem s0F_lt (x : Nat) : s0F x < 4294967296 := by unfold s0F; rw [force_eq]; exact m32_lt _

/-- Words below the bound. -/
structure W8 (a b c d e f g h : Nat) : Prop where
  a : a < 4294967296
  b : b < 4294967296
  c : c < 4294967296
  d : d < 4294967296
  e : e < 4294967296
  f : f < 4294967296
  g : g < 4294967296
  h : h < 4294967296

def v8 (a b c d e f g h : Nat) : V8 := ⟨a, b, c, d, e, f, g, h⟩

theorem rnd_nat {a b c d e f g h : Nat} (hw : W8 a b c d e f g h) {k w : Nat} :
    rnd (v8 a b c d e f g h) (k : Int) (w : Int) = v8 (m32 (Nat.add (t1F e f g h k w) (t2F a b c))) a b c (m32 (Nat.add d (t1F e f g h k w))) e f g := by
  have c1 : cplU (e : Int) = ((Nat.xor 4294967295 e : Nat) : Int) := by
    unfold cplU
    exact xorI_nat (a := 4294967295) (by decide) hw.e
  have x1 : xorI .u32 (xorI .u32 (rotr (e : Int) 6) (rotr (e : Int) 11)) (rotr (e : Int) 25) = ((s1F e : Nat) : Int) := by
    unfold s1F; rw [force_eq]; exact rot3 6 11 25 hw.e (by decide) (by decide) (by decide)
  have x2 : xorI .u32 (xorI .u32 (rotr (a : Int) 2) (rotr (a : Int) 13)) (rotr (a : Int) 22) = ((s0F a : Nat) : Int) := by
    unfold s0F; rw [force_eq]; exact rot3 2 13 22 hw.a (by decide) (by decide) (by decide)
  have x3 : xorI .u32 (andI .u32 (e : Int) (f : Int)) (andI .u32 (cplU (e : Int)) (g : Int)) = ((chF e f g : Nat) : Int) := by
    rw [c1, andI_nat hw.e hw.f, andI_nat (xor_lt (by decide) hw.e) hw.g, xorI_nat (land_lt hw.f) (land_lt hw.g)]; rfl
  have x4 : xorI .u32 (xorI .u32 (andI .u32 (a : Int) (b : Int)) (andI .u32 (a : Int) (c : Int))) (andI .u32 (b : Int) (c : Int)) = ((mjF a b c : Nat) : Int) := by
    rw [andI_nat hw.a hw.b, andI_nat hw.a hw.c, andI_nat hw.b hw.c, xorI_nat (land_lt hw.b) (land_lt hw.c), xorI_nat (xor_lt (land_lt hw.b) (land_lt hw.c)) (land_lt hw.c)]; rfl
  have y1 : tOne (v8 a b c d e f g h) (k : Int) (w : Int) = ((m32 (t1F e f g h k w) : Nat) : Int) := by
    unfold tOne v8
    dsimp only
    rw [x1, x3]
    show _ = (((h + s1F e + chF e f g + k + w) % 4294967296 : Nat) : Int)
    omega
  have y2 : tTwo (v8 a b c d e f g h) = ((m32 (t2F a b c) : Nat) : Int) := by
    unfold tTwo v8
    dsimp only
    rw [x2, x4]
    show _ = (((s0F a + mjF a b c) % 4294967296 : Nat) : Int)
    omega
  unfold rnd
  rw [y1, y2]
  have z1 : (((m32 (t1F e f g h k w) : Nat) : Int) + ((m32 (t2F a b c) : Nat) : Int)) % 4294967296 = ((m32 (Nat.add (t1F e f g h k w) (t2F a b c)) : Nat) : Int) := by
    show (((t1F e f g h k w % 4294967296 : Nat) : Int) + ((t2F a b c % 4294967296 : Nat) : Int)) % 4294967296 = (((t1F e f g h k w + t2F a b c) % 4294967296 : Nat) : Int)
    omega
  have z2 : ((d : Int) + ((m32 (t1F e f g h k w) : Nat) : Int)) % 4294967296 = ((m32 (Nat.add d (t1F e f g h k w)) : Nat) : Int) := by
    show ((d : Int) + ((t1F e f g h k w % 4294967296 : Nat) : Int)) % 4294967296 = (((d + t1F e f g h k w) % 4294967296 : Nat) : Int)
    omega
  show (⟨_, _, _, _, _, _, _, _⟩ : V8) = ⟨_, _, _, _, _, _, _, _⟩
  simp only [v8, V8.mk.injEq, and_true, true_and]
  exact ⟨z1, z2⟩

/-- The word t of a block, for every t. -/
def wAt (l : List UInt8) (t : Nat) : Int := (sched l (t + 1)).getD t 0
theorem wAt_eq (l : List UInt8) : ∀ (n t : Nat), t < n → (sched l n).getD t 0 = wAt l t := by
  intro n
  induction n with
  | zero => intro t h; omega
  | succ n ih =>
    intro t h
    by_cases ht : t = n
    · subst ht; rfl
    · rw [← ih t (by omega), sched]
      simp [List.getD, List.getElem?_append, sched_len, show t < n by omega]
theorem wAt_next (l : List UInt8) (t : Nat) : wAt l (t + 16) = (((sig1 (wAt l (t + 14)) + wAt l (t + 9)) % 4294967296 + sig0 (wAt l (t + 1))) % 4294967296 + wAt l t) % 4294967296 := by
  have h : wAt l (t + 16) = nextW (sched l (t + 16)) (t + 16) := by
    unfold wAt
    rw [sched]
    simp [List.getD, sched_len]
    intro h; omega
  rw [h]
  unfold nextW
  rw [wAt_eq l _ _ (by omega), wAt_eq l _ _ (by omega), wAt_eq l _ _ (by omega), wAt_eq l _ _ (by omega)]
  rw [show t + 16 - 2 = t + 14 by omega, show t + 16 - 7 = t + 9 by omega, show t + 16 - 15 = t + 1 by omega, show t + 16 - 16 = t by omega]

theorem nw_nat {l : List UInt8} {t w0 w1 w9 w14 : Nat} (h0 : wAt l t = (w0 : Int)) (h1 : wAt l (t + 1) = (w1 : Int)) (h9 : wAt l (t + 9) = (w9 : Int)) (h14 : wAt l (t + 14) = (w14 : Int))
    (l1 : w1 < 4294967296) (l14 : w14 < 4294967296) : wAt l (t + 16) = ((nwF w0 w1 w9 w14 : Nat) : Int) := by
  rw [wAt_next, h0, h1, h9, h14, sig1_nat l14, sig0_nat l1]
  show _ = (((g1F w14 + w9 + g0F w1 + w0) % 4294967296 : Nat) : Int)
  omega

/-- The sixteen words from t on. -/
structure Win (l : List UInt8) (t w0 w1 w2 w3 w4 w5 w6 w7 w8 w9 w10 w11 w12 w13 w14 w15 : Nat) : Prop where
  p0 : wAt l t = (w0 : Int) ∧ w0 < 4294967296
  p1 : wAt l (t + 1) = (w1 : Int) ∧ w1 < 4294967296
  p2 : wAt l (t + 2) = (w2 : Int) ∧ w2 < 4294967296
  p3 : wAt l (t + 3) = (w3 : Int) ∧ w3 < 4294967296
  p4 : wAt l (t + 4) = (w4 : Int) ∧ w4 < 4294967296
  p5 : wAt l (t + 5) = (w5 : Int) ∧ w5 < 4294967296
  p6 : wAt l (t + 6) = (w6 : Int) ∧ w6 < 4294967296
  p7 : wAt l (t + 7) = (w7 : Int) ∧ w7 < 4294967296
  p8 : wAt l (t + 8) = (w8 : Int) ∧ w8 < 4294967296
  p9 : wAt l (t + 9) = (w9 : Int) ∧ w9 < 4294967296
  p10 : wAt l (t + 10) = (w10 : Int) ∧ w10 < 4294967296
  p11 : wAt l (t + 11) = (w11 : Int) ∧ w11 < 4294967296
  p12 : wAt l (t + 12) = (w12 : Int) ∧ w12 < 4294967296
  p13 : wAt l (t + 13) = (w13 : Int) ∧ w13 < 4294967296
  p14 : wAt l (t + 14) = (w14 : Int) ∧ w14 < 4294967296
  p15 : wAt l (t + 15) = (w15 : Int) ∧ w15 < 4294967296

theorem Win.next {l : List UInt8} {t w0 w1 w2 w3 w4 w5 w6 w7 w8 w9 w10 w11 w12 w13 w14 w15 : Nat} (h : Win l t w0 w1 w2 w3 w4 w5 w6 w7 w8 w9 w10 w11 w12 w13 w14 w15) :
    Win l (t + 1) w1 w2 w3 w4 w5 w6 w7 w8 w9 w10 w11 w12 w13 w14 w15 (nwF w0 w1 w9 w14) := by
  have e : ∀ j, t + 1 + j = t + (j + 1) := by intro j; omega
  refine ⟨h.p1, ?_, ?_, ?_, ?_, ?_, ?_, ?_, ?_, ?_, ?_, ?_, ?_, ?_, ?_, ?_⟩ <;> rw [e]
  · exact h.p2
  · exact h.p3
  · exact h.p4
  · exact h.p5
  · exact h.p6
  · exact h.p7
  · exact h.p8
  · exact h.p9
  · exact h.p10
  · exact h.p11
  · exact h.p12
  · exact h.p13
  · exact h.p14
  · exact h.p15
  · exact ⟨nw_nat h.p0.1 h.p1.1 h.p9.1 h.p14.1 h.p1.2 h.p14.2, m32_lt _⟩

theorem rF_ok {α : Type} (K : Nat → Nat → Nat → Nat → Nat → Nat → Nat → Nat → α) (l : List UInt8) (v : V8) : ∀ (ks : List Nat) (t : Nat) {w0 w1 w2 w3 w4 w5 w6 w7 w8 w9 w10 w11 w12 w13 w14 w15 a b c d e f g h : Nat},
    t + ks.length = 64 → kcN.drop t = ks → Win l t w0 w1 w2 w3 w4 w5 w6 w7 w8 w9 w10 w11 w12 w13 w14 w15 → W8 a b c d e f g h → rnds (sched l 64) v t = v8 a b c d e f g h →
    ∃ a' b' c' d' e' f' g' h', W8 a' b' c' d' e' f' g' h' ∧ rnds (sched l 64) v 64 = v8 a' b' c' d' e' f' g' h' ∧
      rF K ks w0 w1 w2 w3 w4 w5 w6 w7 w8 w9 w10 w11 w12 w13 w14 w15 a b c d e f g h = K a' b' c' d' e' f' g' h'
  | [], t, _, _, _, _, _, _, _, _, _, _, _, _, _, _, _, _, a, b, c, d, e, f, g, h, ht, _, _, hv, hr => by
    simp at ht
    subst ht
    exact ⟨a, b, c, d, e, f, g, h, hv, hr, rfl⟩
  | k :: ks, t, w0, w1, w2, w3, w4, w5, w6, w7, w8, w9, w10, w11, w12, w13, w14, w15, a, b, c, d, e, f, g, h, ht, hk, hw, hv, hr => by
    simp only [List.length_cons] at ht
    have hkt : kcN[t]? = some k := by
      have := congrArg (·[0]?) hk
      simpa [List.getElem?_drop] using this
    have hkc : kc.getD t 0 = (k : Int) := by
      rw [kcN_eq]; simp [List.getD, hkt]
    have hk' : kcN.drop (t + 1) = ks := by
      have := congrArg List.tail hk
      simpa [List.tail_drop] using this
    have hstep : rnds (sched l 64) v (t + 1) = v8 (m32 (Nat.add (t1F e f g h k w0) (t2F a b c))) a b c (m32 (Nat.add d (t1F e f g h k w0))) e f g := by
      rw [rnds, hr, hkc, wAt_eq l 64 t (by omega), hw.p0.1]
      exact rnd_nat hv
    obtain ⟨a', b', c', d', e', f', g', h', q1, q2, q3⟩ := rF_ok K l v ks (t + 1) (by omega) hk' hw.next
      ⟨m32_lt _, hv.a, hv.b, hv.c, m32_lt _, hv.e, hv.f, hv.g⟩ hstep
    refine ⟨a', b', c', d', e', f', g', h', q1, q2, ?_⟩
    rw [← q3, rF]
    simp only [force_eq]

def ofN (l : List Nat) : List Int := l.map fun (n : Nat) => (n : Int)

/-- A block, quickly. -/
theorem cF_ok {α : Type} (K : Nat → Nat → Nat → Nat → Nat → Nat → Nat → Nat → α) {l : List UInt8} {a b c d e f g h w0 w1 w2 w3 w4 w5 w6 w7 w8 w9 w10 w11 w12 w13 w14 w15 : Nat} (hw : Win l 0 w0 w1 w2 w3 w4 w5 w6 w7 w8 w9 w10 w11 w12 w13 w14 w15) (hv : W8 a b c d e f g h) :
    ∃ a' b' c' d' e' f' g' h', W8 a' b' c' d' e' f' g' h' ∧ comp (ofN [a, b, c, d, e, f, g, h]) l = ofN [a', b', c', d', e', f', g', h'] ∧
      cF a b c d e f g h w0 w1 w2 w3 w4 w5 w6 w7 w8 w9 w10 w11 w12 w13 w14 w15 K = K a' b' c' d' e' f' g' h' := by
  obtain ⟨a', b', c', d', e', f', g', h', q1, q2, q3⟩ := rF_ok (fun a' b' c' d' e' f' g' h' => force (m32 (Nat.add a a')) fun a => force (m32 (Nat.add b b')) fun b => force (m32 (Nat.add c c')) fun c => force (m32 (Nat.add d d')) fun d =>
    force (m32 (Nat.add e e')) fun e => force (m32 (Nat.add f f')) fun f => force (m32 (Nat.add g g')) fun g => force (m32 (Nat.add h h')) fun h => K a b c d e f g h) l (v8 a b c d e f g h) kcN 0 rfl rfl hw hv rfl
  refine ⟨m32 (Nat.add a a'), m32 (Nat.add b b'), m32 (Nat.add c c'), m32 (Nat.add d d'), m32 (Nat.add e e'), m32 (Nat.add f f'), m32 (Nat.add g g'), m32 (Nat.add h h'),
    ⟨m32_lt _, m32_lt _, m32_lt _, m32_lt _, m32_lt _, m32_lt _, m32_lt _, m32_lt _⟩, ?_, ?_⟩
  · unfold comp
    have e1 : V8.of (ofN [a, b, c, d, e, f, g, h]) = v8 a b c d e f g h := rfl
    rw [e1, q2]
    have e2 : ∀ x y : Nat, ((x : Int) + (y : Int)) % 4294967296 = ((m32 (Nat.add x y) : Nat) : Int) := by
      intro x y
      show ((x : Int) + (y : Int)) % 4294967296 = (((x + y) % 4294967296 : Nat) : Int)
      omega
    simp only [addTo, ofN, V8.list, v8, List.map_cons, List.map_nil, List.set_cons_zero, List.set_cons_succ, List.getD_cons_zero, List.getD_cons_succ, e2]
  · unfold cF
    rw [q3]
    simp only [force_eq]

end Qk

/-
  The blocks of a message in words; the digests of the examples.
-/
namespace Qk
open Go Go.RowKit

def wN (l : List UInt8) (t : Nat) : Nat := Nat.add (Nat.mul (Nat.add (Nat.mul (Nat.add (Nat.mul (l.getD (Nat.mul 4 t) 0).toNat 256) (l.getD (Nat.add (Nat.mul 4 t) 1) 0).toNat) 256) (l.getD (Nat.add (Nat.mul 4 t) 2) 0).toNat) 256) (l.getD (Nat.add (Nat.mul 4 t) 3) 0).toNat
theorem word_nat {l : List UInt8} {t : Nat} (h : 4 * t + 4 ≤ l.length) : word l t = ((wN l t : Nat) : Int) ∧ wN l t < 4294967296 := by
  rw [word_eq h]
  obtain ⟨c0, h0⟩ : ∃ c, c = l.getD (4 * t) 0 := ⟨_, rfl⟩
  obtain ⟨c1, h1⟩ : ∃ c, c = l.getD (4 * t + 1) 0 := ⟨_, rfl⟩
  obtain ⟨c2, h2⟩ : ∃ c, c = l.getD (4 * t + 2) 0 := ⟨_, rfl⟩
  obtain ⟨c3, h3⟩ : ∃ c, c = l.getD (4 * t + 3) 0 := ⟨_, rfl⟩
  have e : wN l t = ((c0.toNat * 256 + c1.toNat) * 256 + c2.toNat) * 256 + c3.toNat := by rw [h0, h1, h2, h3]; rfl
  rw [← h0, ← h1, ← h2, ← h3, e]
  have l0 : c0.toNat < 256 := c0.toNat_lt
  have l1 : c1.toNat < 256 := c1.toNat_lt
  have l2 : c2.toNat < 256 := c2.toNat_lt
  have l3 : c3.toNat < 256 := c3.toNat_lt
  refine ⟨?_, by omega⟩
  simp only [List.foldl_cons, List.foldl_nil]
  have b0 := byteW_nat (a := 0) c0 (by omega)
  have b1 := byteW_nat (a := 0 * 256 + c0.toNat) c1 (by omega)
  have b2 := byteW_nat (a := (0 * 256 + c0.toNat) * 256 + c1.toNat) c2 (by omega)
  have b3 := byteW_nat (a := ((0 * 256 + c0.toNat) * 256 + c1.toNat) * 256 + c2.toNat) c3 (by omega)
  have b0' : byteW 0 c0 = _ := b0
  rw [b0', b1, b2, b3]
  omega
theorem wAt_word {l : List UInt8} {t : Nat} (h : t < 16) : wAt l t = word l t := by
  unfold wAt
  rw [sched]
  simp [List.getD, sched_len]
  intro h2; omega
theorem wAt_nat {l : List UInt8} (hl : l.length = 64) {t : Nat} (h : t < 16) : wAt l t = ((wN l t : Nat) : Int) ∧ wN l t < 4294967296 := by
  rw [wAt_word h]; exact word_nat (by omega)

theorem win_of {l : List UInt8} (hl : l.length = 64) : Win l 0 (wN l 0) (wN l 1) (wN l 2) (wN l 3) (wN l 4) (wN l 5) (wN l 6) (wN l 7) (wN l 8) (wN l 9) (wN l 10) (wN l 11) (wN l 12) (wN l 13) (wN l 14) (wN l 15) :=
  ⟨wAt_nat hl (by omega), wAt_nat hl (by omega), wAt_nat hl (by omega), wAt_nat hl (by omega), wAt_nat hl (by omega), wAt_nat hl (by omega), wAt_nat hl (by omega), wAt_nat hl (by omega),
   wAt_nat hl (by omega), wAt_nat hl (by omega), wAt_nat hl (by omega), wAt_nat hl (by omega), wAt_nat hl (by omega), wAt_nat hl (by omega), wAt_nat hl (by omega), wAt_nat hl (by omega)⟩

def list8 (a b c d e f g h : Nat) : List Nat := [a, b, c, d, e, f, g, h]
/-- One block of bytes, quickly. -/
def bF {α : Type} (l : List UInt8) (a b c d e f g h : Nat) (K : Nat → Nat → Nat → Nat → Nat → Nat → Nat → Nat → α) : α :=
  cF a b c d e f g h (wN l 0) (wN l 1) (wN l 2) (wN l 3) (wN l 4) (wN l 5) (wN l 6) (wN l 7) (wN l 8) (wN l 9) (wN l 10) (wN l 11) (wN l 12) (wN l 13) (wN l 14) (wN l 15) K
theorem bF_ok {α : Type} (K : Nat → Nat → Nat → Nat → Nat → Nat → Nat → Nat → α) {l : List UInt8} (hl : l.length = 64) {a b c d e f g h : Nat} (hv : W8 a b c d e f g h) :
    ∃ a' b' c' d' e' f' g' h', W8 a' b' c' d' e' f' g' h' ∧ comp (ofN [a, b, c, d, e, f, g, h]) l = ofN [a', b', c', d', e', f', g', h'] ∧ bF l a b c d e f g h K = K a' b' c' d' e' f' g' h' :=
  cF_ok K (win_of hl) hv

/-- A message of blocks, quickly. -/
def msgF : List (List UInt8) → Nat → Nat → Nat → Nat → Nat → Nat → Nat → Nat → List Nat
  | [], a, b, c, d, e, f, g, h => [a, b, c, d, e, f, g, h]
  | l :: ls, a, b, c, d, e, f, g, h => bF l a b c d e f g h (msgF ls)
theorem msgF_ok : ∀ (ls : List (List UInt8)) {a b c d e f g h : Nat}, (∀ l ∈ ls, l.length = 64) → W8 a b c d e f g h → ls.foldl comp (ofN [a, b, c, d, e, f, g, h]) = ofN (msgF ls a b c d e f g h)
  | [], _, _, _, _, _, _, _, _, _, _ => rfl
  | l :: ls, a, b, c, d, e, f, g, h, hl, hv => by
    obtain ⟨a', b', c', d', e', f', g', h', q1, q2, q3⟩ := bF_ok (msgF ls) (hl l (by simp)) hv
    rw [List.foldl_cons, q2, msgF_ok ls (fun l hm => hl l (by simp [hm])) q1, msgF, q3]

def chunks (m : List UInt8) : Nat → List (List UInt8)
  | 0 => []
  | k + 1 => chunks m k ++ [(m.drop (64 * k)).take 64]
theorem foldB_chunks (m : List UInt8) (k : Nat) : foldB m k = (chunks m k).foldl comp iv := by
  induction k with
  | zero => rfl
  | succ k ih => rw [foldB, chunks, List.foldl_append, ← ih]; rfl
theorem iv_eq : iv = ofN [1779033703, 3144134277, 1013904242, 2773480762, 1359893119, 2600822924, 528734635, 1541459225] := rfl
theorem iv_lt : W8 1779033703 3144134277 1013904242 2773480762 1359893119 2600822924 528734635 1541459225 := by constructor <;> decide

theorem chunks_len (m : List UInt8) : ∀ k, 64 * k ≤ m.length → ∀ l ∈ chunks m k, l.length = 64
  | 0, _, l, hl => by simp [chunks] at hl
  | k + 1, hk, l, hl => by
    rw [chunks, List.mem_append] at hl
    rcases hl with hl | hl
    · exact chunks_len m k (by omega) l hl
    · simp only [List.mem_singleton] at hl
      rw [hl, List.length_take, List.length_drop]; omega

/-- The digest, quickly. -/
def shaW (l : List UInt8) : List Nat := msgF (chunks (pad l) ((pad l).length / 64)) 1779033703 3144134277 1013904242 2773480762 1359893119 2600822924 528734635 1541459225
def shaF (l : List UInt8) : List UInt8 := dig (ofN (shaW l)) 32
theorem shaF_eq (l : List UInt8) : sha l = shaF l := by
  unfold sha shaF shaW
  rw [foldB_chunks, iv_eq, msgF_ok _ (chunks_len _ _ (by omega)) iv_lt]
def hmacF (key s : List UInt8) : List UInt8 :=
  let k := (if 64 < key.length then shaF key else key) ++ List.replicate (64 - (if 64 < key.length then shaF key else key).length) 0
  shaF (xorm k 0x5c ++ shaF (xorm k 0x36 ++ s))
theorem hmacF_eq (key s : List UInt8) : hmac key s = hmacF key s := by
  unfold hmac hmacF keyB
  simp only [shaF_eq]

theorem sha_abc : sha [97, 98, 99] = [186, 120, 22, 191, 143, 1, 207, 234, 65, 65, 64, 222, 93, 174, 34, 35, 176, 3, 97, 163, 150, 23, 122, 156, 180, 16, 255, 97, 242, 0, 21, 173] := by
  rw [shaF_eq]; decide +kernel
theorem hex_abc : hex (sha [97, 98, 99]) = [98, 97, 55, 56, 49, 54, 98, 102, 56, 102, 48, 49, 99, 102, 101, 97, 52, 49, 52, 49, 52, 48, 100, 101, 53, 100, 97, 101, 50, 50, 50, 51, 98, 48, 48, 51, 54, 49, 97, 51, 57, 54, 49, 55, 55, 97, 57, 99, 98, 52, 49, 48, 102, 102, 54, 49, 102, 50, 48, 48, 49, 53, 97, 100] := by
  rw [sha_abc]; decide +kernel
theorem hex_jefe : hex (hmac [74, 101, 102, 101] [119, 104, 97, 116, 32, 100, 111, 32, 121, 97, 32, 119, 97, 110, 116, 32, 102, 111, 114, 32, 110, 111, 116, 104, 105, 110, 103, 63]) =
    [53, 98, 100, 99, 99, 49, 52, 54, 98, 102, 54, 48, 55, 53, 52, 101, 54, 97, 48, 52, 50, 52, 50, 54, 48, 56, 57, 53, 55, 53, 99, 55, 53, 97, 48, 48, 51, 102, 48, 56, 57, 100, 50, 55, 51, 57, 56, 51, 57, 100, 101, 99, 53, 56, 98, 57, 54, 52, 101, 99, 51, 56, 52, 51] := by
  rw [hmacF_eq]; decide +kernel

end Qk

/-
  The statements of chapter 02 in the executor's form (printed by a program).
-/
namespace Qk
open Go Go.RowKit

/-- quilt/quiltlaw02.Sha256Sum -/
def ir_quiltlaw02_Sha256Sum : IF := ⟨(.seq (.ops [⟨(some 2), none, .mov (.const (.bool false))⟩])
  (.seq (.ops [⟨(some 3), none, .mov (t 0)⟩,
    ⟨(some 4), none, .lenS (t 3)⟩,
    ⟨(some 5), none, .bin .gtr (t 4) (ci 300)⟩,
    ⟨(some 6), none, .mov (t 5)⟩,
    ⟨(some 7), (some (6, false)), .mov (t 0)⟩,
    ⟨(some 8), (some (6, false)), .pcall C_sha256_Sum [(t 7)]⟩,
    ⟨(some 9), (some (6, false)), .mov (t 0)⟩,
    ⟨(some 10), (some (6, false)), .pcall C_quiltref02_Sum [(t 9)]⟩,
    ⟨(some 11), (some (6, false)), .aeq false (repl 32 [some (some .u8)]) (t 8) (t 10)⟩,
    ⟨(some 12), none, .pick (t 6) (.const (.bool true)) (t 11)⟩,
    ⟨(some 13), none, .mov (t 12)⟩,
    ⟨(some 14), (some (13, true)), .pcall C_quiltlaw02_awake []⟩,
    ⟨(some 15), none, .pick (t 13) (t 14) (.const (.bool false))⟩,
    ⟨(some 2), none, .mov (t 15)⟩])
  .ret)), [.tmp 2]⟩
/-- quilt/quiltlaw02.Sha256HMAC -/
def ir_quiltlaw02_Sha256HMAC : IF := ⟨(.seq (.ops [⟨(some 4), none, .mov (.const (.bool false))⟩])
  (.seq (.ops [⟨(some 5), none, .mov (t 0)⟩,
    ⟨(some 6), none, .lenS (t 5)⟩,
    ⟨(some 7), none, .bin .gtr (t 6) (ci 200)⟩,
    ⟨(some 8), none, .mov (t 7)⟩,
    ⟨(some 9), (some (8, false)), .mov (t 1)⟩,
    ⟨(some 10), (some (8, false)), .lenS (t 9)⟩,
    ⟨(some 11), (some (8, false)), .bin .gtr (t 10) (ci 200)⟩,
    ⟨(some 12), none, .pick (t 8) (.const (.bool true)) (t 11)⟩,
    ⟨(some 13), none, .mov (t 12)⟩,
    ⟨(some 14), (some (13, false)), .mov (t 0)⟩,
    ⟨(some 15), (some (13, false)), .mov (t 1)⟩,
    ⟨(some 16), (some (13, false)), .pcall C_sha256_HMAC [(t 14), (t 15)]⟩,
    ⟨(some 17), (some (13, false)), .mov (t 0)⟩,
    ⟨(some 18), (some (13, false)), .mov (t 1)⟩,
    ⟨(some 19), (some (13, false)), .pcall C_quiltref02_HMAC [(t 17), (t 18)]⟩,
    ⟨(some 20), (some (13, false)), .aeq false (repl 32 [some (some .u8)]) (t 16) (t 19)⟩,
    ⟨(some 21), none, .pick (t 13) (.const (.bool true)) (t 20)⟩,
    ⟨(some 22), none, .mov (t 21)⟩,
    ⟨(some 23), (some (22, true)), .pcall C_quiltlaw02_awake []⟩,
    ⟨(some 24), none, .pick (t 22) (t 23) (.const (.bool false))⟩,
    ⟨(some 4), none, .mov (t 24)⟩])
  .ret)), [.tmp 4]⟩
/-- quilt/quiltlaw02.Sha256Nested -/
def ir_quiltlaw02_Sha256Nested : IF := ⟨(.seq (.ops [⟨(some 4), none, .mov (.const (.bool false))⟩])
  (.seq (.seq (.ops [⟨(some 6), none, .mov (t 0)⟩,
    ⟨(some 7), none, .lenS (t 6)⟩,
    ⟨(some 8), none, .bin .gtr (t 7) (ci 64)⟩,
    ⟨(some 9), none, .mov (t 8)⟩,
    ⟨(some 10), (some (9, false)), .mov (t 1)⟩,
    ⟨(some 11), (some (9, false)), .lenS (t 10)⟩,
    ⟨(some 12), (some (9, false)), .bin .gtr (t 11) (ci 200)⟩,
    ⟨(some 13), none, .pick (t 9) (.const (.bool true)) (t 12)⟩])
  (.cond (t 13) (.seq (.ops [⟨(some 14), none, .pcall C_quiltlaw02_awake []⟩,
    ⟨(some 4), none, .mov (t 14)⟩])
  .ret)
  .skip))
  (.seq (.ops [⟨(some 15), none, .mov (t 0)⟩,
    ⟨(some 16), none, .pcall C_quiltlaw02_masked [(t 15), (.const (.int .u8 54))]⟩,
    ⟨(some 17), none, .mov (t 1)⟩,
    ⟨(some 18), none, .bin .add (t 16) (t 17)⟩,
    ⟨(some 19), none, .pcall C_sha256_Sum [(t 18)]⟩,
    ⟨(some 5), none, .alloc (repl 32 [.int .u8 0])⟩,
    ⟨none, none, .storN 32 (t 5) (t 19)⟩])
  (.seq (.ops [⟨(some 20), none, .mov (t 0)⟩,
    ⟨(some 21), none, .mov (t 1)⟩,
    ⟨(some 22), none, .pcall C_sha256_HMAC [(t 20), (t 21)]⟩,
    ⟨(some 23), none, .mov (t 0)⟩,
    ⟨(some 24), none, .pcall C_quiltlaw02_masked [(t 23), (.const (.int .u8 92))]⟩,
    ⟨(some 25), none, .slA 1 32 (t 5) none none⟩,
    ⟨(some 26), none, .b2s (t 25)⟩,
    ⟨(some 27), none, .bin .add (t 24) (t 26)⟩,
    ⟨(some 28), none, .pcall C_sha256_Sum [(t 27)]⟩,
    ⟨(some 29), none, .aeq false (repl 32 [some (some .u8)]) (t 22) (t 28)⟩,
    ⟨(some 30), none, .mov (t 29)⟩,
    ⟨(some 31), (some (30, true)), .pcall C_quiltlaw02_awake []⟩,
    ⟨(some 32), none, .pick (t 30) (t 31) (.const (.bool false))⟩,
    ⟨(some 4), none, .mov (t 32)⟩])
  .ret)))), [.tmp 4]⟩
/-- quilt/quiltlaw02.Sha256Keys -/
def ir_quiltlaw02_Sha256Keys : IF := ⟨(.seq (.ops [⟨(some 4), none, .mov (.const (.bool false))⟩])
  (.seq (.seq (.ops [⟨(some 7), none, .mov (t 0)⟩,
    ⟨(some 8), none, .lenS (t 7)⟩,
    ⟨(some 9), none, .bin .gtr (t 8) (ci 200)⟩,
    ⟨(some 10), none, .mov (t 9)⟩,
    ⟨(some 11), (some (10, false)), .mov (t 1)⟩,
    ⟨(some 12), (some (10, false)), .lenS (t 11)⟩,
    ⟨(some 13), (some (10, false)), .bin .gtr (t 12) (ci 200)⟩,
    ⟨(some 14), none, .pick (t 10) (.const (.bool true)) (t 13)⟩])
  (.cond (t 14) (.seq (.ops [⟨(some 15), none, .pcall C_quiltlaw02_awake []⟩,
    ⟨(some 4), none, .mov (t 15)⟩])
  .ret)
  .skip))
  (.seq (.ops [⟨(some 16), none, .mov (t 0)⟩,
    ⟨(some 17), none, .mov (t 1)⟩,
    ⟨(some 18), none, .pcall C_sha256_HMAC [(t 16), (t 17)]⟩,
    ⟨(some 5), none, .alloc (repl 32 [.int .u8 0])⟩,
    ⟨none, none, .storN 32 (t 5) (t 18)⟩])
  (.seq (.seq (.ops [⟨(some 19), none, .mov (t 0)⟩,
    ⟨(some 20), none, .lenS (t 19)⟩,
    ⟨(some 21), none, .bin .gtr (t 20) (ci 64)⟩])
  (.cond (t 21) (.seq (.ops [⟨(some 22), none, .mov (t 0)⟩,
    ⟨(some 23), none, .pcall C_sha256_Sum [(t 22)]⟩,
    ⟨(some 6), none, .alloc (repl 32 [.int .u8 0])⟩,
    ⟨none, none, .storN 32 (t 6) (t 23)⟩])
  (.seq (.ops [⟨(some 24), none, .loadN 32 (t 5)⟩,
    ⟨(some 25), none, .slA 1 32 (t 6) none none⟩,
    ⟨(some 26), none, .b2s (t 25)⟩,
    ⟨(some 27), none, .mov (t 1)⟩,
    ⟨(some 28), none, .pcall C_sha256_HMAC [(t 26), (t 27)]⟩,
    ⟨(some 29), none, .aeq false (repl 32 [some (some .u8)]) (t 24) (t 28)⟩,
    ⟨(some 30), none, .mov (t 29)⟩,
    ⟨(some 31), (some (30, true)), .pcall C_quiltlaw02_awake []⟩,
    ⟨(some 32), none, .pick (t 30) (t 31) (.const (.bool false))⟩,
    ⟨(some 4), none, .mov (t 32)⟩])
  .ret))
  .skip))
  (.seq (.ops [⟨(some 33), none, .mov (t 0)⟩,
    ⟨(some 34), none, .lenS (t 33)⟩,
    ⟨(some 35), none, .bin .eql (t 34) (ci 64)⟩,
    ⟨(some 36), none, .mov (t 35)⟩,
    ⟨(some 37), (some (36, false)), .loadN 32 (t 5)⟩,
    ⟨(some 38), (some (36, false)), .mov (t 0)⟩,
    ⟨(some 39), (some (36, false)), .bin .add (t 38) (.const (.string ⟨#[0]⟩))⟩,
    ⟨(some 40), (some (36, false)), .mov (t 1)⟩,
    ⟨(some 41), (some (36, false)), .pcall C_sha256_HMAC [(t 39), (t 40)]⟩,
    ⟨(some 42), (some (36, false)), .aeq false (repl 32 [some (some .u8)]) (t 37) (t 41)⟩,
    ⟨(some 43), none, .pick (t 36) (.const (.bool true)) (t 42)⟩,
    ⟨(some 44), none, .mov (t 43)⟩,
    ⟨(some 45), (some (44, true)), .pcall C_quiltlaw02_awake []⟩,
    ⟨(some 46), none, .pick (t 44) (t 45) (.const (.bool false))⟩,
    ⟨(some 4), none, .mov (t 46)⟩])
  .ret))))), [.tmp 4]⟩
/-- quilt/quiltlaw02.Sha256Order -/
def ir_quiltlaw02_Sha256Order : IF := ⟨(.seq (.ops [⟨(some 3), none, .box (t 0)⟩,
    ⟨(some 4), none, .box (t 1)⟩,
    ⟨(some 5), none, .box (t 2)⟩,
    ⟨(some 6), none, .mov (.const (.bool false))⟩])
  (.seq (.ops [⟨(some 12), none, .loadN 32 (t 3)⟩,
    ⟨(some 13), none, .loadN 32 (t 4)⟩,
    ⟨(some 14), none, .pcall C_sha256_Compare [(t 12), (t 13)]⟩,
    ⟨(some 15), none, .loadN 32 (t 4)⟩,
    ⟨(some 16), none, .loadN 32 (t 5)⟩,
    ⟨(some 17), none, .pcall C_sha256_Compare [(t 15), (t 16)]⟩,
    ⟨(some 18), none, .loadN 32 (t 3)⟩,
    ⟨(some 19), none, .loadN 32 (t 5)⟩,
    ⟨(some 20), none, .pcall C_sha256_Compare [(t 18), (t 19)]⟩,
    ⟨(some 7), none, .mov (t 14)⟩,
    ⟨(some 8), none, .mov (t 17)⟩,
    ⟨(some 9), none, .mov (t 20)⟩])
  (.seq (.ops [⟨(some 21), none, .loadN 32 (t 3)⟩,
    ⟨(some 22), none, .pcall C_sha256_Hex [(t 21)]⟩,
    ⟨(some 23), none, .loadN 32 (t 4)⟩,
    ⟨(some 24), none, .pcall C_sha256_Hex [(t 23)]⟩,
    ⟨(some 10), none, .mov (t 22)⟩,
    ⟨(some 11), none, .mov (t 24)⟩])
  (.seq (.jn (.seq (.ops [⟨(some 25), none, .mov (t 7)⟩,
    ⟨(some 26), none, .loadN 32 (t 4)⟩,
    ⟨(some 27), none, .loadN 32 (t 3)⟩,
    ⟨(some 28), none, .pcall C_sha256_Compare [(t 26), (t 27)]⟩,
    ⟨(some 29), none, .neg (t 28)⟩,
    ⟨(some 30), none, .bin .neq (t 25) (t 29)⟩,
    ⟨(some 31), none, .mov (t 30)⟩,
    ⟨(some 32), (some (31, false)), .mov (t 7)⟩,
    ⟨(some 33), (some (31, false)), .bin .lss (t 32) (ci (-1))⟩,
    ⟨(some 34), none, .pick (t 31) (.const (.bool true)) (t 33)⟩,
    ⟨(some 35), none, .mov (t 34)⟩,
    ⟨(some 36), (some (35, false)), .mov (t 7)⟩,
    ⟨(some 37), (some (35, false)), .bin .gtr (t 36) (ci 1)⟩,
    ⟨(some 38), none, .pick (t 35) (.const (.bool true)) (t 37)⟩,
    ⟨(some 39), none, .mov (t 38)⟩,
    ⟨(some 40), (some (39, false)), .mov (t 7)⟩,
    ⟨(some 41), (some (39, false)), .bin .eql (t 40) (ci 0)⟩,
    ⟨(some 42), (some (39, false)), .loadN 32 (t 3)⟩,
    ⟨(some 43), (some (39, false)), .loadN 32 (t 4)⟩,
    ⟨(some 44), (some (39, false)), .aeq false (repl 32 [some (some .u8)]) (t 42) (t 43)⟩,
    ⟨(some 45), (some (39, false)), .beq true (t 41) (t 44)⟩,
    ⟨(some 46), none, .pick (t 39) (.const (.bool true)) (t 45)⟩,
    ⟨(some 47), none, .mov (t 46)⟩,
    ⟨(some 48), (some (47, false)), .mov (t 7)⟩,
    ⟨(some 49), (some (47, false)), .bin .lss (t 48) (ci 0)⟩,
    ⟨(some 50), (some (47, false)), .mov (t 10)⟩,
    ⟨(some 51), (some (47, false)), .mov (t 11)⟩,
    ⟨(some 52), (some (47, false)), .bin .lss (t 50) (t 51)⟩,
    ⟨(some 53), (some (47, false)), .beq true (t 49) (t 52)⟩,
    ⟨(some 54), none, .pick (t 47) (.const (.bool true)) (t 53)⟩])
  (.cond (t 54) (.seq (.ops [⟨(some 6), none, .mov (.const (.bool false))⟩])
  .ret)
  .skip)))
  (.seq (.ops [⟨(some 55), none, .mov (t 7)⟩,
    ⟨(some 56), none, .bin .gtr (t 55) (ci 0)⟩,
    ⟨(some 57), none, .mov (t 56)⟩,
    ⟨(some 58), (some (57, false)), .mov (t 8)⟩,
    ⟨(some 59), (some (57, false)), .bin .gtr (t 58) (ci 0)⟩,
    ⟨(some 60), none, .pick (t 57) (.const (.bool true)) (t 59)⟩,
    ⟨(some 61), none, .mov (t 60)⟩,
    ⟨(some 62), (some (61, false)), .mov (t 9)⟩,
    ⟨(some 63), (some (61, false)), .bin .leq (t 62) (ci 0)⟩,
    ⟨(some 64), none, .pick (t 61) (.const (.bool true)) (t 63)⟩,
    ⟨(some 65), none, .mov (t 64)⟩,
    ⟨(some 66), (some (65, true)), .mov (t 7)⟩,
    ⟨(some 67), (some (65, true)), .bin .geq (t 66) (ci 0)⟩,
    ⟨(some 68), (some (65, true)), .mov (t 67)⟩,
    ⟨(some 69), (some (68, false)), .mov (t 8)⟩,
    ⟨(some 70), (some (68, false)), .bin .geq (t 69) (ci 0)⟩,
    ⟨(some 71), (some (65, true)), .pick (t 68) (.const (.bool true)) (t 70)⟩,
    ⟨(some 72), (some (65, true)), .mov (t 71)⟩,
    ⟨(some 73), (some (72, false)), .mov (t 9)⟩,
    ⟨(some 74), (some (72, false)), .bin .lss (t 73) (ci 0)⟩,
    ⟨(some 75), (some (65, true)), .pick (t 72) (.const (.bool true)) (t 74)⟩,
    ⟨(some 76), none, .pick (t 65) (t 75) (.const (.bool false))⟩,
    ⟨(some 77), none, .mov (t 76)⟩,
    ⟨(some 78), (some (77, true)), .pcall C_quiltlaw02_awake []⟩,
    ⟨(some 79), none, .pick (t 77) (t 78) (.const (.bool false))⟩,
    ⟨(some 6), none, .mov (t 79)⟩])
  .ret))))), [.tmp 6]⟩
/-- quilt/quiltlaw02.Sha256Xor -/
def ir_quiltlaw02_Sha256Xor : IF := ⟨(.seq (.ops [⟨(some 3), none, .box (t 0)⟩,
    ⟨(some 4), none, .box (t 1)⟩,
    ⟨(some 5), none, .box (t 2)⟩,
    ⟨(some 6), none, .mov (.const (.bool false))⟩])
  (.seq (.ops [⟨(some 8), none, .build 32 (repl 32 [.int .u8 0]) []⟩,
    ⟨(some 7), none, .alloc (repl 32 [.int .u8 0])⟩,
    ⟨none, none, .storN 32 (t 7) (t 8)⟩])
  (.seq (.ops [⟨(some 9), none, .loadN 32 (t 3)⟩,
    ⟨(some 10), none, .loadN 32 (t 4)⟩,
    ⟨(some 11), none, .pcall C_sha256_Xor [(t 9), (t 10)]⟩,
    ⟨(some 12), none, .loadN 32 (t 4)⟩,
    ⟨(some 13), none, .loadN 32 (t 3)⟩,
    ⟨(some 14), none, .pcall C_sha256_Xor [(t 12), (t 13)]⟩,
    ⟨(some 15), none, .aeq false (repl 32 [some (some .u8)]) (t 11) (t 14)⟩,
    ⟨(some 16), none, .mov (t 15)⟩,
    ⟨(some 17), (some (16, true)), .loadN 32 (t 3)⟩,
    ⟨(some 18), (some (16, true)), .loadN 32 (t 4)⟩,
    ⟨(some 19), (some (16, true)), .pcall C_sha256_Xor [(t 17), (t 18)]⟩,
    ⟨(some 20), (some (16, true)), .loadN 32 (t 5)⟩,
    ⟨(some 21), (some (16, true)), .pcall C_sha256_Xor [(t 19), (t 20)]⟩,
    ⟨(some 22), (some (16, true)), .loadN 32 (t 3)⟩,
    ⟨(some 23), (some (16, true)), .loadN 32 (t 4)⟩,
    ⟨(some 24), (some (16, true)), .loadN 32 (t 5)⟩,
    ⟨(some 25), (some (16, true)), .pcall C_sha256_Xor [(t 23), (t 24)]⟩,
    ⟨(some 26), (some (16, true)), .pcall C_sha256_Xor [(t 22), (t 25)]⟩,
    ⟨(some 27), (some (16, true)), .aeq false (repl 32 [some (some .u8)]) (t 21) (t 26)⟩,
    ⟨(some 28), none, .pick (t 16) (t 27) (.const (.bool false))⟩,
    ⟨(some 29), none, .mov (t 28)⟩,
    ⟨(some 30), (some (29, true)), .loadN 32 (t 3)⟩,
    ⟨(some 31), (some (29, true)), .loadN 32 (t 3)⟩,
    ⟨(some 32), (some (29, true)), .pcall C_sha256_Xor [(t 30), (t 31)]⟩,
    ⟨(some 33), (some (29, true)), .loadN 32 (t 7)⟩,
    ⟨(some 34), (some (29, true)), .aeq false (repl 32 [some (some .u8)]) (t 32) (t 33)⟩,
    ⟨(some 35), none, .pick (t 29) (t 34) (.const (.bool false))⟩,
    ⟨(some 36), none, .mov (t 35)⟩,
    ⟨(some 37), (some (36, true)), .loadN 32 (t 3)⟩,
    ⟨(some 38), (some (36, true)), .loadN 32 (t 7)⟩,
    ⟨(some 39), (some (36, true)), .pcall C_sha256_Xor [(t 37), (t 38)]⟩,
    ⟨(some 40), (some (36, true)), .loadN 32 (t 3)⟩,
    ⟨(some 41), (some (36, true)), .aeq false (repl 32 [some (some .u8)]) (t 39) (t 40)⟩,
    ⟨(some 42), none, .pick (t 36) (t 41) (.const (.bool false))⟩,
    ⟨(some 43), none, .mov (t 42)⟩,
    ⟨(some 44), (some (43, true)), .loadN 32 (t 3)⟩,
    ⟨(some 45), (some (43, true)), .loadN 32 (t 4)⟩,
    ⟨(some 46), (some (43, true)), .pcall C_sha256_Xor [(t 44), (t 45)]⟩,
    ⟨(some 47), (some (43, true)), .loadN 32 (t 4)⟩,
    ⟨(some 48), (some (43, true)), .pcall C_sha256_Xor [(t 46), (t 47)]⟩,
    ⟨(some 49), (some (43, true)), .loadN 32 (t 3)⟩,
    ⟨(some 50), (some (43, true)), .aeq false (repl 32 [some (some .u8)]) (t 48) (t 49)⟩,
    ⟨(some 51), none, .pick (t 43) (t 50) (.const (.bool false))⟩,
    ⟨(some 52), none, .mov (t 51)⟩,
    ⟨(some 53), (some (52, true)), .pcall C_quiltlaw02_awake []⟩,
    ⟨(some 54), none, .pick (t 52) (t 53) (.const (.bool false))⟩,
    ⟨(some 6), none, .mov (t 54)⟩])
  .ret))), [.tmp 6]⟩
/-- quilt/quiltlaw02.Sha256RoundTrip -/
def ir_quiltlaw02_Sha256RoundTrip : IF := ⟨(.seq (.ops [⟨(some 2), none, .box (t 0)⟩,
    ⟨(some 4), none, .mov (.const (.bool false))⟩])
  (.seq (.seq (.ops [⟨(some 9), none, .mov (t 1)⟩,
    ⟨(some 10), none, .lenS (t 9)⟩,
    ⟨(some 11), none, .bin .gtr (t 10) (ci 100)⟩])
  (.cond (t 11) (.seq (.ops [⟨(some 12), none, .pcall C_quiltlaw02_awake []⟩,
    ⟨(some 4), none, .mov (t 12)⟩])
  .ret)
  .skip))
  (.seq (.ops [⟨(some 14), none, .loadN 32 (t 2)⟩,
    ⟨(some 15), none, .pcall C_sha256_Hex [(t 14)]⟩,
    ⟨(some 16), none, .pcall C_sha256_Parse [(t 15)]⟩,
    ⟨(some 13), none, .mov (t 16)⟩,
    ⟨(some 17), none, .extr (t 13) 0⟩,
    ⟨(some 18), none, .extr (t 13) 1⟩,
    ⟨(some 5), none, .alloc (repl 32 [.int .u8 0])⟩,
    ⟨none, none, .storN 32 (t 5) (t 17)⟩,
    ⟨(some 6), none, .mov (t 18)⟩])
  (.seq (.ops [⟨(some 20), none, .mov (t 1)⟩,
    ⟨(some 21), none, .pcall C_sha256_Parse [(t 20)]⟩,
    ⟨(some 19), none, .mov (t 21)⟩,
    ⟨(some 22), none, .extr (t 19) 0⟩,
    ⟨(some 23), none, .extr (t 19) 1⟩,
    ⟨(some 7), none, .alloc (repl 32 [.int .u8 0])⟩,
    ⟨none, none, .storN 32 (t 7) (t 22)⟩,
    ⟨(some 8), none, .mov (t 23)⟩])
  (.seq (.seq (.ops [⟨(some 24), none, .mov (t 8)⟩,
    ⟨(some 25), none, .bin .neq (t 24) (ci 0)⟩])
  (.cond (t 25) (.seq (.ops [⟨(some 26), none, .mov (t 6)⟩,
    ⟨(some 27), none, .bin .eql (t 26) (ci 0)⟩,
    ⟨(some 28), none, .mov (t 27)⟩,
    ⟨(some 29), (some (28, true)), .loadN 32 (t 5)⟩,
    ⟨(some 30), (some (28, true)), .loadN 32 (t 2)⟩,
    ⟨(some 31), (some (28, true)), .aeq false (repl 32 [some (some .u8)]) (t 29) (t 30)⟩,
    ⟨(some 32), none, .pick (t 28) (t 31) (.const (.bool false))⟩,
    ⟨(some 33), none, .mov (t 32)⟩,
    ⟨(some 34), (some (33, true)), .mov (t 8)⟩,
    ⟨(some 35), (some (33, true)), .bin .eql (t 34) (ci 3)⟩,
    ⟨(some 36), none, .pick (t 33) (t 35) (.const (.bool false))⟩,
    ⟨(some 37), none, .mov (t 36)⟩,
    ⟨(some 38), (some (37, true)), .loadN 32 (t 7)⟩,
    ⟨(some 39), (some (37, true)), .build 32 (repl 32 [.int .u8 0]) []⟩,
    ⟨(some 40), (some (37, true)), .aeq false (repl 32 [some (some .u8)]) (t 38) (t 39)⟩,
    ⟨(some 41), none, .pick (t 37) (t 40) (.const (.bool false))⟩,
    ⟨(some 42), none, .mov (t 41)⟩,
    ⟨(some 43), (some (42, true)), .pcall C_quiltlaw02_awake []⟩,
    ⟨(some 44), none, .pick (t 42) (t 43) (.const (.bool false))⟩,
    ⟨(some 4), none, .mov (t 44)⟩])
  .ret)
  .skip))
  (.seq (.ops [⟨(some 45), none, .mov (t 6)⟩,
    ⟨(some 46), none, .bin .eql (t 45) (ci 0)⟩,
    ⟨(some 47), none, .mov (t 46)⟩,
    ⟨(some 48), (some (47, true)), .loadN 32 (t 5)⟩,
    ⟨(some 49), (some (47, true)), .loadN 32 (t 2)⟩,
    ⟨(some 50), (some (47, true)), .aeq false (repl 32 [some (some .u8)]) (t 48) (t 49)⟩,
    ⟨(some 51), none, .pick (t 47) (t 50) (.const (.bool false))⟩,
    ⟨(some 52), none, .mov (t 51)⟩,
    ⟨(some 53), (some (52, true)), .loadN 32 (t 7)⟩,
    ⟨(some 54), (some (52, true)), .pcall C_sha256_Hex [(t 53)]⟩,
    ⟨(some 55), (some (52, true)), .mov (t 1)⟩,
    ⟨(some 56), (some (52, true)), .bin .eql (t 54) (t 55)⟩,
    ⟨(some 57), none, .pick (t 52) (t 56) (.const (.bool false))⟩,
    ⟨(some 58), none, .mov (t 57)⟩,
    ⟨(some 59), (some (58, true)), .pcall C_quiltlaw02_awake []⟩,
    ⟨(some 60), none, .pick (t 58) (t 59) (.const (.bool false))⟩,
    ⟨(some 4), none, .mov (t 60)⟩])
  .ret)))))), [.tmp 4]⟩
/-- quilt/quiltlaw02.Sha256Digests -/
def ir_quiltlaw02_Sha256Digests : IF := ⟨(.seq (.ops [⟨(some 3), none, .box (t 0)⟩,
    ⟨(some 4), none, .box (t 1)⟩,
    ⟨(some 6), none, .mov (.const (.bool false))⟩])
  (.seq (.seq (.ops [⟨(some 11), none, .mov (t 2)⟩,
    ⟨(some 12), none, .lenS (t 11)⟩,
    ⟨(some 13), none, .bin .gtr (t 12) (ci 100)⟩])
  (.cond (t 13) (.seq (.ops [⟨(some 14), none, .pcall C_quiltlaw02_awake []⟩,
    ⟨(some 6), none, .mov (t 14)⟩])
  .ret)
  .skip))
  (.seq (.ops [⟨(some 16), none, .mov (t 2)⟩,
    ⟨(some 17), none, .pcall C_sha256_Parse [(t 16)]⟩,
    ⟨(some 15), none, .mov (t 17)⟩,
    ⟨(some 18), none, .extr (t 15) 0⟩,
    ⟨(some 19), none, .extr (t 15) 1⟩,
    ⟨(some 7), none, .alloc (repl 32 [.int .u8 0])⟩,
    ⟨none, none, .storN 32 (t 7) (t 18)⟩,
    ⟨(some 8), none, .mov (t 19)⟩])
  (.seq (.ops [⟨(some 21), none, .mov (t 2)⟩,
    ⟨(some 22), none, .pcall C_quiltref02_Parse [(t 21)]⟩,
    ⟨(some 20), none, .mov (t 22)⟩,
    ⟨(some 23), none, .extr (t 20) 0⟩,
    ⟨(some 24), none, .extr (t 20) 1⟩,
    ⟨(some 9), none, .alloc (repl 32 [.int .u8 0])⟩,
    ⟨none, none, .storN 32 (t 9) (t 23)⟩,
    ⟨(some 10), none, .mov (t 24)⟩])
  (.seq (.ops [⟨(some 25), none, .loadN 32 (t 3)⟩,
    ⟨(some 26), none, .pcall C_sha256_Hex [(t 25)]⟩,
    ⟨(some 27), none, .loadN 32 (t 3)⟩,
    ⟨(some 28), none, .pcall C_quiltref02_Hex [(t 27)]⟩,
    ⟨(some 29), none, .bin .eql (t 26) (t 28)⟩,
    ⟨(some 30), none, .mov (t 29)⟩,
    ⟨(some 31), (some (30, true)), .loadN 32 (t 7)⟩,
    ⟨(some 32), (some (30, true)), .loadN 32 (t 9)⟩,
    ⟨(some 33), (some (30, true)), .aeq false (repl 32 [some (some .u8)]) (t 31) (t 32)⟩,
    ⟨(some 34), none, .pick (t 30) (t 33) (.const (.bool false))⟩,
    ⟨(some 35), none, .mov (t 34)⟩,
    ⟨(some 36), (some (35, true)), .mov (t 8)⟩,
    ⟨(some 37), (some (35, true)), .mov (t 10)⟩,
    ⟨(some 38), (some (35, true)), .bin .eql (t 36) (t 37)⟩,
    ⟨(some 39), none, .pick (t 35) (t 38) (.const (.bool false))⟩,
    ⟨(some 40), none, .mov (t 39)⟩,
    ⟨(some 41), (some (40, true)), .loadN 32 (t 3)⟩,
    ⟨(some 42), (some (40, true)), .loadN 32 (t 4)⟩,
    ⟨(some 43), (some (40, true)), .pcall C_sha256_Compare [(t 41), (t 42)]⟩,
    ⟨(some 44), (some (40, true)), .loadN 32 (t 3)⟩,
    ⟨(some 45), (some (40, true)), .loadN 32 (t 4)⟩,
    ⟨(some 46), (some (40, true)), .pcall C_quiltref02_Compare [(t 44), (t 45)]⟩,
    ⟨(some 47), (some (40, true)), .bin .eql (t 43) (t 46)⟩,
    ⟨(some 48), none, .pick (t 40) (t 47) (.const (.bool false))⟩,
    ⟨(some 49), none, .mov (t 48)⟩,
    ⟨(some 50), (some (49, true)), .loadN 32 (t 3)⟩,
    ⟨(some 51), (some (49, true)), .loadN 32 (t 4)⟩,
    ⟨(some 52), (some (49, true)), .pcall C_sha256_Xor [(t 50), (t 51)]⟩,
    ⟨(some 53), (some (49, true)), .loadN 32 (t 3)⟩,
    ⟨(some 54), (some (49, true)), .loadN 32 (t 4)⟩,
    ⟨(some 55), (some (49, true)), .pcall C_quiltref02_Xor [(t 53), (t 54)]⟩,
    ⟨(some 56), (some (49, true)), .aeq false (repl 32 [some (some .u8)]) (t 52) (t 55)⟩,
    ⟨(some 57), none, .pick (t 49) (t 56) (.const (.bool false))⟩,
    ⟨(some 58), none, .mov (t 57)⟩,
    ⟨(some 59), (some (58, true)), .pcall C_quiltlaw02_awake []⟩,
    ⟨(some 60), none, .pick (t 58) (t 59) (.const (.bool false))⟩,
    ⟨(some 6), none, .mov (t 60)⟩])
  .ret))))), [.tmp 6]⟩


end Qk

/-
  The statements of chapter 02: digests, keyed digests.
-/
namespace Qk
open Go Go.RowKit

attribute [local irreducible] sha hmac hex parse cmpB xorL maskK keyB

def C_quiltlaw02_Sha256Sum : PC := ⟨List UInt8, fun l => [.str l], fun _ => True, fun _ => .bool true⟩
def C_quiltlaw02_Sha256HMAC : PC := ⟨List UInt8 × List UInt8, fun p => [.str p.1, .str p.2], fun _ => True, fun _ => .bool true⟩
def C_quiltlaw02_Sha256Nested : PC := ⟨List UInt8 × List UInt8, fun p => [.str p.1, .str p.2], fun _ => True, fun _ => .bool true⟩
def C_quiltlaw02_Sha256Keys : PC := ⟨List UInt8 × List UInt8, fun p => [.str p.1, .str p.2], fun _ => True, fun _ => .bool true⟩

theorem eqT {a b : List UInt8} (ha : a.length = 32) (hb : b.length = 32) (h : a = b) : EqRel (repl 32 [some (some .u8)]) (bys a) (bys b) true :=
  ⟨arek_bys a 32 ha, arek_bys b 32 hb, fun _ => by rw [h], fun _ => rfl⟩

set_option maxRecDepth 1000000 in
theorem d_awake : Does ir_quiltlaw02_awake C_quiltlaw02_awake := by
  intro _ _
  have h1 : decide (hex (sha [97, 98, 99]) = [98, 97, 55, 56, 49, 54, 98, 102, 56, 102, 48, 49, 99, 102, 101, 97, 52, 49, 52, 49, 52, 48, 100, 101, 53, 100, 97, 101, 50, 50, 50, 51, 98, 48, 48, 51, 54, 49, 97, 51, 57, 54, 49, 55, 55, 97, 57, 99, 98, 52, 49, 48, 102, 102, 54, 49, 102, 50, 48, 48, 49, 53, 97, 100]) = true := decide_eq_true hex_abc
  refine ⟨_, rfl, (show (3 : Nat) ≤ 1099511627776 by decide), ?_⟩
  refine And.intro (plainA_bys _).nn ?_
  refine ⟨_, rfl, sha_len _, ?_⟩
  refine cond_t h1 ?_
  refine ⟨⟨_, _⟩, rfl, ⟨(show (4 : Nat) ≤ 1000000000 by decide), (show (28 : Nat) ≤ 1000000000 by decide)⟩, ?_⟩
  refine cond_t h1 ?_
  refine And.intro (plainA_bys _).nn ?_
  refine ⟨_, rfl, hmac_len _ _, ?_⟩
  refine cond_t h1 ?_
  refine ⟨_, SubSt.refl _, ?_⟩
  refine eBo ?_
  show cond (decide _) (decide _) false = true
  rw [h1]
  exact decide_eq_true hex_jefe

theorem d_law_Sum : Does ir_quiltlaw02_Sha256Sum C_quiltlaw02_Sha256Sum := by
  intro (l : List UInt8) _
  refine cond_split (fun h => ?_) (fun h => ?_)
  · iterate 4 (refine cond_t h ?_)
    refine cond_t h ?_
    refine ⟨(), rfl, trivial, ?_⟩
    refine ⟨_, SubSt.refl _, ?_⟩
    rfl
  · have hF : ¬ (300 : Int) < l.length := of_decide_eq_false h
    refine cond_f h ?_
    refine ⟨l, rfl, by show l.length ≤ 1099511627776; omega, ?_⟩
    refine cond_f h ?_
    refine cond_f h ?_
    refine ⟨l, rfl, by show l.length ≤ 1099511627776; omega, ?_⟩
    refine cond_f h ?_
    refine ⟨true, eqT (a := sha l) (b := sha l) (sha_len _) (sha_len _) rfl, ?_⟩
    refine cond_split (fun h2 => ?_) (fun h2 => ?_)
    · refine ⟨(), rfl, trivial, ?_⟩
      refine ⟨_, SubSt.refl _, ?_⟩
      refine eBo ?_
      rw [h2]; rfl
    · rw [h] at h2
      cases h2

theorem d_law_HMAC : Does ir_quiltlaw02_Sha256HMAC C_quiltlaw02_Sha256HMAC := by
  rintro ⟨key, s⟩ _
  refine cond_split (fun h => ?_) (fun h => ?_)
  · iterate 2 (refine cond_t h ?_)
    refine cond_t h ?_
    refine ⟨(), rfl, trivial, ?_⟩
    refine ⟨_, SubSt.refl _, ?_⟩
    rfl
  · have hF : ¬ (200 : Int) < key.length := of_decide_eq_false h
    iterate 2 (refine cond_f h ?_)
    refine cond_split (fun h2 => ?_) (fun h2 => ?_)
    · iterate 6 (refine cond_t h2 ?_)
      refine cond_t h2 ?_
      refine ⟨(), rfl, trivial, ?_⟩
      refine ⟨_, SubSt.refl _, ?_⟩
      rfl
    · have h2' := h2
      rw [h] at h2'
      have hF2 : ¬ (200 : Int) < s.length := of_decide_eq_false h2'
      iterate 2 (refine cond_f h2 ?_)
      refine ⟨⟨key, s⟩, rfl, ⟨by show key.length ≤ 1000000000; omega, by show s.length ≤ 1000000000; omega⟩, ?_⟩
      iterate 3 (refine cond_f h2 ?_)
      refine ⟨⟨key, s⟩, rfl, ⟨by show key.length ≤ 1000000000; omega, by show s.length ≤ 1000000000; omega⟩, ?_⟩
      refine cond_f h2 ?_
      refine ⟨true, eqT (a := hmac key s) (b := hmac key s) (hmac_len _ _) (hmac_len _ _) rfl, ?_⟩
      refine cond_split (fun h3 => ?_) (fun h3 => ?_)
      · refine ⟨(), rfl, trivial, ?_⟩
        refine ⟨_, SubSt.refl _, ?_⟩
        refine eBo ?_
        rw [h3]; rfl
      · rw [h2] at h3
        cases h3

theorem maskK_eq {key : List UInt8} {x : UInt8} {n : Nat} (hk : key.length ≤ 64) (hn : n = 64) : maskK key x n = xorm (keyB key) x := by
  have lm : ∀ i, (maskK key x i).length = i := by
    intro i; induction i with
    | zero => simp [maskK]
    | succ i ih => simp [maskK, ih]
  have g : ∀ n i, i < n → (maskK key x n).getD i 0 = key.getD i 0 ^^^ x := by
    intro n
    induction n with
    | zero => intro i h; omega
    | succ n ih =>
      intro i h
      rw [maskK]
      by_cases hi : i = n
      · subst hi; simp [List.getD, lm]
      · have := ih i (by omega)
        rw [← this]
        simp [List.getD, List.getElem?_append, lm, show i < n by omega]
  have hb : keyB key = key ++ List.replicate (64 - key.length) 0 := by
    unfold keyB; rw [if_neg (by omega)]
  apply List.ext_getElem
  · rw [lm, xorm_len, keyB_len, hn]
  · intro i h1 h2
    rw [lm] at h1
    have := g n i h1
    rw [List.getD, List.getElem?_eq_getElem (by rw [lm]; exact h1), Option.getD_some] at this
    rw [this]
    simp only [xorm, List.getElem_map, hb]
    congr 1
    rw [List.getElem_append]
    split
    · rename_i hlt; simp [List.getD, hlt]
    · rename_i hge; simp [List.getD, List.getElem?_eq_none (Nat.le_of_not_lt hge)]

theorem d_law_Nested : Does ir_quiltlaw02_Sha256Nested C_quiltlaw02_Sha256Nested := by
  rintro ⟨key, s⟩ _
  refine cond_split (fun h => ?_) (fun h => ?_)
  · iterate 2 (refine cond_t h ?_)
    refine cond_t h ?_
    refine ⟨(), rfl, trivial, ?_⟩
    refine ⟨_, SubSt.refl _, ?_⟩
    rfl
  · have hF : ¬ (64 : Int) < key.length := of_decide_eq_false h
    iterate 2 (refine cond_f h ?_)
    refine cond_split (fun h2 => ?_) (fun h2 => ?_)
    · refine ⟨(), rfl, trivial, ?_⟩
      refine ⟨_, SubSt.refl _, ?_⟩
      rfl
    · rw [h] at h2
      have hF2 : ¬ (200 : Int) < s.length := of_decide_eq_false h2
      have lm : ∀ x, (maskK key x 64).length = 64 := by intro x; rw [maskK_eq (by omega) rfl, xorm_len, keyB_len]
      have l1 := lm 54
      have l2 := lm 92
      refine ⟨⟨key, 54⟩, rfl, by show key.length ≤ 64; omega, ?_⟩
      refine And.intro (by show (maskK key 54 64).length + s.length ≤ 9223372036854775807; omega) ?_
      refine ⟨maskK key 54 64 ++ s, rfl, by show (maskK key 54 64 ++ s).length ≤ 1099511627776; rw [List.length_append]; omega, ?_⟩
      have ln : (bys (sha (maskK key 54 64 ++ s))).length = 32 := by rw [bys_length, sha_len]
      refine And.intro ⟨ln, bys_all _⟩ ?_
      refine And.intro (Nat.le_refl 32) ?_
      refine ⟨_, lay_all (vs := bys (sha (maskK key 54 64 ++ s))) ln, ?_⟩
      refine ⟨⟨key, s⟩, rfl, ⟨by show key.length ≤ 1000000000; omega, by show s.length ≤ 1000000000; omega⟩, ?_⟩
      refine ⟨⟨key, 92⟩, rfl, by show key.length ≤ 64; omega, ?_⟩
      refine And.intro (by decide) ?_
      refine And.intro rfl ?_
      refine ⟨sha (maskK key 54 64 ++ s), ⟨(tda ln).symm, sha_len _⟩, ?_⟩
      refine And.intro (by show (maskK key 92 64).length + (sha (maskK key 54 64 ++ s)).length ≤ 9223372036854775807; rw [sha_len]; omega) ?_
      refine ⟨maskK key 92 64 ++ sha (maskK key 54 64 ++ s), rfl, by show (maskK key 92 64 ++ sha (maskK key 54 64 ++ s)).length ≤ 1099511627776; rw [List.length_append, sha_len]; omega, ?_⟩
      refine ⟨true, eqT (a := hmac key s) (b := sha (maskK key 92 64 ++ sha (maskK key 54 64 ++ s))) (hmac_len _ _) (sha_len _) ?_, ?_⟩
      · rw [maskK_eq (by omega) rfl, maskK_eq (by omega) rfl]
        unfold hmac
        rfl
      refine ⟨(), rfl, trivial, ?_⟩
      refine ⟨_, SubSt.refl _, ?_⟩
      rfl

theorem hmac_long {key s : List UInt8} (h : 64 < key.length) : hmac (sha key) s = hmac key s := by
  have : keyB (sha key) = keyB key := by
    unfold keyB
    rw [if_pos h, if_neg (by rw [sha_len]; omega)]
  unfold hmac
  rw [this]
theorem hmac_zero {key s : List UInt8} (h : key.length < 64) : hmac (key ++ [0]) s = hmac key s := by
  have : keyB (key ++ [0]) = keyB key := by
    unfold keyB
    have h1 : ¬ 64 < (key ++ [0]).length := by rw [List.length_append, List.length_singleton]; omega
    have h2 : ¬ 64 < key.length := by omega
    rw [if_neg h1, if_neg h2, List.length_append, List.length_singleton]
    have : 64 - key.length = (64 - (key.length + 1)) + 1 := by omega
    rw [this, List.replicate_succ]
    simp
  unfold hmac
  rw [this]

theorem d_law_Keys : Does ir_quiltlaw02_Sha256Keys C_quiltlaw02_Sha256Keys := by
  rintro ⟨key, s⟩ _
  refine cond_split (fun h => ?_) (fun h => ?_)
  · iterate 2 (refine cond_t h ?_)
    refine cond_t h ?_
    refine ⟨(), rfl, trivial, ?_⟩
    refine ⟨_, SubSt.refl _, ?_⟩
    rfl
  · have hF : ¬ (200 : Int) < key.length := of_decide_eq_false h
    iterate 2 (refine cond_f h ?_)
    refine cond_split (fun h2 => ?_) (fun h2 => ?_)
    · refine ⟨(), rfl, trivial, ?_⟩
      refine ⟨_, SubSt.refl _, ?_⟩
      rfl
    · rw [h] at h2
      have hF2 : ¬ (200 : Int) < s.length := of_decide_eq_false h2
      refine ⟨⟨key, s⟩, rfl, ⟨by show key.length ≤ 1000000000; omega, by show s.length ≤ 1000000000; omega⟩, ?_⟩
      have ln : (bys (hmac key s)).length = 32 := by rw [bys_length, hmac_len]
      refine And.intro ⟨ln, bys_all _⟩ ?_
      refine And.intro (Nat.le_refl 32) ?_
      refine ⟨_, lay_all (vs := bys (hmac key s)) ln, ?_⟩
      refine cond_split (fun h3 => ?_) (fun h3 => ?_)
      · have hT3 : (64 : Int) < key.length := of_decide_eq_true h3
        refine ⟨key, rfl, by show key.length ≤ 1099511627776; omega, ?_⟩
        have l2 : (bys (sha key)).length = 32 := by rw [bys_length, sha_len]
        refine And.intro ⟨l2, bys_all _⟩ ?_
        refine And.intro (Nat.le_refl 32) ?_
        refine ⟨_, lay_all (vs := bys (sha key)) l2, ?_⟩
        refine ⟨bys (hmac key s), ⟨tda ln, ln⟩, ?_⟩
        refine And.intro (by decide) ?_
        refine And.intro rfl ?_
        refine ⟨sha key, ⟨(tda l2).symm, sha_len _⟩, ?_⟩
        refine ⟨⟨sha key, s⟩, rfl, ⟨by show (sha key).length ≤ 1000000000; rw [sha_len]; omega, by show s.length ≤ 1000000000; omega⟩, ?_⟩
        refine ⟨true, eqT (a := hmac key s) (b := hmac (sha key) s) (hmac_len _ _) (hmac_len _ _) (hmac_long (by omega)).symm, ?_⟩
        refine ⟨(), rfl, trivial, ?_⟩
        refine ⟨_, SubSt.refl _, ?_⟩
        rfl
      · have hF3 : ¬ (64 : Int) < key.length := of_decide_eq_false h3
        refine cond_split (fun h4 => ?_) (fun h4 => ?_)
        · iterate 5 (refine cond_t h4 ?_)
          refine cond_t h4 ?_
          refine ⟨(), rfl, trivial, ?_⟩
          refine ⟨_, SubSt.refl _, ?_⟩
          rfl
        · have hF4 : ¬ (key.length : Int) = 64 := of_decide_eq_false h4
          refine ⟨bys (hmac key s), ⟨tda ln, ln⟩, ?_⟩
          iterate 2 (refine cond_f h4 ?_)
          refine And.intro (by show key.length + 1 ≤ 9223372036854775807; omega) ?_
          iterate 2 (refine cond_f h4 ?_)
          refine ⟨⟨key ++ [0], s⟩, rfl, ⟨by show (key ++ [0]).length ≤ 1000000000; rw [List.length_append, List.length_singleton]; omega, by show s.length ≤ 1000000000; omega⟩, ?_⟩
          refine cond_f h4 ?_
          refine ⟨true, eqT (a := hmac key s) (b := hmac (key ++ [0]) s) (hmac_len _ _) (hmac_len _ _) (hmac_zero (by omega)).symm, ?_⟩
          refine cond_split (fun h5 => ?_) (fun h5 => ?_)
          · refine ⟨(), rfl, trivial, ?_⟩
            refine ⟨_, SubSt.refl _, ?_⟩
            refine eBo ?_
            rw [h5]; rfl
          · rw [h4] at h5
            cases h5

end Qk

/-
  The statements of chapter 02: the order, exclusive or, reading and writing.
-/
namespace Qk
open Go Go.RowKit

theorem cmp_head (x y : UInt8) (a b : List UInt8) : (x.toNat < y.toNat ∧ cmpB (x :: a) (y :: b) = -1) ∨ (y.toNat < x.toNat ∧ cmpB (x :: a) (y :: b) = 1) ∨ (x = y ∧ cmpB (x :: a) (y :: b) = cmpB a b) := by
  unfold cmpB
  by_cases h1 : x < y
  · exact .inl ⟨UInt8.lt_iff_toNat_lt.1 h1, by simp [Lib.compareBytes, h1]⟩
  · by_cases h2 : y < x
    · exact .inr (.inl ⟨UInt8.lt_iff_toNat_lt.1 h2, by simp [Lib.compareBytes, h1, h2]⟩)
    · refine .inr (.inr ⟨?_, by simp [Lib.compareBytes, h1, h2]⟩)
      have n1 := mt UInt8.lt_iff_toNat_lt.2 h1
      have n2 := mt UInt8.lt_iff_toNat_lt.2 h2
      exact UInt8.toNat_inj.1 (by omega)

theorem cmp_range : ∀ (a b : List UInt8), -1 ≤ cmpB a b ∧ cmpB a b ≤ 1
  | [], [] => by unfold cmpB; simp [Lib.compareBytes]
  | [], _ :: _ => by unfold cmpB; simp [Lib.compareBytes]
  | _ :: _, [] => by unfold cmpB; simp [Lib.compareBytes]
  | x :: a, y :: b => by
    have ih := cmp_range a b
    rcases cmp_head x y a b with ⟨_, e⟩ | ⟨_, e⟩ | ⟨_, e⟩ <;> omega
theorem cmp_anti : ∀ (a b : List UInt8), cmpB b a = - cmpB a b
  | [], [] => by unfold cmpB; simp [Lib.compareBytes]
  | [], _ :: _ => by unfold cmpB; simp [Lib.compareBytes]
  | _ :: _, [] => by unfold cmpB; simp [Lib.compareBytes]
  | x :: a, y :: b => by
    have ih := cmp_anti a b
    rcases cmp_head x y a b with ⟨h1, e⟩ | ⟨h1, e⟩ | ⟨h1, e⟩ <;> rcases cmp_head y x b a with ⟨h2, e2⟩ | ⟨h2, e2⟩ | ⟨h2, e2⟩ <;> first | omega | (subst h1; omega) | (subst h2; omega)
theorem cmp_zero : ∀ (a b : List UInt8), a.length = b.length → (cmpB a b = 0 ↔ a = b)
  | [], [], _ => by unfold cmpB; simp [Lib.compareBytes]
  | [], _ :: _, h => by simp at h
  | _ :: _, [], h => by simp at h
  | x :: a, y :: b, h => by
    have ih := cmp_zero a b (by simpa using h)
    rcases cmp_head x y a b with ⟨h1, e⟩ | ⟨h1, e⟩ | ⟨h1, e⟩
    · rw [e]; constructor
      · intro h; cases h
      · intro h; cases h; omega
    · rw [e]; constructor
      · intro h; cases h
      · intro h; cases h; omega
    · rw [e, ih]; simp [h1]
theorem cmp_trans : ∀ (a b c : List UInt8), ¬ (cmpB a b ≤ 0 ∧ cmpB b c ≤ 0 ∧ 0 < cmpB a c) ∧ ¬ (cmpB a b < 0 ∧ cmpB b c < 0 ∧ 0 ≤ cmpB a c)
  | [], b, c => by
    cases b <;> cases c <;> (unfold cmpB; simp [Lib.compareBytes])
  | x :: a, [], c => by
    cases c <;> (unfold cmpB; simp [Lib.compareBytes])
  | x :: a, y :: b, [] => by
    have : cmpB (y :: b) [] = 1 := by unfold cmpB; simp [Lib.compareBytes]
    omega
  | x :: a, y :: b, z :: c => by
    have ih := cmp_trans a b c
    rcases cmp_head x y a b with ⟨h1, e1⟩ | ⟨h1, e1⟩ | ⟨h1, e1⟩ <;> rcases cmp_head y z b c with ⟨h2, e2⟩ | ⟨h2, e2⟩ | ⟨h2, e2⟩ <;> rcases cmp_head x z a c with ⟨h3, e3⟩ | ⟨h3, e3⟩ | ⟨h3, e3⟩ <;>
      (try have q1 := congrArg UInt8.toNat h1) <;> (try have q2 := congrArg UInt8.toNat h2) <;> (try have q3 := congrArg UInt8.toNat h3) <;> omega

theorem hexd_lt {n m : Nat} (hn : n < 16) (hm : m < 16) : (hexd n < hexd m) ↔ n < m := by
  have : ∀ n m : Fin 16, (hexd n.1 < hexd m.1) ↔ n.1 < m.1 := by decide +kernel
  exact this ⟨n, hn⟩ ⟨m, hm⟩
theorem hexd_eq {n m : Nat} (hn : n < 16) (hm : m < 16) : (hexd n = hexd m) ↔ n = m := by
  have : ∀ n m : Fin 16, (hexd n.1 = hexd m.1) ↔ n.1 = m.1 := by decide +kernel
  exact this ⟨n, hn⟩ ⟨m, hm⟩
theorem hex_cons (x : UInt8) (d : List UInt8) : hex (x :: d) = hexd (x.toNat / 16) :: hexd (x.toNat % 16) :: hex d := by
  unfold hex; simp [hexB]
theorem less_hex : ∀ (a b : List UInt8), a.length = b.length → (Op.bytesLess (hex a) (hex b) = decide (cmpB a b < 0))
  | [], [], _ => by unfold hex cmpB; simp [Lib.compareBytes, Op.bytesLess]
  | [], _ :: _, h => by simp at h
  | _ :: _, [], h => by simp at h
  | x :: a, y :: b, h => by
    have ih := less_hex a b (by simpa using h)
    have hx : x.toNat < 256 := x.toNat_lt
    have hy : y.toNat < 256 := y.toNat_lt
    rw [hex_cons, hex_cons]
    have p1 := hexd_lt (n := x.toNat / 16) (m := y.toNat / 16) (by omega) (by omega)
    have p2 := hexd_eq (n := x.toNat / 16) (m := y.toNat / 16) (by omega) (by omega)
    have p3 := hexd_lt (n := x.toNat % 16) (m := y.toNat % 16) (by omega) (by omega)
    have p4 := hexd_eq (n := x.toNat % 16) (m := y.toNat % 16) (by omega) (by omega)
    simp only [Op.bytesLess, ih]
    rcases cmp_head x y a b with ⟨h1, e⟩ | ⟨h1, e⟩ | ⟨h1, e⟩
    · rw [e]
      by_cases hq : x.toNat / 16 < y.toNat / 16
      · simp [p1.2 hq]
      · have q : x.toNat / 16 = y.toNat / 16 := by omega
        have r : x.toNat % 16 < y.toNat % 16 := by omega
        simp [p2.2 q, p3.2 r]
    · rw [e]
      have n1 : ¬ hexd (x.toNat / 16) < hexd (y.toNat / 16) := fun h => by have := p1.1 h; omega
      by_cases hq : x.toNat / 16 = y.toNat / 16
      · have n2 : ¬ hexd (x.toNat % 16) < hexd (y.toNat % 16) := fun h => by have := p3.1 h; omega
        have n3 : ¬ hexd (x.toNat % 16) = hexd (y.toNat % 16) := fun h => by have := p4.1 h; omega
        simp [n1, n2, n3]
      · have n2 : ¬ hexd (x.toNat / 16) = hexd (y.toNat / 16) := fun h => hq (p2.1 h)
        simp [n1, n2]
    · rw [e, h1]; simp [UInt8.lt_irrefl]

/-- Reading what was written. -/
theorem digV_hexd {n : Nat} (h : n < 16) : digV (hexd n) = n := by
  have : ∀ n : Fin 16, digV (hexd n.1) = n.1 := by decide +kernel
  exact this ⟨n, h⟩
theorem hexd_digV {c : UInt8} (h : digV c < 16) : hexd (digV c) = c := by
  unfold hexd
  have h' : digs.idxOf c < digs.length := h
  have := List.getElem_idxOf h'
  simp only [digV, List.getD, List.getElem?_eq_getElem h', Option.getD_some]
  exact this
theorem hex_get : ∀ (d : List UInt8) (i : Nat), i < d.length → (hex d).getD (2 * i) 0 = hexd ((d.getD i 0).toNat / 16) ∧ (hex d).getD (2 * i + 1) 0 = hexd ((d.getD i 0).toNat % 16)
  | [], _, h => by simp at h
  | x :: d, 0, _ => by rw [hex_cons]; simp [List.getD]
  | x :: d, i + 1, h => by
    have ih := hex_get d i (by simpa using h)
    rw [hex_cons]
    have e1 : 2 * (i + 1) = 2 * i + 1 + 1 := by omega
    rw [e1]
    simp only [List.getD_cons_succ]
    exact ih
theorem unhex_hex (d : List UInt8) : ∀ k, k ≤ d.length → unhex (hex d) k = d.take k
  | 0, _ => rfl
  | k + 1, h => by
    obtain ⟨h1, h2⟩ := hex_get d k (by omega)
    have hb : (d.getD k 0).toNat < 256 := (d.getD k 0).toNat_lt
    rw [unhex, unhex_hex d k (by omega), h1, h2, digV_hexd (by omega), digV_hexd (by omega), take_snocD d (by omega)]
    congr 2
    have e : (16 * (((d.getD k 0).toNat / 16 : Nat) : Int) + (((d.getD k 0).toNat % 16 : Nat) : Int)) = (((d.getD k 0).toNat : Nat) : Int) := by omega
    rw [e, by8_of]
theorem parse_hex {d : List UInt8} (hd : d.length = 32) : parse (hex d) = (d, 0) := by
  have hl : (hex d).length = 64 := by rw [hex_len, hd]
  have hp : parses (hex d) = true := parses_good hl (fun i hi => by
    obtain ⟨h1, h2⟩ := hex_get d (i / 2) (by omega)
    have hb : (d.getD (i / 2) 0).toNat < 256 := (d.getD (i / 2) 0).toNat_lt
    by_cases hi2 : i % 2 = 0
    · rw [show i = 2 * (i / 2) by omega, h1, digV_hexd (by omega)]; omega
    · rw [show i = 2 * (i / 2) + 1 by omega, h2, digV_hexd (by omega)]; omega)
  rw [parse_yes hp, unhex_hex d 32 (by omega), List.take_of_length_le (by omega)]
theorem hex_unhex {l : List UInt8} (hl : l.length = 64) (h : ∀ i, i < 64 → digV (l.getD i 0) < 16) : ∀ k, k ≤ 32 → hex (unhex l k) = l.take (2 * k)
  | 0, _ => by unfold hex; rfl
  | k + 1, hk => by
    have h1 := h (2 * k) (by omega)
    have h2 := h (2 * k + 1) (by omega)
    rw [unhex, hex_snoc, hex_unhex hl h k (by omega)]
    have e : (by8 (16 * (digV (l.getD (2 * k) 0) : Int) + (digV (l.getD (2 * k + 1) 0) : Int))).toNat = 16 * digV (l.getD (2 * k) 0) + digV (l.getD (2 * k + 1) 0) := by
      have := by8_int (16 * (digV (l.getD (2 * k) 0) : Int) + (digV (l.getD (2 * k + 1) 0) : Int))
      omega
    unfold hexB
    rw [e]
    have q1 : (16 * digV (l.getD (2 * k) 0) + digV (l.getD (2 * k + 1) 0)) / 16 = digV (l.getD (2 * k) 0) := by omega
    have q2 : (16 * digV (l.getD (2 * k) 0) + digV (l.getD (2 * k + 1) 0)) % 16 = digV (l.getD (2 * k + 1) 0) := by omega
    rw [q1, q2, hexd_digV h1, hexd_digV h2, show 2 * (k + 1) = 2 * k + 1 + 1 by omega, take_snocD l (by omega), take_snocD l (by omega)]
    simp
theorem parses_digits {l : List UInt8} (h : parses l = true) : l.length = 64 ∧ ∀ i, i < 64 → digV (l.getD i 0) < 16 := by
  simp only [parses, Bool.and_eq_true, List.all_eq_true, beq_iff_eq] at h
  refine ⟨h.1, fun i hi => ?_⟩
  have := h.2 (l.getD i 0) (by simp [List.getD, List.getElem?_eq_getElem (show i < l.length by omega)])
  simpa using this
theorem hex_parse {l : List UInt8} (h : parses l = true) : hex (unhex l 32) = l := by
  obtain ⟨h1, h2⟩ := parses_digits h
  rw [hex_unhex h1 h2 32 (by omega), List.take_of_length_le (by omega)]

theorem xorL_len {a b : List UInt8} (ha : a.length = 32) (hb : b.length = 32) : (xorL a b).length = 32 := by simp [xorL, ha, hb]
theorem xorL_comm (a b : List UInt8) : xorL a b = xorL b a := by
  unfold xorL; rw [List.zipWith_comm]; congr 1; funext x y; exact UInt8.xor_comm _ _
theorem xorL_assoc : ∀ (a b c : List UInt8), xorL (xorL a b) c = xorL a (xorL b c)
  | [], _, _ => rfl
  | _ :: _, [], _ => rfl
  | _ :: _, _ :: _, [] => rfl
  | x :: a, y :: b, z :: c => by
    have ih := xorL_assoc a b c
    unfold xorL at ih ⊢
    simp only [List.zipWith_cons_cons, ih, UInt8.xor_assoc]
theorem xorL_self : ∀ (a : List UInt8), xorL a a = List.replicate a.length 0
  | [] => rfl
  | x :: a => by
    have ih := xorL_self a
    unfold xorL at ih ⊢
    rw [List.zipWith_cons_cons, ih]
    simp [List.replicate_succ]
theorem xorL_zero : ∀ (a : List UInt8), xorL a (List.replicate a.length 0) = a
  | [] => rfl
  | x :: a => by
    have ih := xorL_zero a
    unfold xorL at ih ⊢
    rw [List.length_cons, List.replicate_succ, List.zipWith_cons_cons, ih]
    simp

end Qk

/-
  The statements of chapter 02: the walks of the other four.
-/
namespace Qk
open Go Go.RowKit

attribute [local irreducible] sha hmac hex parse cmpB xorL maskK keyB unhex

def C_quiltlaw02_Sha256Xor : PC := ⟨List UInt8 × List UInt8 × List UInt8, fun p => [.agg (bys p.1), .agg (bys p.2.1), .agg (bys p.2.2)], fun p => p.1.length = 32 ∧ p.2.1.length = 32 ∧ p.2.2.length = 32, fun _ => .bool true⟩
def C_quiltlaw02_Sha256Order : PC := ⟨List UInt8 × List UInt8 × List UInt8, fun p => [.agg (bys p.1), .agg (bys p.2.1), .agg (bys p.2.2)], fun p => p.1.length = 32 ∧ p.2.1.length = 32 ∧ p.2.2.length = 32, fun _ => .bool true⟩
def C_quiltlaw02_Sha256RoundTrip : PC := ⟨List UInt8 × List UInt8, fun p => [.agg (bys p.1), .str p.2], fun p => p.1.length = 32, fun _ => .bool true⟩
def C_quiltlaw02_Sha256Digests : PC := ⟨List UInt8 × List UInt8 × List UInt8, fun p => [.agg (bys p.1), .agg (bys p.2.1), .str p.2.2], fun p => p.1.length = 32 ∧ p.2.1.length = 32, fun _ => .bool true⟩

set_option maxHeartbeats 1000000 in
theorem d_law_Xor : Does ir_quiltlaw02_Sha256Xor C_quiltlaw02_Sha256Xor := by
  rintro ⟨a, b, c⟩ ⟨ha, hb, hc⟩
  dsimp only at ha hb hc
  have la : (bys a).length = 32 := by rw [bys_length, ha]
  have lb : (bys b).length = 32 := by rw [bys_length, hb]
  have lc : (bys c).length = 32 := by rw [bys_length, hc]
  have lz : (bys (List.replicate 32 0)).length = 32 := rfl
  have zz : (List.replicate 32 (0 : UInt8)).length = 32 := rfl
  have hab := xorL_len ha hb
  have hba := xorL_len hb ha
  have hbc := xorL_len hb hc
  refine And.intro rfl ?_
  refine And.intro ⟨rfl, by rw [repl_bys]; exact bys_all _⟩ ?_
  refine And.intro (Nat.le_refl 32) ?_
  refine ⟨bys (List.replicate 32 0), by rw [← repl_bys]; exact lay_all rfl, ?_⟩
  refine ⟨bys a, ⟨tda la, la⟩, ?_⟩
  refine ⟨bys b, ⟨tda lb, lb⟩, ?_⟩
  refine And.intro (plainA_bys _).nn ?_
  refine And.intro (plainA_bys _).nn ?_
  refine ⟨⟨a, b⟩, rfl, ⟨ha, hb⟩, ?_⟩
  refine ⟨bys b, ⟨tda lb, lb⟩, ?_⟩
  refine ⟨bys a, ⟨tda la, la⟩, ?_⟩
  refine And.intro (plainA_bys _).nn ?_
  refine And.intro (plainA_bys _).nn ?_
  refine ⟨⟨b, a⟩, rfl, ⟨hb, ha⟩, ?_⟩
  refine ⟨true, eqT (a := xorL a b) (b := xorL b a) hab hba (xorL_comm a b), ?_⟩
  refine ⟨bys a, ⟨tda la, la⟩, ?_⟩
  refine ⟨bys b, ⟨tda lb, lb⟩, ?_⟩
  refine And.intro (plainA_bys _).nn ?_
  refine And.intro (plainA_bys _).nn ?_
  refine ⟨⟨a, b⟩, rfl, ⟨ha, hb⟩, ?_⟩
  refine ⟨bys c, ⟨tda lc, lc⟩, ?_⟩
  refine And.intro (plainA_bys _).nn ?_
  refine And.intro (plainA_bys _).nn ?_
  refine ⟨⟨xorL a b, c⟩, rfl, ⟨hab, hc⟩, ?_⟩
  refine ⟨bys a, ⟨tda la, la⟩, ?_⟩
  refine ⟨bys b, ⟨tda lb, lb⟩, ?_⟩
  refine ⟨bys c, ⟨tda lc, lc⟩, ?_⟩
  refine And.intro (plainA_bys _).nn ?_
  refine And.intro (plainA_bys _).nn ?_
  refine ⟨⟨b, c⟩, rfl, ⟨hb, hc⟩, ?_⟩
  refine And.intro (plainA_bys _).nn ?_
  refine And.intro (plainA_bys _).nn ?_
  refine ⟨⟨a, xorL b c⟩, rfl, ⟨ha, hbc⟩, ?_⟩
  refine ⟨true, eqT (a := xorL (xorL a b) c) (b := xorL a (xorL b c)) (xorL_len hab hc) (xorL_len ha hbc) (xorL_assoc a b c), ?_⟩
  refine ⟨bys a, ⟨tda la, la⟩, ?_⟩
  refine ⟨bys a, ⟨tda la, la⟩, ?_⟩
  refine And.intro (plainA_bys _).nn ?_
  refine And.intro (plainA_bys _).nn ?_
  refine ⟨⟨a, a⟩, rfl, ⟨ha, ha⟩, ?_⟩
  refine ⟨bys (List.replicate 32 0), ⟨tda lz, lz⟩, ?_⟩
  refine ⟨true, eqT (a := xorL a a) (b := List.replicate 32 0) (xorL_len ha ha) zz (by rw [xorL_self, ha]), ?_⟩
  refine ⟨bys a, ⟨tda la, la⟩, ?_⟩
  refine ⟨bys (List.replicate 32 0), ⟨tda lz, lz⟩, ?_⟩
  refine And.intro (plainA_bys _).nn ?_
  refine And.intro (plainA_bys _).nn ?_
  refine ⟨⟨a, List.replicate 32 0⟩, rfl, ⟨ha, zz⟩, ?_⟩
  refine ⟨bys a, ⟨tda la, la⟩, ?_⟩
  refine ⟨true, eqT (a := xorL a (List.replicate 32 0)) (b := a) (xorL_len ha zz) ha (by have := xorL_zero a; rw [ha] at this; exact this), ?_⟩
  refine ⟨bys a, ⟨tda la, la⟩, ?_⟩
  refine ⟨bys b, ⟨tda lb, lb⟩, ?_⟩
  refine And.intro (plainA_bys _).nn ?_
  refine And.intro (plainA_bys _).nn ?_
  refine ⟨⟨a, b⟩, rfl, ⟨ha, hb⟩, ?_⟩
  refine ⟨bys b, ⟨tda lb, lb⟩, ?_⟩
  refine And.intro (plainA_bys _).nn ?_
  refine And.intro (plainA_bys _).nn ?_
  refine ⟨⟨xorL a b, b⟩, rfl, ⟨hab, hb⟩, ?_⟩
  refine ⟨bys a, ⟨tda la, la⟩, ?_⟩
  refine ⟨true, eqT (a := xorL (xorL a b) b) (b := a) (xorL_len hab hb) ha (by
    have := xorL_zero a
    rw [ha] at this
    rw [xorL_assoc, xorL_self, hb]; exact this), ?_⟩
  refine ⟨(), rfl, trivial, ?_⟩
  refine ⟨_, SubSt.refl _, ?_⟩
  rfl

set_option maxHeartbeats 1000000 in
theorem d_law_Digests : Does ir_quiltlaw02_Sha256Digests C_quiltlaw02_Sha256Digests := by
  rintro ⟨a, b, s⟩ ⟨ha, hb⟩
  dsimp only at ha hb
  have la : (bys a).length = 32 := by rw [bys_length, ha]
  have lb : (bys b).length = 32 := by rw [bys_length, hb]
  have hp := parse_len s
  have lp : (bys (parse s).1).length = 32 := by rw [bys_length, hp]
  refine cond_split (fun h => ?_) (fun h => ?_)
  · refine ⟨(), rfl, trivial, ?_⟩
    refine ⟨_, SubSt.refl _, ?_⟩
    rfl
  · refine ⟨s, rfl, trivial, ?_⟩
    refine ⟨_, rfl, ?_⟩
    refine ⟨_, rfl, ?_⟩
    refine And.intro ⟨lp, bys_all _⟩ ?_
    refine And.intro (Nat.le_refl 32) ?_
    refine ⟨_, lay_all (vs := bys (parse s).1) lp, ?_⟩
    refine ⟨s, rfl, trivial, ?_⟩
    refine ⟨_, rfl, ?_⟩
    refine ⟨_, rfl, ?_⟩
    refine And.intro ⟨lp, bys_all _⟩ ?_
    refine And.intro (Nat.le_refl 32) ?_
    refine ⟨_, lay_all (vs := bys (parse s).1) lp, ?_⟩
    refine ⟨bys a, ⟨tda la, la⟩, ?_⟩
    refine And.intro (plainA_bys _).nn ?_
    refine ⟨a, rfl, ha, ?_⟩
    refine ⟨bys a, ⟨tda la, la⟩, ?_⟩
    refine And.intro (plainA_bys _).nn ?_
    refine ⟨a, rfl, ha, ?_⟩
    have h30 : decide (hex a = hex a) = true := by simp
    iterate 1 (refine cond_t h30 ?_)
    refine ⟨bys (parse s).1, ⟨tda lp, lp⟩, ?_⟩
    iterate 1 (refine cond_t h30 ?_)
    refine ⟨bys (parse s).1, ⟨tda lp, lp⟩, ?_⟩
    iterate 1 (refine cond_t h30 ?_)
    refine ⟨true, eqT (a := (parse s).1) (b := (parse s).1) hp hp rfl, ?_⟩
    have h35 : cond (decide (hex a = hex a)) true false = true := by rw [h30]; rfl
    iterate 3 (refine cond_t h35 ?_)
    have h40 : cond (cond (decide (hex a = hex a)) true false) (decide ((parse s).2 = (parse s).2)) false = true := by rw [h35]; simp
    iterate 1 (refine cond_t h40 ?_)
    refine ⟨bys a, ⟨tda la, la⟩, ?_⟩
    iterate 1 (refine cond_t h40 ?_)
    refine ⟨bys b, ⟨tda lb, lb⟩, ?_⟩
    iterate 1 (refine cond_t h40 ?_)
    refine And.intro (plainA_bys _).nn ?_
    refine And.intro (plainA_bys _).nn ?_
    refine ⟨⟨a, b⟩, rfl, ⟨ha, hb⟩, ?_⟩
    iterate 1 (refine cond_t h40 ?_)
    refine ⟨bys a, ⟨tda la, la⟩, ?_⟩
    iterate 1 (refine cond_t h40 ?_)
    refine ⟨bys b, ⟨tda lb, lb⟩, ?_⟩
    iterate 1 (refine cond_t h40 ?_)
    refine And.intro (plainA_bys _).nn ?_
    refine And.intro (plainA_bys _).nn ?_
    refine ⟨⟨a, b⟩, rfl, ⟨ha, hb⟩, ?_⟩
    iterate 1 (refine cond_t h40 ?_)
    have h49 : cond (cond (cond (decide (hex a = hex a)) true false) (decide ((parse s).2 = (parse s).2)) false) (decide (cmpB a b = cmpB a b)) false = true := by rw [h40]; simp
    iterate 1 (refine cond_t h49 ?_)
    refine ⟨bys a, ⟨tda la, la⟩, ?_⟩
    iterate 1 (refine cond_t h49 ?_)
    refine ⟨bys b, ⟨tda lb, lb⟩, ?_⟩
    iterate 1 (refine cond_t h49 ?_)
    refine And.intro (plainA_bys _).nn ?_
    refine And.intro (plainA_bys _).nn ?_
    refine ⟨⟨a, b⟩, rfl, ⟨ha, hb⟩, ?_⟩
    iterate 1 (refine cond_t h49 ?_)
    refine ⟨bys a, ⟨tda la, la⟩, ?_⟩
    iterate 1 (refine cond_t h49 ?_)
    refine ⟨bys b, ⟨tda lb, lb⟩, ?_⟩
    iterate 1 (refine cond_t h49 ?_)
    refine And.intro (plainA_bys _).nn ?_
    refine And.intro (plainA_bys _).nn ?_
    refine ⟨⟨a, b⟩, rfl, ⟨ha, hb⟩, ?_⟩
    iterate 1 (refine cond_t h49 ?_)
    refine ⟨true, eqT (a := xorL a b) (b := xorL a b) (xorL_len ha hb) (xorL_len ha hb) rfl, ?_⟩
    have h58 : cond (cond (cond (cond (decide (hex a = hex a)) true false) (decide ((parse s).2 = (parse s).2)) false) (decide (cmpB a b = cmpB a b)) false) true false = true := by rw [h49]; rfl
    iterate 1 (refine cond_t h58 ?_)
    refine ⟨(), rfl, trivial, ?_⟩
    refine ⟨_, SubSt.refl _, ?_⟩
    refine eBo ?_
    exact Eq.trans (congrArg (fun x => cond x true false) h58) rfl

set_option maxHeartbeats 1000000 in
theorem d_law_RoundTrip : Does ir_quiltlaw02_Sha256RoundTrip C_quiltlaw02_Sha256RoundTrip := by
  rintro ⟨d, s⟩ hd
  have hd : d.length = 32 := hd
  have ld : (bys d).length = 32 := by rw [bys_length, hd]
  have lz : (bys (List.replicate 32 0)).length = 32 := rfl
  have zz : (List.replicate 32 (0 : UInt8)).length = 32 := rfl
  refine cond_split (fun h => ?_) (fun h => ?_)
  · refine ⟨(), rfl, trivial, ?_⟩
    refine ⟨_, SubSt.refl _, ?_⟩
    rfl
  · refine ⟨bys d, ⟨tda ld, ld⟩, ?_⟩
    refine And.intro (plainA_bys _).nn ?_
    refine ⟨d, rfl, hd, ?_⟩
    refine ⟨hex d, rfl, trivial, ?_⟩
    have e1 : C_sha256_Parse.res (hex d) = .tup [.agg (bys d), .int .i64 0] := by
      show AV.tup [.agg (bys (parse (hex d)).1), .int .i64 (parse (hex d)).2] = _
      rw [parse_hex hd]
    rw [e1]
    refine ⟨_, rfl, ?_⟩
    refine ⟨_, rfl, ?_⟩
    refine And.intro ⟨ld, bys_all _⟩ ?_
    refine And.intro (Nat.le_refl 32) ?_
    refine ⟨_, lay_all (vs := bys d) ld, ?_⟩
    refine ⟨s, rfl, trivial, ?_⟩
    cases hp : parses s with
    | false =>
      have e2 : C_sha256_Parse.res s = .tup [.agg (bys (List.replicate 32 0)), .int .i64 3] := by
        show AV.tup [.agg (bys (parse s).1), .int .i64 (parse s).2] = _
        rw [parse_no hp]
      rw [e2]
      refine ⟨_, rfl, ?_⟩
      refine ⟨_, rfl, ?_⟩
      refine And.intro ⟨lz, bys_all _⟩ ?_
      refine And.intro (Nat.le_refl 32) ?_
      refine ⟨_, lay_all (vs := bys (List.replicate 32 0)) lz, ?_⟩
      refine ⟨bys d, ⟨tda ld, ld⟩, ?_⟩
      refine ⟨bys d, ⟨tda ld, ld⟩, ?_⟩
      refine ⟨true, eqT (a := d) (b := d) hd hd rfl, ?_⟩
      refine ⟨bys (List.replicate 32 0), ⟨tda lz, lz⟩, ?_⟩
      refine And.intro rfl ?_
      rw [repl_bys]
      refine ⟨true, eqT (a := List.replicate 32 0) (b := List.replicate 32 0) zz zz rfl, ?_⟩
      refine ⟨(), rfl, trivial, ?_⟩
      refine ⟨_, SubSt.refl _, ?_⟩
      rfl
    | true =>
      have hu := unhex_len s 32
      have lu : (bys (unhex s 32)).length = 32 := by rw [bys_length, hu]
      have e2 : C_sha256_Parse.res s = .tup [.agg (bys (unhex s 32)), .int .i64 0] := by
        show AV.tup [.agg (bys (parse s).1), .int .i64 (parse s).2] = _
        rw [parse_yes hp]
      rw [e2]
      refine ⟨_, rfl, ?_⟩
      refine ⟨_, rfl, ?_⟩
      refine And.intro ⟨lu, bys_all _⟩ ?_
      refine And.intro (Nat.le_refl 32) ?_
      refine ⟨_, lay_all (vs := bys (unhex s 32)) lu, ?_⟩
      refine ⟨bys d, ⟨tda ld, ld⟩, ?_⟩
      refine ⟨bys d, ⟨tda ld, ld⟩, ?_⟩
      refine ⟨true, eqT (a := d) (b := d) hd hd rfl, ?_⟩
      refine ⟨bys (unhex s 32), ⟨tda lu, lu⟩, ?_⟩
      refine And.intro (plainA_bys _).nn ?_
      refine ⟨unhex s 32, rfl, hu, ?_⟩
      have h58 : decide (hex (unhex s 32) = s) = true := decide_eq_true (hex_parse hp)
      iterate 1 (refine cond_t h58 ?_)
      refine ⟨(), rfl, trivial, ?_⟩
      refine ⟨_, SubSt.refl _, ?_⟩
      refine eBo ?_
      rw [h58]
      rfl

end Qk

/-
  The statement of chapter 02 on the order.
-/
namespace Qk
open Go Go.RowKit

attribute [local irreducible] sha hmac hex parse cmpB xorL maskK keyB unhex

theorem eqR {a b : List UInt8} {r : Bool} (ha : a.length = 32) (hb : b.length = 32) (h : r = true ↔ a = b) : EqRel (repl 32 [some (some .u8)]) (bys a) (bys b) r :=
  ⟨arek_bys a 32 ha, arek_bys b 32 hb, by rw [bys_inj]; exact h⟩

set_option maxHeartbeats 10000000 in
theorem d_law_Order : Does ir_quiltlaw02_Sha256Order C_quiltlaw02_Sha256Order := by
  rintro ⟨a, b, c⟩ ⟨ha, hb, hc⟩
  dsimp only at ha hb hc
  have la : (bys a).length = 32 := by rw [bys_length, ha]
  have lb : (bys b).length = 32 := by rw [bys_length, hb]
  have lc : (bys c).length = 32 := by rw [bys_length, hc]
  obtain ⟨x, hx⟩ : ∃ x, x = cmpB a b := ⟨_, rfl⟩
  obtain ⟨y, hy⟩ : ∃ y, y = cmpB b c := ⟨_, rfl⟩
  obtain ⟨z, hz⟩ : ∃ z, z = cmpB a c := ⟨_, rfl⟩
  have rx := cmp_range a b
  have ry := cmp_range b c
  have rz := cmp_range a c
  have tr := cmp_trans a b c
  have h0 := cmp_zero a b (by omega)
  have hl := less_hex a b (by omega)
  have e1 : C_sha256_Compare.res (a, b) = .int .i64 x := by rw [hx]; rfl
  have e2 : C_sha256_Compare.res (b, c) = .int .i64 y := by rw [hy]; rfl
  have e3 : C_sha256_Compare.res (a, c) = .int .i64 z := by rw [hz]; rfl
  have e4 : C_sha256_Compare.res (b, a) = .int .i64 (-x) := by rw [hx, ← cmp_anti]; rfl
  rw [← hx] at rx h0 hl
  rw [← hy] at ry
  rw [← hz] at rz
  rw [← hx, ← hy, ← hz] at tr
  have cx : x = -1 ∨ x = 0 ∨ x = 1 := by omega
  have cy : y = -1 ∨ y = 0 ∨ y = 1 := by omega
  have cz : z = -1 ∨ z = 0 ∨ z = 1 := by omega
  clear hx hy hz rx ry rz
  refine ⟨bys a, ⟨tda la, la⟩, ?_⟩
  refine ⟨bys b, ⟨tda lb, lb⟩, ?_⟩
  refine And.intro (plainA_bys _).nn ?_
  refine And.intro (plainA_bys _).nn ?_
  refine ⟨⟨a, b⟩, rfl, ⟨ha, hb⟩, ?_⟩
  rw [e1]
  refine ⟨bys b, ⟨tda lb, lb⟩, ?_⟩
  refine ⟨bys c, ⟨tda lc, lc⟩, ?_⟩
  refine And.intro (plainA_bys _).nn ?_
  refine And.intro (plainA_bys _).nn ?_
  refine ⟨⟨b, c⟩, rfl, ⟨hb, hc⟩, ?_⟩
  rw [e2]
  refine ⟨bys a, ⟨tda la, la⟩, ?_⟩
  refine ⟨bys c, ⟨tda lc, lc⟩, ?_⟩
  refine And.intro (plainA_bys _).nn ?_
  refine And.intro (plainA_bys _).nn ?_
  refine ⟨⟨a, c⟩, rfl, ⟨ha, hc⟩, ?_⟩
  rw [e3]
  refine ⟨bys a, ⟨tda la, la⟩, ?_⟩
  refine And.intro (plainA_bys _).nn ?_
  refine ⟨a, rfl, ha, ?_⟩
  refine ⟨bys b, ⟨tda lb, lb⟩, ?_⟩
  refine And.intro (plainA_bys _).nn ?_
  refine ⟨b, rfl, hb, ?_⟩
  refine jn_at (fun _ : Unit => mks [(7, .int .i64 x), (8, .int .i64 y), (9, .int .i64 z)] [] 0) (fun _ => True) ?_ ?_
  · refine ⟨bys b, ⟨tda lb, lb⟩, ?_⟩
    refine ⟨bys a, ⟨tda la, la⟩, ?_⟩
    refine And.intro (plainA_bys _).nn ?_
    refine And.intro (plainA_bys _).nn ?_
    refine ⟨⟨b, a⟩, rfl, ⟨hb, ha⟩, ?_⟩
    rw [e4]
    refine And.intro (by omega) ?_
    rcases cx with rfl | rfl | rfl
    · refine ⟨bys a, ⟨tda la, la⟩, ?_⟩
      refine ⟨bys b, ⟨tda lb, lb⟩, ?_⟩
      refine ⟨false, eqR ha hb (by rw [← h0]; decide), ?_⟩
      refine cond_f (b := !decide (decide ((-1 : Int) < 0) = Op.bytesLess (hex a) (hex b))) (by rw [hl]; rfl) ?_
      refine ⟨(), trivial, ?_⟩
      refine sub_ren [] rfl (by decide) ⟨⟨_, rfl, rfl⟩, ⟨_, rfl, rfl⟩, ⟨_, rfl, rfl⟩, trivial⟩ trivial
    · refine ⟨bys a, ⟨tda la, la⟩, ?_⟩
      refine ⟨bys b, ⟨tda lb, lb⟩, ?_⟩
      refine ⟨true, eqR ha hb (by rw [← h0]; decide), ?_⟩
      refine cond_f (b := !decide (decide ((0 : Int) < 0) = Op.bytesLess (hex a) (hex b))) (by rw [hl]; rfl) ?_
      refine ⟨(), trivial, ?_⟩
      refine sub_ren [] rfl (by decide) ⟨⟨_, rfl, rfl⟩, ⟨_, rfl, rfl⟩, ⟨_, rfl, rfl⟩, trivial⟩ trivial
    · refine ⟨bys a, ⟨tda la, la⟩, ?_⟩
      refine ⟨bys b, ⟨tda lb, lb⟩, ?_⟩
      refine ⟨false, eqR ha hb (by rw [← h0]; decide), ?_⟩
      refine cond_f (b := !decide (decide ((1 : Int) < 0) = Op.bytesLess (hex a) (hex b))) (by rw [hl]; rfl) ?_
      refine ⟨(), trivial, ?_⟩
      refine sub_ren [] rfl (by decide) ⟨⟨_, rfl, rfl⟩, ⟨_, rfl, rfl⟩, ⟨_, rfl, rfl⟩, trivial⟩ trivial
  · intro _ _
    rcases cx with rfl | rfl | rfl <;> rcases cy with rfl | rfl | rfl <;> rcases cz with rfl | rfl | rfl <;> first | (exfalso; omega) | (refine ⟨(), rfl, trivial, ?_⟩; refine ⟨_, SubSt.refl _, ?_⟩; rfl)

end Qk

/-
  Chapter 02: what the tie to the program needs.
-/
namespace Qk
open Go Go.RowKit

theorem keeps_repeat {G : Gl} {f : FuncId} {fn : Func} (hf : G.P.funcs[f]? = some fn) (hb : fn.body.isNone = false) (hname : (fn.name == "runtime.NumGoroutine") = false)
    (h : ∀ (s : ByteArray) (c : Nat) (w : World), c ≤ 9223372036854775807 → s.size * c ≤ 140737488355328 → Calls G.P f #[.string s, .int .i64 c] w fun e w' => e = .returned (.string ⟨(Lib.repeatL s.data.toList c).toArray⟩) ∧ Below w.heap.size w w') :
    KeepsC G C_strings_Repeat (fun _ => none) f #[] := by
  refine keeps_calls hf hb hname ?_
  rintro w Φ vs ⟨l, n⟩ hphi hs hr ⟨h0, h1, h2⟩
  dsimp only at h0 h1 h2
  obtain ⟨x, y, rfl, r1, r2⟩ := two_args hs hr
  simp only [Rep] at r1 r2
  subst r1
  subst r2
  have e : ((n.toNat : Nat) : Int) = n := by omega
  have hsz : (ByteArray.mk l.toArray).size = l.length := by simp [ByteArray.size]
  refine ⟨_, ?_, by
    have := h ⟨l.toArray⟩ n.toNat w (by omega) (by
      rw [hsz]
      exact Nat.le_trans (Nat.mul_le_mul h2 (show n.toNat ≤ 1000000000 by omega)) (by decide))
    rw [e] at this
    exact this⟩
  simp only [Rep, C_strings_Repeat, repeatB, repeatL_eq]
theorem nn_parse : ∀ x, C_sha256_Parse.ok x → NN (C_sha256_Parse.res x) := fun x _ => (plain_tup (by
  intro c hc
  simp only [List.mem_cons, List.not_mem_nil, or_false] at hc
  rcases hc with rfl | rfl
  · exact plainA_bys _
  · exact plain_int _ _)).nn
end Qk
