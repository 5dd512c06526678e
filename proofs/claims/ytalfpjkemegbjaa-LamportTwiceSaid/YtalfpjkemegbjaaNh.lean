/-
  Chapter 53: values of the example, the statements.
-/
import Derived.Test.YtalfpjkemegbjaaNe
import Derived.Test.YtalfpjkemegbjaaNf
import Derived.Test.YtalfpjkemegbjaaNg
import Derived.Test.YtalfpjkemegbjaaNc

/-
  Digests reckoned quickly from bytes: blocks are read from the left, four bytes at a time.
-/
namespace Qk
open Go Go.RowKit

/-- The next word of a row of bytes. -/
def rd4 {α : Type} (l : List UInt8) (K : Nat → List UInt8 → α) : α :=
  match l with
  | b0 :: b1 :: b2 :: b3 :: r => force (Nat.add (Nat.mul (Nat.add (Nat.mul (Nat.add (Nat.mul b0.toNat 256) b1.toNat) 256) b2.toNat) 256) b3.toNat) fun w => K w r
  | _ => K 0 []

theorem rd4_drop {α : Type} {K : Nat → List UInt8 → α} {b r : List UInt8} {t : Nat} (h : 4 * t + 4 ≤ b.length) : rd4 (b.drop (4 * t) ++ r) K = K (wN b t) (b.drop (4 * (t + 1)) ++ r) := by
  have g : ∀ i (hi : i < b.length), b.getD i 0 = b[i] := fun i hi => by simp [List.getD, hi]
  rw [List.drop_eq_getElem_cons (show 4 * t < b.length by omega), List.drop_eq_getElem_cons (show 4 * t + 1 < b.length by omega), List.drop_eq_getElem_cons (show 4 * t + 1 + 1 < b.length by omega),
    List.drop_eq_getElem_cons (show 4 * t + 1 + 1 + 1 < b.length by omega)]
  simp only [List.cons_append, rd4, force_eq]
  have e : wN b t = Nat.add (Nat.mul (Nat.add (Nat.mul (Nat.add (Nat.mul (b.getD (4 * t) 0).toNat 256) (b.getD (4 * t + 1) 0).toNat) 256) (b.getD (4 * t + 2) 0).toNat) 256) (b.getD (4 * t + 3) 0).toNat := rfl
  rw [e, g _ (by omega), g _ (by omega), g _ (by omega), g _ (by omega)]
  rfl

abbrev K8 (α : Type) := Nat → Nat → Nat → Nat → Nat → Nat → Nat → Nat → α

/-- One block, read from the left; what follows it. -/
def blockQ {α : Type} (l : List UInt8) (a b c d e f g h : Nat) (K : K8 (List UInt8 → α)) : α :=
  rd4 l fun w0 l =>
  rd4 l fun w1 l =>
  rd4 l fun w2 l =>
  rd4 l fun w3 l =>
  rd4 l fun w4 l =>
  rd4 l fun w5 l =>
  rd4 l fun w6 l =>
  rd4 l fun w7 l =>
  rd4 l fun w8 l =>
  rd4 l fun w9 l =>
  rd4 l fun w10 l =>
  rd4 l fun w11 l =>
  rd4 l fun w12 l =>
  rd4 l fun w13 l =>
  rd4 l fun w14 l =>
  rd4 l fun w15 l =>
    cF a b c d e f g h w0 w1 w2 w3 w4 w5 w6 w7 w8 w9 w10 w11 w12 w13 w14 w15 (fun a b c d e f g h => K a b c d e f g h l)

theorem blockQ_ok {x r : List UInt8} (hx : x.length = 64) {a b c d e f g h : Nat} (hv : W8 a b c d e f g h) :
    ∃ a' b' c' d' e' f' g' h', W8 a' b' c' d' e' f' g' h' ∧ comp (ofN [a, b, c, d, e, f, g, h]) x = ofN [a', b', c', d', e', f', g', h'] ∧
      ∀ {α : Type} (K : K8 (List UInt8 → α)), blockQ (x ++ r) a b c d e f g h K = K a' b' c' d' e' f' g' h' r := by
  obtain ⟨a', b', c', d', e', f', g', h', q1, q2, q3⟩ := cF_ok list8 (win_of hx) hv
  refine ⟨a', b', c', d', e', f', g', h', q1, q2, fun {α} K => ?_⟩
  unfold blockQ
  have e0 : x ++ r = x.drop (4 * 0) ++ r := rfl
  have el : x.drop (4 * (15 + 1)) ++ r = r := by rw [List.drop_of_length_le (by omega), List.nil_append]
  rw [e0, rd4_drop (t := 0) (by omega), rd4_drop (t := 1) (by omega), rd4_drop (t := 2) (by omega), rd4_drop (t := 3) (by omega), rd4_drop (t := 4) (by omega), rd4_drop (t := 5) (by omega), rd4_drop (t := 6) (by omega), rd4_drop (t := 7) (by omega), rd4_drop (t := 8) (by omega), rd4_drop (t := 9) (by omega), rd4_drop (t := 10) (by omega), rd4_drop (t := 11) (by omega), rd4_drop (t := 12) (by omega), rd4_drop (t := 13) (by omega), rd4_drop (t := 14) (by omega), rd4_drop (t := 15) (by omega), el]
  obtain ⟨a2, b2, c2, d2, e2, f2, g2, h2, p1, p2, p3⟩ := cF_ok (fun a b c d e f g h => K a b c d e f g h r) (win_of hx) hv
  rw [p3]
  have := q2.symm.trans p2
  simp only [ofN, List.map_cons, List.map_nil, List.cons.injEq, Int.natCast_inj, and_true] at this
  obtain ⟨rfl, rfl, rfl, rfl, rfl, rfl, rfl, rfl⟩ := this
  rfl

/-- The bytes of a word. -/
def byQ (w : Nat) (r : List UInt8) : List UInt8 := UInt8.ofNat (Nat.shiftRight w 24) :: UInt8.ofNat (Nat.shiftRight w 16) :: UInt8.ofNat (Nat.shiftRight w 8) :: UInt8.ofNat w :: r
/-- The bytes of eight words. -/
def digQ (a b c d e f g h : Nat) (r : List UInt8) : List UInt8 := byQ a (byQ b (byQ c (byQ d (byQ e (byQ f (byQ g (byQ h r)))))))

theorem by8_nat (n : Nat) : by8 (n : Int) = UInt8.ofNat n := by
  unfold by8
  apply UInt8.toNat_inj.1
  simp only [UInt8.toNat_ofNat']
  omega
theorem dig_word (ws : List Nat) (n : Nat) (i : Nat) (h0 : 4 * i + 4 = n + 4) : dig (ofN ws) (4 * i + 4) = dig (ofN ws) (4 * i) ++ byQ (ws.getD i 0) [] := by
  have g : (ofN ws).getD i 0 = ((ws.getD i 0 : Nat) : Int) := by
    simp only [ofN, List.getD, List.getElem?_map]
    cases ws[i]? <;> rfl
  have s : ∀ k : Nat, k ≤ 32 → shrI .u32 ((ws.getD i 0 : Nat) : Int) (k : Int) = ((Nat.shiftRight (ws.getD i 0) k : Nat) : Int) := fun k hk => shrI_nat _ _ hk
  show (((dig (ofN ws) (4 * i) ++ [by8 (shrI .u32 ((ofN ws).getD (4 * i / 4) 0) (24 - 8 * ((4 * i % 4 : Nat) : Int)))]) ++ [by8 (shrI .u32 ((ofN ws).getD ((4 * i + 1) / 4) 0) (24 - 8 * (((4 * i + 1) % 4 : Nat) : Int)))]) ++
    [by8 (shrI .u32 ((ofN ws).getD ((4 * i + 2) / 4) 0) (24 - 8 * (((4 * i + 2) % 4 : Nat) : Int)))]) ++ [by8 (shrI .u32 ((ofN ws).getD ((4 * i + 3) / 4) 0) (24 - 8 * (((4 * i + 3) % 4 : Nat) : Int)))] = _
  have d0 : 4 * i / 4 = i := by omega
  have d1 : (4 * i + 1) / 4 = i := by omega
  have d2 : (4 * i + 2) / 4 = i := by omega
  have d3 : (4 * i + 3) / 4 = i := by omega
  have m0 : (24 : Int) - 8 * ((4 * i % 4 : Nat) : Int) = ((24 : Nat) : Int) := by omega
  have m1 : (24 : Int) - 8 * (((4 * i + 1) % 4 : Nat) : Int) = ((16 : Nat) : Int) := by omega
  have m2 : (24 : Int) - 8 * (((4 * i + 2) % 4 : Nat) : Int) = ((8 : Nat) : Int) := by omega
  have m3 : (24 : Int) - 8 * (((4 * i + 3) % 4 : Nat) : Int) = ((0 : Nat) : Int) := by omega
  rw [d0, d1, d2, d3, m0, m1, m2, m3, g, s 24 (by decide), s 16 (by decide), s 8 (by decide), s 0 (by decide), by8_nat, by8_nat, by8_nat, by8_nat]
  simp only [List.append_assoc, List.cons_append, List.nil_append, byQ]
  rfl
theorem byQ_app (w : Nat) (r : List UInt8) : byQ w r = byQ w [] ++ r := rfl
theorem dig_q (a b c d e f g h : Nat) (r : List UInt8) : dig (ofN [a, b, c, d, e, f, g, h]) 32 ++ r = digQ a b c d e f g h r := by
  have w := fun i => dig_word [a, b, c, d, e, f, g, h] (4 * i) i rfl
  have w0 := w 0
  have w1 := w 1
  have w2 := w 2
  have w3 := w 3
  have w4 := w 4
  have w5 := w 5
  have w6 := w 6
  have w7 := w 7
  have e : dig (ofN [a, b, c, d, e, f, g, h]) 32 = digQ a b c d e f g h [] := by
    rw [show (32 : Nat) = 4 * 7 + 4 from rfl, w7, show (4 * 7 : Nat) = 4 * 6 + 4 from rfl, w6, show (4 * 6 : Nat) = 4 * 5 + 4 from rfl, w5, show (4 * 5 : Nat) = 4 * 4 + 4 from rfl, w4, show (4 * 4 : Nat) = 4 * 3 + 4 from rfl, w3,
      show (4 * 3 : Nat) = 4 * 2 + 4 from rfl, w2, show (4 * 2 : Nat) = 4 * 1 + 4 from rfl, w1, show (4 * 1 : Nat) = 4 * 0 + 4 from rfl, w0]
    rfl
  rw [e]
  rfl

/-- What is laid behind the last bytes of a message of n bytes in all, s of them in the last block. -/
def tailQ (s n : Nat) : List UInt8 := [128] ++ List.replicate (55 - s) 0 ++ be8 (((n * 8 : Nat)) : Int) 8
theorem tailQ_len {s n : Nat} (h : s ≤ 55) : (tailQ s n).length = 64 - s := by
  simp [tailQ, be8_len]; omega
theorem pad_tail {l : List UInt8} (h : l.length % 64 ≤ 55) (hn : l.length < 1000000000) : pad l = l ++ tailQ (l.length % 64) l.length := by
  unfold pad tailQ
  have e1 : padN l.length = 55 - l.length % 64 := by unfold padN; omega
  have e2 : bitLen l = ((l.length * 8 : Nat) : Int) := by unfold bitLen; omega
  rw [e1, e2]
  simp only [List.append_assoc]

theorem chunks_app (m x : List UInt8) : ∀ k, 64 * k ≤ m.length → chunks (m ++ x) k = chunks m k
  | 0, _ => rfl
  | k + 1, h => by
    rw [chunks, chunks, chunks_app m x k (by omega), List.drop_append_of_le_length (by omega), List.take_append_of_le_length (by rw [List.length_drop]; omega)]

/-- A message, all but the last block of which has been looked at. -/
theorem sha_last {m : List UInt8} {k : Nat} (h1 : 64 * k ≤ m.length) (h2 : m.length ≤ 64 * k + 55) (h3 : m.length < 1000000000) :
    sha m = dig (comp ((chunks m k).foldl comp iv) (m.drop (64 * k) ++ tailQ (m.length - 64 * k) m.length)) 32 := by
  have hm : m.length % 64 = m.length - 64 * k := by omega
  have hp := pad_tail (l := m) (by omega) h3
  have hl := tailQ_len (s := m.length - 64 * k) (n := m.length) (by omega)
  have hk : (pad m).length / 64 = k + 1 := by rw [hp, List.length_append, hm, hl]; omega
  unfold sha
  rw [hk, foldB_chunks, chunks, List.foldl_append, hp, hm, chunks_app _ _ _ h1, List.drop_append_of_le_length h1, List.take_of_length_le (by rw [List.length_append, hl, List.length_drop]; omega)]
  rfl

end Qk

/-
  Leaves of the example's seed, reckoned quickly.
-/
namespace Qk
open Go Go.RowKit

def tl1 : List UInt8 := [128, 0, 0, 0, 0, 0, 0, 0, 0, 0, 0, 0, 0, 0, 0, 0, 0, 0, 0, 0, 0, 0, 0, 0, 0, 0, 0, 0, 0, 0, 0, 0, 0, 0, 0, 0, 0, 0, 0, 0, 0, 0, 0, 0, 0, 0, 0, 0, 0, 0, 0, 0, 0, 0, 0, 0, 0, 0, 0, 2, 24]
def tl2 : List UInt8 := [128, 0, 0, 0, 0, 0, 0, 0, 0, 0, 0, 0, 0, 0, 0, 0, 0, 0, 0, 0, 0, 0, 0, 0, 0, 0, 0, 0, 0, 0, 3, 0]
def tl3 : List UInt8 := [128, 0, 0, 0, 0, 0, 0, 0, 0, 0, 0, 0, 0, 0, 0, 0, 0, 0, 0, 0, 0, 0, 0, 0, 0, 0, 0, 0, 0, 0, 1, 0]
theorem tl1_eq : tl1 = tailQ 3 67 := by decide +kernel
theorem tl2_eq : tl2 = tailQ 32 96 := by decide +kernel
theorem tl3_eq : tl3 = tailQ 32 32 := by decide +kernel

def ipd : List UInt8 := [87, 54, 54, 54, 54, 54, 54, 54, 54, 54, 54, 54, 54, 54, 54, 54, 54, 54, 54, 54, 54, 54, 54, 54, 54, 54, 54, 54, 54, 54, 54, 54, 54, 54, 54, 54, 54, 54, 54, 54, 54, 54, 54, 54, 54, 54, 54, 54, 54, 54, 54, 54, 54, 54, 54, 54, 54, 54, 54, 54, 54, 54, 54, 54]
def opd' : List UInt8 := [61, 92, 92, 92, 92, 92, 92, 92, 92, 92, 92, 92, 92, 92, 92, 92, 92, 92, 92, 92, 92, 92, 92, 92, 92, 92, 92, 92, 92, 92, 92, 92, 92, 92, 92, 92, 92, 92, 92, 92, 92, 92, 92, 92, 92, 92, 92, 92, 92, 92, 92, 92, 92, 92, 92, 92, 92, 92, 92, 92, 92, 92, 92, 92]
theorem ipd_eq : xorm (keyB [97]) 0x36 = ipd := by unfold keyB; rw [if_neg (by decide)]; decide +kernel
theorem opd_eq : xorm (keyB [97]) 0x5c = opd' := by unfold keyB; rw [if_neg (by decide)]; decide +kernel

theorem ofN8 {a b c d e f g h a' b' c' d' e' f' g' h' : Nat} (hh : list8 a b c d e f g h = list8 a' b' c' d' e' f' g' h') : ofN [a, b, c, d, e, f, g, h] = ofN [a', b', c', d', e', f', g', h'] := congrArg ofN hh

theorem mid_i : comp iv ipd = ofN [2594281977, 2192444346, 648601651, 3431390584, 3120137331, 1422182965, 902722601, 4105353493] := by
  obtain ⟨a, b, c, d, e, f, g, h, q1, q2, q3⟩ := blockQ_ok (x := ipd) (r := []) rfl iv_lt
  rw [iv_eq, q2]
  have := q3 (fun a b c d e f g h _ => list8 a b c d e f g h)
  refine ofN8 (this.symm.trans ?_)
  decide +kernel
theorem mid_o : comp iv opd' = ofN [1245080472, 194761463, 3830933711, 3772498254, 1983259087, 1539261965, 406940772, 2913221504] := by
  obtain ⟨a, b, c, d, e, f, g, h, q1, q2, q3⟩ := blockQ_ok (x := opd') (r := []) rfl iv_lt
  rw [iv_eq, q2]
  have := q3 (fun a b c d e f g h _ => list8 a b c d e f g h)
  refine ofN8 (this.symm.trans ?_)
  decide +kernel

/-- The public string of a secret. -/
def pubQ {α : Type} (k p v : Nat) (K : List UInt8 → α) : α :=
  blockQ (UInt8.ofNat k :: UInt8.ofNat p :: UInt8.ofNat v :: tl1) 2594281977 2192444346 648601651 3431390584 3120137331 1422182965 902722601 4105353493 fun a b c d e f g h _ =>
  blockQ (digQ a b c d e f g h tl2) 1245080472 194761463 3830933711 3772498254 1983259087 1539261965 406940772 2913221504 fun a b c d e f g h _ =>
  blockQ (digQ a b c d e f g h tl3) 1779033703 3144134277 1013904242 2773480762 1359893119 2600822924 528734635 1541459225 fun a b c d e f g h _ => K (digQ a b c d e f g h [])

theorem sha_two {A s : List UInt8} (hA : A.length = 64) (hs : s.length ≤ 55) : sha (A ++ s) = dig (comp (comp iv A) (s ++ tailQ s.length (64 + s.length))) 32 := by
  rw [sha_last (k := 1) (by rw [List.length_append]; omega) (by rw [List.length_append]; omega) (by rw [List.length_append]; omega)]
  have e1 : (A ++ s).drop (64 * 1) = s := by rw [List.drop_append_of_le_length (by omega), List.drop_of_length_le (by omega), List.nil_append]
  have e2 : chunks (A ++ s) 1 = [A] := by
    show [((A ++ s).drop 0).take 64] = [A]
    rw [List.drop_zero, List.take_append_of_le_length (by omega), List.take_of_length_le (by omega)]
  have e3 : (A ++ s).length - 64 * 1 = s.length := by rw [List.length_append]; omega
  have e4 : (A ++ s).length = 64 + s.length := by rw [List.length_append]; omega
  rw [e1, e2, e3, e4]
  rfl
theorem sha_one {s : List UInt8} (hs : s.length ≤ 55) : sha s = dig (comp iv (s ++ tailQ s.length s.length)) 32 := by
  rw [sha_last (k := 0) (by omega) (by omega) (by omega)]
  rfl

theorem pubQ_ok {α : Type} (K : List UInt8 → α) (k p v : Nat) : pubQ k p v K = K (sha (secB [97] k p v)) := by
  unfold secB hmac pubQ
  rw [ipd_eq, opd_eq, sha_two (A := ipd) rfl (by show 3 ≤ 55; decide), mid_i]
  have s3 : [by8 (k : Int), by8 (p : Int), by8 (v : Int)] ++ tailQ [by8 (k : Int), by8 (p : Int), by8 (v : Int)].length (64 + [by8 (k : Int), by8 (p : Int), by8 (v : Int)].length) = UInt8.ofNat k :: UInt8.ofNat p :: UInt8.ofNat v :: tl1 := by
    rw [tl1_eq, by8_nat, by8_nat, by8_nat]; rfl
  rw [s3]
  obtain ⟨a, b, c, d, e, f, g, h, q1, q2, q3⟩ := blockQ_ok (x := UInt8.ofNat k :: UInt8.ofNat p :: UInt8.ofNat v :: tl1) (r := []) rfl (by constructor <;> decide : W8 2594281977 2192444346 648601651 3431390584 3120137331 1422182965 902722601 4105353493)
  have q3' := @q3
  simp only [List.append_nil] at q3'
  rw [q3', q2]
  have l1 : (dig (ofN [a, b, c, d, e, f, g, h]) 32).length = 32 := dig_len _ _
  rw [sha_two (A := opd') rfl (by rw [l1]; decide), mid_o, l1, ← tl2_eq, dig_q]
  obtain ⟨a2, b2, c2, d2, e2, f2, g2, h2, p1, p2, p3⟩ := blockQ_ok (x := digQ a b c d e f g h tl2) (r := []) rfl (by constructor <;> decide : W8 1245080472 194761463 3830933711 3772498254 1983259087 1539261965 406940772 2913221504)
  have p3' := @p3
  simp only [List.append_nil] at p3'
  rw [p3', p2]
  have l2 : (dig (ofN [a2, b2, c2, d2, e2, f2, g2, h2]) 32).length = 32 := dig_len _ _
  rw [sha_one (by rw [l2]; decide), l2, ← tl3_eq, dig_q, iv_eq]
  obtain ⟨a4, b4, c4, d4, e4, f4, g4, h4, r1, r2, r3⟩ := blockQ_ok (x := digQ a2 b2 c2 d2 e2 f2 g2 h2 tl3) (r := []) rfl iv_lt
  have r3' := @r3
  simp only [List.append_nil] at r3'
  rw [r3', r2, ← dig_q, List.append_nil]

/-- A leaf, from the p-th pair of public strings on; in pairs that are marked the two change places. -/
def leafQ {α : Type} (k : Nat) : List Bool → Nat → List UInt8 → Nat → Nat → Nat → Nat → Nat → Nat → Nat → Nat → K8 (List UInt8 → α) → α
  | [], _, rest, a, b, c, d, e, f, g, h, K => K a b c d e f g h rest
  | s :: sw, p, rest, a, b, c, d, e, f, g, h, K => pubQ k p (bif s then 1 else 0) fun U => pubQ k p (bif s then 0 else 1) fun V =>
    blockQ (rest ++ (U ++ V)) a b c d e f g h fun a b c d e f g h rest => force (Nat.add p 1) fun p => leafQ k sw p rest a b c d e f g h K

def swF (k : Nat) (sf : Nat → Bool) (n : Nat) : List UInt8 := sha (secB [97] k (n / 2 : Nat) ((bif sf (n / 2) then 1 - n % 2 else n % 2 : Nat) : Int))
def swM (k : Nat) (sf : Nat → Bool) (p : Nat) : List UInt8 := 0 :: catF (swF k sf) (2 * p)
theorem swM_len (k : Nat) (sf : Nat → Bool) (p : Nat) : (swM k sf p).length = 64 * p + 1 := by
  have h : ∀ n, (swF k sf n).length = 32 := fun n => sha_len _
  rw [swM, List.length_cons, catF_len h]; omega

theorem leafQ_ok (k : Nat) (sf : Nat → Bool) : ∀ (sw : List Bool) (p : Nat) {a b c d e f g h : Nat}, (∀ j, j < sw.length → sf (p + j) = sw.getD j false) → W8 a b c d e f g h →
    (chunks (swM k sf p) p).foldl comp iv = ofN [a, b, c, d, e, f, g, h] →
    ∃ a' b' c' d' e' f' g' h', W8 a' b' c' d' e' f' g' h' ∧ (chunks (swM k sf (p + sw.length)) (p + sw.length)).foldl comp iv = ofN [a', b', c', d', e', f', g', h'] ∧
      ∀ {α : Type} (K : K8 (List UInt8 → α)), leafQ k sw p ((swM k sf p).drop (64 * p)) a b c d e f g h K = K a' b' c' d' e' f' g' h' ((swM k sf (p + sw.length)).drop (64 * (p + sw.length)))
  | [], p, a, b, c, d, e, f, g, h, _, hv, hs => ⟨a, b, c, d, e, f, g, h, hv, hs, fun K => rfl⟩
  | s :: sw, p, a, b, c, d, e, f, g, h, hf, hv, hs => by
    have h0 : sf p = s := by have := hf 0 (by simp); simpa using this
    have lM := swM_len k sf p
    have lM1 := swM_len k sf (p + 1)
    have u0 : swF k sf (2 * p) = sha (secB [97] k p ((bif s then 1 else 0 : Nat) : Int)) := by
      unfold swF
      have x1 : 2 * p / 2 = p := by omega
      have x2 : 2 * p % 2 = 0 := by omega
      rw [x1, x2, h0]
    have u1 : swF k sf (2 * p + 1) = sha (secB [97] k p ((bif s then 0 else 1 : Nat) : Int)) := by
      unfold swF
      have x1 : (2 * p + 1) / 2 = p := by omega
      have x2 : (2 * p + 1) % 2 = 1 := by omega
      rw [x1, x2, h0]
    have eM : swM k sf (p + 1) = swM k sf p ++ (swF k sf (2 * p) ++ swF k sf (2 * p + 1)) := by
      show 0 :: ((catF (swF k sf) (2 * p) ++ swF k sf (2 * p)) ++ swF k sf (2 * p + 1)) = _
      simp [swM]
    have ed : (swM k sf (p + 1)).drop (64 * p) = (swM k sf p).drop (64 * p) ++ (swF k sf (2 * p) ++ swF k sf (2 * p + 1)) := by
      rw [eM, List.drop_append_of_le_length (by omega)]
    have ex : ((swM k sf (p + 1)).drop (64 * p)).take 64 ++ (swM k sf (p + 1)).drop (64 * (p + 1)) = (swM k sf (p + 1)).drop (64 * p) := by
      have := List.take_append_drop 64 ((swM k sf (p + 1)).drop (64 * p))
      rw [List.drop_drop] at this
      exact this
    obtain ⟨a2, b2, c2, d2, e2, f2, g2, h2, p1, p2, p3⟩ := blockQ_ok (x := ((swM k sf (p + 1)).drop (64 * p)).take 64) (r := (swM k sf (p + 1)).drop (64 * (p + 1))) (by rw [List.length_take, List.length_drop]; omega) hv
    have hs2 : (chunks (swM k sf (p + 1)) (p + 1)).foldl comp iv = ofN [a2, b2, c2, d2, e2, f2, g2, h2] := by
      rw [chunks, List.foldl_append]
      have : chunks (swM k sf (p + 1)) p = chunks (swM k sf p) p := by rw [eM]; exact chunks_app _ _ _ (by omega)
      rw [this, hs]
      exact p2
    obtain ⟨a', b', c', d', e', f', g', h', r1, r2, r3⟩ := leafQ_ok k sf sw (p + 1) (fun j hj => by
      have := hf (j + 1) (by simpa using hj)
      rw [show p + 1 + j = p + (j + 1) by omega, this]
      simp) p1 hs2
    have el : p + 1 + sw.length = p + (s :: sw).length := by simp; omega
    rw [el] at r2 r3
    refine ⟨a', b', c', d', e', f', g', h', r1, r2, fun {α} K => ?_⟩
    rw [leafQ, pubQ_ok, pubQ_ok, ← u0, ← u1, ← ed, ← ex, p3, force_eq]
    exact r3 K

/-- The state in front of the p-th pair. -/
def SQ (k : Nat) (sf : Nat → Bool) (p : Nat) (r : UInt8) (a b c d e f g h : Nat) : Prop :=
  W8 a b c d e f g h ∧ (chunks (swM k sf p) p).foldl comp iv = ofN [a, b, c, d, e, f, g, h] ∧ (swM k sf p).drop (64 * p) = [r]
theorem SQ.zero (k : Nat) (sf : Nat → Bool) : SQ k sf 0 0 1779033703 3144134277 1013904242 2773480762 1359893119 2600822924 528734635 1541459225 := ⟨iv_lt, iv_eq, rfl⟩
def pairQ (a b c d e f g h : Nat) (r : List UInt8) : List Nat × List UInt8 := ([a, b, c, d, e, f, g, h], r)
theorem SQ.step {k : Nat} {sf : Nat → Bool} {p : Nat} {r r' : UInt8} {a b c d e f g h a' b' c' d' e' f' g' h' : Nat} (sw : List Bool) {p' : Nat} (hp : p + sw.length = p') (hs : SQ k sf p r a b c d e f g h)
    (hf : (List.range sw.length).all (fun j => sf (p + j) == sw.getD j false) = true) (h : leafQ k sw p [r] a b c d e f g h pairQ = ([a', b', c', d', e', f', g', h'], [r'])) : SQ k sf p' r' a' b' c' d' e' f' g' h' := by
  subst hp
  obtain ⟨h1, h2, h3⟩ := hs
  obtain ⟨a2, b2, c2, d2, e2, f2, g2, h2', q1, q2, q3⟩ := leafQ_ok k sf sw p (fun j hj => by
    rw [List.all_eq_true] at hf
    have := hf j (List.mem_range.2 hj)
    simpa using this) h1 h2
  have := q3 pairQ
  rw [h3, h] at this
  unfold pairQ at this
  simp only [Prod.mk.injEq, List.cons.injEq, and_true] at this
  obtain ⟨⟨rfl, rfl, rfl, rfl, rfl, rfl, rfl, rfl⟩, h5⟩ := this
  exact ⟨q1, q2, h5.symm⟩
theorem SQ.last {k : Nat} {sf : Nat → Bool} {r : UInt8} {a b c d e f g h : Nat} {D : List UInt8} (hs : SQ k sf 128 r a b c d e f g h)
    (hD : blockQ (r :: tailQ 1 8193) a b c d e f g h (fun a b c d e f g h _ => digQ a b c d e f g h []) = D) : sha (0 :: catF (swF k sf) 256) = D := by
  obtain ⟨h1, h2, h3⟩ := hs
  have lM := swM_len k sf 128
  have eL := sha_last (m := swM k sf 128) (k := 128) (by omega) (by omega) (by omega)
  have z1 : (swM k sf 128).length - 64 * 128 = 1 := by omega
  have z2 : (swM k sf 128).length = 8193 := by omega
  rw [h2, h3, z1, z2] at eL
  obtain ⟨a2, b2, c2, d2, e2, f2, g2, h2', q1, q2, q3⟩ := blockQ_ok (x := [r] ++ tailQ 1 8193) (r := []) (by rw [List.length_append, tailQ_len (by decide)]; rfl) h1
  have q3' := @q3
  simp only [List.append_nil] at q3'
  have hD' : blockQ ([r] ++ tailQ 1 8193) a b c d e f g h (fun a b c d e f g h _ => digQ a b c d e f g h []) = D := hD
  rw [q3'] at hD'
  have hM : sha (0 :: catF (swF k sf) 256) = sha (swM k sf 128) := rfl
  rw [hM, eL, q2, ← hD', ← dig_q, List.append_nil]

end Qk

/-
  Values of chapter 53's example (printed by a program).
-/
namespace Qk
open Go Go.RowKit

def noSw : Nat → Bool := fun _ => false
theorem lf0_0 : leafQ 0 [false, false, false, false, false, false, false, false, false, false, false, false, false, false, false, false] 0 [0] 1779033703 3144134277 1013904242 2773480762 1359893119 2600822924 528734635 1541459225 pairQ = ([1054280020, 1209889938, 623081857, 3025554717, 2846532178, 2042679983, 259599614, 1815493078], [69]) := by decide +kernel
theorem lf0_s1 : SQ 0 noSw 16 69 1054280020 1209889938 623081857 3025554717 2846532178 2042679983 259599614 1815493078 := SQ.step [false, false, false, false, false, false, false, false, false, false, false, false, false, false, false, false] rfl (SQ.zero 0 noSw) (by decide +kernel) lf0_0
theorem lf0_1 : leafQ 0 [false, false, false, false, false, false, false, false, false, false, false, false, false, false, false, false] 16 [69] 1054280020 1209889938 623081857 3025554717 2846532178 2042679983 259599614 1815493078 pairQ = ([1965962401, 448570328, 3927928540, 3868562107, 4289119261, 1729427796, 299848237, 765969213], [34]) := by decide +kernel
theorem lf0_s2 : SQ 0 noSw 32 34 1965962401 448570328 3927928540 3868562107 4289119261 1729427796 299848237 765969213 := SQ.step [false, false, false, false, false, false, false, false, false, false, false, false, false, false, false, false] rfl (lf0_s1) (by decide +kernel) lf0_1
theorem lf0_2 : leafQ 0 [false, false, false, false, false, false, false, false, false, false, false, false, false, false, false, false] 32 [34] 1965962401 448570328 3927928540 3868562107 4289119261 1729427796 299848237 765969213 pairQ = ([1079842867, 3263644840, 2483740057, 2374981334, 2348483906, 3337354887, 2434826539, 1040921633], [32]) := by decide +kernel
theorem lf0_s3 : SQ 0 noSw 48 32 1079842867 3263644840 2483740057 2374981334 2348483906 3337354887 2434826539 1040921633 := SQ.step [false, false, false, false, false, false, false, false, false, false, false, false, false, false, false, false] rfl (lf0_s2) (by decide +kernel) lf0_2
theorem lf0_3 : leafQ 0 [false, false, false, false, false, false, false, false, false, false, false, false, false, false, false, false] 48 [32] 1079842867 3263644840 2483740057 2374981334 2348483906 3337354887 2434826539 1040921633 pairQ = ([1998999876, 2537943017, 775050721, 4127358775, 1314731768, 3440872152, 1346248464, 1861295563], [73]) := by decide +kernel
theorem lf0_s4 : SQ 0 noSw 64 73 1998999876 2537943017 775050721 4127358775 1314731768 3440872152 1346248464 1861295563 := SQ.step [false, false, false, false, false, false, false, false, false, false, false, false, false, false, false, false] rfl (lf0_s3) (by decide +kernel) lf0_3
theorem lf0_4 : leafQ 0 [false, false, false, false, false, false, false, false, false, false, false, false, false, false, false, false] 64 [73] 1998999876 2537943017 775050721 4127358775 1314731768 3440872152 1346248464 1861295563 pairQ = ([364259578, 3193678659, 3377594006, 3556457155, 3217890452, 1251997700, 2146464466, 2037005513], [8]) := by decide +kernel
theorem lf0_s5 : SQ 0 noSw 80 8 364259578 3193678659 3377594006 3556457155 3217890452 1251997700 2146464466 2037005513 := SQ.step [false, false, false, false, false, false, false, false, false, false, false, false, false, false, false, false] rfl (lf0_s4) (by decide +kernel) lf0_4
theorem lf0_5 : leafQ 0 [false, false, false, false, false, false, false, false, false, false, false, false, false, false, false, false] 80 [8] 364259578 3193678659 3377594006 3556457155 3217890452 1251997700 2146464466 2037005513 pairQ = ([73725113, 310689619, 1244001598, 2381512013, 2540577169, 2512930172, 4165393888, 2387537309], [40]) := by decide +kernel
theorem lf0_s6 : SQ 0 noSw 96 40 73725113 310689619 1244001598 2381512013 2540577169 2512930172 4165393888 2387537309 := SQ.step [false, false, false, false, false, false, false, false, false, false, false, false, false, false, false, false] rfl (lf0_s5) (by decide +kernel) lf0_5
theorem lf0_6 : leafQ 0 [false, false, false, false, false, false, false, false, false, false, false, false, false, false, false, false] 96 [40] 73725113 310689619 1244001598 2381512013 2540577169 2512930172 4165393888 2387537309 pairQ = ([818359376, 2239375382, 2368899054, 993867747, 3814497397, 3163786465, 1171736979, 1235668699], [15]) := by decide +kernel
theorem lf0_s7 : SQ 0 noSw 112 15 818359376 2239375382 2368899054 993867747 3814497397 3163786465 1171736979 1235668699 := SQ.step [false, false, false, false, false, false, false, false, false, false, false, false, false, false, false, false] rfl (lf0_s6) (by decide +kernel) lf0_6
theorem lf0_7 : leafQ 0 [false, false, false, false, false, false, false, false, false, false, false, false, false, false, false, false] 112 [15] 818359376 2239375382 2368899054 993867747 3814497397 3163786465 1171736979 1235668699 pairQ = ([1480105095, 948139856, 1956446780, 4183655089, 409204843, 4103600096, 3612392881, 2290713791], [73]) := by decide +kernel
theorem lf0_s8 : SQ 0 noSw 128 73 1480105095 948139856 1956446780 4183655089 409204843 4103600096 3612392881 2290713791 := SQ.step [false, false, false, false, false, false, false, false, false, false, false, false, false, false, false, false] rfl (lf0_s7) (by decide +kernel) lf0_7
theorem lf0 : sha (0 :: catF (swF 0 noSw) 256) = [150, 15, 108, 86, 66, 14, 98, 72, 109, 124, 188, 71, 109, 203, 123, 70, 79, 45, 159, 15, 249, 104, 39, 85, 148, 173, 52, 217, 170, 107, 160, 54] := SQ.last lf0_s8 (by decide +kernel)

end Qk

/-
  Values of chapter 53's example (printed by a program).
-/
namespace Qk
open Go Go.RowKit

theorem lf1_0 : leafQ 1 [false, false, false, false, false, false, false, false, false, false, false, false, false, false, false, false] 0 [0] 1779033703 3144134277 1013904242 2773480762 1359893119 2600822924 528734635 1541459225 pairQ = ([277645701, 1500155384, 1736851801, 2620403621, 3538855024, 3021145330, 3810486650, 2883151729], [181]) := by decide +kernel
theorem lf1_s1 : SQ 1 noSw 16 181 277645701 1500155384 1736851801 2620403621 3538855024 3021145330 3810486650 2883151729 := SQ.step [false, false, false, false, false, false, false, false, false, false, false, false, false, false, false, false] rfl (SQ.zero 1 noSw) (by decide +kernel) lf1_0
theorem lf1_1 : leafQ 1 [false, false, false, false, false, false, false, false, false, false, false, false, false, false, false, false] 16 [181] 277645701 1500155384 1736851801 2620403621 3538855024 3021145330 3810486650 2883151729 pairQ = ([638976537, 3606376127, 1596306373, 2882206929, 2308503021, 3370269715, 4077686865, 1906526666], [96]) := by decide +kernel
theorem lf1_s2 : SQ 1 noSw 32 96 638976537 3606376127 1596306373 2882206929 2308503021 3370269715 4077686865 1906526666 := SQ.step [false, false, false, false, false, false, false, false, false, false, false, false, false, false, false, false] rfl (lf1_s1) (by decide +kernel) lf1_1
theorem lf1_2 : leafQ 1 [false, false, false, false, false, false, false, false, false, false, false, false, false, false, false, false] 32 [96] 638976537 3606376127 1596306373 2882206929 2308503021 3370269715 4077686865 1906526666 pairQ = ([3838261612, 408646181, 2784376082, 3797778867, 2350875714, 2467955701, 3378435887, 700145412], [51]) := by decide +kernel
theorem lf1_s3 : SQ 1 noSw 48 51 3838261612 408646181 2784376082 3797778867 2350875714 2467955701 3378435887 700145412 := SQ.step [false, false, false, false, false, false, false, false, false, false, false, false, false, false, false, false] rfl (lf1_s2) (by decide +kernel) lf1_2
theorem lf1_3 : leafQ 1 [false, false, false, false, false, false, false, false, false, false, false, false, false, false, false, false] 48 [51] 3838261612 408646181 2784376082 3797778867 2350875714 2467955701 3378435887 700145412 pairQ = ([4103077422, 3624447289, 3373146492, 3808105442, 252865532, 678128657, 1069499258, 345460225], [251]) := by decide +kernel
theorem lf1_s4 : SQ 1 noSw 64 251 4103077422 3624447289 3373146492 3808105442 252865532 678128657 1069499258 345460225 := SQ.step [false, false, false, false, false, false, false, false, false, false, false, false, false, false, false, false] rfl (lf1_s3) (by decide +kernel) lf1_3
theorem lf1_4 : leafQ 1 [false, false, false, false, false, false, false, false, false, false, false, false, false, false, false, false] 64 [251] 4103077422 3624447289 3373146492 3808105442 252865532 678128657 1069499258 345460225 pairQ = ([3539953087, 1403199350, 221845329, 4187732729, 3505786221, 3479209736, 3330319829, 2367683310], [87]) := by decide +kernel
theorem lf1_s5 : SQ 1 noSw 80 87 3539953087 1403199350 221845329 4187732729 3505786221 3479209736 3330319829 2367683310 := SQ.step [false, false, false, false, false, false, false, false, false, false, false, false, false, false, false, false] rfl (lf1_s4) (by decide +kernel) lf1_4
theorem lf1_5 : leafQ 1 [false, false, false, false, false, false, false, false, false, false, false, false, false, false, false, false] 80 [87] 3539953087 1403199350 221845329 4187732729 3505786221 3479209736 3330319829 2367683310 pairQ = ([3786746036, 2647741742, 3564851588, 1071898019, 838782597, 2046313044, 754017958, 4205029460], [143]) := by decide +kernel
theorem lf1_s6 : SQ 1 noSw 96 143 3786746036 2647741742 3564851588 1071898019 838782597 2046313044 754017958 4205029460 := SQ.step [false, false, false, false, false, false, false, false, false, false, false, false, false, false, false, false] rfl (lf1_s5) (by decide +kernel) lf1_5
theorem lf1_6 : leafQ 1 [false, false, false, false, false, false, false, false, false, false, false, false, false, false, false, false] 96 [143] 3786746036 2647741742 3564851588 1071898019 838782597 2046313044 754017958 4205029460 pairQ = ([3215109967, 2132348316, 2903410837, 2148667280, 3983216724, 1451000761, 1674130900, 3625807151], [21]) := by decide +kernel
theorem lf1_s7 : SQ 1 noSw 112 21 3215109967 2132348316 2903410837 2148667280 3983216724 1451000761 1674130900 3625807151 := SQ.step [false, false, false, false, false, false, false, false, false, false, false, false, false, false, false, false] rfl (lf1_s6) (by decide +kernel) lf1_6
theorem lf1_7 : leafQ 1 [false, false, false, false, false, false, false, false, false, false, false, false, false, false, false, false] 112 [21] 3215109967 2132348316 2903410837 2148667280 3983216724 1451000761 1674130900 3625807151 pairQ = ([3742184159, 1543644137, 1931763897, 4273717236, 721612393, 2957352534, 64916104, 3718353714], [214]) := by decide +kernel
theorem lf1_s8 : SQ 1 noSw 128 214 3742184159 1543644137 1931763897 4273717236 721612393 2957352534 64916104 3718353714 := SQ.step [false, false, false, false, false, false, false, false, false, false, false, false, false, false, false, false] rfl (lf1_s7) (by decide +kernel) lf1_7
theorem lf1 : sha (0 :: catF (swF 1 noSw) 256) = [249, 227, 25, 75, 26, 122, 143, 220, 104, 50, 87, 244, 186, 187, 123, 194, 143, 3, 14, 50, 144, 249, 79, 208, 111, 94, 106, 225, 24, 142, 187, 141] := SQ.last lf1_s8 (by decide +kernel)

end Qk

/-
  Values of chapter 53's example (printed by a program).
-/
namespace Qk
open Go Go.RowKit

theorem lf2_0 : leafQ 2 [false, false, false, false, false, false, false, false, false, false, false, false, false, false, false, false] 0 [0] 1779033703 3144134277 1013904242 2773480762 1359893119 2600822924 528734635 1541459225 pairQ = ([3277201006, 3593194394, 18435110, 1886639750, 1380053924, 1620391754, 2417721591, 3611395029], [10]) := by decide +kernel
theorem lf2_s1 : SQ 2 noSw 16 10 3277201006 3593194394 18435110 1886639750 1380053924 1620391754 2417721591 3611395029 := SQ.step [false, false, false, false, false, false, false, false, false, false, false, false, false, false, false, false] rfl (SQ.zero 2 noSw) (by decide +kernel) lf2_0
theorem lf2_1 : leafQ 2 [false, false, false, false, false, false, false, false, false, false, false, false, false, false, false, false] 16 [10] 3277201006 3593194394 18435110 1886639750 1380053924 1620391754 2417721591 3611395029 pairQ = ([222770162, 2505944648, 3717234917, 1375877269, 2223259692, 2537881387, 4096433103, 2083282609], [234]) := by decide +kernel
theorem lf2_s2 : SQ 2 noSw 32 234 222770162 2505944648 3717234917 1375877269 2223259692 2537881387 4096433103 2083282609 := SQ.step [false, false, false, false, false, false, false, false, false, false, false, false, false, false, false, false] rfl (lf2_s1) (by decide +kernel) lf2_1
theorem lf2_2 : leafQ 2 [false, false, false, false, false, false, false, false, false, false, false, false, false, false, false, false] 32 [234] 222770162 2505944648 3717234917 1375877269 2223259692 2537881387 4096433103 2083282609 pairQ = ([2324679618, 3117640246, 187072094, 1725334153, 4129078566, 1585274372, 61463146, 3861112402], [10]) := by decide +kernel
theorem lf2_s3 : SQ 2 noSw 48 10 2324679618 3117640246 187072094 1725334153 4129078566 1585274372 61463146 3861112402 := SQ.step [false, false, false, false, false, false, false, false, false, false, false, false, false, false, false, false] rfl (lf2_s2) (by decide +kernel) lf2_2
theorem lf2_3 : leafQ 2 [false, false, false, false, false, false, false, false, false, false, false, false, false, false, false, false] 48 [10] 2324679618 3117640246 187072094 1725334153 4129078566 1585274372 61463146 3861112402 pairQ = ([3634913929, 815705775, 1300774983, 464191805, 2503798300, 1295193134, 2217790514, 203844417], [195]) := by decide +kernel
theorem lf2_s4 : SQ 2 noSw 64 195 3634913929 815705775 1300774983 464191805 2503798300 1295193134 2217790514 203844417 := SQ.step [false, false, false, false, false, false, false, false, false, false, false, false, false, false, false, false] rfl (lf2_s3) (by decide +kernel) lf2_3
theorem lf2_4 : leafQ 2 [false, false, false, false, false, false, false, false, false, false, false, false, false, false, false, false] 64 [195] 3634913929 815705775 1300774983 464191805 2503798300 1295193134 2217790514 203844417 pairQ = ([1865808882, 267710408, 1072000807, 488386511, 3351381332, 378623989, 4000903350, 3959900257], [101]) := by decide +kernel
theorem lf2_s5 : SQ 2 noSw 80 101 1865808882 267710408 1072000807 488386511 3351381332 378623989 4000903350 3959900257 := SQ.step [false, false, false, false, false, false, false, false, false, false, false, false, false, false, false, false] rfl (lf2_s4) (by decide +kernel) lf2_4
theorem lf2_5 : leafQ 2 [false, false, false, false, false, false, false, false, false, false, false, false, false, false, false, false] 80 [101] 1865808882 267710408 1072000807 488386511 3351381332 378623989 4000903350 3959900257 pairQ = ([1374703708, 1402089032, 2654184580, 2812772128, 2030602111, 3125763559, 3562295911, 1825999775], [200]) := by decide +kernel
theorem lf2_s6 : SQ 2 noSw 96 200 1374703708 1402089032 2654184580 2812772128 2030602111 3125763559 3562295911 1825999775 := SQ.step [false, false, false, false, false, false, false, false, false, false, false, false, false, false, false, false] rfl (lf2_s5) (by decide +kernel) lf2_5
theorem lf2_6 : leafQ 2 [false, false, false, false, false, false, false, false, false, false, false, false, false, false, false, false] 96 [200] 1374703708 1402089032 2654184580 2812772128 2030602111 3125763559 3562295911 1825999775 pairQ = ([125518627, 3891288767, 2739975481, 2619158851, 2972751888, 3558420565, 1800499323, 2288509622], [15]) := by decide +kernel
theorem lf2_s7 : SQ 2 noSw 112 15 125518627 3891288767 2739975481 2619158851 2972751888 3558420565 1800499323 2288509622 := SQ.step [false, false, false, false, false, false, false, false, false, false, false, false, false, false, false, false] rfl (lf2_s6) (by decide +kernel) lf2_6
theorem lf2_7 : leafQ 2 [false, false, false, false, false, false, false, false, false, false, false, false, false, false, false, false] 112 [15] 125518627 3891288767 2739975481 2619158851 2972751888 3558420565 1800499323 2288509622 pairQ = ([2994564137, 2941728473, 1663821321, 2249973474, 1789531486, 1468077675, 1082857005, 2528068186], [89]) := by decide +kernel
theorem lf2_s8 : SQ 2 noSw 128 89 2994564137 2941728473 1663821321 2249973474 1789531486 1468077675 1082857005 2528068186 := SQ.step [false, false, false, false, false, false, false, false, false, false, false, false, false, false, false, false] rfl (lf2_s7) (by decide +kernel) lf2_7
theorem lf2 : sha (0 :: catF (swF 2 noSw) 256) = [94, 187, 22, 149, 240, 65, 28, 54, 27, 220, 225, 229, 83, 33, 6, 160, 9, 46, 36, 154, 117, 66, 166, 78, 44, 232, 137, 161, 146, 82, 77, 216] := SQ.last lf2_s8 (by decide +kernel)

end Qk

/-
  Values of chapter 53's example (printed by a program).
-/
namespace Qk
open Go Go.RowKit

theorem lf3_0 : leafQ 3 [false, false, false, false, false, false, false, false, false, false, false, false, false, false, false, false] 0 [0] 1779033703 3144134277 1013904242 2773480762 1359893119 2600822924 528734635 1541459225 pairQ = ([2458948921, 3260481602, 3781768442, 3561797929, 4251835838, 1141410016, 2205055805, 1650994292], [4]) := by decide +kernel
theorem lf3_s1 : SQ 3 noSw 16 4 2458948921 3260481602 3781768442 3561797929 4251835838 1141410016 2205055805 1650994292 := SQ.step [false, false, false, false, false, false, false, false, false, false, false, false, false, false, false, false] rfl (SQ.zero 3 noSw) (by decide +kernel) lf3_0
theorem lf3_1 : leafQ 3 [false, false, false, false, false, false, false, false, false, false, false, false, false, false, false, false] 16 [4] 2458948921 3260481602 3781768442 3561797929 4251835838 1141410016 2205055805 1650994292 pairQ = ([3222973404, 2924274778, 3720869541, 91813145, 2386033364, 563312610, 3022543757, 2831675338], [247]) := by decide +kernel
theorem lf3_s2 : SQ 3 noSw 32 247 3222973404 2924274778 3720869541 91813145 2386033364 563312610 3022543757 2831675338 := SQ.step [false, false, false, false, false, false, false, false, false, false, false, false, false, false, false, false] rfl (lf3_s1) (by decide +kernel) lf3_1
theorem lf3_2 : leafQ 3 [false, false, false, false, false, false, false, false, false, false, false, false, false, false, false, false] 32 [247] 3222973404 2924274778 3720869541 91813145 2386033364 563312610 3022543757 2831675338 pairQ = ([989342118, 1766088394, 3767991833, 3997749837, 3979528861, 1839484941, 1713790572, 4137541715], [6]) := by decide +kernel
theorem lf3_s3 : SQ 3 noSw 48 6 989342118 1766088394 3767991833 3997749837 3979528861 1839484941 1713790572 4137541715 := SQ.step [false, false, false, false, false, false, false, false, false, false, false, false, false, false, false, false] rfl (lf3_s2) (by decide +kernel) lf3_2
theorem lf3_3 : leafQ 3 [false, false, false, false, false, false, false, false, false, false, false, false, false, false, false, false] 48 [6] 989342118 1766088394 3767991833 3997749837 3979528861 1839484941 1713790572 4137541715 pairQ = ([3623403772, 3623791715, 1564585236, 2754098446, 978078669, 2316355796, 3244386028, 2921282510], [236]) := by decide +kernel
theorem lf3_s4 : SQ 3 noSw 64 236 3623403772 3623791715 1564585236 2754098446 978078669 2316355796 3244386028 2921282510 := SQ.step [false, false, false, false, false, false, false, false, false, false, false, false, false, false, false, false] rfl (lf3_s3) (by decide +kernel) lf3_3
theorem lf3_4 : leafQ 3 [false, false, false, false, false, false, false, false, false, false, false, false, false, false, false, false] 64 [236] 3623403772 3623791715 1564585236 2754098446 978078669 2316355796 3244386028 2921282510 pairQ = ([568487851, 1651543429, 3455834354, 3987694686, 3909023600, 4039731317, 1870742640, 3487236762], [252]) := by decide +kernel
theorem lf3_s5 : SQ 3 noSw 80 252 568487851 1651543429 3455834354 3987694686 3909023600 4039731317 1870742640 3487236762 := SQ.step [false, false, false, false, false, false, false, false, false, false, false, false, false, false, false, false] rfl (lf3_s4) (by decide +kernel) lf3_4
theorem lf3_5 : leafQ 3 [false, false, false, false, false, false, false, false, false, false, false, false, false, false, false, false] 80 [252] 568487851 1651543429 3455834354 3987694686 3909023600 4039731317 1870742640 3487236762 pairQ = ([1212767686, 3264459963, 41804472, 2935209431, 451582545, 4266524423, 842012792, 1550099254], [171]) := by decide +kernel
theorem lf3_s6 : SQ 3 noSw 96 171 1212767686 3264459963 41804472 2935209431 451582545 4266524423 842012792 1550099254 := SQ.step [false, false, false, false, false, false, false, false, false, false, false, false, false, false, false, false] rfl (lf3_s5) (by decide +kernel) lf3_5
theorem lf3_6 : leafQ 3 [false, false, false, false, false, false, false, false, false, false, false, false, false, false, false, false] 96 [171] 1212767686 3264459963 41804472 2935209431 451582545 4266524423 842012792 1550099254 pairQ = ([3635283539, 1082133440, 4121081882, 1037293610, 1586362489, 3058808906, 693741781, 134782015], [95]) := by decide +kernel
theorem lf3_s7 : SQ 3 noSw 112 95 3635283539 1082133440 4121081882 1037293610 1586362489 3058808906 693741781 134782015 := SQ.step [false, false, false, false, false, false, false, false, false, false, false, false, false, false, false, false] rfl (lf3_s6) (by decide +kernel) lf3_6
theorem lf3_7 : leafQ 3 [false, false, false, false, false, false, false, false, false, false, false, false, false, false, false, false] 112 [95] 3635283539 1082133440 4121081882 1037293610 1586362489 3058808906 693741781 134782015 pairQ = ([2228884378, 748115180, 785286320, 4091307602, 3699276778, 3131105785, 2863907937, 3936008466], [4]) := by decide +kernel
theorem lf3_s8 : SQ 3 noSw 128 4 2228884378 748115180 785286320 4091307602 3699276778 3131105785 2863907937 3936008466 := SQ.step [false, false, false, false, false, false, false, false, false, false, false, false, false, false, false, false] rfl (lf3_s7) (by decide +kernel) lf3_7
theorem lf3 : sha (0 :: catF (swF 3 noSw) 256) = [139, 67, 47, 131, 145, 66, 40, 161, 176, 211, 200, 175, 40, 56, 168, 87, 169, 68, 233, 157, 150, 209, 145, 192, 123, 228, 193, 176, 130, 211, 220, 1] := SQ.last lf3_s8 (by decide +kernel)

end Qk

/-
  Values of chapter 53's example (printed by a program).
-/
namespace Qk
open Go Go.RowKit

def dX : List UInt8 := [45, 113, 22, 66, 183, 38, 176, 68, 1, 98, 124, 169, 251, 172, 50, 245, 200, 83, 15, 177, 144, 60, 196, 219, 2, 37, 135, 23, 146, 26, 72, 129]
def dY : List UInt8 := [161, 252, 228, 54, 56, 84, 255, 136, 140, 255, 75, 142, 120, 117, 214, 0, 194, 104, 35, 144, 65, 42, 140, 247, 155, 55, 208, 177, 17, 72, 176, 250]
theorem dX_eq : sha [120] = dX := by rw [shaF_eq]; decide +kernel
theorem dY_eq : sha [121] = dY := by rw [shaF_eq]; decide +kernel
def ySw : Nat → Bool := fun p => !Nat.beq (bitB dX p) (bitB dY p)
theorem lfy_0 : leafQ 2 [true, false, false, false, true, true, false, false, true, false, false, false, true, true, false, true] 0 [0] 1779033703 3144134277 1013904242 2773480762 1359893119 2600822924 528734635 1541459225 pairQ = ([1470298660, 3461448619, 1209756226, 2103426114, 4147131031, 3530123302, 2915597390, 2104229511], [107]) := by decide +kernel
theorem lfy_s1 : SQ 2 ySw 16 107 1470298660 3461448619 1209756226 2103426114 4147131031 3530123302 2915597390 2104229511 := SQ.step [true, false, false, false, true, true, false, false, true, false, false, false, true, true, false, true] rfl (SQ.zero 2 ySw) (by decide +kernel) lfy_0
theorem lfy_1 : leafQ 2 [true, true, true, true, false, false, true, false, false, true, true, true, false, true, false, false] 16 [107] 1470298660 3461448619 1209756226 2103426114 4147131031 3530123302 2915597390 2104229511 pairQ = ([4064885089, 582781887, 41201563, 718795753, 3087894495, 3621478945, 131711071, 4109347691], [234]) := by decide +kernel
theorem lfy_s2 : SQ 2 ySw 32 234 4064885089 582781887 41201563 718795753 3087894495 3621478945 131711071 4109347691 := SQ.step [true, true, true, true, false, false, true, false, false, true, true, true, false, true, false, false] rfl (lfy_s1) (by decide +kernel) lfy_1
theorem lfy_2 : leafQ 2 [true, false, false, false, true, true, true, true, false, true, true, true, false, false, true, false] 32 [234] 4064885089 582781887 41201563 718795753 3087894495 3621478945 131711071 4109347691 pairQ = ([2331850209, 2294270609, 2324098895, 2637894019, 2517188883, 2988936283, 3622994008, 1600956118], [10]) := by decide +kernel
theorem lfy_s3 : SQ 2 ySw 48 10 2331850209 2294270609 2324098895 2637894019 2517188883 2988936283 3622994008 1600956118 := SQ.step [true, false, false, false, true, true, true, true, false, true, true, true, false, false, true, false] rfl (lfy_s2) (by decide +kernel) lfy_2
theorem lfy_3 : leafQ 2 [false, true, false, false, true, true, true, true, true, true, false, false, true, true, false, false] 48 [10] 2331850209 2294270609 2324098895 2637894019 2517188883 2988936283 3622994008 1600956118 pairQ = ([286349092, 453675560, 2818927157, 1403371831, 3353858246, 4148849199, 471063240, 2845083931], [195]) := by decide +kernel
theorem lfy_s4 : SQ 2 ySw 64 195 286349092 453675560 2818927157 1403371831 3353858246 4148849199 471063240 2845083931 := SQ.step [false, true, false, false, true, true, true, true, true, true, false, false, true, true, false, false] rfl (lfy_s3) (by decide +kernel) lfy_3
theorem lfy_4 : leafQ 2 [true, false, false, false, true, true, false, true, true, false, false, true, true, true, false, true] 64 [195] 286349092 453675560 2818927157 1403371831 3353858246 4148849199 471063240 2845083931 pairQ = ([1591067822, 620558014, 3851906747, 302221497, 2303100540, 3067392920, 3436522862, 437411997], [198]) := by decide +kernel
theorem lfy_s5 : SQ 2 ySw 80 198 1591067822 620558014 3851906747 302221497 2303100540 3067392920 3436522862 437411997 := SQ.step [true, false, false, false, true, true, false, true, true, false, false, true, true, true, false, true] rfl (lfy_s4) (by decide +kernel) lfy_4
theorem lfy_5 : leafQ 2 [false, false, true, true, false, true, true, true, false, false, true, false, false, true, true, true] 80 [198] 1591067822 620558014 3851906747 302221497 2303100540 3067392920 3436522862 437411997 pairQ = ([1167793293, 2097594217, 4138298141, 2020981164, 3810362446, 2884513686, 2439227297, 1053908773], [179]) := by decide +kernel
theorem lfy_s6 : SQ 2 ySw 96 179 1167793293 2097594217 4138298141 2020981164 3810362446 2884513686 2439227297 1053908773 := SQ.step [false, false, true, true, false, true, true, true, false, false, true, false, false, true, true, true] rfl (lfy_s5) (by decide +kernel) lfy_5
theorem lfy_6 : leafQ 2 [true, false, false, false, false, false, true, true, true, true, false, true, true, false, false, true] 96 [179] 1167793293 2097594217 4138298141 2020981164 3810362446 2884513686 2439227297 1053908773 pairQ = ([809929097, 3793181345, 998798547, 3722394300, 743587782, 2823485038, 364706892, 2025578447], [108]) := by decide +kernel
theorem lfy_s7 : SQ 2 ySw 112 108 809929097 3793181345 998798547 3722394300 743587782 2823485038 364706892 2025578447 := SQ.step [true, false, false, false, false, false, true, true, true, true, false, true, true, false, false, true] rfl (lfy_s6) (by decide +kernel) lfy_6
theorem lfy_7 : leafQ 2 [true, true, true, false, false, true, false, false, true, true, true, true, false, true, false, true] 112 [108] 809929097 3793181345 998798547 3722394300 743587782 2823485038 364706892 2025578447 pairQ = ([1309801684, 2326884777, 1004318921, 1908882739, 867982201, 548868729, 998223731, 75456881], [169]) := by decide +kernel
theorem lfy_s8 : SQ 2 ySw 128 169 1309801684 2326884777 1004318921 1908882739 867982201 548868729 998223731 75456881 := SQ.step [true, true, true, false, false, true, false, false, true, true, true, true, false, true, false, true] rfl (lfy_s7) (by decide +kernel) lfy_7
theorem lfy : sha (0 :: catF (swF 2 ySw) 256) = [19, 72, 169, 155, 93, 172, 15, 175, 180, 84, 126, 131, 12, 157, 54, 199, 100, 208, 117, 141, 238, 135, 2, 168, 98, 255, 226, 37, 137, 193, 128, 60] := SQ.last lfy_s8 (by decide +kernel)

end Qk

/-
  The example of chapter 53: the signature of the one message is not one of the other.
-/
namespace Qk
open Go Go.RowKit

attribute [local irreducible] sha hmac

theorem leaf_sw (k : Nat) : leafK [97] k = sha (0 :: catF (swF k noSw) 256) := rfl
theorem claim_y {n : Nat} (hn : n < 256) : claimAt (bitB (sha [121])) (signG [97] 2 [120]) n = swF 2 ySw n := by
  have hx := bitB_le (sha [120]) (n / 2)
  have hy := bitB_le (sha [121]) (n / 2)
  have hp : n / 2 < 128 := by omega
  have e1 : (signG [97] 2 [120]).rev.getD (n / 2) [] = revAt [97] 2 [120] (n / 2) := by simp [signG, List.getD, hp]
  have e2 : (signG [97] 2 [120]).oth.getD (n / 2) [] = othAt [97] 2 [120] (n / 2) := by simp [signG, List.getD, hp]
  have e3 : ySw (n / 2) = !Nat.beq (bitB (sha [120]) (n / 2)) (bitB (sha [121]) (n / 2)) := by rw [dX_eq, dY_eq]; rfl
  unfold claimAt swF
  rw [e1, e2, e3]
  unfold revAt othAt
  obtain ⟨x, hx'⟩ : ∃ x, x = bitB (sha [120]) (n / 2) := ⟨_, rfl⟩
  obtain ⟨y, hy'⟩ : ∃ y, y = bitB (sha [121]) (n / 2) := ⟨_, rfl⟩
  rw [← hx', ← hy']
  rw [← hx'] at hx
  rw [← hy'] at hy
  by_cases h : y = n % 2
  · rw [if_pos h]
    by_cases hxy : x = y
    · have : Nat.beq x y = true := by rw [hxy]; simp
      rw [this]
      show sha (secB [97] 2 _ (x : Int)) = sha (secB [97] ((2 : Nat) : Int) _ ((n % 2 : Nat) : Int))
      rw [hxy, h]
      rfl
    · have : Nat.beq x y = false := by
        cases hh : Nat.beq x y with
        | true => exact absurd (Nat.eq_of_beq_eq_true hh) hxy
        | false => rfl
      rw [this]
      show sha (secB [97] 2 _ (x : Int)) = sha (secB [97] ((2 : Nat) : Int) _ ((1 - n % 2 : Nat) : Int))
      have : x = 1 - n % 2 := by omega
      rw [this]
      rfl
  · rw [if_neg h]
    by_cases hxy : x = y
    · have : Nat.beq x y = true := by rw [hxy]; simp
      rw [this]
      show sha (secB [97] 2 _ (1 - (x : Int))) = sha (secB [97] ((2 : Nat) : Int) _ ((n % 2 : Nat) : Int))
      have : 1 - (x : Int) = ((n % 2 : Nat) : Int) := by omega
      rw [this]
      rfl
    · have : Nat.beq x y = false := by
        cases hh : Nat.beq x y with
        | true => exact absurd (Nat.eq_of_beq_eq_true hh) hxy
        | false => rfl
      rw [this]
      show sha (secB [97] 2 _ (1 - (x : Int))) = sha (secB [97] ((2 : Nat) : Int) _ ((1 - n % 2 : Nat) : Int))
      have : 1 - (x : Int) = ((1 - n % 2 : Nat) : Int) := by omega
      rw [this]
      rfl

theorem top_y : top [121] (signG [97] 2 [120]) = nodeB (nodeB (leafK [97] 0) (leafK [97] 1)) (nodeB (sha (claimS [121] (signG [97] 2 [120]))) (leafK [97] 3)) := rfl

theorem awake_no : verB (rootB [97]) [121] (signG [97] 2 [120]) = false := by
  have hy : sha (claimS [121] (signG [97] 2 [120])) = sha (0 :: catF (swF 2 ySw) 256) := by
    unfold claimS
    rw [catF_congr fun n hn => claim_y hn]
  have l0 : leafK [97] 0 = _ := (leaf_sw 0).trans lf0
  have l1 : leafK [97] 1 = _ := (leaf_sw 1).trans lf1
  have l2 : leafK [97] 2 = _ := (leaf_sw 2).trans lf2
  have l3 : leafK [97] 3 = _ := (leaf_sw 3).trans lf3
  unfold verB
  rw [top_y, hy, lfy]
  unfold rootB
  rw [l0, l1, l2, l3]
  unfold nodeB
  simp only [shaF_eq]
  rw [Bool.and_eq_false_iff]
  right
  decide +kernel

end Qk

/-
  The contracts of chapter 53's statements.
-/
namespace Qk
open Go Go.RowKit

def C_quiltlaw53_LamportSign : PC := ⟨List UInt8 × Int × List UInt8, fun x => [.str x.1, .int .i64 x.2.1, .str x.2.2], fun _ => True, fun _ => .bool true⟩
def C_quiltlaw53_LamportVerify : PC := ⟨List UInt8 × List UInt8 × Sg, fun x => [.agg (bys x.1), .str x.2.1, sgA x.2.2], fun x => x.1.length = 32 ∧ x.2.2.ok, fun _ => .bool true⟩
def C_quiltlaw53_LamportRight : PC := ⟨List UInt8 × List UInt8 × Int, fun x => [.str x.1, .str x.2.1, .int .i64 x.2.2], fun _ => True, fun _ => .bool true⟩
def C_quiltlaw53_LamportReveals : PC := ⟨List UInt8 × List UInt8 × List UInt8 × UInt8, fun x => [.str x.1, .agg [.str x.2.1, .str x.2.2.1], .int .u8 x.2.2.2.toNat], fun _ => True, fun _ => .bool true⟩
structure LIn where
  seed : List UInt8
  a : List UInt8
  b : List UInt8
  i : UInt8
  root : List UInt8
def LIn.cells (x : LIn) : List AV := .str x.seed :: .str x.a :: .str x.b :: .int .u8 x.i.toNat :: bys x.root
def C_quiltlaw53_LamportTag : PC := ⟨LIn × Sg, fun x => [.agg x.1.cells, sgA x.2], fun x => x.1.root.length = 32 ∧ x.2.ok, fun _ => .bool true⟩

end Qk

/-
  The statements of chapter 53 in the executor's form (printed by a program).
-/
namespace Qk
open Go Go.RowKit

/-- quilt/quiltlaw53.awake -/
def ir_quiltlaw53_awake : IF := ⟨(.seq (.ops [⟨(some 0), none, .mov (.const (.bool false))⟩])
  (.seq (.ops [⟨(some 4), none, .pcall C_lamport_Public [(.const (.string ⟨#[97]⟩))]⟩,
    ⟨(some 1), none, .alloc (repl 32 [.int .u8 0])⟩,
    ⟨none, none, .storN 32 (t 1) (t 4)⟩])
  (.seq (.ops [⟨(some 6), none, .pcall C_lamport_Sign [(.const (.string ⟨#[97]⟩)), (ci 2), (.const (.string ⟨#[120]⟩))]⟩,
    ⟨(some 5), none, .mov (t 6)⟩,
    ⟨(some 7), none, .extr (t 5) 0⟩,
    ⟨(some 8), none, .extr (t 5) 1⟩,
    ⟨(some 2), none, .alloc [.int .i64 0, .raw (.slice none 0 0), .raw (.slice none 0 0), .raw (.slice none 0 0)]⟩,
    ⟨none, none, .storN 4 (t 2) (t 7)⟩,
    ⟨(some 3), none, .mov (t 8)⟩])
  (.seq (.ops [⟨(some 9), none, .mov (t 3)⟩,
    ⟨(some 10), none, .bin .eql (t 9) (ci 0)⟩,
    ⟨(some 11), none, .mov (t 10)⟩,
    ⟨(some 12), (some (11, true)), .fldA 1 (t 2)⟩,
    ⟨(some 13), (some (11, true)), .load1 (t 12)⟩,
    ⟨(some 14), (some (11, true)), .lenL (t 13)⟩,
    ⟨(some 15), (some (11, true)), .bin .eql (t 14) (ci 128)⟩,
    ⟨(some 16), none, .pick (t 11) (t 15) (.const (.bool false))⟩,
    ⟨(some 17), none, .mov (t 16)⟩,
    ⟨(some 18), (some (17, true)), .loadN 32 (t 1)⟩,
    ⟨(some 19), (some (17, true)), .loadN 4 (t 2)⟩,
    ⟨(some 20), (some (17, true)), .pcall C_lamport_Verify [(t 18), (.const (.string ⟨#[120]⟩)), (t 19)]⟩,
    ⟨(some 21), none, .pick (t 17) (t 20) (.const (.bool false))⟩,
    ⟨(some 22), none, .mov (t 21)⟩,
    ⟨(some 23), (some (22, true)), .loadN 32 (t 1)⟩,
    ⟨(some 24), (some (22, true)), .loadN 4 (t 2)⟩,
    ⟨(some 25), (some (22, true)), .pcall C_lamport_Verify [(t 23), (.const (.string ⟨#[121]⟩)), (t 24)]⟩,
    ⟨(some 26), (some (22, true)), .not (t 25)⟩,
    ⟨(some 27), none, .pick (t 22) (t 26) (.const (.bool false))⟩,
    ⟨(some 0), none, .mov (t 27)⟩])
  .ret)))), [.tmp 0]⟩
/-- quilt/quiltlaw53.LamportSign -/
def ir_quiltlaw53_LamportSign : IF := ⟨(.seq (.ops [⟨(some 6), none, .mov (.const (.bool false))⟩])
  (.seq (.seq (.ops [⟨(some 11), none, .mov (t 0)⟩,
    ⟨(some 12), none, .mov (t 2)⟩,
    ⟨(some 13), none, .bslice 1 [.str []] 2 [(0, 1, (t 11)), (1, 1, (t 12))]⟩,
    ⟨(some 14), none, .pcall C_quiltlaw53_long [(t 13)]⟩])
  (.cond (t 14) (.seq (.ops [⟨(some 15), none, .pcall C_quiltlaw53_awake []⟩,
    ⟨(some 6), none, .mov (t 15)⟩])
  .ret)
  .skip))
  (.seq (.ops [⟨(some 17), none, .mov (t 0)⟩,
    ⟨(some 18), none, .mov (t 1)⟩,
    ⟨(some 19), none, .mov (t 2)⟩,
    ⟨(some 20), none, .pcall C_lamport_Sign [(t 17), (t 18), (t 19)]⟩,
    ⟨(some 16), none, .mov (t 20)⟩,
    ⟨(some 21), none, .extr (t 16) 0⟩,
    ⟨(some 22), none, .extr (t 16) 1⟩,
    ⟨(some 7), none, .alloc [.int .i64 0, .raw (.slice none 0 0), .raw (.slice none 0 0), .raw (.slice none 0 0)]⟩,
    ⟨none, none, .storN 4 (t 7) (t 21)⟩,
    ⟨(some 8), none, .mov (t 22)⟩])
  (.seq (.ops [⟨(some 24), none, .mov (t 0)⟩,
    ⟨(some 25), none, .mov (t 1)⟩,
    ⟨(some 26), none, .mov (t 2)⟩,
    ⟨(some 27), none, .pcall C_quiltref53_Sign [(t 24), (t 25), (t 26)]⟩,
    ⟨(some 23), none, .mov (t 27)⟩,
    ⟨(some 28), none, .extr (t 23) 0⟩,
    ⟨(some 29), none, .extr (t 23) 1⟩,
    ⟨(some 9), none, .alloc [.int .i64 0, .raw (.slice none 0 0), .raw (.slice none 0 0), .raw (.slice none 0 0)]⟩,
    ⟨none, none, .storN 4 (t 9) (t 28)⟩,
    ⟨(some 10), none, .mov (t 29)⟩])
  (.seq (.ops [⟨(some 30), none, .mov (t 0)⟩,
    ⟨(some 31), none, .pcall C_lamport_Public [(t 30)]⟩,
    ⟨(some 32), none, .mov (t 0)⟩,
    ⟨(some 33), none, .pcall C_quiltref53_Public [(t 32)]⟩,
    ⟨(some 34), none, .aeq false (repl 32 [some (some .u8)]) (t 31) (t 33)⟩,
    ⟨(some 35), none, .mov (t 34)⟩,
    ⟨(some 36), (some (35, true)), .loadN 4 (t 7)⟩,
    ⟨(some 37), (some (35, true)), .loadN 4 (t 9)⟩,
    ⟨(some 38), (some (35, true)), .pcall C_quiltref53_Same [(t 36), (t 37)]⟩,
    ⟨(some 39), none, .pick (t 35) (t 38) (.const (.bool false))⟩,
    ⟨(some 40), none, .mov (t 39)⟩,
    ⟨(some 41), (some (40, true)), .mov (t 8)⟩,
    ⟨(some 42), (some (40, true)), .mov (t 10)⟩,
    ⟨(some 43), (some (40, true)), .bin .eql (t 41) (t 42)⟩,
    ⟨(some 44), none, .pick (t 40) (t 43) (.const (.bool false))⟩,
    ⟨(some 45), none, .mov (t 44)⟩,
    ⟨(some 46), (some (45, true)), .pcall C_quiltlaw53_awake []⟩,
    ⟨(some 47), none, .pick (t 45) (t 46) (.const (.bool false))⟩,
    ⟨(some 6), none, .mov (t 47)⟩])
  .ret))))), [.tmp 6]⟩
/-- quilt/quiltlaw53.LamportVerify -/
def ir_quiltlaw53_LamportVerify : IF := ⟨(.seq (.ops [⟨(some 3), none, .box (t 0)⟩,
    ⟨(some 5), none, .box (t 2)⟩,
    ⟨(some 6), none, .mov (.const (.bool false))⟩])
  (.seq (.seq (.ops [⟨(some 7), none, .mov (t 1)⟩,
    ⟨(some 8), none, .bslice 1 [.str []] 1 [(0, 1, (t 7))]⟩,
    ⟨(some 9), none, .pcall C_quiltlaw53_long [(t 8)]⟩,
    ⟨(some 10), none, .mov (t 9)⟩,
    ⟨(some 11), (some (10, false)), .loadN 4 (t 5)⟩,
    ⟨(some 12), (some (10, false)), .pcall C_quiltref53_Great [(t 11)]⟩,
    ⟨(some 13), none, .pick (t 10) (.const (.bool true)) (t 12)⟩])
  (.cond (t 13) (.seq (.ops [⟨(some 14), none, .pcall C_quiltlaw53_awake []⟩,
    ⟨(some 6), none, .mov (t 14)⟩])
  .ret)
  .skip))
  (.seq (.ops [⟨(some 15), none, .loadN 32 (t 3)⟩,
    ⟨(some 16), none, .mov (t 1)⟩,
    ⟨(some 17), none, .loadN 4 (t 5)⟩,
    ⟨(some 18), none, .pcall C_lamport_Verify [(t 15), (t 16), (t 17)]⟩,
    ⟨(some 19), none, .loadN 32 (t 3)⟩,
    ⟨(some 20), none, .mov (t 1)⟩,
    ⟨(some 21), none, .loadN 4 (t 5)⟩,
    ⟨(some 22), none, .pcall C_quiltref53_Verify [(t 19), (t 20), (t 21)]⟩,
    ⟨(some 23), none, .beq false (t 18) (t 22)⟩,
    ⟨(some 24), none, .mov (t 23)⟩,
    ⟨(some 25), (some (24, true)), .loadN 4 (t 5)⟩,
    ⟨(some 26), (some (24, true)), .pcall C_lamport_Check [(t 25)]⟩,
    ⟨(some 27), (some (24, true)), .loadN 4 (t 5)⟩,
    ⟨(some 28), (some (24, true)), .pcall C_quiltref53_Check [(t 27)]⟩,
    ⟨(some 29), (some (24, true)), .bin .eql (t 26) (t 28)⟩,
    ⟨(some 30), none, .pick (t 24) (t 29) (.const (.bool false))⟩,
    ⟨(some 31), none, .mov (t 30)⟩,
    ⟨(some 32), (some (31, true)), .pcall C_quiltlaw53_awake []⟩,
    ⟨(some 33), none, .pick (t 31) (t 32) (.const (.bool false))⟩,
    ⟨(some 6), none, .mov (t 33)⟩])
  .ret))), [.tmp 6]⟩
/-- quilt/quiltlaw53.LamportRight -/
def ir_quiltlaw53_LamportRight : IF := ⟨(.seq (.ops [⟨(some 6), none, .mov (.const (.bool false))⟩])
  (.seq (.seq (.ops [⟨(some 9), none, .mov (t 0)⟩,
    ⟨(some 10), none, .mov (t 1)⟩,
    ⟨(some 11), none, .bslice 1 [.str []] 2 [(0, 1, (t 9)), (1, 1, (t 10))]⟩,
    ⟨(some 12), none, .pcall C_quiltlaw53_long [(t 11)]⟩])
  (.cond (t 12) (.seq (.ops [⟨(some 13), none, .pcall C_quiltlaw53_awake []⟩,
    ⟨(some 6), none, .mov (t 13)⟩])
  .ret)
  .skip))
  (.seq (.ops [⟨(some 15), none, .mov (t 0)⟩,
    ⟨(some 16), none, .mov (t 2)⟩,
    ⟨(some 17), none, .mov (t 1)⟩,
    ⟨(some 18), none, .pcall C_lamport_Sign [(t 15), (t 16), (t 17)]⟩,
    ⟨(some 14), none, .mov (t 18)⟩,
    ⟨(some 19), none, .extr (t 14) 0⟩,
    ⟨(some 20), none, .extr (t 14) 1⟩,
    ⟨(some 7), none, .alloc [.int .i64 0, .raw (.slice none 0 0), .raw (.slice none 0 0), .raw (.slice none 0 0)]⟩,
    ⟨none, none, .storN 4 (t 7) (t 19)⟩,
    ⟨(some 8), none, .mov (t 20)⟩])
  (.seq (.seq (.ops [⟨(some 21), none, .mov (t 2)⟩,
    ⟨(some 22), none, .bin .lss (t 21) (ci 0)⟩,
    ⟨(some 23), none, .mov (t 22)⟩,
    ⟨(some 24), (some (23, false)), .mov (t 2)⟩,
    ⟨(some 25), (some (23, false)), .bin .geq (t 24) (ci 4)⟩,
    ⟨(some 26), none, .pick (t 23) (.const (.bool true)) (t 25)⟩])
  (.cond (t 26) (.seq (.ops [⟨(some 27), none, .mov (t 8)⟩,
    ⟨(some 28), none, .bin .eql (t 27) (ci 2)⟩,
    ⟨(some 29), none, .mov (t 28)⟩,
    ⟨(some 30), (some (29, true)), .fldA 1 (t 7)⟩,
    ⟨(some 31), (some (29, true)), .load1 (t 30)⟩,
    ⟨(some 32), (some (29, true)), .lenL (t 31)⟩,
    ⟨(some 33), (some (29, true)), .fldA 2 (t 7)⟩,
    ⟨(some 34), (some (29, true)), .load1 (t 33)⟩,
    ⟨(some 35), (some (29, true)), .lenL (t 34)⟩,
    ⟨(some 36), (some (29, true)), .bin .add (t 32) (t 35)⟩,
    ⟨(some 37), (some (29, true)), .fldA 3 (t 7)⟩,
    ⟨(some 38), (some (29, true)), .load1 (t 37)⟩,
    ⟨(some 39), (some (29, true)), .lenL (t 38)⟩,
    ⟨(some 40), (some (29, true)), .bin .add (t 36) (t 39)⟩,
    ⟨(some 41), (some (29, true)), .bin .eql (t 40) (ci 0)⟩,
    ⟨(some 42), none, .pick (t 29) (t 41) (.const (.bool false))⟩,
    ⟨(some 43), none, .mov (t 42)⟩,
    ⟨(some 44), (some (43, true)), .pcall C_quiltlaw53_awake []⟩,
    ⟨(some 45), none, .pick (t 43) (t 44) (.const (.bool false))⟩,
    ⟨(some 6), none, .mov (t 45)⟩])
  .ret)
  .skip))
  (.seq (.ops [⟨(some 46), none, .mov (t 8)⟩,
    ⟨(some 47), none, .bin .eql (t 46) (ci 0)⟩,
    ⟨(some 48), none, .mov (t 47)⟩,
    ⟨(some 49), (some (48, true)), .fldA 0 (t 7)⟩,
    ⟨(some 50), (some (48, true)), .load1 (t 49)⟩,
    ⟨(some 51), (some (48, true)), .mov (t 2)⟩,
    ⟨(some 52), (some (48, true)), .bin .eql (t 50) (t 51)⟩,
    ⟨(some 53), none, .pick (t 48) (t 52) (.const (.bool false))⟩,
    ⟨(some 54), none, .mov (t 53)⟩,
    ⟨(some 55), (some (54, true)), .loadN 4 (t 7)⟩,
    ⟨(some 56), (some (54, true)), .pcall C_lamport_Check [(t 55)]⟩,
    ⟨(some 57), (some (54, true)), .bin .eql (t 56) (ci 0)⟩,
    ⟨(some 58), none, .pick (t 54) (t 57) (.const (.bool false))⟩,
    ⟨(some 59), none, .mov (t 58)⟩,
    ⟨(some 60), (some (59, true)), .mov (t 0)⟩,
    ⟨(some 61), (some (59, true)), .pcall C_lamport_Public [(t 60)]⟩,
    ⟨(some 62), (some (59, true)), .mov (t 1)⟩,
    ⟨(some 63), (some (59, true)), .loadN 4 (t 7)⟩,
    ⟨(some 64), (some (59, true)), .pcall C_lamport_Verify [(t 61), (t 62), (t 63)]⟩,
    ⟨(some 65), none, .pick (t 59) (t 64) (.const (.bool false))⟩,
    ⟨(some 66), none, .mov (t 65)⟩,
    ⟨(some 67), (some (66, true)), .pcall C_quiltlaw53_awake []⟩,
    ⟨(some 68), none, .pick (t 66) (t 67) (.const (.bool false))⟩,
    ⟨(some 6), none, .mov (t 68)⟩])
  .ret))))), [.tmp 6]⟩
/-- quilt/quiltlaw53.LamportReveals -/
def ir_quiltlaw53_LamportReveals : IF := ⟨(.seq (.ops [⟨(some 4), none, .box (t 1)⟩,
    ⟨(some 6), none, .mov (.const (.bool false))⟩])
  (.seq (.ops [⟨(some 19), none, .idxA 1 2 (t 4) (ci 0)⟩,
    ⟨(some 20), none, .load1 (t 19)⟩,
    ⟨(some 21), none, .idxA 1 2 (t 4) (ci 1)⟩,
    ⟨(some 22), none, .load1 (t 21)⟩,
    ⟨(some 7), none, .mov (t 20)⟩,
    ⟨(some 8), none, .mov (t 22)⟩])
  (.seq (.seq (.ops [⟨(some 23), none, .mov (t 0)⟩,
    ⟨(some 24), none, .mov (t 7)⟩,
    ⟨(some 25), none, .mov (t 8)⟩,
    ⟨(some 26), none, .bslice 1 [.str []] 3 [(0, 1, (t 23)), (1, 1, (t 24)), (2, 1, (t 25))]⟩,
    ⟨(some 27), none, .pcall C_quiltlaw53_long [(t 26)]⟩])
  (.cond (t 27) (.seq (.ops [⟨(some 28), none, .pcall C_quiltlaw53_awake []⟩,
    ⟨(some 6), none, .mov (t 28)⟩])
  .ret)
  .skip))
  (.seq (.ops [⟨(some 29), none, .mov (t 2)⟩,
    ⟨(some 30), none, .conv .i64 (t 29)⟩,
    ⟨(some 31), none, .bin .rem (t 30) (ci 4)⟩,
    ⟨(some 9), none, .mov (t 31)⟩])
  (.seq (.ops [⟨(some 33), none, .mov (t 0)⟩,
    ⟨(some 34), none, .mov (t 9)⟩,
    ⟨(some 35), none, .mov (t 7)⟩,
    ⟨(some 36), none, .pcall C_lamport_Sign [(t 33), (t 34), (t 35)]⟩,
    ⟨(some 32), none, .mov (t 36)⟩,
    ⟨(some 37), none, .extr (t 32) 0⟩,
    ⟨(some 38), none, .extr (t 32) 1⟩,
    ⟨(some 10), none, .alloc [.int .i64 0, .raw (.slice none 0 0), .raw (.slice none 0 0), .raw (.slice none 0 0)]⟩,
    ⟨none, none, .storN 4 (t 10) (t 37)⟩,
    ⟨(some 11), none, .mov (t 38)⟩])
  (.seq (.jn (.ops [⟨(some 40), none, .mov (t 0)⟩,
    ⟨(some 41), none, .mov (t 9)⟩,
    ⟨(some 42), none, .mov (t 8)⟩,
    ⟨(some 43), none, .pcall C_lamport_Sign [(t 40), (t 41), (t 42)]⟩,
    ⟨(some 39), none, .mov (t 43)⟩,
    ⟨(some 44), none, .extr (t 39) 0⟩,
    ⟨(some 45), none, .extr (t 39) 1⟩,
    ⟨(some 12), none, .alloc [.int .i64 0, .raw (.slice none 0 0), .raw (.slice none 0 0), .raw (.slice none 0 0)]⟩,
    ⟨none, none, .storN 4 (t 12) (t 44)⟩,
    ⟨(some 13), none, .mov (t 45)⟩]))
  (.seq (.seq (.ops [⟨(some 46), none, .mov (t 11)⟩,
    ⟨(some 47), none, .bin .neq (t 46) (ci 0)⟩,
    ⟨(some 48), none, .mov (t 47)⟩,
    ⟨(some 49), (some (48, false)), .mov (t 13)⟩,
    ⟨(some 50), (some (48, false)), .bin .neq (t 49) (ci 0)⟩,
    ⟨(some 51), none, .pick (t 48) (.const (.bool true)) (t 50)⟩,
    ⟨(some 52), none, .mov (t 51)⟩,
    ⟨(some 53), (some (52, false)), .loadN 4 (t 10)⟩,
    ⟨(some 54), (some (52, false)), .pcall C_lamport_Check [(t 53)]⟩,
    ⟨(some 55), (some (52, false)), .bin .neq (t 54) (ci 0)⟩,
    ⟨(some 56), none, .pick (t 52) (.const (.bool true)) (t 55)⟩,
    ⟨(some 57), none, .mov (t 56)⟩,
    ⟨(some 58), (some (57, false)), .loadN 4 (t 12)⟩,
    ⟨(some 59), (some (57, false)), .pcall C_lamport_Check [(t 58)]⟩,
    ⟨(some 60), (some (57, false)), .bin .neq (t 59) (ci 0)⟩,
    ⟨(some 61), none, .pick (t 57) (.const (.bool true)) (t 60)⟩,
    ⟨(some 62), none, .mov (t 61)⟩,
    ⟨(some 63), (some (62, false)), .fldA 1 (t 10)⟩,
    ⟨(some 64), (some (62, false)), .load1 (t 63)⟩,
    ⟨(some 65), (some (62, false)), .lenL (t 64)⟩,
    ⟨(some 66), (some (62, false)), .bin .neq (t 65) (ci 128)⟩,
    ⟨(some 67), none, .pick (t 62) (.const (.bool true)) (t 66)⟩,
    ⟨(some 68), none, .mov (t 67)⟩,
    ⟨(some 69), (some (68, false)), .fldA 2 (t 12)⟩,
    ⟨(some 70), (some (68, false)), .load1 (t 69)⟩,
    ⟨(some 71), (some (68, false)), .lenL (t 70)⟩,
    ⟨(some 72), (some (68, false)), .bin .neq (t 71) (ci 128)⟩,
    ⟨(some 73), none, .pick (t 68) (.const (.bool true)) (t 72)⟩,
    ⟨(some 74), none, .mov (t 73)⟩,
    ⟨(some 75), (some (74, false)), .fldA 2 (t 10)⟩,
    ⟨(some 76), (some (74, false)), .load1 (t 75)⟩,
    ⟨(some 77), (some (74, false)), .lenL (t 76)⟩,
    ⟨(some 78), (some (74, false)), .bin .neq (t 77) (ci 128)⟩,
    ⟨(some 79), none, .pick (t 74) (.const (.bool true)) (t 78)⟩,
    ⟨(some 80), none, .mov (t 79)⟩,
    ⟨(some 81), (some (80, false)), .fldA 1 (t 12)⟩,
    ⟨(some 82), (some (80, false)), .load1 (t 81)⟩,
    ⟨(some 83), (some (80, false)), .lenL (t 82)⟩,
    ⟨(some 84), (some (80, false)), .bin .neq (t 83) (ci 128)⟩,
    ⟨(some 85), none, .pick (t 80) (.const (.bool true)) (t 84)⟩])
  (.cond (t 85) (.seq (.ops [⟨(some 6), none, .mov (.const (.bool false))⟩])
  .ret)
  .skip))
  (.seq (.jn (.ops [⟨(some 86), none, .mov (t 7)⟩,
    ⟨(some 87), none, .pcall C_sha256_Sum [(t 86)]⟩,
    ⟨(some 88), none, .mov (t 8)⟩,
    ⟨(some 89), none, .pcall C_sha256_Sum [(t 88)]⟩,
    ⟨(some 14), none, .alloc (repl 32 [.int .u8 0])⟩,
    ⟨(some 15), none, .alloc (repl 32 [.int .u8 0])⟩,
    ⟨none, none, .storN 32 (t 14) (t 87)⟩,
    ⟨none, none, .storN 32 (t 15) (t 89)⟩]))
  (.seq (.seq (.ops [⟨(some 90), none, .mov (ci 0)⟩])
  (.block 0 (.loop (.seq (.ops [⟨(some 91), none, .bin .lss (t 90) (ci 128)⟩])
  (.seq (.cond (t 91) .skip
  (.exit 0))
  (.seq (.block 1 (.seq (.ops [⟨(some 92), none, .mov (t 90)⟩,
    ⟨(some 16), none, .mov (t 92)⟩])
  (.seq (.jn (.ops [⟨(some 93), none, .mov (t 16)⟩,
    ⟨(some 94), none, .bin .quo (t 93) (ci 8)⟩,
    ⟨(some 95), none, .idxA 1 32 (t 14) (t 94)⟩,
    ⟨(some 96), none, .load1 (t 95)⟩,
    ⟨(some 97), none, .mov (t 16)⟩,
    ⟨(some 98), none, .bin .rem (t 97) (ci 8)⟩,
    ⟨(some 99), none, .bin .sub (ci 7) (t 98)⟩,
    ⟨(some 100), none, .bin .shr (t 96) (t 99)⟩,
    ⟨(some 101), none, .bin .and (t 100) (.const (.int .u8 1))⟩,
    ⟨(some 102), none, .mov (t 16)⟩,
    ⟨(some 103), none, .bin .quo (t 102) (ci 8)⟩,
    ⟨(some 104), none, .idxA 1 32 (t 15) (t 103)⟩,
    ⟨(some 105), none, .load1 (t 104)⟩,
    ⟨(some 106), none, .mov (t 16)⟩,
    ⟨(some 107), none, .bin .rem (t 106) (ci 8)⟩,
    ⟨(some 108), none, .bin .sub (ci 7) (t 107)⟩,
    ⟨(some 109), none, .bin .shr (t 105) (t 108)⟩,
    ⟨(some 110), none, .bin .and (t 109) (.const (.int .u8 1))⟩,
    ⟨(some 111), none, .bin .eql (t 101) (t 110)⟩,
    ⟨(some 17), none, .mov (t 111)⟩]))
  (.seq (.seq (.ops [⟨(some 112), none, .mov (t 17)⟩,
    ⟨(some 113), none, .mov (t 112)⟩,
    ⟨(some 114), (some (113, true)), .fldA 1 (t 10)⟩,
    ⟨(some 115), (some (113, true)), .load1 (t 114)⟩,
    ⟨(some 116), (some (113, true)), .mov (t 16)⟩,
    ⟨(some 117), (some (113, true)), .idxL 32 (t 115) (t 116)⟩,
    ⟨(some 118), (some (113, true)), .loadN 32 (t 117)⟩,
    ⟨(some 119), (some (113, true)), .fldA 1 (t 12)⟩,
    ⟨(some 120), (some (113, true)), .load1 (t 119)⟩,
    ⟨(some 121), (some (113, true)), .mov (t 16)⟩,
    ⟨(some 122), (some (113, true)), .idxL 32 (t 120) (t 121)⟩,
    ⟨(some 123), (some (113, true)), .loadN 32 (t 122)⟩,
    ⟨(some 124), (some (113, true)), .aeq true (repl 32 [some (some .u8)]) (t 118) (t 123)⟩,
    ⟨(some 125), (some (113, true)), .mov (t 124)⟩,
    ⟨(some 126), (some (125, false)), .fldA 2 (t 10)⟩,
    ⟨(some 127), (some (125, false)), .load1 (t 126)⟩,
    ⟨(some 128), (some (125, false)), .mov (t 16)⟩,
    ⟨(some 129), (some (125, false)), .idxL 32 (t 127) (t 128)⟩,
    ⟨(some 130), (some (125, false)), .loadN 32 (t 129)⟩,
    ⟨(some 131), (some (125, false)), .fldA 2 (t 12)⟩,
    ⟨(some 132), (some (125, false)), .load1 (t 131)⟩,
    ⟨(some 133), (some (125, false)), .mov (t 16)⟩,
    ⟨(some 134), (some (125, false)), .idxL 32 (t 132) (t 133)⟩,
    ⟨(some 135), (some (125, false)), .loadN 32 (t 134)⟩,
    ⟨(some 136), (some (125, false)), .aeq true (repl 32 [some (some .u8)]) (t 130) (t 135)⟩,
    ⟨(some 137), (some (113, true)), .pick (t 125) (.const (.bool true)) (t 136)⟩,
    ⟨(some 138), none, .pick (t 113) (t 137) (.const (.bool false))⟩])
  (.cond (t 138) (.seq (.ops [⟨(some 6), none, .mov (.const (.bool false))⟩])
  .ret)
  .skip))
  (.seq (.ops [⟨(some 139), none, .fldA 1 (t 10)⟩,
    ⟨(some 140), none, .load1 (t 139)⟩,
    ⟨(some 141), none, .mov (t 16)⟩,
    ⟨(some 142), none, .idxL 32 (t 140) (t 141)⟩,
    ⟨(some 143), none, .loadN 32 (t 142)⟩,
    ⟨(some 18), none, .alloc (repl 32 [.int .u8 0])⟩,
    ⟨none, none, .storN 32 (t 18) (t 143)⟩])
  (.seq (.ops [⟨(some 144), none, .mov (t 17)⟩,
    ⟨(some 145), none, .not (t 144)⟩,
    ⟨(some 146), none, .mov (t 145)⟩,
    ⟨(some 147), (some (146, true)), .slA 1 32 (t 18) none none⟩,
    ⟨(some 148), (some (146, true)), .b2s (t 147)⟩,
    ⟨(some 149), (some (146, true)), .pcall C_sha256_Sum [(t 148)]⟩,
    ⟨(some 150), (some (146, true)), .fldA 2 (t 12)⟩,
    ⟨(some 151), (some (146, true)), .load1 (t 150)⟩,
    ⟨(some 152), (some (146, true)), .mov (t 16)⟩,
    ⟨(some 153), (some (146, true)), .idxL 32 (t 151) (t 152)⟩,
    ⟨(some 154), (some (146, true)), .loadN 32 (t 153)⟩,
    ⟨(some 155), (some (146, true)), .aeq true (repl 32 [some (some .u8)]) (t 149) (t 154)⟩,
    ⟨(some 156), none, .pick (t 146) (t 155) (.const (.bool false))⟩])
  (.cond (t 156) (.seq (.ops [⟨(some 6), none, .mov (.const (.bool false))⟩])
  .ret)
  .skip)))))))
  (.ops [⟨(some 157), none, .bin .add (t 90) (ci 1)⟩,
    ⟨(some 90), none, .mov (t 157)⟩])))))))
  (.seq (.ops [⟨(some 158), none, .fldA 3 (t 10)⟩,
    ⟨(some 159), none, .load1 (t 158)⟩,
    ⟨(some 160), none, .fldA 3 (t 12)⟩,
    ⟨(some 161), none, .load1 (t 160)⟩,
    ⟨(some 162), none, .pcall C_quiltref02_Same [(t 159), (t 161)]⟩,
    ⟨(some 163), none, .mov (t 162)⟩,
    ⟨(some 164), (some (163, true)), .pcall C_quiltlaw53_awake []⟩,
    ⟨(some 165), none, .pick (t 163) (t 164) (.const (.bool false))⟩,
    ⟨(some 6), none, .mov (t 165)⟩])
  .ret)))))))))), [.tmp 6]⟩
/-- quilt/quiltlaw53.LamportTag -/
def ir_quiltlaw53_LamportTag : IF := ⟨(.seq (.ops [⟨(some 2), none, .box (t 0)⟩,
    ⟨(some 3), none, .box (t 1)⟩,
    ⟨(some 4), none, .mov (.const (.bool false))⟩])
  (.seq (.seq (.ops [⟨(some 10), none, .fldA 0 (t 2)⟩,
    ⟨(some 11), none, .load1 (t 10)⟩,
    ⟨(some 12), none, .fldA 1 (t 2)⟩,
    ⟨(some 13), none, .load1 (t 12)⟩,
    ⟨(some 14), none, .fldA 2 (t 2)⟩,
    ⟨(some 15), none, .load1 (t 14)⟩,
    ⟨(some 16), none, .bslice 1 [.str []] 3 [(0, 1, (t 11)), (1, 1, (t 13)), (2, 1, (t 15))]⟩,
    ⟨(some 17), none, .pcall C_quiltlaw53_long [(t 16)]⟩,
    ⟨(some 18), none, .mov (t 17)⟩,
    ⟨(some 19), (some (18, false)), .loadN 4 (t 3)⟩,
    ⟨(some 20), (some (18, false)), .pcall C_quiltref53_Great [(t 19)]⟩,
    ⟨(some 21), none, .pick (t 18) (.const (.bool true)) (t 20)⟩,
    ⟨(some 22), none, .mov (t 21)⟩,
    ⟨(some 23), (some (22, false)), .fldA 1 (t 2)⟩,
    ⟨(some 24), (some (22, false)), .load1 (t 23)⟩,
    ⟨(some 25), (some (22, false)), .pcall C_quiltref53_Tag [(t 24)]⟩,
    ⟨(some 26), (some (22, false)), .fldA 2 (t 2)⟩,
    ⟨(some 27), (some (22, false)), .load1 (t 26)⟩,
    ⟨(some 28), (some (22, false)), .pcall C_quiltref53_Tag [(t 27)]⟩,
    ⟨(some 29), (some (22, false)), .bin .neq (t 25) (t 28)⟩,
    ⟨(some 30), none, .pick (t 22) (.const (.bool true)) (t 29)⟩])
  (.cond (t 30) (.seq (.ops [⟨(some 31), none, .pcall C_quiltlaw53_awake []⟩,
    ⟨(some 4), none, .mov (t 31)⟩])
  .ret)
  .skip))
  (.seq (.ops [⟨(some 32), none, .fldA 3 (t 2)⟩,
    ⟨(some 33), none, .load1 (t 32)⟩,
    ⟨(some 34), none, .conv .i64 (t 33)⟩,
    ⟨(some 35), none, .bin .rem (t 34) (ci 4)⟩,
    ⟨(some 5), none, .mov (t 35)⟩])
  (.seq (.ops [⟨(some 37), none, .fldA 0 (t 2)⟩,
    ⟨(some 38), none, .load1 (t 37)⟩,
    ⟨(some 39), none, .mov (t 5)⟩,
    ⟨(some 40), none, .fldA 1 (t 2)⟩,
    ⟨(some 41), none, .load1 (t 40)⟩,
    ⟨(some 42), none, .pcall C_lamport_Sign [(t 38), (t 39), (t 41)]⟩,
    ⟨(some 36), none, .mov (t 42)⟩,
    ⟨(some 43), none, .extr (t 36) 0⟩,
    ⟨(some 44), none, .extr (t 36) 1⟩,
    ⟨(some 6), none, .alloc [.int .i64 0, .raw (.slice none 0 0), .raw (.slice none 0 0), .raw (.slice none 0 0)]⟩,
    ⟨none, none, .storN 4 (t 6) (t 43)⟩,
    ⟨(some 7), none, .mov (t 44)⟩])
  (.seq (.jn (.ops [⟨(some 46), none, .fldA 0 (t 2)⟩,
    ⟨(some 47), none, .load1 (t 46)⟩,
    ⟨(some 48), none, .mov (t 5)⟩,
    ⟨(some 49), none, .fldA 2 (t 2)⟩,
    ⟨(some 50), none, .load1 (t 49)⟩,
    ⟨(some 51), none, .pcall C_lamport_Sign [(t 47), (t 48), (t 50)]⟩,
    ⟨(some 45), none, .mov (t 51)⟩,
    ⟨(some 52), none, .extr (t 45) 0⟩,
    ⟨(some 53), none, .extr (t 45) 1⟩,
    ⟨(some 8), none, .alloc [.int .i64 0, .raw (.slice none 0 0), .raw (.slice none 0 0), .raw (.slice none 0 0)]⟩,
    ⟨none, none, .storN 4 (t 8) (t 52)⟩,
    ⟨(some 9), none, .mov (t 53)⟩]))
  (.seq (.ops [⟨(some 54), none, .mov (t 7)⟩,
    ⟨(some 55), none, .bin .eql (t 54) (ci 0)⟩,
    ⟨(some 56), none, .mov (t 55)⟩,
    ⟨(some 57), (some (56, true)), .mov (t 9)⟩,
    ⟨(some 58), (some (56, true)), .bin .eql (t 57) (ci 0)⟩,
    ⟨(some 59), none, .pick (t 56) (t 58) (.const (.bool false))⟩,
    ⟨(some 60), none, .mov (t 59)⟩,
    ⟨(some 61), (some (60, true)), .loadN 4 (t 6)⟩,
    ⟨(some 62), (some (60, true)), .loadN 4 (t 8)⟩,
    ⟨(some 63), (some (60, true)), .pcall C_quiltref53_Same [(t 61), (t 62)]⟩,
    ⟨(some 64), none, .pick (t 60) (t 63) (.const (.bool false))⟩,
    ⟨(some 65), none, .mov (t 64)⟩,
    ⟨(some 66), (some (65, true)), .fldA 4 (t 2)⟩,
    ⟨(some 67), (some (65, true)), .loadN 32 (t 66)⟩,
    ⟨(some 68), (some (65, true)), .fldA 1 (t 2)⟩,
    ⟨(some 69), (some (65, true)), .load1 (t 68)⟩,
    ⟨(some 70), (some (65, true)), .loadN 4 (t 3)⟩,
    ⟨(some 71), (some (65, true)), .pcall C_lamport_Verify [(t 67), (t 69), (t 70)]⟩,
    ⟨(some 72), (some (65, true)), .fldA 4 (t 2)⟩,
    ⟨(some 73), (some (65, true)), .loadN 32 (t 72)⟩,
    ⟨(some 74), (some (65, true)), .fldA 2 (t 2)⟩,
    ⟨(some 75), (some (65, true)), .load1 (t 74)⟩,
    ⟨(some 76), (some (65, true)), .loadN 4 (t 3)⟩,
    ⟨(some 77), (some (65, true)), .pcall C_lamport_Verify [(t 73), (t 75), (t 76)]⟩,
    ⟨(some 78), (some (65, true)), .beq false (t 71) (t 77)⟩,
    ⟨(some 79), none, .pick (t 65) (t 78) (.const (.bool false))⟩,
    ⟨(some 80), none, .mov (t 79)⟩,
    ⟨(some 81), (some (80, true)), .pcall C_quiltlaw53_awake []⟩,
    ⟨(some 82), none, .pick (t 80) (t 81) (.const (.bool false))⟩,
    ⟨(some 4), none, .mov (t 82)⟩])
  .ret)))))), [.tmp 4]⟩

end Qk

/-
  The statements of chapter 53: signing, verifying, signatures verify.
-/
namespace Qk
open Go Go.RowKit
attribute [local irreducible] sha hmac rootB leafK signS signE verB sameB chk signG

theorem eq_same {d : List UInt8} (h : d.length = 32) : EqRel (repl 32 [some (some .u8)]) (bys d) (bys d) true := ⟨arek_bys d 32 h, arek_bys d 32 h, by simp⟩

theorem signS_ok (seed m : List UInt8) (i : Int) : (signS seed i m).ok := by
  unfold signS
  split
  · unfold signG
    refine ⟨?_, ?_, ?_⟩
    · intro d hd; obtain ⟨p, _, rfl⟩ := List.mem_map.1 hd; exact secB_len _ _ _ _
    · intro d hd; obtain ⟨p, _, rfl⟩ := List.mem_map.1 hd; exact sha_len _
    · intro d hd; simp [signP] at hd; rcases hd with rfl | rfl
      · exact leafK_len _ _
      · exact nodeB_len _ _
  · refine ⟨?_, ?_, ?_⟩ <;> (intro d hd; cases hd)
theorem signS_len (seed m : List UInt8) (i : Int) : lenOk (signS seed i m) := by
  unfold signS lenOk
  split
  · unfold signG signP; simp
  · simp
theorem same_refl (g : Sg) : sameB g g = true := by unfold sameB; simp
theorem rootB_len (s : List UInt8) : (rootB s).length = 32 := by unfold rootB; exact nodeB_len _ _

/-- The strings are short. -/
theorem long_no {l : List (List UInt8)} (h : longB l = false) : ∀ s ∈ l, s.length ≤ 200 := by
  intro s hs
  unfold longB at h
  rw [List.any_eq_false] at h
  have := h s hs
  simpa using this

theorem one_sgL (g : Sg) : AllOne (sgL g) := one_sig rfl rfl rfl

theorem d_law_Sign : Does ir_quiltlaw53_LamportSign C_quiltlaw53_LamportSign := by
  rintro ⟨seed, i, m⟩ _
  refine And.intro (show (0 + 2) * 1 ≤ 2 by decide) (And.intro (nnl_strs [seed, m]) ⟨[seed, m], rfl, by show 2 ≤ _; decide, (plain_bool _), ?_⟩)
  refine cond_split (fun h => ?_) (fun h => ?_)
  · refine ⟨(), rfl, trivial, ?_⟩
    refine ⟨_, (by first | exact SubSt.refl _ | exact SubTop.refl _), ?_⟩
    rfl
  · have hl := long_no (l := [seed, m]) h
    have hs : seed.length ≤ 1000000000 := by have := hl seed (by simp); omega
    have hm : m.length ≤ 1000000000 := by have := hl m (by simp); omega
    obtain ⟨g, hg⟩ : ∃ g, g = signS seed i m := ⟨_, rfl⟩
    have gs := same_refl g
    refine ⟨⟨seed, i, m⟩, rfl, ⟨hs, hm⟩, ?_⟩
    refine ⟨_, rfl, ?_⟩
    refine ⟨_, rfl, ?_⟩
    refine And.intro ⟨rfl, one_sgL (signS seed i m)⟩ ?_
    refine And.intro (Nat.le_refl 4) ?_
    refine ⟨_, rfl, ?_⟩
    refine ⟨⟨seed, i, m⟩, rfl, ⟨hs, hm⟩, ?_⟩
    refine ⟨_, rfl, ?_⟩
    refine ⟨_, rfl, ?_⟩
    refine And.intro ⟨rfl, one_sgL (signS seed i m)⟩ ?_
    refine And.intro (Nat.le_refl 4) ?_
    refine ⟨_, rfl, ?_⟩
    refine ⟨seed, rfl, hs, ?_⟩
    refine ⟨seed, rfl, hs, ?_⟩
    refine ⟨true, eq_same (rootB_len seed), ?_⟩
    refine ⟨sgL (signS seed i m), ⟨rfl, rfl⟩, ?_⟩
    refine ⟨sgL (signS seed i m), ⟨rfl, rfl⟩, ?_⟩
    refine And.intro (nn_sgA _) (And.intro (nn_sgA _) ?_)
    refine ⟨⟨signS seed i m, signS seed i m⟩, rfl, ⟨signS_ok _ _ _, signS_ok _ _ _, signS_len _ _ _⟩, ?_⟩
    rw [hg] at gs
    refine cond_t gs ?_
    refine cond_t gs ?_
    refine cond_t gs ?_
    refine cond_t (b := cond (sameB (signS seed i m) (signS seed i m)) (decide (signE i = signE i)) false) (by rw [gs]; simp) ?_
    refine ⟨(), rfl, trivial, ?_⟩
    refine ⟨_, (by first | exact SubSt.refl _ | exact SubTop.refl _), ?_⟩
    show AV.bool (cond (cond (sameB (signS seed i m) (signS seed i m)) (decide (signE i = signE i)) false) true false) = AV.bool true
    rw [gs]
    simp


theorem d_law_Verify : Does ir_quiltlaw53_LamportVerify C_quiltlaw53_LamportVerify := by
  rintro ⟨root, m, g⟩ ⟨hr, hg⟩
  dsimp only at hr hg
  have lr : (bys root).length = 32 := by rw [bys_length, hr]
  refine And.intro (show (0 + 1) * 1 ≤ 1 by decide) (And.intro (nnl_strs [m]) ⟨[m], rfl, by show 1 ≤ _; decide, (plain_bool _), ?_⟩)
  obtain ⟨L, hL⟩ : ∃ L, L = longB [m] := ⟨_, rfl⟩
  refine cond_split (fun h => ?_) (fun h => ?_)
  · refine cond_t h ?_
    refine cond_t h ?_
    refine ⟨(), rfl, trivial, ?_⟩
    refine ⟨_, (by first | exact SubSt.refl _ | exact SubTop.refl _), ?_⟩
    rfl
  · have hl := long_no (l := [m]) h
    have hm : m.length ≤ 1000000000 := by have := hl m (by simp); omega
    refine ⟨sgL g, ⟨rfl, rfl⟩, ?_⟩
    refine cond_f h ?_
    refine And.intro (nn_sgA g) ?_
    refine ⟨g, rfl, trivial, ?_⟩
    refine cond_split (fun h2 => ?_) (fun h2 => ?_)
    · refine ⟨(), rfl, trivial, ?_⟩
      refine ⟨_, (by first | exact SubSt.refl _ | exact SubTop.refl _), ?_⟩
      rfl
    · refine ⟨bys root, ⟨tda lr, lr⟩, ?_⟩
      refine ⟨sgL g, ⟨rfl, rfl⟩, ?_⟩
      refine And.intro (plainA_bys _).nn (And.intro (nn_sgA g) ?_)
      refine ⟨⟨root, m, g⟩, rfl, ⟨hr, hm, hg⟩, ?_⟩
      refine ⟨bys root, ⟨tda lr, lr⟩, ?_⟩
      refine ⟨sgL g, ⟨rfl, rfl⟩, ?_⟩
      refine And.intro (plainA_bys _).nn (And.intro (nn_sgA g) ?_)
      refine ⟨⟨root, m, g⟩, rfl, ⟨hr, hm, hg⟩, ?_⟩
      have e1 : decide (verB root m g = verB root m g) = true := decide_eq_true rfl
      have e2 : decide (chk g = chk g) = true := decide_eq_true rfl
      refine cond_t e1 ?_
      refine ⟨sgL g, ⟨rfl, rfl⟩, ?_⟩
      refine cond_t e1 ?_
      refine And.intro (nn_sgA g) ?_
      refine ⟨g, rfl, trivial, ?_⟩
      refine cond_t e1 ?_
      refine ⟨sgL g, ⟨rfl, rfl⟩, ?_⟩
      refine cond_t e1 ?_
      refine And.intro (nn_sgA g) ?_
      refine ⟨g, rfl, trivial, ?_⟩
      refine cond_t e1 ?_
      refine cond_t (b := cond (decide (verB root m g = verB root m g)) (decide (chk g = chk g)) false) (by rw [e1, e2]; rfl) ?_
      refine ⟨(), rfl, trivial, ?_⟩
      refine ⟨_, (by first | exact SubSt.refl _ | exact SubTop.refl _), ?_⟩
      show AV.bool (cond (cond (decide (verB root m g = verB root m g)) (decide (chk g = chk g)) false) true false) = AV.bool true
      rw [e1, e2]
      rfl

end Qk

/-
  Signatures verify; the example of chapter 53.
-/
namespace Qk
open Go Go.RowKit
attribute [local irreducible] sha hmac secB

theorem claim_sign {seed m : List UInt8} {i : Int} {n : Nat} (hn : n < 256) : claimAt (bitB (sha m)) (signG seed i m) n = pubAt seed i n := by
  have hb := bitB_le (sha m) (n / 2)
  have hp : n / 2 < 128 := by omega
  have e1 : (signG seed i m).rev.getD (n / 2) [] = revAt seed i m (n / 2) := by simp [signG, List.getD, hp]
  have e2 : (signG seed i m).oth.getD (n / 2) [] = othAt seed i m (n / 2) := by simp [signG, List.getD, hp]
  unfold claimAt
  rw [e1, e2]
  unfold revAt othAt pubAt
  by_cases h : bitB (sha m) (n / 2) = n % 2
  · rw [if_pos h, h]
  · rw [if_neg h]
    have : (1 : Int) - (bitB (sha m) (n / 2) : Int) = ((n % 2 : Nat) : Int) := by omega
    rw [this]

theorem sha_claim {seed m : List UInt8} {i : Int} : sha (claimS m (signG seed i m)) = leafK seed i := by
  unfold claimS leafK
  rw [catF_congr fun n hn => claim_sign hn]

theorem chk_sign {seed m : List UInt8} {i : Int} (h : inR i) : chk (signG seed i m) = 0 := by
  unfold chk
  rw [if_pos (show inR (signG seed i m).i from h), if_pos]
  simp [signG, signP]

theorem ver_sign {seed m : List UInt8} {i : Int} (h : inR i) : verB (rootB seed) m (signG seed i m) = true := by
  unfold verB
  rw [decide_eq_true (chk_sign h)]
  have : top m (signG seed i m) = rootB seed := by
    unfold top
    rw [sha_claim]
    obtain ⟨h1, h2⟩ := h
    have : i = 0 ∨ i = 1 ∨ i = 2 ∨ i = 3 := by omega
    rcases this with rfl | rfl | rfl | rfl <;> simp [climb, signG, signP, rootB]
  rw [decide_eq_true this]
  rfl

theorem signS_eq {seed m : List UInt8} {i : Int} (h : inR i) : signS seed i m = signG seed i m := by unfold signS; rw [if_pos h]
theorem signS_no {seed m : List UInt8} {i : Int} (h : ¬ inR i) : signS seed i m = ⟨0, [], [], []⟩ := by unfold signS; rw [if_neg h]

attribute [local irreducible] rootB leafK signS signE verB sameB chk signG

theorem d_law_Right : Does ir_quiltlaw53_LamportRight C_quiltlaw53_LamportRight := by
  rintro ⟨seed, m, i⟩ _
  refine And.intro (show (0 + 2) * 1 ≤ 2 by decide) (And.intro (nnl_strs [seed, m]) ⟨[seed, m], rfl, by show 2 ≤ _; decide, (plain_bool _), ?_⟩)
  refine cond_split (fun h => ?_) (fun h => ?_)
  · refine ⟨(), rfl, trivial, ?_⟩
    refine ⟨_, (by first | exact SubSt.refl _ | exact SubTop.refl _), ?_⟩
    rfl
  · have hl := long_no (l := [seed, m]) h
    have hs : seed.length ≤ 1000000000 := by have := hl seed (by simp); omega
    have hm : m.length ≤ 1000000000 := by have := hl m (by simp); omega
    refine ⟨⟨seed, i, m⟩, rfl, ⟨hs, hm⟩, ?_⟩
    refine ⟨_, rfl, ?_⟩
    refine ⟨_, rfl, ?_⟩
    refine And.intro ⟨rfl, one_sgL (signS seed i m)⟩ ?_
    refine And.intro (Nat.le_refl 4) ?_
    refine ⟨_, rfl, ?_⟩
    -- out of range
    have out : ¬ inR i → signE i = 2 ∧ (signS seed i m).rev.length = 0 ∧ (signS seed i m).oth.length = 0 ∧ (signS seed i m).path.length = 0 := by
      intro hi
      rw [signS_no hi]
      exact ⟨signE_out hi, rfl, rfl, rfl⟩
    refine cond_split (fun h1 => ?_) (fun h1 => ?_)
    · have hT : i < 0 := of_decide_eq_true h1
      obtain ⟨o1, o2, o3, o4⟩ := out (fun hi => by have := hi.1; omega)
      refine cond_t h1 ?_
      refine cond_t h1 ?_
      have c1 : decide (signE i = 2) = true := decide_eq_true o1
      refine cond_t c1 ?_
      refine cond_t c1 ?_
      refine ⟨_, rfl, ?_⟩
      refine cond_t c1 ?_
      refine cond_t c1 ?_
      refine cond_t c1 ?_
      refine ⟨_, rfl, ?_⟩
      refine cond_t c1 ?_
      refine cond_t c1 ?_
      refine And.intro (by rw [o2, o3]; decide) ?_
      refine cond_t c1 ?_
      refine cond_t c1 ?_
      refine ⟨_, rfl, ?_⟩
      refine cond_t c1 ?_
      refine cond_t c1 ?_
      refine And.intro (by rw [o2, o3, o4]; decide) ?_
      refine cond_t c1 ?_
      have c2 : decide (((signS seed i m).rev.length : Int) + (signS seed i m).oth.length + (signS seed i m).path.length = 0) = true := by rw [o2, o3, o4]; rfl
      refine cond_t (b := cond (decide (signE i = 2)) (decide (((signS seed i m).rev.length : Int) + (signS seed i m).oth.length + (signS seed i m).path.length = 0)) false) (by rw [c1, c2]; rfl) ?_
      refine ⟨(), rfl, trivial, ?_⟩
      refine ⟨_, (by first | exact SubSt.refl _ | exact SubTop.refl _), ?_⟩
      show AV.bool (cond (cond (decide (signE i = 2)) (decide (((signS seed i m).rev.length : Int) + (signS seed i m).oth.length + (signS seed i m).path.length = 0)) false) true false) = AV.bool true
      rw [c1, c2]
      rfl
    · have hF : ¬ i < 0 := of_decide_eq_false h1
      refine cond_f h1 ?_
      refine cond_split (fun h2 => ?_) (fun h2 => ?_)
      · rw [h1] at h2
        have h4 : (4 : Int) ≤ i := of_decide_eq_true h2
        obtain ⟨o1, o2, o3, o4⟩ := out (fun hi => by have := hi.2; omega)
        have c1 : decide (signE i = 2) = true := decide_eq_true o1
        refine cond_t c1 ?_
        refine cond_t c1 ?_
        refine ⟨_, rfl, ?_⟩
        refine cond_t c1 ?_
        refine cond_t c1 ?_
        refine cond_t c1 ?_
        refine ⟨_, rfl, ?_⟩
        refine cond_t c1 ?_
        refine cond_t c1 ?_
        refine And.intro (by rw [o2, o3]; decide) ?_
        refine cond_t c1 ?_
        refine cond_t c1 ?_
        refine ⟨_, rfl, ?_⟩
        refine cond_t c1 ?_
        refine cond_t c1 ?_
        refine And.intro (by rw [o2, o3, o4]; decide) ?_
        refine cond_t c1 ?_
        have c2 : decide (((signS seed i m).rev.length : Int) + (signS seed i m).oth.length + (signS seed i m).path.length = 0) = true := by rw [o2, o3, o4]; rfl
        refine cond_t (b := cond (decide (signE i = 2)) (decide (((signS seed i m).rev.length : Int) + (signS seed i m).oth.length + (signS seed i m).path.length = 0)) false) (by rw [c1, c2]; rfl) ?_
        refine ⟨(), rfl, trivial, ?_⟩
        refine ⟨_, (by first | exact SubSt.refl _ | exact SubTop.refl _), ?_⟩
        show AV.bool (cond (cond (decide (signE i = 2)) (decide (((signS seed i m).rev.length : Int) + (signS seed i m).oth.length + (signS seed i m).path.length = 0)) false) true false) = AV.bool true
        rw [c1, c2]
        rfl
      · rw [h1] at h2
        have h4 : ¬ (4 : Int) ≤ i := of_decide_eq_false h2
        have hi : inR i := ⟨by omega, by omega⟩
        have e1 : decide (signE i = 0) = true := decide_eq_true (signE_in hi)
        have e2 : decide ((signS seed i m).i = i) = true := by rw [signS_eq hi]; exact decide_eq_true (by with_unfolding_all rfl)
        have e3 : decide (chk (signS seed i m) = 0) = true := by rw [signS_eq hi]; exact decide_eq_true (chk_sign hi)
        have e4 : verB (rootB seed) m (signS seed i m) = true := by rw [signS_eq hi]; exact ver_sign hi
        have lR : (bys (rootB seed)).length = 32 := by rw [bys_length, rootB_len]
        refine cond_t e1 ?_
        refine cond_t e1 ?_
        refine ⟨_, rfl, ?_⟩
        refine cond_t e1 ?_
        refine cond_t e1 ?_
        have f1 : cond (decide (signE i = 0)) (decide ((signS seed i m).i = i)) false = true := by rw [e1, e2]; rfl
        refine cond_t f1 ?_
        refine ⟨sgL (signS seed i m), ⟨rfl, rfl⟩, ?_⟩
        refine cond_t f1 ?_
        refine And.intro (nn_sgA _) ?_
        refine ⟨signS seed i m, rfl, trivial, ?_⟩
        refine cond_t f1 ?_
        have f2 : cond (cond (decide (signE i = 0)) (decide ((signS seed i m).i = i)) false) (decide (chk (signS seed i m) = 0)) false = true := by rw [f1, e3]; rfl
        refine cond_t f2 ?_
        refine cond_t f2 ?_
        refine ⟨seed, rfl, hs, ?_⟩
        refine cond_t f2 ?_
        refine cond_t f2 ?_
        refine ⟨sgL (signS seed i m), ⟨rfl, rfl⟩, ?_⟩
        refine cond_t f2 ?_
        refine And.intro (plainA_bys _).nn (And.intro (nn_sgA _) ?_)
        refine ⟨⟨rootB seed, m, signS seed i m⟩, rfl, ⟨rootB_len seed, hm, signS_ok _ _ _⟩, ?_⟩
        have f3 : cond (cond (cond (decide (signE i = 0)) (decide ((signS seed i m).i = i)) false) (decide (chk (signS seed i m) = 0)) false) (verB (rootB seed) m (signS seed i m)) false = true := by rw [f2, e4]; rfl
        refine cond_t f3 ?_
        refine ⟨(), rfl, trivial, ?_⟩
        refine ⟨_, (by first | exact SubSt.refl _ | exact SubTop.refl _), ?_⟩
        show AV.bool (cond (cond (cond (cond (decide (signE i = 0)) (decide ((signS seed i m).i = i)) false) (decide (chk (signS seed i m) = 0)) false) (verB (rootB seed) m (signS seed i m)) false) true false) = AV.bool true
        rw [f3]
        rfl

end Qk

/-
  The example of chapter 53 holds; messages with the same tag.
-/
namespace Qk
open Go Go.RowKit

theorem ex_in : inR 2 := ⟨by decide, by decide⟩
theorem ex_yes : verB (rootB [97]) [120] (signS [97] 2 [120]) = true := by rw [signS_eq ex_in]; exact ver_sign ex_in
theorem ex_no : verB (rootB [97]) [121] (signS [97] 2 [120]) = false := by rw [signS_eq ex_in]; exact awake_no
theorem ex_len : (signS [97] 2 [120]).rev.length = 128 := by rw [signS_eq ex_in]; simp [signG]

/-- What the tag settles. -/
theorem sign_tag {seed a b : List UInt8} {i : Int} (h : (sha a).take 16 = (sha b).take 16) : signS seed i a = signS seed i b := by
  unfold signS
  split
  · have hb : ∀ p, p < 128 → bitB (sha a) p = bitB (sha b) p := fun p hp => by rw [← bit_take (sha a) hp, ← bit_take (sha b) hp, h]
    unfold signG
    have e1 : (List.range 128).map (revAt seed i a) = (List.range 128).map (revAt seed i b) := List.map_congr_left fun p hp => by
      have := hb p (List.mem_range.1 hp)
      unfold revAt; rw [this]
    have e2 : (List.range 128).map (othAt seed i a) = (List.range 128).map (othAt seed i b) := List.map_congr_left fun p hp => by
      have := hb p (List.mem_range.1 hp)
      unfold othAt; rw [this]
    rw [e1, e2]
  · rfl
theorem ver_tag {root a b : List UInt8} {g : Sg} (h : (sha a).take 16 = (sha b).take 16) : verB root a g = verB root b g := by
  have : claimS a g = claimS b g := by
    unfold claimS
    rw [← claim_take (sha a), ← claim_take (sha b), h]
  unfold verB top
  rw [this]

attribute [local irreducible] sha hmac secB rootB leafK signS signE verB sameB chk signG

theorem d_law53_awake : Does ir_quiltlaw53_awake C_quiltlaw53_awake := by
  intro _ _
  have e1 : decide (signE 2 = 0) = true := decide_eq_true (signE_in ex_in)
  have e2 : decide (((signS [97] 2 [120]).rev.length : Int) = 128) = true := decide_eq_true (by rw [ex_len]; rfl)
  have lR : (bys (rootB [97])).length = 32 := by rw [bys_length, rootB_len]
  refine ⟨[97], rfl, by show 1 ≤ _; decide, ?_⟩
  refine And.intro ⟨lR, bys_all _⟩ ?_
  refine And.intro (Nat.le_refl 32) ?_
  refine ⟨_, lay_all (vs := bys (rootB [97])) lR, ?_⟩
  refine ⟨⟨[97], 2, [120]⟩, rfl, ⟨by show 1 ≤ _; decide, by show 1 ≤ _; decide⟩, ?_⟩
  refine ⟨_, rfl, ?_⟩
  refine ⟨_, rfl, ?_⟩
  refine And.intro ⟨rfl, one_sgL (signS [97] 2 [120])⟩ ?_
  refine And.intro (Nat.le_refl 4) ?_
  refine ⟨_, rfl, ?_⟩
  refine cond_t e1 ?_
  refine cond_t e1 ?_
  refine ⟨_, rfl, ?_⟩
  refine cond_t e1 ?_
  refine cond_t e1 ?_
  have f1 : cond (decide (signE 2 = 0)) (decide (((signS [97] 2 [120]).rev.length : Int) = 128)) false = true := by rw [e1, e2]; rfl
  refine cond_t f1 ?_
  refine ⟨bys (rootB [97]), ⟨tda lR, lR⟩, ?_⟩
  refine cond_t f1 ?_
  refine ⟨sgL (signS [97] 2 [120]), ⟨rfl, rfl⟩, ?_⟩
  refine cond_t f1 ?_
  refine And.intro (plainA_bys _).nn (And.intro (nn_sgA _) ?_)
  refine ⟨⟨rootB [97], [120], signS [97] 2 [120]⟩, rfl, ⟨rootB_len _, by show 1 ≤ _; decide, signS_ok _ _ _⟩, ?_⟩
  have f2 : cond (cond (decide (signE 2 = 0)) (decide (((signS [97] 2 [120]).rev.length : Int) = 128)) false) (verB (rootB [97]) [120] (signS [97] 2 [120])) false = true := by rw [f1, ex_yes]; rfl
  refine cond_t f2 ?_
  refine ⟨bys (rootB [97]), ⟨tda lR, lR⟩, ?_⟩
  refine cond_t f2 ?_
  refine ⟨sgL (signS [97] 2 [120]), ⟨rfl, rfl⟩, ?_⟩
  refine cond_t f2 ?_
  refine And.intro (plainA_bys _).nn (And.intro (nn_sgA _) ?_)
  refine ⟨⟨rootB [97], [121], signS [97] 2 [120]⟩, rfl, ⟨rootB_len _, by show 1 ≤ _; decide, signS_ok _ _ _⟩, ?_⟩
  refine cond_t f2 ?_
  refine ⟨_, (by first | exact SubSt.refl _ | exact SubTop.refl _), ?_⟩
  show AV.bool (cond (cond (cond (decide (signE 2 = 0)) (decide (((signS [97] 2 [120]).rev.length : Int) = 128)) false) (verB (rootB [97]) [120] (signS [97] 2 [120])) false) (!(verB (rootB [97]) [121] (signS [97] 2 [120]))) false) = AV.bool true
  rw [f2, ex_no]
  rfl

end Qk

/-
  The statement of chapter 53 on tags.
-/
namespace Qk
open Go Go.RowKit
attribute [local irreducible] sha hmac secB rootB leafK signS signE verB sameB chk signG

theorem nnl_lin (x : LIn) : NNL x.cells := nnl_plain (by
  intro c hc
  unfold LIn.cells at hc
  simp only [List.mem_cons] at hc
  rcases hc with rfl | rfl | rfl | rfl | hc
  · exact plain_str _
  · exact plain_str _
  · exact plain_str _
  · exact plain_int _ _
  · exact plain_bys _ c hc)

theorem d_law_Tag : Does ir_quiltlaw53_LamportTag C_quiltlaw53_LamportTag := by
  rintro ⟨x, g⟩ ⟨hr, hg⟩
  dsimp only at hr hg
  obtain ⟨seed, a, b, u, root⟩ := x
  dsimp only at hr
  have lr : (bys root).length = 32 := by rw [bys_length, hr]
  have hu : u.toNat < 256 := u.toNat_lt
  refine ⟨_, rfl, ?_⟩
  refine ⟨_, rfl, ?_⟩
  refine ⟨_, rfl, ?_⟩
  refine And.intro (show (0 + 3) * 1 ≤ 3 by decide) (And.intro (nnl_strs [seed, a, b]) ⟨[seed, a, b], rfl, by show 3 ≤ _; decide, (plain_bool _), ?_⟩)
  refine cond_split (fun h => ?_) (fun h => ?_)
  · refine cond_t h ?_
    refine cond_t h ?_
    refine ⟨(), rfl, trivial, ?_⟩
    refine ⟨_, (by first | exact SubSt.refl _ | exact SubTop.refl _), ?_⟩
    rfl
  · have hl := long_no (l := [seed, a, b]) h
    have hs : seed.length ≤ 1000000000 := by have := hl seed (by simp); omega
    have ha : a.length ≤ 1000000000 := by have := hl a (by simp); omega
    have hb : b.length ≤ 1000000000 := by have := hl b (by simp); omega
    refine ⟨sgL g, ⟨rfl, rfl⟩, ?_⟩
    refine cond_f h ?_
    refine And.intro (nn_sgA g) ?_
    refine ⟨g, rfl, trivial, ?_⟩
    refine cond_split (fun h2 => ?_) (fun h2 => ?_)
    · refine cond_t h2 ?_
      refine cond_t h2 ?_
      refine cond_t h2 ?_
      refine cond_t h2 ?_
      refine cond_t h2 ?_
      refine cond_t h2 ?_
      refine cond_t h2 ?_
      refine ⟨(), rfl, trivial, ?_⟩
      refine ⟨_, (by first | exact SubSt.refl _ | exact SubTop.refl _), ?_⟩
      rfl
    · refine cond_f h2 ?_
      refine ⟨_, rfl, ?_⟩
      refine cond_f h2 ?_
      refine ⟨a, rfl, ha, ?_⟩
      refine cond_f h2 ?_
      refine cond_f h2 ?_
      refine ⟨_, rfl, ?_⟩
      refine cond_f h2 ?_
      refine ⟨b, rfl, hb, ?_⟩
      refine cond_f h2 ?_
      refine cond_split (fun h3 => ?_) (fun h3 => ?_)
      · refine ⟨(), rfl, trivial, ?_⟩
        refine ⟨_, (by first | exact SubSt.refl _ | exact SubTop.refl _), ?_⟩
        rfl
      · have ht : (sha a).take 16 = (sha b).take 16 := by
          rw [h2] at h3
          simpa using h3
        have q : Int.tmod (u.toNat : Int) 4 = ((u.toNat % 4 : Nat) : Int) := tmodN u.toNat 4
        obtain ⟨i, hi⟩ : ∃ i, i = Int.tmod (u.toNat : Int) 4 := ⟨_, rfl⟩
        have hin : inR i := by rw [hi, q]; exact ⟨by omega, by omega⟩
        refine ⟨_, rfl, ?_⟩
        refine And.intro (by dsimp only; omega) ?_
        refine And.intro (by decide) ?_
        dsimp only
        rw [← hi]
        refine ⟨_, rfl, ?_⟩
        refine ⟨_, rfl, ?_⟩
        refine ⟨⟨seed, i, a⟩, rfl, ⟨hs, ha⟩, ?_⟩
        refine ⟨_, rfl, ?_⟩
        refine ⟨_, rfl, ?_⟩
        refine And.intro ⟨rfl, one_sgL (signS seed i a)⟩ ?_
        refine And.intro (Nat.le_refl 4) ?_
        refine ⟨_, rfl, ?_⟩
        refine jn_to ?_
        refine ⟨_, rfl, ?_⟩
        refine ⟨_, rfl, ?_⟩
        refine ⟨⟨seed, i, b⟩, rfl, ⟨hs, hb⟩, ?_⟩
        refine ⟨_, rfl, ?_⟩
        refine ⟨_, rfl, ?_⟩
        refine And.intro ⟨rfl, one_sgL (signS seed i b)⟩ ?_
        refine And.intro (Nat.le_refl 4) ?_
        refine ⟨_, rfl, ?_⟩
        refine ⟨mks [(2, .ref 0 0), (3, .ref 1 0), (6, .ref 2 0), (7, .int .i64 (signE i)), (8, .ref 3 0), (9, .int .i64 (signE i))]
          [(0, .cells (LIn.cells ⟨seed, a, b, u, root⟩)), (1, .cells (sgL g)), (2, .cells (sgL (signS seed i a))), (3, .cells (sgL (signS seed i b)))] 4, ?_, ?_⟩
        · refine sub_ren [0, 1, 3, 4] rfl (by decide) ⟨⟨_, rfl, ⟨0, rfl, rfl⟩⟩, ⟨_, rfl, ⟨1, rfl, rfl⟩⟩, ⟨_, rfl, ⟨3, rfl, rfl⟩⟩, ⟨_, rfl, rfl⟩, ⟨_, rfl, ⟨4, rfl, rfl⟩⟩, ⟨_, rfl, rfl⟩, trivial⟩ ⟨⟨0, _, rfl, rfl, ?_⟩, ⟨1, _, rfl, rfl, ?_⟩, ⟨3, _, rfl, rfl, ?_⟩, ⟨4, _, rfl, rfl, ?_⟩, trivial⟩
          · exact ⟨_, rfl, eN (nnl_lin _) rfl⟩
          · exact ⟨_, rfl, eN (nnl_sgL _) rfl⟩
          · exact ⟨_, rfl, eN (nnl_sgL _) rfl⟩
          · exact ⟨_, rfl, eN (nnl_sgL _) rfl⟩
        have c1 : decide (signE i = 0) = true := decide_eq_true (signE_in hin)
        have s1 : sameB (signS seed i a) (signS seed i b) = true := by rw [sign_tag ht]; exact same_refl _
        have v1 : decide (verB root a g = verB root b g) = true := decide_eq_true (ver_tag ht)
        refine cond_t c1 ?_
        refine cond_t c1 ?_
        have f1 : cond (decide (signE i = 0)) (decide (signE i = 0)) false = true := by rw [c1]; rfl
        refine cond_t f1 ?_
        refine ⟨sgL (signS seed i a), ⟨rfl, rfl⟩, ?_⟩
        refine cond_t f1 ?_
        refine ⟨sgL (signS seed i b), ⟨rfl, rfl⟩, ?_⟩
        refine cond_t f1 ?_
        refine And.intro (nn_sgA _) (And.intro (nn_sgA _) ?_)
        refine ⟨⟨signS seed i a, signS seed i b⟩, rfl, ⟨signS_ok _ _ _, signS_ok _ _ _, signS_len _ _ _⟩, ?_⟩
        have f2 : cond (cond (decide (signE i = 0)) (decide (signE i = 0)) false) (sameB (signS seed i a) (signS seed i b)) false = true := by rw [f1, s1]; rfl
        refine cond_t f2 ?_
        refine cond_t f2 ?_
        refine ⟨bys root, ⟨tda lr, lr⟩, ?_⟩
        refine cond_t f2 ?_
        refine cond_t f2 ?_
        refine ⟨_, rfl, ?_⟩
        refine cond_t f2 ?_
        refine ⟨sgL g, ⟨rfl, rfl⟩, ?_⟩
        refine cond_t f2 ?_
        refine And.intro (plainA_bys _).nn (And.intro (nn_sgA _) ?_)
        refine ⟨⟨root, a, g⟩, rfl, ⟨hr, ha, hg⟩, ?_⟩
        refine cond_t f2 ?_
        refine cond_t f2 ?_
        refine ⟨bys root, ⟨tda lr, lr⟩, ?_⟩
        refine cond_t f2 ?_
        refine cond_t f2 ?_
        refine ⟨_, rfl, ?_⟩
        refine cond_t f2 ?_
        refine ⟨sgL g, ⟨rfl, rfl⟩, ?_⟩
        refine cond_t f2 ?_
        refine And.intro (plainA_bys _).nn (And.intro (nn_sgA _) ?_)
        refine ⟨⟨root, b, g⟩, rfl, ⟨hr, hb, hg⟩, ?_⟩
        refine cond_t f2 ?_
        have f3 : cond (cond (cond (decide (signE i = 0)) (decide (signE i = 0)) false) (sameB (signS seed i a) (signS seed i b)) false) (decide (verB root a g = verB root b g)) false = true := by rw [f2, v1]; rfl
        refine cond_t f3 ?_
        refine ⟨(), rfl, trivial, ?_⟩
        refine ⟨_, (by first | exact SubSt.refl _ | exact SubTop.refl _), ?_⟩
        show AV.bool (cond (cond (cond (cond (decide (signE i = 0)) (decide (signE i = 0)) false) (sameB (signS seed i a) (signS seed i b)) false) (decide (verB root a g = verB root b g)) false) true false) = AV.bool true
        rw [f3]
        rfl

end Qk

/-
  The statement of chapter 53 on what signatures reveal.
-/
namespace Qk
open Go Go.RowKit
attribute [local irreducible] sha hmac secB rootB leafK nodeB

theorem and1b (n : Nat) (h : n < 256) : andI .u8 (n : Int) 1 = ((n % 2 : Nat) : Int) := by
  unfold andI
  simp only [BitVec.toNat_and]
  have e1 : (BitVec.ofInt IntKind.u8.bits (n : Int)).toNat = n := by
    show (BitVec.ofInt 8 (n : Int)).toNat = n
    rw [BitVec.toNat_ofInt]; omega
  have e2 : (BitVec.ofInt IntKind.u8.bits 1).toNat = 2 ^ 1 - 1 := by rfl
  rw [e1, e2, Nat.and_two_pow_sub_one_eq_mod]
  have h2 : n % 2 = 0 ∨ n % 2 = 1 := by omega
  rcases h2 with h2 | h2 <;> rw [show n % 2 ^ 1 = n % 2 by rfl, h2] <;> rfl

/-- What is asked of two signatures with the same key. -/
structure Pair2 (sa sb : List UInt8) (g h : Sg) : Prop where
  gk : g.ok
  hk : h.ok
  gr : g.rev.length = 128
  go : g.oth.length = 128
  hr : h.rev.length = 128
  ho : h.oth.length = 128
  cg : chk g = 0
  ch : chk h = 0
  pa : g.path = h.path
  pl : g.path.length ≤ 1000000000
  same : ∀ p, p < 128 → bitB sa p = bitB sb p → g.rev.getD p [] = h.rev.getD p [] ∧ g.oth.getD p [] = h.oth.getD p []
  diff : ∀ p, p < 128 → ¬ bitB sa p = bitB sb p → sha (g.rev.getD p []) = h.oth.getD p []

theorem rev_at {seed m : List UInt8} {i : Int} {p : Nat} (h : p < 128) : (signG seed i m).rev.getD p [] = secB seed i p (bitB (sha m) p) := by simp [signG, List.getD, h, revAt]
theorem oth_at {seed m : List UInt8} {i : Int} {p : Nat} (h : p < 128) : (signG seed i m).oth.getD p [] = sha (secB seed i p (1 - bitB (sha m) p)) := by simp [signG, List.getD, h, othAt]

theorem pair2_sign {seed a b : List UInt8} {i : Int} (h : inR i) : Pair2 (sha a) (sha b) (signS seed i a) (signS seed i b) := by
  have la := signS_len seed a i
  have ka := signS_ok seed a i
  have kb := signS_ok seed b i
  rw [signS_eq h] at la ka
  rw [signS_eq h] at kb
  rw [signS_eq h, signS_eq h]
  exact {
    gk := ka, hk := kb, gr := by simp [signG], go := by simp [signG], hr := by simp [signG], ho := by simp [signG]
    cg := chk_sign h, ch := chk_sign h, pa := rfl, pl := la.2.2
    same := fun p hp e => by rw [rev_at hp, rev_at hp, oth_at hp, oth_at hp, e]; exact ⟨rfl, rfl⟩
    diff := fun p hp e => by
      rw [rev_at hp, oth_at hp]
      have h1 := bitB_le (sha a) p
      have h2 := bitB_le (sha b) p
      have : (bitB (sha a) p : Int) = 1 - (bitB (sha b) p : Int) := by omega
      rw [this] }

attribute [local irreducible] signS signE verB sameB chk signG bitB

set_option maxRecDepth 2000 in
theorem d_law_Reveals : Does ir_quiltlaw53_LamportReveals C_quiltlaw53_LamportReveals := by
  rintro ⟨seed, a, b, u⟩ _
  have hu : u.toNat < 256 := u.toNat_lt
  refine And.intro (by decide) ?_
  refine ⟨_, rfl, ?_⟩
  refine And.intro (by decide) ?_
  refine ⟨_, rfl, ?_⟩
  refine And.intro (show (0 + 3) * 1 ≤ 3 by decide) (And.intro (nnl_strs [seed, a, b]) ⟨[seed, a, b], rfl, by show 3 ≤ _; decide, (plain_bool _), ?_⟩)
  refine cond_split (fun h => ?_) (fun h => ?_)
  · refine ⟨(), rfl, trivial, ?_⟩
    refine ⟨_, (by first | exact SubSt.refl _ | exact SubTop.refl _), ?_⟩
    rfl
  · have hl := long_no (l := [seed, a, b]) h
    have hs : seed.length ≤ 1000000000 := by have := hl seed (by simp); omega
    have ha : a.length ≤ 1000000000 := by have := hl a (by simp); omega
    have hb : b.length ≤ 1000000000 := by have := hl b (by simp); omega
    have q : Int.tmod (u.toNat : Int) 4 = ((u.toNat % 4 : Nat) : Int) := tmodN u.toNat 4
    obtain ⟨i, hi⟩ : ∃ i, i = Int.tmod (u.toNat : Int) 4 := ⟨_, rfl⟩
    have hin : inR i := by rw [hi, q]; exact ⟨by omega, by omega⟩
    refine And.intro (by dsimp only; omega) ?_
    refine And.intro (by decide) ?_
    dsimp only
    rw [← hi]
    refine ⟨⟨seed, i, a⟩, rfl, ⟨hs, ha⟩, ?_⟩
    refine ⟨_, rfl, ?_⟩
    refine ⟨_, rfl, ?_⟩
    refine And.intro ⟨rfl, one_sgL (signS seed i a)⟩ ?_
    refine And.intro (Nat.le_refl 4) ?_
    refine ⟨_, rfl, ?_⟩
    refine jn_to ?_
    refine ⟨⟨seed, i, b⟩, rfl, ⟨hs, hb⟩, ?_⟩
    refine ⟨_, rfl, ?_⟩
    refine ⟨_, rfl, ?_⟩
    refine And.intro ⟨rfl, one_sgL (signS seed i b)⟩ ?_
    refine And.intro (Nat.le_refl 4) ?_
    refine ⟨_, rfl, ?_⟩
    have P := pair2_sign (seed := seed) (a := a) (b := b) hin
    have se : signE i = 0 := signE_in hin
    obtain ⟨g, hg⟩ : ∃ g, g = signS seed i a := ⟨_, rfl⟩
    obtain ⟨k, hk⟩ : ∃ k, k = signS seed i b := ⟨_, rfl⟩
    rw [← hg, ← hk] at P
    obtain ⟨e, he⟩ : ∃ e, e = signE i := ⟨_, rfl⟩
    refine ⟨mks [(7, .str a), (8, .str b), (10, .ref 0 0), (11, .int .i64 (signE i)), (12, .ref 1 0), (13, .int .i64 (signE i))]
      [(0, .cells (sgL (signS seed i a))), (1, .cells (sgL (signS seed i b)))] 2, ?_, ?_⟩
    · refine sub_ren [2, 3] rfl (by decide) ⟨⟨_, rfl, rfl⟩, ⟨_, rfl, rfl⟩, ⟨_, rfl, ⟨2, rfl, rfl⟩⟩, ⟨_, rfl, rfl⟩, ⟨_, rfl, ⟨3, rfl, rfl⟩⟩, ⟨_, rfl, rfl⟩, trivial⟩ ⟨⟨2, _, rfl, rfl, ?_⟩, ⟨3, _, rfl, rfl, ?_⟩, trivial⟩
      · exact ⟨_, rfl, eN (nnl_sgL _) rfl⟩
      · exact ⟨_, rfl, eN (nnl_sgL _) rfl⟩
    rw [← he, ← hg, ← hk]
    rw [← he] at se
    clear hg hk he hi q hin
    have f1 : (!decide (e = 0)) = false := by rw [se]; rfl
    iterate 2 (refine cond_f f1 ?_)
    have f2 : cond (!decide (e = 0)) true (!decide (e = 0)) = false := by rw [f1]; rfl
    iterate 1 (refine cond_f f2 ?_)
    refine ⟨sgL g, ⟨rfl, rfl⟩, ?_⟩
    iterate 1 (refine cond_f f2 ?_)
    refine And.intro (nn_sgA g) ?_
    refine ⟨g, rfl, trivial, ?_⟩
    iterate 1 (refine cond_f f2 ?_)
    have f3 : cond (cond (!decide (e = 0)) true (!decide (e = 0))) true (!decide (chk g = 0)) = false := by rw [f2, P.cg]; rfl
    iterate 1 (refine cond_f f3 ?_)
    refine ⟨sgL k, ⟨rfl, rfl⟩, ?_⟩
    iterate 1 (refine cond_f f3 ?_)
    refine And.intro (nn_sgA k) ?_
    refine ⟨k, rfl, trivial, ?_⟩
    iterate 1 (refine cond_f f3 ?_)
    have f4 : cond (cond (cond (!decide (e = 0)) true (!decide (e = 0))) true (!decide (chk g = 0))) true (!decide (chk k = 0)) = false := by rw [f3, P.ch]; rfl
    iterate 1 (refine cond_f f4 ?_)
    iterate 1 (refine cond_f f4 ?_)
    refine ⟨_, rfl, ?_⟩
    iterate 2 (refine cond_f f4 ?_)
    have d1 : (!decide ((g.rev.length : Int) = 128)) = false := by rw [P.gr]; rfl
    have f5 : cond (cond (cond (cond (!decide (e = 0)) true (!decide (e = 0))) true (!decide (chk g = 0))) true (!decide (chk k = 0))) true (!decide ((g.rev.length : Int) = 128)) = false := by rw [f4, d1]; rfl
    iterate 1 (refine cond_f f5 ?_)
    iterate 1 (refine cond_f f5 ?_)
    refine ⟨_, rfl, ?_⟩
    iterate 2 (refine cond_f f5 ?_)
    have d2 : (!decide ((k.oth.length : Int) = 128)) = false := by rw [P.ho]; rfl
    have f6 : cond (cond (cond (cond (cond (!decide (e = 0)) true (!decide (e = 0))) true (!decide (chk g = 0))) true (!decide (chk k = 0))) true (!decide ((g.rev.length : Int) = 128))) true (!decide ((k.oth.length : Int) = 128)) = false := by rw [f5, d2]; rfl
    iterate 1 (refine cond_f f6 ?_)
    iterate 1 (refine cond_f f6 ?_)
    refine ⟨_, rfl, ?_⟩
    iterate 2 (refine cond_f f6 ?_)
    have d3 : (!decide ((g.oth.length : Int) = 128)) = false := by rw [P.go]; rfl
    have f7 : cond (cond (cond (cond (cond (cond (!decide (e = 0)) true (!decide (e = 0))) true (!decide (chk g = 0))) true (!decide (chk k = 0))) true (!decide ((g.rev.length : Int) = 128))) true (!decide ((k.oth.length : Int) = 128))) true (!decide ((g.oth.length : Int) = 128)) = false := by rw [f6, d3]; rfl
    iterate 1 (refine cond_f f7 ?_)
    iterate 1 (refine cond_f f7 ?_)
    refine ⟨_, rfl, ?_⟩
    iterate 2 (refine cond_f f7 ?_)
    have d4 : (!decide ((k.rev.length : Int) = 128)) = false := by rw [P.hr]; rfl
    have f8 : cond (cond (cond (cond (cond (cond (cond (!decide (e = 0)) true (!decide (e = 0))) true (!decide (chk g = 0))) true (!decide (chk k = 0))) true (!decide ((g.rev.length : Int) = 128))) true (!decide ((k.oth.length : Int) = 128))) true (!decide ((g.oth.length : Int) = 128))) true (!decide ((k.rev.length : Int) = 128)) = false := by rw [f7, d4]; rfl
    refine cond_f f8 ?_
    refine jn_to ?_
    have lna : (bys (sha a)).length = 32 := by rw [bys_length, sha_len]
    have lnb : (bys (sha b)).length = 32 := by rw [bys_length, sha_len]
    refine ⟨a, rfl, by show a.length ≤ _; omega, ?_⟩
    refine ⟨b, rfl, by show b.length ≤ _; omega, ?_⟩
    refine And.intro ⟨lna, bys_all _⟩ ?_
    refine And.intro (Nat.le_refl 32) ?_
    refine ⟨_, lay_all (vs := bys (sha a)) lna, ?_⟩
    refine And.intro ⟨lnb, bys_all _⟩ ?_
    refine And.intro (Nat.le_refl 32) ?_
    refine ⟨_, lay_all (vs := bys (sha b)) lnb, ?_⟩
    refine ⟨mks [(10, .ref 0 0), (12, .ref 1 0), (14, .ref 2 0), (15, .ref 3 0)]
      [(0, .cells (sgL g)), (1, .cells (sgL k)), (2, .cells (bys (sha a))), (3, .cells (bys (sha b)))] 4, ?_, ?_⟩
    · refine sub_ren [0, 1, 2, 3] rfl (by decide) ⟨⟨_, rfl, ⟨0, rfl, rfl⟩⟩, ⟨_, rfl, ⟨1, rfl, rfl⟩⟩, ⟨_, rfl, ⟨2, rfl, rfl⟩⟩, ⟨_, rfl, ⟨3, rfl, rfl⟩⟩, trivial⟩ ⟨⟨0, _, rfl, rfl, ?_⟩, ⟨1, _, rfl, rfl, ?_⟩, ⟨2, _, rfl, rfl, ⟨_, rfl, eB rfl⟩⟩, ⟨3, _, rfl, rfl, ⟨_, rfl, eB rfl⟩⟩, trivial⟩
      · exact ⟨_, rfl, eN (nnl_sgL _) rfl⟩
      · exact ⟨_, rfl, eN (nnl_sgL _) rfl⟩
    have lsa := sha_len a
    have lsb := sha_len b
    obtain ⟨sa, esa⟩ : ∃ x, x = sha a := ⟨_, rfl⟩
    obtain ⟨sb, esb⟩ : ∃ x, x = sha b := ⟨_, rfl⟩
    rw [← esa] at lsa lna P ⊢
    rw [← esb] at lsb lnb P ⊢
    clear esa esb f1 f2 f3 f4 f5 f6 f7 f8 d1 d2 d3 d4
    refine ⟨Nat, fun p => p ≤ 128, fun p => mks [(10, .ref 0 0), (12, .ref 1 0), (14, .ref 2 0), (15, .ref 3 0), (90, .int .i64 p)]
      [(0, .cells (sgL g)), (1, .cells (sgL k)), (2, .cells (bys sa)), (3, .cells (bys sb))] 4, fun p => 128 - p, 0, by omega, ?_, ?_⟩
    · refine sub_ren [0, 1, 2, 3] rfl (by decide) ⟨⟨_, rfl, ⟨0, rfl, rfl⟩⟩, ⟨_, rfl, ⟨1, rfl, rfl⟩⟩, ⟨_, rfl, ⟨2, rfl, rfl⟩⟩, ⟨_, rfl, ⟨3, rfl, rfl⟩⟩, ⟨_, rfl, rfl⟩, trivial⟩ ⟨⟨0, _, rfl, rfl, ?_⟩, ⟨1, _, rfl, rfl, ?_⟩, ⟨2, _, rfl, rfl, ⟨_, rfl, eB rfl⟩⟩, ⟨3, _, rfl, rfl, ⟨_, rfl, eB rfl⟩⟩, trivial⟩
      · exact ⟨_, rfl, eN (nnl_sgL _) rfl⟩
      · exact ⟨_, rfl, eN (nnl_sgL _) rfl⟩
    · intro p hp
      refine cond_split (fun h => ?_) (fun h => ?_)
      · have hT : (p : Int) < 128 := of_decide_eq_true h
        obtain ⟨ca, hca⟩ : ∃ c, c = sa.getD (p / 8) 0 := ⟨_, rfl⟩
        obtain ⟨cb, hcb⟩ : ∃ c, c = sb.getD (p / 8) 0 := ⟨_, rfl⟩
        have cal : ca.toNat < 256 := ca.toNat_lt
        have cbl : cb.toNat < 256 := cb.toNat_lt
        have q : Int.tdiv (p : Int) 8 = ((p / 8 : Nat) : Int) := tdivN p 8
        have r : Int.tmod (p : Int) 8 = ((p % 8 : Nat) : Int) := tmodN p 8
        have hr : p % 8 < 8 := Nat.mod_lt _ (by decide)
        have e1 : 0 + (Int.tdiv (p : Int) 8).toNat * 1 = p / 8 := by rw [q]; omega
        have e2 : (7 : Int) - Int.tmod (p : Int) 8 = ((7 - p % 8 : Nat) : Int) := by rw [r]; omega
        have bit : ∀ c : UInt8, andI .u8 (shrI .u8 (c.toNat : Int) (7 - Int.tmod (p : Int) 8)) 1 = ((c.toNat / 2 ^ (7 - p % 8) % 2 : Nat) : Int) := by
          intro c
          have hc : c.toNat < 256 := c.toNat_lt
          rw [e2, shrN .u8 _ _ (show 7 - p % 8 ≤ 8 by omega)]
          obtain ⟨g, hg⟩ : ∃ g, g = c.toNat / 2 ^ (7 - p % 8) := ⟨_, rfl⟩
          rw [← hg]
          have hlt : g ≤ c.toNat := by rw [hg]; exact Nat.div_le_self _ _
          exact and1b g (by omega)
        have sm : decide (andI .u8 (shrI .u8 (ca.toNat : Int) (7 - Int.tmod (p : Int) 8)) 1 = andI .u8 (shrI .u8 (cb.toNat : Int) (7 - Int.tmod (p : Int) 8)) 1) = decide (bitB sa p = bitB sb p) := by
          rw [bit, bit, hca, hcb, decide_eq_decide]
          unfold bitB
          omega
        refine jn_to ?_
        refine And.intro (by decide) ?_
        refine And.intro (by rw [q]; constructor <;> omega) ?_
        refine And.intro (by rw [q]; omega) ?_
        refine ⟨.int .u8 (ca.toNat : Int), by rw [e1, hca]; exact bys_get (by omega), ?_⟩
        refine And.intro (by decide) ?_
        refine And.intro (by rw [r]; constructor <;> omega) ?_
        refine And.intro (by rw [r]; omega) ?_
        refine And.intro (by decide) ?_
        refine And.intro (by rw [q]; constructor <;> omega) ?_
        refine And.intro (by rw [q]; omega) ?_
        refine ⟨.int .u8 (cb.toNat : Int), by rw [e1, hcb]; exact bys_get (by omega), ?_⟩
        refine And.intro (by decide) ?_
        refine And.intro (by rw [r]; constructor <;> omega) ?_
        refine And.intro (by rw [r]; omega) ?_
        refine ⟨mks [(10, .ref 0 0), (12, .ref 1 0), (14, .ref 2 0), (15, .ref 3 0), (16, .int .i64 p), (17, .bool (decide (bitB sa p = bitB sb p))), (90, .int .i64 p)]
          [(0, .cells (sgL g)), (1, .cells (sgL k)), (2, .cells (bys sa)), (3, .cells (bys sb))] 4, ?_, ?_⟩
        · refine sub_ren [0, 1, 2, 3] rfl (by decide) ⟨⟨_, rfl, ⟨0, rfl, rfl⟩⟩, ⟨_, rfl, ⟨1, rfl, rfl⟩⟩, ⟨_, rfl, ⟨2, rfl, rfl⟩⟩, ⟨_, rfl, ⟨3, rfl, rfl⟩⟩, ⟨_, rfl, rfl⟩, ⟨_, rfl, eBo ?_⟩, ⟨_, rfl, rfl⟩, trivial⟩ ⟨⟨0, _, rfl, rfl, ?_⟩, ⟨1, _, rfl, rfl, ?_⟩, ⟨2, _, rfl, rfl, ⟨_, rfl, eB rfl⟩⟩, ⟨3, _, rfl, rfl, ⟨_, rfl, eB rfl⟩⟩, trivial⟩
          · exact sm
          · exact ⟨_, rfl, eN (nnl_sgL _) rfl⟩
          · exact ⟨_, rfl, eN (nnl_sgL _) rfl⟩
        clear sm bit hca hcb cal cbl e1 e2 q r hr
        have e0 : (p : Int).toNat * 32 = p * 32 := by omega
        have lgr : (g.rev.getD p []).length = 32 := getD_len P.gk.1 (by rw [P.gr]; omega)
        have lgo : (g.oth.getD p []).length = 32 := getD_len P.gk.2.1 (by rw [P.go]; omega)
        have lkr : (k.rev.getD p []).length = 32 := getD_len P.hk.1 (by rw [P.hr]; omega)
        have lko : (k.oth.getD p []).length = 32 := getD_len P.hk.2.1 (by rw [P.ho]; omega)
        have lbr : (bys (g.rev.getD p [])).length = 32 := by rw [bys_length, lgr]
        by_cases hb : bitB sa p = bitB sb p
        · have s1 : decide (bitB sa p = bitB sb p) = true := decide_eq_true hb
          obtain ⟨eqr, eqo⟩ := P.same p (by omega) hb
          have x1 : (!decide (g.rev.getD p [] = k.rev.getD p [])) = false := by rw [decide_eq_true eqr]; rfl
          have x2 : (!decide (g.oth.getD p [] = k.oth.getD p [])) = false := by rw [decide_eq_true eqo]; rfl
          iterate 1 (refine cond_t s1 ?_)
          iterate 1 (refine cond_t s1 ?_)
          refine ⟨_, rfl, ?_⟩
          iterate 1 (refine cond_t s1 ?_)
          iterate 1 (refine cond_t s1 ?_)
          refine And.intro ⟨rfl, by decide, by omega, by rw [P.gr]; omega⟩ ?_
          iterate 1 (refine cond_t s1 ?_)
          refine And.intro (nnl_bys _) ⟨bys (g.rev.getD p []), ⟨by rw [e0, bys_flat P.gk.1 (by rw [P.gr]; omega)], by rw [bys_length, getD_len P.gk.1 (by rw [P.gr]; omega)]⟩, ?_⟩
          iterate 1 (refine cond_t s1 ?_)
          iterate 1 (refine cond_t s1 ?_)
          refine ⟨_, rfl, ?_⟩
          iterate 1 (refine cond_t s1 ?_)
          iterate 1 (refine cond_t s1 ?_)
          refine And.intro ⟨rfl, by decide, by omega, by rw [P.hr]; omega⟩ ?_
          iterate 1 (refine cond_t s1 ?_)
          refine And.intro (nnl_bys _) ⟨bys (k.rev.getD p []), ⟨by rw [e0, bys_flat P.hk.1 (by rw [P.hr]; omega)], by rw [bys_length, getD_len P.hk.1 (by rw [P.hr]; omega)]⟩, ?_⟩
          iterate 1 (refine cond_t s1 ?_)
          refine ⟨_, eq_bys lgr lkr, ?_⟩
          iterate 1 (refine cond_t s1 ?_)
          iterate 1 (refine cond_f x1 ?_)
          iterate 1 (refine cond_f x1 ?_)
          refine ⟨_, rfl, ?_⟩
          iterate 1 (refine cond_f x1 ?_)
          iterate 1 (refine cond_f x1 ?_)
          refine And.intro ⟨rfl, by decide, by omega, by rw [P.go]; omega⟩ ?_
          iterate 1 (refine cond_f x1 ?_)
          refine And.intro (nnl_bys _) ⟨bys (g.oth.getD p []), ⟨by rw [e0, bys_flat P.gk.2.1 (by rw [P.go]; omega)], by rw [bys_length, getD_len P.gk.2.1 (by rw [P.go]; omega)]⟩, ?_⟩
          iterate 1 (refine cond_f x1 ?_)
          iterate 1 (refine cond_f x1 ?_)
          refine ⟨_, rfl, ?_⟩
          iterate 1 (refine cond_f x1 ?_)
          iterate 1 (refine cond_f x1 ?_)
          refine And.intro ⟨rfl, by decide, by omega, by rw [P.ho]; omega⟩ ?_
          iterate 1 (refine cond_f x1 ?_)
          refine And.intro (nnl_bys _) ⟨bys (k.oth.getD p []), ⟨by rw [e0, bys_flat P.hk.2.1 (by rw [P.ho]; omega)], by rw [bys_length, getD_len P.hk.2.1 (by rw [P.ho]; omega)]⟩, ?_⟩
          iterate 1 (refine cond_f x1 ?_)
          refine ⟨_, eq_bys lgo lko, ?_⟩
          iterate 1 (refine cond_t s1 ?_)
          refine cond_f (b := cond (decide (bitB sa p = bitB sb p)) (cond (!decide (g.rev.getD p [] = k.rev.getD p [])) true (!decide (g.oth.getD p [] = k.oth.getD p []))) false) (by rw [s1, x1, x2]; rfl) ?_
          refine ⟨_, rfl, ?_⟩
          refine And.intro ⟨rfl, by decide, by omega, by rw [P.gr]; omega⟩ ?_
          refine And.intro (nnl_bys _) ⟨bys (g.rev.getD p []), ⟨by rw [e0, bys_flat P.gk.1 (by rw [P.gr]; omega)], by rw [bys_length, getD_len P.gk.1 (by rw [P.gr]; omega)]⟩, ?_⟩
          refine And.intro ⟨lbr, bys_all _⟩ ?_
          refine And.intro (Nat.le_refl 32) ?_
          refine ⟨_, lay_all (vs := bys (g.rev.getD p [])) lbr, ?_⟩
          have n1 : (!decide (bitB sa p = bitB sb p)) = false := by rw [s1]; rfl
          iterate 9 (refine cond_f n1 ?_)
          iterate 1 (refine cond_f n1 ?_)
          refine And.intro (by omega) ?_
          refine ⟨p + 1, by omega, by dsimp only; omega, ?_⟩
          refine sub_ren [0, 1, 2, 3] rfl (by decide) ⟨⟨_, rfl, ⟨0, rfl, rfl⟩⟩, ⟨_, rfl, ⟨1, rfl, rfl⟩⟩, ⟨_, rfl, ⟨2, rfl, rfl⟩⟩, ⟨_, rfl, ⟨3, rfl, rfl⟩⟩, ⟨_, rfl, eI (by omega)⟩, trivial⟩ ⟨⟨0, _, rfl, rfl, ?_⟩, ⟨1, _, rfl, rfl, ?_⟩, ⟨2, _, rfl, rfl, ⟨_, rfl, eB rfl⟩⟩, ⟨3, _, rfl, rfl, ⟨_, rfl, eB rfl⟩⟩, trivial⟩
          · exact ⟨_, rfl, eN (nnl_sgL _) rfl⟩
          · exact ⟨_, rfl, eN (nnl_sgL _) rfl⟩
        · have s0 : decide (bitB sa p = bitB sb p) = false := decide_eq_false hb
          have df := P.diff p (by omega) hb
          have n1 : (!decide (bitB sa p = bitB sb p)) = true := by rw [s0]; rfl
          iterate 12 (refine cond_f s0 ?_)
          iterate 1 (refine cond_f s0 ?_)
          iterate 1 (refine cond_f s0 ?_)
          refine ⟨_, rfl, ?_⟩
          refine And.intro ⟨rfl, by decide, by omega, by rw [P.gr]; omega⟩ ?_
          refine And.intro (nnl_bys _) ⟨bys (g.rev.getD p []), ⟨by rw [e0, bys_flat P.gk.1 (by rw [P.gr]; omega)], by rw [bys_length, getD_len P.gk.1 (by rw [P.gr]; omega)]⟩, ?_⟩
          refine And.intro ⟨lbr, bys_all _⟩ ?_
          refine And.intro (Nat.le_refl 32) ?_
          refine ⟨_, lay_all (vs := bys (g.rev.getD p [])) lbr, ?_⟩
          iterate 1 (refine cond_t n1 ?_)
          refine And.intro (by decide) ?_
          iterate 1 (refine cond_t n1 ?_)
          refine And.intro rfl ⟨g.rev.getD p [], ⟨(tda lbr).symm, lgr⟩, ?_⟩
          iterate 1 (refine cond_t n1 ?_)
          refine ⟨g.rev.getD p [], rfl, by show (g.rev.getD p []).length ≤ _; omega, ?_⟩
          iterate 1 (refine cond_t n1 ?_)
          iterate 1 (refine cond_t n1 ?_)
          refine ⟨_, rfl, ?_⟩
          iterate 1 (refine cond_t n1 ?_)
          iterate 1 (refine cond_t n1 ?_)
          refine And.intro ⟨rfl, by decide, by omega, by rw [P.ho]; omega⟩ ?_
          iterate 1 (refine cond_t n1 ?_)
          refine And.intro (nnl_bys _) ⟨bys (k.oth.getD p []), ⟨by rw [e0, bys_flat P.hk.2.1 (by rw [P.ho]; omega)], by rw [bys_length, getD_len P.hk.2.1 (by rw [P.ho]; omega)]⟩, ?_⟩
          iterate 1 (refine cond_t n1 ?_)
          refine ⟨_, eq_bys (sha_len _) lko, ?_⟩
          have x3 : (!decide (sha (g.rev.getD p []) = k.oth.getD p [])) = false := by rw [decide_eq_true df]; rfl
          refine cond_f (b := cond (!decide (bitB sa p = bitB sb p)) (!decide (sha (g.rev.getD p []) = k.oth.getD p [])) false) (by rw [n1, x3]; rfl) ?_
          refine And.intro (by omega) ?_
          refine ⟨p + 1, by omega, by dsimp only; omega, ?_⟩
          refine sub_ren [0, 1, 2, 3] rfl (by decide) ⟨⟨_, rfl, ⟨0, rfl, rfl⟩⟩, ⟨_, rfl, ⟨1, rfl, rfl⟩⟩, ⟨_, rfl, ⟨2, rfl, rfl⟩⟩, ⟨_, rfl, ⟨3, rfl, rfl⟩⟩, ⟨_, rfl, eI (by omega)⟩, trivial⟩ ⟨⟨0, _, rfl, rfl, ?_⟩, ⟨1, _, rfl, rfl, ?_⟩, ⟨2, _, rfl, rfl, ⟨_, rfl, eB rfl⟩⟩, ⟨3, _, rfl, rfl, ⟨_, rfl, eB rfl⟩⟩, trivial⟩
          · exact ⟨_, rfl, eN (nnl_sgL _) rfl⟩
          · exact ⟨_, rfl, eN (nnl_sgL _) rfl⟩
      · have hF : ¬ (p : Int) < 128 := of_decide_eq_false h
        refine ⟨_, rfl, ?_⟩
        refine ⟨_, rfl, ?_⟩
        refine ⟨⟨g.path, k.path⟩, rfl, ⟨P.gk.2.2, P.hk.2.2, P.pl⟩, ?_⟩
        have y1 : decide (g.path = k.path) = true := decide_eq_true P.pa
        iterate 1 (refine cond_t y1 ?_)
        refine ⟨(), rfl, trivial, ?_⟩
        refine ⟨_, (by first | exact SubSt.refl _ | exact SubTop.refl _), ?_⟩
        show AV.bool (cond (decide (g.path = k.path)) true false) = AV.bool true
        rw [y1]
        rfl

end Qk

/-
  The arguments of chapter 53's statements, out of their shapes.
-/
namespace Qk
open Go Go.RowKit

def dTy : Ty := .arr 32 (.int .u8)
def dlTy : Ty := .sl dTy
def sgTy : Ty := .pair (.int .i64) (.pair dlTy (.pair dlTy (.pair dlTy .unit)))
def liTy : Ty := .pair .str (.pair .str (.pair .str (.pair (.int .u8) (.pair dTy .unit))))

theorem fits_digests : ∀ {xs : List (List AV)}, (∀ x ∈ xs, Fits dTy x) → ∃ ds, All32 ds ∧ ds.length = xs.length ∧ xs.flatten = bys ds.flatten
  | [], _ => ⟨[], (by intro d hd; cases hd), rfl, rfl⟩
  | x :: xs, h => by
    obtain ⟨l, h1, rfl⟩ := fits_arr (h x (by simp))
    obtain ⟨ds, h2, h3, h4⟩ := fits_digests (xs := xs) (fun y hy => h y (by simp [hy]))
    refine ⟨l :: ds, fun d hd => ?_, by simp [h3], ?_⟩
    · rcases List.mem_cons.1 hd with rfl | hd
      · exact h1
      · exact h2 d hd
    · rw [List.flatten_cons, h4, List.flatten_cons]
      simp [bys]
theorem fits_dl {cs : List AV} (h : Fits dlTy cs) : ∃ ds, All32 ds ∧ cs = [dl ds] := by
  obtain ⟨xs, rfl, hx, _⟩ := h
  obtain ⟨ds, h1, h2, h3⟩ := fits_digests hx
  refine ⟨ds, h1, ?_⟩
  rw [h3, ← h2]; rfl
theorem fits_sg {cs : List AV} (h : Fits sgTy cs) : ∃ g : Sg, g.ok ∧ cs = sgL g := by
  obtain ⟨_, _, rfl, ⟨n, rfl, _⟩, _, _, rfl, ha, _, _, rfl, hb, _, _, rfl, hc, rfl⟩ := h
  obtain ⟨a, a1, rfl⟩ := fits_dl ha
  obtain ⟨b, b1, rfl⟩ := fits_dl hb
  obtain ⟨c, c1, rfl⟩ := fits_dl hc
  exact ⟨⟨n, a, b, c⟩, ⟨a1, b1, c1⟩, rfl⟩
theorem fits_str {cs : List AV} (h : Fits .str cs) : ∃ l, cs = [.str l] := by
  obtain ⟨l, rfl, _⟩ := h
  exact ⟨l, rfl⟩
theorem fits_two {cs : List AV} (h : Fits (.arr 2 .str) cs) : ∃ a b, cs = [.str a, .str b] := by
  obtain ⟨xs, hn, rfl, hx⟩ := h
  match xs, hn with
  | [x, y], _ =>
    obtain ⟨a, rfl⟩ := fits_str (hx x (by simp))
    obtain ⟨b, rfl⟩ := fits_str (hx y (by simp))
    exact ⟨a, b, rfl⟩
theorem fits_li {cs : List AV} (h : Fits liTy cs) : ∃ x : LIn, x.root.length = 32 ∧ cs = x.cells := by
  obtain ⟨_, _, rfl, ⟨a, rfl, _⟩, _, _, rfl, ⟨b, rfl, _⟩, _, _, rfl, ⟨c, rfl, _⟩, _, _, rfl, hi, _, _, rfl, hr, rfl⟩ := h
  obtain ⟨i, rfl⟩ := fits_u8 hi
  obtain ⟨r, hl, rfl⟩ := fits_arr hr
  refine ⟨⟨a, b, c, i, r⟩, hl, ?_⟩
  simp [LIn.cells]
theorem fits_two_sg {cs : List AV} (h : Fits (.arr 2 sgTy) cs) : ∃ g k : Sg, (g.ok ∧ k.ok) ∧ cs = sgL g ++ sgL k := by
  obtain ⟨xs, hn, rfl, hx⟩ := h
  match xs, hn with
  | [x, y], _ =>
    obtain ⟨a, ha, rfl⟩ := fits_sg (hx x (by simp))
    obtain ⟨b, hb, rfl⟩ := fits_sg (hx y (by simp))
    exact ⟨a, b, ⟨ha, hb⟩, by simp⟩
end Qk

/-
  Chapter 53: strings with the same digest; contracts of the last two statements.
-/
namespace Qk
open Go Go.RowKit

/-- Two different strings of the list have the same digest. -/
def colB (l : List (List UInt8)) : Bool := l.any fun s => l.any fun t => decide (sha s = sha t) && !decide (s = t)
theorem colB_no {l : List (List UInt8)} : colB l = false ↔ ∀ s ∈ l, ∀ t ∈ l, sha s = sha t → s = t := by
  unfold colB
  rw [List.any_eq_false]
  constructor
  · intro h s hs t ht e
    have h1 := h s hs
    rw [Bool.not_eq_true, List.any_eq_false] at h1
    have h2 := h1 t ht
    simp only [Bool.and_eq_true, decide_eq_true_eq, Bool.not_eq_true', decide_eq_false_iff_not, not_and, Classical.not_not] at h2
    exact h2 e
  · intro h s hs
    rw [Bool.not_eq_true, List.any_eq_false]
    intro t ht
    simp only [Bool.and_eq_true, decide_eq_true_eq, Bool.not_eq_true', decide_eq_false_iff_not, not_and, Classical.not_not]
    exact fun e => h s hs t ht e
theorem colB_yes {l : List (List UInt8)} {s t : List UInt8} (hs : s ∈ l) (ht : t ∈ l) (e : sha s = sha t) (h : ¬ s = t) : colB l = true := by
  cases hc : colB l with
  | true => rfl
  | false => exact absurd (colB_no.1 hc s hs t ht e) h

/-- What the map of the digests met holds. -/
def metM (l : List (List UInt8)) : AV → AV → Prop := fun k v => ∃ s ∈ l, k = .agg (bys (sha s)) ∧ v = .str s
theorem metM_nil : metM [] = noM := by
  funext k v
  simp [metM, noM]
theorem metM_put {l : List (List UInt8)} {s : List UInt8} (h : ∀ t ∈ l, sha t = sha s → t = s) : putM (metM l) (.agg (bys (sha s))) (.str s) = metM (l ++ [s]) := by
  funext k v
  unfold putM metM
  refine propext ⟨?_, ?_⟩
  · rintro (⟨rfl, rfl⟩ | ⟨h1, t, ht, rfl, rfl⟩)
    · exact ⟨s, by simp, rfl, rfl⟩
    · exact ⟨t, by simp [ht], rfl, rfl⟩
  · rintro ⟨t, ht, rfl, rfl⟩
    rcases List.mem_append.1 ht with ht | ht
    · by_cases e : sha t = sha s
      · have := h t ht e
        subst this
        exact .inl ⟨rfl, rfl⟩
      · refine .inr ⟨fun e1 => e ?_, t, ht, rfl, rfl⟩
        exact bys_inj.1 (by simpa using e1)
    · simp only [List.mem_singleton] at ht
      subst ht
      exact .inl ⟨rfl, rfl⟩

def C_quiltlaw53_collide : PC := ⟨List (List UInt8), fun l => [.ilist 1 l.length (strs l)], fun l => l.length ≤ 1000000000 ∧ ∀ s ∈ l, s.length ≤ 1000000000, fun l => .bool (colB l)⟩
def C_quiltlaw53_LamportUnique : PC := ⟨List UInt8 × (Sg × Sg) × List UInt8 × List UInt8, fun x => [.agg (bys x.1), .agg (sgL x.2.1.1 ++ sgL x.2.1.2), .agg [.str x.2.2.1, .str x.2.2.2]], fun x => x.1.length = 32 ∧ x.2.1.1.ok ∧ x.2.1.2.ok, fun _ => .bool true⟩
def C_quiltlaw53_LamportTwice : PC := ⟨List UInt8 × Sg × List UInt8 × List UInt8, fun x => [.agg (bys x.1), sgA x.2.1, .agg [.str x.2.2.1, .str x.2.2.2]], fun x => x.1.length = 32 ∧ x.2.1.ok, fun _ => .bool true⟩

end Qk

/-
  The last statements of chapter 53 in the executor's form (printed by a program).
-/
namespace Qk
open Go Go.RowKit

/-- quilt/quiltlaw53.collide -/
def ir_quiltlaw53_collide : IF := ⟨(.seq (.ops [⟨(some 2), none, .mov (.const (.bool false))⟩])
  (.seq (.ops [⟨(some 9), none, .mkmap false (repl 32 [some (some .u8)])⟩,
    ⟨(some 3), none, .mov (t 9)⟩])
  (.seq (.seq (.ops [⟨(some 10), none, .mov (t 0)⟩,
    ⟨(some 11), none, .lenL (t 10)⟩,
    ⟨(some 12), none, .mov (ci 0)⟩])
  (.block 0 (.loop (.seq (.ops [⟨(some 13), none, .bin .lss (t 12) (t 11)⟩])
  (.seq (.cond (t 13) .skip
  (.exit 0))
  (.seq (.block 1 (.seq (.ops [⟨(some 14), none, .idxL 1 (t 10) (t 12)⟩,
    ⟨(some 15), none, .load1 (t 14)⟩,
    ⟨(some 5), none, .mov (t 15)⟩])
  (.seq (.ops [⟨(some 16), none, .mov (t 5)⟩,
    ⟨(some 17), none, .pcall C_quiltref02_Sum [(t 16)]⟩,
    ⟨(some 6), none, .alloc (repl 32 [.int .u8 0])⟩,
    ⟨none, none, .storN 32 (t 6) (t 17)⟩])
  (.seq (.seq (.ops [⟨(some 19), none, .mov (t 3)⟩,
    ⟨(some 20), none, .loadN 32 (t 6)⟩,
    ⟨(some 21), none, .mlook false (repl 32 [some (some .u8)]) (.str []) true (t 19) (t 20)⟩,
    ⟨(some 18), none, .mov (t 21)⟩,
    ⟨(some 22), none, .extr (t 18) 0⟩,
    ⟨(some 23), none, .extr (t 18) 1⟩,
    ⟨(some 7), none, .mov (t 22)⟩,
    ⟨(some 8), none, .mov (t 23)⟩])
  (.seq (.ops [⟨(some 24), none, .mov (t 8)⟩,
    ⟨(some 25), none, .mov (t 24)⟩,
    ⟨(some 26), (some (25, true)), .mov (t 7)⟩,
    ⟨(some 27), (some (25, true)), .mov (t 5)⟩,
    ⟨(some 28), (some (25, true)), .bin .neq (t 26) (t 27)⟩,
    ⟨(some 29), none, .pick (t 25) (t 28) (.const (.bool false))⟩])
  (.cond (t 29) (.seq (.ops [⟨(some 2), none, .mov (.const (.bool true))⟩])
  .ret)
  .skip)))
  (.ops [⟨(some 30), none, .mov (t 3)⟩,
    ⟨(some 31), none, .loadN 32 (t 6)⟩,
    ⟨(some 32), none, .mov (t 5)⟩,
    ⟨none, none, .mput false (repl 32 [some (some .u8)]) (t 30) (t 31) (t 32)⟩])))))
  (.ops [⟨(some 33), none, .bin .add (t 12) (ci 1)⟩,
    ⟨(some 12), none, .mov (t 33)⟩])))))))
  (.seq (.ops [⟨(some 2), none, .mov (.const (.bool false))⟩])
  .ret)))), [.tmp 2]⟩
/-- quilt/quiltlaw53.LamportUnique -/
def ir_quiltlaw53_LamportUnique : IF := ⟨(.seq (.ops [⟨(some 3), none, .box (t 0)⟩,
    ⟨(some 4), none, .box (t 1)⟩,
    ⟨(some 5), none, .box (t 2)⟩,
    ⟨(some 6), none, .mov (.const (.bool false))⟩])
  (.seq (.jn (.rops [(1, 8), (3, 8), (5, 8), (7, 8), (1, 9), (3, 9), (5, 9), (7, 9), (8, 9), (3, 10), (5, 10), (7, 10), (5, 11), (7, 11)] [⟨(some 11), none, .idxA 4 2 (t 4) (ci 0)⟩,
    ⟨(some 12), none, .loadN 4 (t 11)⟩,
    ⟨(some 13), none, .idxA 4 2 (t 4) (ci 1)⟩,
    ⟨(some 14), none, .loadN 4 (t 13)⟩,
    ⟨(some 15), none, .idxA 1 2 (t 5) (ci 0)⟩,
    ⟨(some 16), none, .load1 (t 15)⟩,
    ⟨(some 17), none, .idxA 1 2 (t 5) (ci 1)⟩,
    ⟨(some 18), none, .load1 (t 17)⟩,
    ⟨(some 7), none, .alloc [.int .i64 0, .raw (.slice none 0 0), .raw (.slice none 0 0), .raw (.slice none 0 0)]⟩,
    ⟨(some 8), none, .alloc [.int .i64 0, .raw (.slice none 0 0), .raw (.slice none 0 0), .raw (.slice none 0 0)]⟩,
    ⟨none, none, .storN 4 (t 7) (t 12)⟩,
    ⟨none, none, .storN 4 (t 8) (t 14)⟩,
    ⟨(some 9), none, .mov (t 16)⟩,
    ⟨(some 10), none, .mov (t 18)⟩]))
  (.seq (.seq (.ops [⟨(some 19), none, .mov (t 9)⟩,
    ⟨(some 20), none, .mov (t 10)⟩,
    ⟨(some 21), none, .bslice 1 [.str []] 2 [(0, 1, (t 19)), (1, 1, (t 20))]⟩,
    ⟨(some 22), none, .pcall C_quiltlaw53_long [(t 21)]⟩,
    ⟨(some 23), none, .mov (t 22)⟩,
    ⟨(some 24), (some (23, false)), .loadN 4 (t 7)⟩,
    ⟨(some 25), (some (23, false)), .pcall C_quiltref53_Great [(t 24)]⟩,
    ⟨(some 26), none, .pick (t 23) (.const (.bool true)) (t 25)⟩,
    ⟨(some 27), none, .mov (t 26)⟩,
    ⟨(some 28), (some (27, false)), .loadN 4 (t 8)⟩,
    ⟨(some 29), (some (27, false)), .pcall C_quiltref53_Great [(t 28)]⟩,
    ⟨(some 30), none, .pick (t 27) (.const (.bool true)) (t 29)⟩,
    ⟨(some 31), none, .mov (t 30)⟩,
    ⟨(some 32), (some (31, false)), .loadN 4 (t 7)⟩,
    ⟨(some 33), (some (31, false)), .pcall C_quiltref53_Check [(t 32)]⟩,
    ⟨(some 34), (some (31, false)), .bin .neq (t 33) (ci 0)⟩,
    ⟨(some 35), none, .pick (t 31) (.const (.bool true)) (t 34)⟩,
    ⟨(some 36), none, .mov (t 35)⟩,
    ⟨(some 37), (some (36, false)), .loadN 4 (t 8)⟩,
    ⟨(some 38), (some (36, false)), .pcall C_quiltref53_Check [(t 37)]⟩,
    ⟨(some 39), (some (36, false)), .bin .neq (t 38) (ci 0)⟩,
    ⟨(some 40), none, .pick (t 36) (.const (.bool true)) (t 39)⟩,
    ⟨(some 41), none, .mov (t 40)⟩,
    ⟨(some 42), (some (41, false)), .fldA 0 (t 7)⟩,
    ⟨(some 43), (some (41, false)), .load1 (t 42)⟩,
    ⟨(some 44), (some (41, false)), .fldA 0 (t 8)⟩,
    ⟨(some 45), (some (41, false)), .load1 (t 44)⟩,
    ⟨(some 46), (some (41, false)), .bin .neq (t 43) (t 45)⟩,
    ⟨(some 47), none, .pick (t 41) (.const (.bool true)) (t 46)⟩,
    ⟨(some 48), none, .mov (t 47)⟩,
    ⟨(some 49), (some (48, false)), .loadN 4 (t 7)⟩,
    ⟨(some 50), (some (48, false)), .loadN 4 (t 8)⟩,
    ⟨(some 51), (some (48, false)), .pcall C_quiltref53_Same [(t 49), (t 50)]⟩,
    ⟨(some 52), none, .pick (t 48) (.const (.bool true)) (t 51)⟩,
    ⟨(some 53), none, .mov (t 52)⟩,
    ⟨(some 54), (some (53, false)), .mov (t 9)⟩,
    ⟨(some 55), (some (53, false)), .pcall C_quiltref53_Tag [(t 54)]⟩,
    ⟨(some 56), (some (53, false)), .mov (t 10)⟩,
    ⟨(some 57), (some (53, false)), .pcall C_quiltref53_Tag [(t 56)]⟩,
    ⟨(some 58), (some (53, false)), .bin .neq (t 55) (t 57)⟩,
    ⟨(some 59), none, .pick (t 53) (.const (.bool true)) (t 58)⟩])
  (.cond (t 59) (.seq (.ops [⟨(some 60), none, .pcall C_quiltlaw53_awake []⟩,
    ⟨(some 6), none, .mov (t 60)⟩])
  .ret)
  .skip))
  (.seq (.seq (.ops [⟨(some 61), none, .loadN 32 (t 3)⟩,
    ⟨(some 62), none, .mov (t 9)⟩,
    ⟨(some 63), none, .loadN 4 (t 7)⟩,
    ⟨(some 64), none, .pcall C_lamport_Verify [(t 61), (t 62), (t 63)]⟩,
    ⟨(some 65), none, .not (t 64)⟩,
    ⟨(some 66), none, .mov (t 65)⟩,
    ⟨(some 67), (some (66, false)), .loadN 32 (t 3)⟩,
    ⟨(some 68), (some (66, false)), .mov (t 10)⟩,
    ⟨(some 69), (some (66, false)), .loadN 4 (t 8)⟩,
    ⟨(some 70), (some (66, false)), .pcall C_lamport_Verify [(t 67), (t 68), (t 69)]⟩,
    ⟨(some 71), (some (66, false)), .not (t 70)⟩,
    ⟨(some 72), none, .pick (t 66) (.const (.bool true)) (t 71)⟩])
  (.cond (t 72) (.seq (.ops [⟨(some 73), none, .pcall C_quiltlaw53_awake []⟩,
    ⟨(some 6), none, .mov (t 73)⟩])
  .ret)
  .skip))
  (.seq (.rops [(3, 6)] [⟨(some 74), none, .mov (t 9)⟩,
    ⟨(some 75), none, .pcall C_quiltref53_Tag [(t 74)]⟩,
    ⟨(some 76), none, .loadN 4 (t 7)⟩,
    ⟨(some 77), none, .pcallF F_quiltref53_Strings [(t 75), (t 76)]⟩,
    ⟨(some 78), none, .mov (t 10)⟩,
    ⟨(some 79), none, .pcall C_quiltref53_Tag [(t 78)]⟩,
    ⟨(some 80), none, .loadN 4 (t 8)⟩,
    ⟨(some 81), none, .pcallF F_quiltref53_Strings [(t 79), (t 80)]⟩,
    ⟨(some 82), none, .app 1 16 (t 77) (t 81)⟩,
    ⟨(some 83), none, .pcall C_quiltlaw53_collide [(t 82)]⟩,
    ⟨(some 84), none, .mov (t 83)⟩,
    ⟨(some 85), (some (84, true)), .pcall C_quiltlaw53_awake []⟩,
    ⟨(some 86), none, .pick (t 84) (t 85) (.const (.bool false))⟩,
    ⟨(some 6), none, .mov (t 86)⟩])
  .ret))))), [.tmp 6]⟩
/-- quilt/quiltlaw53.LamportTwice -/
def ir_quiltlaw53_LamportTwice : IF := ⟨(.seq (.ops [⟨(some 3), none, .box (t 0)⟩,
    ⟨(some 4), none, .box (t 1)⟩,
    ⟨(some 5), none, .box (t 2)⟩,
    ⟨(some 6), none, .mov (.const (.bool false))⟩])
  (.seq (.ops [⟨(some 11), none, .idxA 1 2 (t 5) (ci 0)⟩,
    ⟨(some 12), none, .load1 (t 11)⟩,
    ⟨(some 13), none, .idxA 1 2 (t 5) (ci 1)⟩,
    ⟨(some 14), none, .load1 (t 13)⟩,
    ⟨(some 7), none, .mov (t 12)⟩,
    ⟨(some 8), none, .mov (t 14)⟩])
  (.seq (.seq (.ops [⟨(some 15), none, .mov (t 7)⟩,
    ⟨(some 16), none, .mov (t 8)⟩,
    ⟨(some 17), none, .bslice 1 [.str []] 2 [(0, 1, (t 15)), (1, 1, (t 16))]⟩,
    ⟨(some 18), none, .pcall C_quiltlaw53_long [(t 17)]⟩,
    ⟨(some 19), none, .mov (t 18)⟩,
    ⟨(some 20), (some (19, false)), .loadN 4 (t 4)⟩,
    ⟨(some 21), (some (19, false)), .pcall C_quiltref53_Great [(t 20)]⟩,
    ⟨(some 22), none, .pick (t 19) (.const (.bool true)) (t 21)⟩,
    ⟨(some 23), none, .mov (t 22)⟩,
    ⟨(some 24), (some (23, false)), .loadN 4 (t 4)⟩,
    ⟨(some 25), (some (23, false)), .pcall C_quiltref53_Check [(t 24)]⟩,
    ⟨(some 26), (some (23, false)), .bin .neq (t 25) (ci 0)⟩,
    ⟨(some 27), none, .pick (t 23) (.const (.bool true)) (t 26)⟩,
    ⟨(some 28), none, .mov (t 27)⟩,
    ⟨(some 29), (some (28, false)), .mov (t 7)⟩,
    ⟨(some 30), (some (28, false)), .pcall C_quiltref53_Tag [(t 29)]⟩,
    ⟨(some 31), (some (28, false)), .mov (t 8)⟩,
    ⟨(some 32), (some (28, false)), .pcall C_quiltref53_Tag [(t 31)]⟩,
    ⟨(some 33), (some (28, false)), .bin .eql (t 30) (t 32)⟩,
    ⟨(some 34), none, .pick (t 28) (.const (.bool true)) (t 33)⟩])
  (.cond (t 34) (.seq (.ops [⟨(some 35), none, .pcall C_quiltlaw53_awake []⟩,
    ⟨(some 6), none, .mov (t 35)⟩])
  .ret)
  .skip))
  (.seq (.seq (.ops [⟨(some 36), none, .loadN 32 (t 3)⟩,
    ⟨(some 37), none, .mov (t 7)⟩,
    ⟨(some 38), none, .loadN 4 (t 4)⟩,
    ⟨(some 39), none, .pcall C_lamport_Verify [(t 36), (t 37), (t 38)]⟩,
    ⟨(some 40), none, .not (t 39)⟩,
    ⟨(some 41), none, .mov (t 40)⟩,
    ⟨(some 42), (some (41, false)), .loadN 32 (t 3)⟩,
    ⟨(some 43), (some (41, false)), .mov (t 8)⟩,
    ⟨(some 44), (some (41, false)), .loadN 4 (t 4)⟩,
    ⟨(some 45), (some (41, false)), .pcall C_lamport_Verify [(t 42), (t 43), (t 44)]⟩,
    ⟨(some 46), (some (41, false)), .not (t 45)⟩,
    ⟨(some 47), none, .pick (t 41) (.const (.bool true)) (t 46)⟩])
  (.cond (t 47) (.seq (.ops [⟨(some 48), none, .pcall C_quiltlaw53_awake []⟩,
    ⟨(some 6), none, .mov (t 48)⟩])
  .ret)
  .skip))
  (.seq (.seq (.ops [⟨(some 49), none, .fldA 1 (t 4)⟩,
    ⟨(some 50), none, .load1 (t 49)⟩,
    ⟨(some 51), none, .lenL (t 50)⟩,
    ⟨(some 52), none, .mov (ci 0)⟩])
  (.block 0 (.loop (.seq (.ops [⟨(some 53), none, .bin .lss (t 52) (t 51)⟩])
  (.seq (.cond (t 53) .skip
  (.exit 0))
  (.seq (.block 1 (.seq (.ops [⟨(some 54), none, .mov (t 52)⟩,
    ⟨(some 55), none, .idxL 32 (t 50) (t 52)⟩,
    ⟨(some 56), none, .loadN 32 (t 55)⟩,
    ⟨(some 10), none, .alloc (repl 32 [.int .u8 0])⟩,
    ⟨(some 9), none, .mov (t 54)⟩,
    ⟨none, none, .storN 32 (t 10) (t 56)⟩])
  (.seq (.ops [⟨(some 57), none, .loadN 32 (t 10)⟩,
    ⟨(some 58), none, .pcall C_quiltref02_Bytes [(t 57)]⟩,
    ⟨(some 59), none, .pcall C_quiltref02_Sum [(t 58)]⟩,
    ⟨(some 60), none, .fldA 2 (t 4)⟩,
    ⟨(some 61), none, .load1 (t 60)⟩,
    ⟨(some 62), none, .mov (t 9)⟩,
    ⟨(some 63), none, .idxL 32 (t 61) (t 62)⟩,
    ⟨(some 64), none, .loadN 32 (t 63)⟩,
    ⟨(some 65), none, .aeq false (repl 32 [some (some .u8)]) (t 59) (t 64)⟩])
  (.cond (t 65) (.seq (.ops [⟨(some 66), none, .pcall C_quiltlaw53_awake []⟩,
    ⟨(some 6), none, .mov (t 66)⟩])
  .ret)
  .skip))))
  (.ops [⟨(some 67), none, .bin .add (t 52) (ci 1)⟩,
    ⟨(some 52), none, .mov (t 67)⟩])))))))
  (.seq (.rops [(3, 6)] [⟨(some 68), none, .mov (t 7)⟩,
    ⟨(some 69), none, .pcall C_quiltref53_Tag [(t 68)]⟩,
    ⟨(some 70), none, .loadN 4 (t 4)⟩,
    ⟨(some 71), none, .pcallF F_quiltref53_Strings [(t 69), (t 70)]⟩,
    ⟨(some 72), none, .mov (t 8)⟩,
    ⟨(some 73), none, .pcall C_quiltref53_Tag [(t 72)]⟩,
    ⟨(some 74), none, .loadN 4 (t 4)⟩,
    ⟨(some 75), none, .pcallF F_quiltref53_Strings [(t 73), (t 74)]⟩,
    ⟨(some 76), none, .app 1 16 (t 71) (t 75)⟩,
    ⟨(some 77), none, .pcall C_quiltlaw53_collide [(t 76)]⟩,
    ⟨(some 78), none, .mov (t 77)⟩,
    ⟨(some 79), (some (78, true)), .pcall C_quiltlaw53_awake []⟩,
    ⟨(some 80), none, .pick (t 78) (t 79) (.const (.bool false))⟩,
    ⟨(some 6), none, .mov (t 80)⟩])
  .ret)))))), [.tmp 6]⟩



end Qk

/-
  Chapter 53: where signatures verify that should not, two strings have the same digest.
-/
namespace Qk
open Go Go.RowKit
attribute [local irreducible] sha hmac

theorem cat_inj {f g : Nat → List UInt8} (hf : ∀ n, (f n).length = 32) (hg : ∀ n, (g n).length = 32) : ∀ {n : Nat}, catF f n = catF g n → ∀ k, k < n → f k = g k
  | 0, _, k, hk => by omega
  | n + 1, h, k, hk => by
    have hl : (catF f n).length = (catF g n).length := by rw [catF_len hf, catF_len hg]
    obtain ⟨h1, h2⟩ := List.append_inj h hl
    by_cases hkn : k = n
    · subst hkn; exact h2
    · exact cat_inj hf hg h1 k (by omega)

/-- The claims of a signature of the right form. -/
def cl32 (t : Nat → Nat) (g : Sg) (n : Nat) : List UInt8 := if n < 256 then claimAt t g n else List.replicate 32 0
theorem cl32_len {t : Nat → Nat} {g : Sg} (hg : g.ok) (hz : chk g = 0) (n : Nat) : (cl32 t g n).length = 32 := by
  obtain ⟨_, g1, g2, g3⟩ := chk_zero hz
  unfold cl32 claimAt
  split
  · split
    · exact sha_len _
    · exact getD_len hg.2.1 (by omega)
  · simp
theorem cl32_cat (t : Nat → Nat) (g : Sg) : catF (claimAt t g) 256 = catF (cl32 t g) 256 := catF_congr fun n hn => by unfold cl32; rw [if_pos hn]

theorem getD_mem {l : List (List UInt8)} {p : Nat} (h : p < l.length) : l.getD p [] ∈ l := by
  simp only [List.getD, List.getElem?_eq_getElem h, Option.getD_some]
  exact List.getElem_mem _

/-- Without collisions the claims of two signatures that lead to the same root from the same leaf are the same. -/
theorem claims_same {t u : Nat → Nat} {g k : Sg} {L : List (List UInt8)} (hn : colB L = false) (hg : g.ok) (hk : k.ok) (zg : chk g = 0) (zk : chk k = 0) (hi : g.i = k.i)
    (m1 : ∀ s ∈ strsG t g, s ∈ L) (m2 : ∀ s ∈ strsG u k, s ∈ L) (hr : sha (above2 t g) = sha (above2 u k)) :
    (∀ n, n < 256 → claimAt t g n = claimAt u k n) ∧ g.path = k.path := by
  have no := colB_no.1 hn
  obtain ⟨_, g1, g2, g3⟩ := chk_zero zg
  obtain ⟨_, k1, k2, k3⟩ := chk_zero zk
  have in2 : above2 t g ∈ L := m1 _ (by simp [strsG])
  have in2' : above2 u k ∈ L := m2 _ (by simp [strsG])
  have in1 : above1 t g ∈ L := m1 _ (by simp [strsG])
  have in1' : above1 u k ∈ L := m2 _ (by simp [strsG])
  have in0 : (0 :: catF (claimAt t g) 256) ∈ L := m1 _ (by simp [strsG])
  have in0' : (0 :: catF (claimAt u k) 256) ∈ L := m2 _ (by simp [strsG])
  have e2 := no _ in2 _ in2' hr
  have p0 : (g.path.getD 0 []).length = 32 := getD_len hg.2.2 (by omega)
  have p1 : (g.path.getD 1 []).length = 32 := getD_len hg.2.2 (by omega)
  have q0 : (k.path.getD 0 []).length = 32 := getD_len hk.2.2 (by omega)
  have q1 : (k.path.getD 1 []).length = 32 := getD_len hk.2.2 (by omega)
  have st2 : sha (above1 t g) = sha (above1 u k) ∧ g.path.getD 1 [] = k.path.getD 1 [] := by
    unfold above2 at e2
    rw [← hi] at e2
    by_cases hb : g.i.toNat / 2 % 2 = 0
    · rw [if_pos hb, if_pos hb] at e2
      have := List.append_inj (List.cons.inj e2).2 (by rw [sha_len, sha_len])
      exact this
    · rw [if_neg hb, if_neg hb] at e2
      have := List.append_inj (List.cons.inj e2).2 (by rw [p1, q1])
      exact ⟨this.2, this.1⟩
  have e1 := no _ in1 _ in1' st2.1
  have st1 : sha (0 :: catF (claimAt t g) 256) = sha (0 :: catF (claimAt u k) 256) ∧ g.path.getD 0 [] = k.path.getD 0 [] := by
    unfold above1 at e1
    rw [← hi] at e1
    by_cases hb : g.i.toNat % 2 = 0
    · rw [if_pos hb, if_pos hb] at e1
      exact List.append_inj (List.cons.inj e1).2 (by rw [sha_len, sha_len])
    · rw [if_neg hb, if_neg hb] at e1
      have := List.append_inj (List.cons.inj e1).2 (by rw [p0, q0])
      exact ⟨this.2, this.1⟩
  have e0 := (List.cons.inj (no _ in0 _ in0' st1.1)).2
  rw [cl32_cat, cl32_cat] at e0
  refine ⟨fun n h => ?_, ?_⟩
  · have := cat_inj (cl32_len hg zg) (cl32_len hk zk) e0 n h
    unfold cl32 at this
    rwa [if_pos h, if_pos h] at this
  · have a1 := st1.2
    have a2 := st2.2
    match hp : g.path, hq : k.path, g3, k3 with
    | [x, y], [x', y'], _, _ =>
      rw [hp, hq] at a1 a2
      simp only [List.getD_cons_zero, List.getD_cons_succ] at a1 a2
      rw [a1, a2]

theorem ext_getD {a b : List (List UInt8)} {n : Nat} (ha : a.length = n) (hb : b.length = n) (h : ∀ p, p < n → a.getD p [] = b.getD p []) : a = b := by
  apply List.ext_getElem (by omega)
  intro p h1 h2
  have := h p (by omega)
  simpa [List.getD, h1, h2] using this

theorem unique_collides {t : Nat → Nat} {g k : Sg} {root : List UInt8} (ht : ∀ p, t p < 2) (hg : g.ok) (hk : k.ok) (zg : chk g = 0) (zk : chk k = 0) (hi : g.i = k.i) (hs : sameB g k = false)
    (r1 : sha (above2 t g) = root) (r2 : sha (above2 t k) = root) : colB (strsG t g ++ strsG t k) = true := by
  cases hn : colB (strsG t g ++ strsG t k) with
  | true => rfl
  | false =>
    exfalso
    obtain ⟨hc, hp⟩ := claims_same (t := t) (u := t) hn hg hk zg zk hi (fun s h => by simp [h]) (fun s h => by simp [h]) (r1.trans r2.symm)
    obtain ⟨_, g1, g2, g3⟩ := chk_zero zg
    obtain ⟨_, k1, k2, k3⟩ := chk_zero zk
    have no := colB_no.1 hn
    have both : ∀ p, p < 128 → g.rev.getD p [] = k.rev.getD p [] ∧ g.oth.getD p [] = k.oth.getD p [] := by
      intro p hp
      have htp := ht p
      have a1 := hc (2 * p + t p) (by omega)
      have a2 := hc (2 * p + (1 - t p)) (by omega)
      unfold claimAt at a1 a2
      have d1 : (2 * p + t p) / 2 = p := by omega
      have d2 : (2 * p + (1 - t p)) / 2 = p := by omega
      have d3 : (2 * p + t p) % 2 = t p := by omega
      have d4 : ¬ t p = (2 * p + (1 - t p)) % 2 := by omega
      rw [d1, d3, if_pos rfl, if_pos rfl] at a1
      rw [d2, if_neg d4, if_neg d4] at a2
      refine ⟨no _ ?_ _ ?_ a1, a2⟩
      · simp only [List.mem_append, strsG]
        exact .inl (.inl (getD_mem (by omega)))
      · simp only [List.mem_append, strsG]
        exact .inr (.inl (getD_mem (by omega)))
    have er := ext_getD g1 k1 (fun p h => (both p h).1)
    have eo := ext_getD g2 k2 (fun p h => (both p h).2)
    have : sameB g k = true := by
      unfold sameB
      rw [decide_eq_true hi, decide_eq_true er, decide_eq_true eo, decide_eq_true hp]
      rfl
    rw [this] at hs
    cases hs

theorem twice_collides {t u : Nat → Nat} {g : Sg} {root : List UInt8} (ht : ∀ p, t p < 2) (hu : ∀ p, u p < 2) (hg : g.ok) (zg : chk g = 0) (hd : ∃ p, p < 128 ∧ t p ≠ u p)
    (hx : ∀ p, p < 128 → ¬ sha (g.rev.getD p []) = g.oth.getD p []) (r1 : sha (above2 t g) = root) (r2 : sha (above2 u g) = root) : colB (strsG t g ++ strsG u g) = true := by
  cases hn : colB (strsG t g ++ strsG u g) with
  | true => rfl
  | false =>
    exfalso
    obtain ⟨hc, _⟩ := claims_same (t := t) (u := u) hn hg hg zg zg rfl (fun s h => by simp [h]) (fun s h => by simp [h]) (r1.trans r2.symm)
    obtain ⟨p, hp, hne⟩ := hd
    have h1 := ht p
    have h2 := hu p
    have a1 := hc (2 * p + t p) (by omega)
    unfold claimAt at a1
    have d1 : (2 * p + t p) / 2 = p := by omega
    have d3 : (2 * p + t p) % 2 = t p := by omega
    rw [d1, d3, if_pos rfl, if_neg (fun e => hne e.symm)] at a1
    exact hx p hp a1

/-- Different tags differ in a bit. -/
theorem bits_differ {a b : List UInt8} (ha : a.length = 16) (hb : b.length = 16) (h : ¬ a = b) : ∃ p, p < 128 ∧ bitB a p ≠ bitB b p := by
  apply Classical.byContradiction
  intro hn
  apply h
  have all : ∀ p, p < 128 → bitB a p = bitB b p := fun p hp => Classical.byContradiction fun e => hn ⟨p, hp, e⟩
  apply List.ext_getElem (by omega)
  intro i h1 h2
  have e : ∀ j, j < 8 → (a.getD i 0).toNat / 2 ^ (7 - j) % 2 = (b.getD i 0).toNat / 2 ^ (7 - j) % 2 := by
    intro j hj
    have := all (8 * i + j) (by omega)
    unfold bitB at this
    rw [show (8 * i + j) / 8 = i by omega, show (8 * i + j) % 8 = j by omega] at this
    exact this
  have g1 : a.getD i 0 = a[i] := by simp [List.getD, h1]
  have g2 : b.getD i 0 = b[i] := by simp [List.getD, h2]
  rw [g1, g2] at e
  apply UInt8.toNat_inj.1
  have l1 := a[i].toNat_lt
  have l2 := b[i].toNat_lt
  have f0 := e 0 (by omega)
  have f1 := e 1 (by omega)
  have f2 := e 2 (by omega)
  have f3 := e 3 (by omega)
  have f4 := e 4 (by omega)
  have f5 := e 5 (by omega)
  have f6 := e 6 (by omega)
  have f7 := e 7 (by omega)
  simp only [Nat.reducePow, Nat.reduceSub, Nat.sub_zero, Nat.div_one] at f0 f1 f2 f3 f4 f5 f6 f7
  omega

end Qk

/-
  Strings with the same digest are found.
-/
namespace Qk
open Go Go.RowKit
attribute [local irreducible] sha hmac

theorem take_all {l : List (List UInt8)} : l.take l.length = l := List.take_of_length_le (Nat.le_refl _)

theorem d_law_collide : Does ir_quiltlaw53_collide C_quiltlaw53_collide := by
  intro (l : List (List UInt8)) h
  obtain ⟨hl, hs⟩ : l.length ≤ 1000000000 ∧ ∀ s ∈ l, s.length ≤ 1000000000 := h
  refine ⟨Nat, fun i => i ≤ l.length ∧ colB (l.take i) = false, fun i => mks [(3, .hnd 0), (10, .ilist 1 l.length (strs l)), (11, .int .i64 l.length), (12, .int .i64 i)]
    [(0, .opq (mapR ⟨false, repl 32 [some (some .u8)], metM (l.take i)⟩))] 1, fun i => l.length - i, 0, ⟨by omega, by rw [List.take_zero]; rfl⟩, ?_, ?_⟩
  · refine sub_ren [0] rfl (by decide) ⟨⟨_, rfl, ⟨0, rfl, rfl⟩⟩, ⟨_, rfl, rfl⟩, ⟨_, rfl, rfl⟩, ⟨_, rfl, rfl⟩, trivial⟩ ⟨⟨0, _, rfl, rfl, ?_⟩, trivial⟩
    exact ⟨by rw [List.take_zero, metM_nil], _, rfl⟩
  · rintro i ⟨hi, hc⟩
    refine cond_split (fun h => ?_) (fun h => ?_)
    · have hT : (i : Int) < l.length := of_decide_eq_true h
      have e0 : (i : Int).toNat * 1 = i := by omega
      obtain ⟨s, es⟩ : ∃ s, s = l.getD i [] := ⟨_, rfl⟩
      have hmem : s ∈ l := by
        rw [es]
        simp only [List.getD, List.getElem?_eq_getElem (show i < l.length by omega), Option.getD_some]
        exact List.getElem_mem _
      have ln : (bys (sha s)).length = 32 := by rw [bys_length, sha_len]
      have tk : l.take (i + 1) = l.take i ++ [s] := by rw [es]; exact take_succ (by omega)
      refine And.intro ⟨rfl, by decide, by omega, by omega⟩ ?_
      refine ⟨.str s, by rw [e0, es]; exact strs_get (by omega), ?_⟩
      refine ⟨s, rfl, by show s.length ≤ _; have := hs s hmem; omega, ?_⟩
      refine And.intro ⟨ln, bys_all _⟩ ?_
      refine And.intro (Nat.le_refl 32) ?_
      refine ⟨_, lay_all (vs := bys (sha s)) ln, ?_⟩
      refine ⟨bys (sha s), ⟨tda ln, ln⟩, ?_⟩
      refine ⟨metM (l.take i), rfl, ⟨_, rfl, arek_bys _ _ (sha_len _)⟩, ?_⟩
      have no := colB_no.1 hc
      by_cases hx : ∃ t ∈ l.take i, sha t = sha s
      · obtain ⟨t, ht, hts⟩ := hx
        refine ⟨some (.str t), ⟨t, ht, by rw [hts], rfl⟩, ?_⟩
        refine ⟨_, rfl, ?_⟩
        refine ⟨_, rfl, ?_⟩
        refine cond_split (fun h => ?_) (fun h => ?_)
        · have hne : ¬ t = s := by simpa using h
          refine ⟨_, (by first | exact SubSt.refl _ | exact SubTop.refl _), ?_⟩
          show AV.bool true = AV.bool (colB l)
          rw [colB_yes (List.mem_of_mem_take ht) hmem hts hne]
        · have he : t = s := by simpa using h
          have all : ∀ u ∈ l.take i, sha u = sha s → u = s := fun u hu e => (no u hu t ht (e.trans hts.symm)).trans he
          refine ⟨bys (sha s), ⟨tda ln, ln⟩, ?_⟩
          refine ⟨metM (l.take i), ⟨rfl, ⟨_, rfl, arek_bys _ _ (sha_len _)⟩, (plain_str _).nn⟩, ?_⟩
          refine And.intro (by omega) ?_
          refine ⟨i + 1, ⟨by omega, ?_⟩, by dsimp only; omega, ?_⟩
          · rw [tk, colB_no]
            intro x hx y hy e
            simp only [List.mem_append, List.mem_singleton] at hx hy
            rcases hx with hx | rfl <;> rcases hy with hy | rfl
            · exact no x hx y hy e
            · exact all x hx e
            · exact (all y hy e.symm).symm
            · rfl
          · refine sub_ren [0] rfl (by decide) ⟨⟨_, rfl, ⟨0, rfl, rfl⟩⟩, ⟨_, rfl, rfl⟩, ⟨_, rfl, rfl⟩, ⟨_, rfl, eI (by omega)⟩, trivial⟩ ⟨⟨0, _, rfl, rfl, ?_⟩, trivial⟩
            exact ⟨by rw [tk, metM_put all], _, rfl⟩
      · have all : ∀ u ∈ l.take i, sha u = sha s → u = s := fun u hu e => absurd ⟨u, hu, e⟩ hx
        refine ⟨none, fun v hv => ?_, ?_⟩
        · obtain ⟨t, ht, e1, _⟩ := hv
          exact hx ⟨t, ht, (bys_inj.1 (by simpa using e1)).symm⟩
        refine ⟨_, rfl, ?_⟩
        refine ⟨_, rfl, ?_⟩
        refine ⟨bys (sha s), ⟨tda ln, ln⟩, ?_⟩
        refine ⟨metM (l.take i), ⟨rfl, ⟨_, rfl, arek_bys _ _ (sha_len _)⟩, (plain_str _).nn⟩, ?_⟩
        refine And.intro (by omega) ?_
        refine ⟨i + 1, ⟨by omega, ?_⟩, by dsimp only; omega, ?_⟩
        · rw [tk, colB_no]
          intro x hx' y hy e
          simp only [List.mem_append, List.mem_singleton] at hx' hy
          rcases hx' with hx' | rfl <;> rcases hy with hy | rfl
          · exact no x hx' y hy e
          · exact all x hx' e
          · exact (all y hy e.symm).symm
          · rfl
        · refine sub_ren [0] rfl (by decide) ⟨⟨_, rfl, ⟨0, rfl, rfl⟩⟩, ⟨_, rfl, rfl⟩, ⟨_, rfl, rfl⟩, ⟨_, rfl, eI (by omega)⟩, trivial⟩ ⟨⟨0, _, rfl, rfl, ?_⟩, trivial⟩
          exact ⟨by rw [tk, metM_put all], _, rfl⟩
    · have hF : ¬ (i : Int) < l.length := of_decide_eq_false h
      have : i = l.length := by omega
      subst this
      refine ⟨_, (by first | exact SubSt.refl _ | exact SubTop.refl _), ?_⟩
      show AV.bool false = AV.bool (colB l)
      rw [take_all] at hc
      rw [hc]

end Qk

/-
  The statement of chapter 53 on signatures that verify twice.
-/
namespace Qk
open Go Go.RowKit
attribute [local irreducible] sha hmac

theorem strsG_len {t : Nat → Nat} {g : Sg} (h : g.rev.length = 128) : (strsG t g).length = 131 := by simp [strsG, h]
theorem above2_len {t : Nat → Nat} {g : Sg} (hg : g.ok) (hz : chk g = 0) : (above2 t g).length = 65 ∧ (above1 t g).length = 65 := by
  obtain ⟨_, g1, g2, g3⟩ := chk_zero hz
  have p0 : (g.path.getD 0 []).length = 32 := getD_len hg.2.2 (by omega)
  have p1 : (g.path.getD 1 []).length = 32 := getD_len hg.2.2 (by omega)
  unfold above2 above1
  constructor <;> split <;> rw [List.length_cons, List.length_append, sha_len] <;> omega
theorem strsG_short {t : Nat → Nat} {g : Sg} (hg : g.ok) (hz : chk g = 0) : ∀ s ∈ strsG t g, s.length ≤ 1000000000 := by
  intro s hs
  obtain ⟨_, g1, g2, g3⟩ := chk_zero hz
  have h2 := above2_len (t := t) hg hz
  have h0 : (catF (claimAt t g) 256).length = 8192 := by rw [cl32_cat, catF_len (cl32_len hg hz)]
  simp only [strsG, List.mem_append, List.mem_cons, List.not_mem_nil, or_false] at hs
  rcases hs with hs | rfl | rfl | rfl
  · have := hg.1 s hs
    omega
  · rw [List.length_cons, h0]; omega
  · omega
  · omega

theorem one_strs (l : List (List UInt8)) : AllOne (strs l) := by
  intro c hc
  unfold strs at hc
  obtain ⟨s, _, rfl⟩ := List.mem_map.1 hc
  rfl
theorem app_all {a b : List (List UInt8)} {n : Nat} (hb : b.length = n) : strs a ++ ((strs b).drop (0 * 1)).take (n * 1) = strs (a ++ b) := by
  rw [Nat.zero_mul, List.drop_zero, Nat.mul_one, ← hb, ← strs_len b, List.take_length, strs_app]
theorem lend_all {l : List (List UInt8)} {n : Nat} (h : l.length = n) : [AV.ilist 1 n (((strs l).drop (0 * 1)).take (n * 1))] = [AV.ilist 1 l.length (strs l)] := by
  rw [Nat.zero_mul, List.drop_zero, Nat.mul_one, ← h, ← strs_len l, List.take_length]
theorem tag_len (a : List UInt8) : ((sha a).take 16).length = 16 := by rw [List.length_take, sha_len]; rfl

attribute [local irreducible] rootB leafK verB sameB chk colB strsG

set_option maxRecDepth 2000 in
theorem d_law_Twice : Does ir_quiltlaw53_LamportTwice C_quiltlaw53_LamportTwice := by
  rintro ⟨root, g, a, b⟩ ⟨hr, hg⟩
  dsimp only at hr hg
  have lr : (bys root).length = 32 := by rw [bys_length, hr]
  refine And.intro (by decide) ?_
  refine ⟨_, rfl, ?_⟩
  refine And.intro (by decide) ?_
  refine ⟨_, rfl, ?_⟩
  refine And.intro (show (0 + 2) * 1 ≤ 2 by decide) (And.intro (nnl_strs [a, b]) ⟨[a, b], rfl, by show 2 ≤ _; decide, (plain_bool _), ?_⟩)
  refine cond_split (fun h1 => ?_) (fun h1 => ?_)
  · iterate 2 (refine cond_t h1 ?_)
    refine ⟨(), rfl, trivial, ?_⟩
    refine ⟨_, (by first | exact SubSt.refl _ | exact SubTop.refl _), ?_⟩
    rfl
  have hl := long_no (l := [a, b]) h1
  have ha : a.length ≤ 1000000000 := by have := hl a (by simp); omega
  have hb : b.length ≤ 1000000000 := by have := hl b (by simp); omega
  refine ⟨sgL g, ⟨rfl, rfl⟩, ?_⟩
  iterate 1 (refine cond_f h1 ?_)
  refine And.intro (nn_sgA g) ?_
  refine ⟨g, rfl, trivial, ?_⟩
  refine cond_split (fun h2 => ?_) (fun h2 => ?_)
  · iterate 3 (refine cond_t h2 ?_)
    refine ⟨(), rfl, trivial, ?_⟩
    refine ⟨_, (by first | exact SubSt.refl _ | exact SubTop.refl _), ?_⟩
    rfl
  refine ⟨sgL g, ⟨rfl, rfl⟩, ?_⟩
  iterate 1 (refine cond_f h2 ?_)
  refine And.intro (nn_sgA g) ?_
  refine ⟨g, rfl, trivial, ?_⟩
  iterate 1 (refine cond_f h2 ?_)
  refine cond_split (fun h3 => ?_) (fun h3 => ?_)
  · iterate 5 (refine cond_t h3 ?_)
    refine ⟨(), rfl, trivial, ?_⟩
    refine ⟨_, (by first | exact SubSt.refl _ | exact SubTop.refl _), ?_⟩
    rfl
  have hz : chk g = 0 := by
    rw [h2] at h3
    simpa using h3
  iterate 1 (refine cond_f h3 ?_)
  refine ⟨a, rfl, ha, ?_⟩
  iterate 2 (refine cond_f h3 ?_)
  refine ⟨b, rfl, hb, ?_⟩
  iterate 1 (refine cond_f h3 ?_)
  refine cond_split (fun h4 => ?_) (fun h4 => ?_)
  · refine ⟨(), rfl, trivial, ?_⟩
    refine ⟨_, (by first | exact SubSt.refl _ | exact SubTop.refl _), ?_⟩
    rfl
  have hne : ¬ (sha a).take 16 = (sha b).take 16 := by
    rw [h3] at h4
    simpa using h4
  obtain ⟨hi, g1, g2, g3⟩ := chk_zero hz
  refine ⟨bys root, ⟨tda lr, lr⟩, ?_⟩
  refine ⟨sgL g, ⟨rfl, rfl⟩, ?_⟩
  refine And.intro (plainA_bys _).nn (And.intro (nn_sgA _) ?_)
  refine ⟨⟨root, a, g⟩, rfl, ⟨hr, ha, hg⟩, ?_⟩
  refine cond_split (fun h5 => ?_) (fun h5 => ?_)
  · iterate 5 (refine cond_t h5 ?_)
    refine ⟨(), rfl, trivial, ?_⟩
    refine ⟨_, (by first | exact SubSt.refl _ | exact SubTop.refl _), ?_⟩
    rfl
  refine ⟨bys root, ⟨tda lr, lr⟩, ?_⟩
  iterate 2 (refine cond_f h5 ?_)
  refine ⟨sgL g, ⟨rfl, rfl⟩, ?_⟩
  iterate 1 (refine cond_f h5 ?_)
  refine And.intro (plainA_bys _).nn (And.intro (nn_sgA _) ?_)
  refine ⟨⟨root, b, g⟩, rfl, ⟨hr, hb, hg⟩, ?_⟩
  iterate 1 (refine cond_f h5 ?_)
  refine cond_split (fun h6 => ?_) (fun h6 => ?_)
  · refine ⟨(), rfl, trivial, ?_⟩
    refine ⟨_, (by first | exact SubSt.refl _ | exact SubTop.refl _), ?_⟩
    rfl
  have va : verB root a g = true := by simpa using h5
  have vb : verB root b g = true := by
    rw [h5] at h6
    simpa using h6
  refine ⟨_, rfl, ?_⟩
  refine ⟨Nat, fun p => p ≤ 128 ∧ ∀ j, j < p → ¬ sha (g.rev.getD j []) = g.oth.getD j [], fun p => mks [(4, .ref 0 0), (7, .str a), (8, .str b), (50, dl g.rev), (51, .int .i64 g.rev.length), (52, .int .i64 p)]
    [(0, .cells (sgL g))] 1, fun p => 128 - p, 0, ⟨by omega, fun j hj => by omega⟩, ?_, ?_⟩
  · refine sub_ren [1] rfl (by decide) ⟨⟨_, rfl, ⟨1, rfl, rfl⟩⟩, ⟨_, rfl, rfl⟩, ⟨_, rfl, rfl⟩, ⟨_, rfl, rfl⟩, ⟨_, rfl, rfl⟩, ⟨_, rfl, rfl⟩, trivial⟩ ⟨⟨1, _, rfl, rfl, ?_⟩, trivial⟩
    exact ⟨_, rfl, eN (nnl_sgL _) rfl⟩
  clear h1 h2 h3 h4 h5 h6
  rintro p ⟨hp, hj⟩
  have lre : (g.rev.length : Int) = 128 := by omega
  refine cond_split (fun h => ?_) (fun h => ?_)
  · have hT : (p : Int) < g.rev.length := of_decide_eq_true h
    have e0 : (p : Int).toNat * 32 = p * 32 := by omega
    obtain ⟨r, er⟩ : ∃ r, r = g.rev.getD p [] := ⟨_, rfl⟩
    have lrr : r.length = 32 := by rw [er]; exact getD_len hg.1 (by omega)
    have lbr : (bys r).length = 32 := by rw [bys_length, lrr]
    have lo : (g.oth.getD p []).length = 32 := getD_len hg.2.1 (by omega)
    refine And.intro ⟨rfl, by decide, by omega, by omega⟩ ?_
    refine And.intro (nnl_bys _) ⟨bys r, ⟨by rw [e0, bys_flat hg.1 (by omega), er], lbr⟩, ?_⟩
    refine And.intro ⟨lbr, bys_all _⟩ ?_
    refine And.intro (Nat.le_refl 32) ?_
    refine ⟨_, lay_all (vs := bys r) lbr, ?_⟩
    refine ⟨bys r, ⟨tda lbr, lbr⟩, ?_⟩
    refine And.intro (plainA_bys _).nn ?_
    refine ⟨r, rfl, lrr, ?_⟩
    refine ⟨r, rfl, by show r.length ≤ _; omega, ?_⟩
    refine ⟨_, rfl, ?_⟩
    refine And.intro ⟨rfl, by decide, by omega, by show (p : Int) < g.oth.length; omega⟩ ?_
    refine And.intro (nnl_bys _) ⟨bys (g.oth.getD p []), ⟨by rw [e0, bys_flat hg.2.1 (by omega)], by rw [bys_length, lo]⟩, ?_⟩
    refine ⟨_, eq_bys (sha_len _) lo, ?_⟩
    refine cond_split (fun h => ?_) (fun h => ?_)
    · refine ⟨(), rfl, trivial, ?_⟩
      refine ⟨_, (by first | exact SubSt.refl _ | exact SubTop.refl _), ?_⟩
      rfl
    · have hx : ¬ sha r = g.oth.getD p [] := by simpa using h
      refine And.intro (by omega) ?_
      refine ⟨p + 1, ⟨by omega, fun j hj' => ?_⟩, by dsimp only; omega, ?_⟩
      · by_cases hjp : j = p
        · subst hjp; rw [← er]; exact hx
        · exact hj j (by omega)
      · refine sub_ren [0] rfl (by decide) ⟨⟨_, rfl, ⟨0, rfl, rfl⟩⟩, ⟨_, rfl, rfl⟩, ⟨_, rfl, rfl⟩, ⟨_, rfl, rfl⟩, ⟨_, rfl, rfl⟩, ⟨_, rfl, eI (by omega)⟩, trivial⟩ ⟨⟨0, _, rfl, rfl, ?_⟩, trivial⟩
        exact ⟨_, rfl, eN (nnl_sgL _) rfl⟩
  · have hF : ¬ (p : Int) < g.rev.length := of_decide_eq_false h
    have : p = 128 := by omega
    subst this
    obtain ⟨X, hX⟩ : ∃ X, X = strsG (bitB ((sha a).take 16)) g := ⟨_, rfl⟩
    obtain ⟨Y, hY⟩ : ∃ Y, Y = strsG (bitB ((sha b).take 16)) g := ⟨_, rfl⟩
    have lX : X.length = 131 := by rw [hX]; exact strsG_len g1
    have lY : Y.length = 131 := by rw [hY]; exact strsG_len g1
    have sX : ∀ s ∈ X, s.length ≤ 1000000000 := by rw [hX]; exact strsG_short hg hz
    have sY : ∀ s ∈ Y, s.length ≤ 1000000000 := by rw [hY]; exact strsG_short hg hz
    have ver : ∀ m, verB root m g = true → sha (above2 (bitB ((sha m).take 16)) g) = root := by
      intro m hm
      rw [above_top g3]
      unfold verB at hm
      simp only [Bool.and_eq_true, decide_eq_true_eq] at hm
      exact hm.2
    have col : colB (X ++ Y) = true := by
      rw [hX, hY]
      exact twice_collides (bitB_le _) (bitB_le _) hg hz (bits_differ (tag_len a) (tag_len b) hne) (fun p hp => hj p hp) (ver a va) (ver b vb)
    refine ⟨a, rfl, ha, ?_⟩
    refine ⟨sgL g, ⟨rfl, rfl⟩, ?_⟩
    refine And.intro (nn_sgA g) ?_
    refine ⟨⟨(sha a).take 16, g⟩, rfl, ⟨tag_len a, hg, hz⟩, ?_⟩
    refine ⟨b, rfl, hb, ?_⟩
    refine ⟨sgL g, ⟨rfl, rfl⟩, ?_⟩
    refine And.intro (nn_sgA g) ?_
    refine ⟨⟨(sha b).take 16, g⟩, rfl, ⟨tag_len b, hg, hz⟩, ?_⟩
    have c1 : (strs (strsG (bitB ((sha a).take 16)) g)).length = 131 * 1 := by rw [strs_len, ← hX, lX]
    have c2 : (0 + 131) * 1 ≤ (strs (strsG (bitB ((sha b).take 16)) g)).length := by rw [strs_len, ← hY, lY]; decide
    have c3 : strs (X ++ Y) = strs (strsG (bitB ((sha a).take 16)) g) ++ ((strs (strsG (bitB ((sha b).take 16)) g)).drop (0 * 1)).take (131 * 1) := by
      rw [hX, hY]
      exact (app_all (by rw [← hY]; exact lY)).symm
    refine And.intro ⟨(show (4 : Nat) ≠ 8 by decide), rfl, rfl, rfl, c1, c2, one_strs _, (show (131 + 131) * 16 ≤ 140737488355328 by decide)⟩ ⟨strs (X ++ Y), c3, ?_⟩
    have c4 : (0 + (131 + 131)) * 1 ≤ (strs (X ++ Y)).length := by rw [strs_len, List.length_append, lX, lY]; decide
    refine And.intro c4 (And.intro (nnl_strs _) ⟨X ++ Y, lend_all (n := 131 + 131) (by rw [List.length_append, lX, lY]), ⟨?_, ?_⟩, plain_bool _, ?_⟩)
    · show (X ++ Y).length ≤ 1000000000
      rw [List.length_append, lX, lY]; decide
    · intro s hs
      rcases List.mem_append.1 hs with hs | hs
      · exact sX s hs
      · exact sY s hs
    iterate 1 (refine cond_t col ?_)
    refine ⟨(), rfl, trivial, ?_⟩
    refine And.intro rfl ?_
    refine ⟨_, (by first | exact SubSt.refl _ | exact SubTop.refl _), ?_⟩
    show AV.bool (cond (colB (X ++ Y)) true false) = AV.bool true
    rw [col]
    rfl

end Qk

/-
  The statement of chapter 53 on signatures that are unique.
-/
namespace Qk
open Go Go.RowKit
attribute [local irreducible] sha hmac
attribute [local irreducible] rootB leafK verB sameB chk colB strsG

set_option maxHeartbeats 1000000 in
set_option maxRecDepth 2000 in
theorem d_law_Unique : Does ir_quiltlaw53_LamportUnique C_quiltlaw53_LamportUnique := by
  rintro ⟨root, ⟨g, k⟩, a, b⟩ ⟨hr, hg, hk⟩
  dsimp only at hr hg hk
  have lr : (bys root).length = 32 := by rw [bys_length, hr]
  refine jn_to ?_
  refine And.intro (by decide) ?_
  refine ⟨sgL g, ⟨rfl, rfl⟩, ?_⟩
  refine And.intro (by decide) ?_
  refine ⟨sgL k, ⟨rfl, rfl⟩, ?_⟩
  refine And.intro (by decide) ?_
  refine ⟨_, rfl, ?_⟩
  refine And.intro (by decide) ?_
  refine ⟨_, rfl, ?_⟩
  refine And.intro ⟨rfl, one_sgL g⟩ ?_
  refine And.intro (Nat.le_refl 4) ?_
  refine ⟨_, rfl, ?_⟩
  refine And.intro ⟨rfl, one_sgL k⟩ ?_
  refine And.intro (Nat.le_refl 4) ?_
  refine ⟨_, rfl, ?_⟩
  refine And.intro rfl ?_
  refine ⟨mks [(3, .ref 0 0), (7, .ref 1 0), (8, .ref 2 0), (9, .str a), (10, .str b)] [(0, .cells (bys root)), (1, .cells (sgL g)), (2, .cells (sgL k))] 3, ?_, ?_⟩
  · refine sub_ren [0, 11, 12] rfl (by decide) ⟨⟨_, rfl, ⟨0, rfl, rfl⟩⟩, ⟨_, rfl, ⟨11, rfl, rfl⟩⟩, ⟨_, rfl, ⟨12, rfl, rfl⟩⟩, ⟨_, rfl, rfl⟩, ⟨_, rfl, rfl⟩, trivial⟩ ⟨⟨0, _, rfl, rfl, ⟨_, rfl, eB rfl⟩⟩, ⟨11, _, rfl, rfl, ?_⟩, ⟨12, _, rfl, rfl, ?_⟩, trivial⟩
    · exact ⟨_, rfl, eN (nnl_sgL _) rfl⟩
    · exact ⟨_, rfl, eN (nnl_sgL _) rfl⟩
  refine And.intro (show (0 + 2) * 1 ≤ 2 by decide) (And.intro (nnl_strs [a, b]) ⟨[a, b], rfl, by show 2 ≤ _; decide, (plain_bool _), ?_⟩)
  refine cond_split (fun h1 => ?_) (fun h1 => ?_)
  · iterate 2 (refine cond_t h1 ?_)
    refine ⟨(), rfl, trivial, ?_⟩
    refine ⟨_, (by first | exact SubSt.refl _ | exact SubTop.refl _), ?_⟩
    rfl
  have hl := long_no (l := [a, b]) h1
  have ha : a.length ≤ 1000000000 := by have := hl a (by simp); omega
  have hb : b.length ≤ 1000000000 := by have := hl b (by simp); omega
  refine ⟨sgL g, ⟨rfl, rfl⟩, ?_⟩
  iterate 1 (refine cond_f h1 ?_)
  refine And.intro (nn_sgA g) ?_
  refine ⟨g, rfl, trivial, ?_⟩
  refine cond_split (fun h2 => ?_) (fun h2 => ?_)
  · iterate 2 (refine cond_t h2 ?_)
    refine ⟨(), rfl, trivial, ?_⟩
    refine ⟨_, (by first | exact SubSt.refl _ | exact SubTop.refl _), ?_⟩
    rfl
  refine ⟨sgL k, ⟨rfl, rfl⟩, ?_⟩
  iterate 1 (refine cond_f h2 ?_)
  refine And.intro (nn_sgA k) ?_
  refine ⟨k, rfl, trivial, ?_⟩
  refine cond_split (fun h3 => ?_) (fun h3 => ?_)
  · iterate 3 (refine cond_t h3 ?_)
    refine ⟨(), rfl, trivial, ?_⟩
    refine ⟨_, (by first | exact SubSt.refl _ | exact SubTop.refl _), ?_⟩
    rfl
  refine ⟨sgL g, ⟨rfl, rfl⟩, ?_⟩
  iterate 1 (refine cond_f h3 ?_)
  refine And.intro (nn_sgA g) ?_
  refine ⟨g, rfl, trivial, ?_⟩
  iterate 1 (refine cond_f h3 ?_)
  refine cond_split (fun h4 => ?_) (fun h4 => ?_)
  · iterate 3 (refine cond_t h4 ?_)
    refine ⟨(), rfl, trivial, ?_⟩
    refine ⟨_, (by first | exact SubSt.refl _ | exact SubTop.refl _), ?_⟩
    rfl
  have zg : chk g = 0 := by
    rw [h3] at h4
    simpa using h4
  refine ⟨sgL k, ⟨rfl, rfl⟩, ?_⟩
  iterate 1 (refine cond_f h4 ?_)
  refine And.intro (nn_sgA k) ?_
  refine ⟨k, rfl, trivial, ?_⟩
  iterate 1 (refine cond_f h4 ?_)
  refine cond_split (fun h5 => ?_) (fun h5 => ?_)
  · iterate 5 (refine cond_t h5 ?_)
    refine ⟨(), rfl, trivial, ?_⟩
    refine ⟨_, (by first | exact SubSt.refl _ | exact SubTop.refl _), ?_⟩
    rfl
  have zk : chk k = 0 := by
    rw [h4] at h5
    simpa using h5
  iterate 1 (refine cond_f h5 ?_)
  refine ⟨_, rfl, ?_⟩
  iterate 2 (refine cond_f h5 ?_)
  refine ⟨_, rfl, ?_⟩
  iterate 1 (refine cond_f h5 ?_)
  refine cond_split (fun h6 => ?_) (fun h6 => ?_)
  · iterate 3 (refine cond_t h6 ?_)
    refine ⟨(), rfl, trivial, ?_⟩
    refine ⟨_, (by first | exact SubSt.refl _ | exact SubTop.refl _), ?_⟩
    rfl
  have ei : g.i = k.i := by
    rw [h5] at h6
    simpa using h6
  obtain ⟨hi, g1, g2, g3⟩ := chk_zero zg
  obtain ⟨_, k1, k2, k3⟩ := chk_zero zk
  refine ⟨sgL g, ⟨rfl, rfl⟩, ?_⟩
  iterate 1 (refine cond_f h6 ?_)
  refine ⟨sgL k, ⟨rfl, rfl⟩, ?_⟩
  iterate 1 (refine cond_f h6 ?_)
  refine And.intro (nn_sgA _) (And.intro (nn_sgA _) ?_)
  refine ⟨⟨g, k⟩, rfl, ⟨hg, hk, ⟨by dsimp only; omega, by dsimp only; omega, by dsimp only; omega⟩⟩, ?_⟩
  refine cond_split (fun h7 => ?_) (fun h7 => ?_)
  · iterate 5 (refine cond_t h7 ?_)
    refine ⟨(), rfl, trivial, ?_⟩
    refine ⟨_, (by first | exact SubSt.refl _ | exact SubTop.refl _), ?_⟩
    rfl
  have sm : sameB g k = false := by
    rw [h6] at h7
    exact h7
  iterate 1 (refine cond_f h7 ?_)
  refine ⟨a, rfl, ha, ?_⟩
  iterate 2 (refine cond_f h7 ?_)
  refine ⟨b, rfl, hb, ?_⟩
  iterate 1 (refine cond_f h7 ?_)
  refine cond_split (fun h8 => ?_) (fun h8 => ?_)
  · refine ⟨(), rfl, trivial, ?_⟩
    refine ⟨_, (by first | exact SubSt.refl _ | exact SubTop.refl _), ?_⟩
    rfl
  have hteq : (sha a).take 16 = (sha b).take 16 := by
    rw [h7] at h8
    simpa using h8
  refine ⟨bys root, ⟨tda lr, lr⟩, ?_⟩
  refine ⟨sgL g, ⟨rfl, rfl⟩, ?_⟩
  refine And.intro (plainA_bys _).nn (And.intro (nn_sgA _) ?_)
  refine ⟨⟨root, a, g⟩, rfl, ⟨hr, ha, hg⟩, ?_⟩
  refine cond_split (fun h9 => ?_) (fun h9 => ?_)
  · iterate 5 (refine cond_t h9 ?_)
    refine ⟨(), rfl, trivial, ?_⟩
    refine ⟨_, (by first | exact SubSt.refl _ | exact SubTop.refl _), ?_⟩
    rfl
  refine ⟨bys root, ⟨tda lr, lr⟩, ?_⟩
  iterate 2 (refine cond_f h9 ?_)
  refine ⟨sgL k, ⟨rfl, rfl⟩, ?_⟩
  iterate 1 (refine cond_f h9 ?_)
  refine And.intro (plainA_bys _).nn (And.intro (nn_sgA _) ?_)
  refine ⟨⟨root, b, k⟩, rfl, ⟨hr, hb, hk⟩, ?_⟩
  iterate 1 (refine cond_f h9 ?_)
  refine cond_split (fun h10 => ?_) (fun h10 => ?_)
  · refine ⟨(), rfl, trivial, ?_⟩
    refine ⟨_, (by first | exact SubSt.refl _ | exact SubTop.refl _), ?_⟩
    rfl
  have va : verB root a g = true := by simpa using h9
  have vb : verB root b k = true := by
    rw [h9] at h10
    simpa using h10
  obtain ⟨X, hX⟩ : ∃ X, X = strsG (bitB ((sha a).take 16)) g := ⟨_, rfl⟩
  obtain ⟨Y, hY⟩ : ∃ Y, Y = strsG (bitB ((sha b).take 16)) k := ⟨_, rfl⟩
  have lX : X.length = 131 := by rw [hX]; exact strsG_len g1
  have lY : Y.length = 131 := by rw [hY]; exact strsG_len k1
  have sX : ∀ s ∈ X, s.length ≤ 1000000000 := by rw [hX]; exact strsG_short hg zg
  have sY : ∀ s ∈ Y, s.length ≤ 1000000000 := by rw [hY]; exact strsG_short hk zk
  have ver : ∀ m (x : Sg), x.path.length = 2 → verB root m x = true → sha (above2 (bitB ((sha m).take 16)) x) = root := by
    intro m x hx hm
    rw [above_top hx]
    unfold verB at hm
    simp only [Bool.and_eq_true, decide_eq_true_eq] at hm
    exact hm.2
  have col : colB (X ++ Y) = true := by
    have r1 := ver a g g3 va
    have r2 := ver b k k3 vb
    rw [← hteq] at r2
    rw [hX, hY, ← hteq]
    exact unique_collides (bitB_le _) hg hk zg zk ei sm r1 r2
  refine ⟨a, rfl, ha, ?_⟩
  refine ⟨sgL g, ⟨rfl, rfl⟩, ?_⟩
  refine And.intro (nn_sgA g) ?_
  refine ⟨⟨(sha a).take 16, g⟩, rfl, ⟨tag_len a, hg, zg⟩, ?_⟩
  refine ⟨b, rfl, hb, ?_⟩
  refine ⟨sgL k, ⟨rfl, rfl⟩, ?_⟩
  refine And.intro (nn_sgA k) ?_
  refine ⟨⟨(sha b).take 16, k⟩, rfl, ⟨tag_len b, hk, zk⟩, ?_⟩
  have c1 : (strs (strsG (bitB ((sha a).take 16)) g)).length = 131 * 1 := by rw [strs_len, ← hX, lX]
  have c2 : (0 + 131) * 1 ≤ (strs (strsG (bitB ((sha b).take 16)) k)).length := by rw [strs_len, ← hY, lY]; decide
  have c3 : strs (X ++ Y) = strs (strsG (bitB ((sha a).take 16)) g) ++ ((strs (strsG (bitB ((sha b).take 16)) k)).drop (0 * 1)).take (131 * 1) := by
    rw [hX, hY]
    exact (app_all (by rw [← hY]; exact lY)).symm
  refine And.intro ⟨(show (7 : Nat) ≠ 11 by decide), rfl, rfl, rfl, c1, c2, one_strs _, (show (131 + 131) * 16 ≤ 140737488355328 by decide)⟩ ⟨strs (X ++ Y), c3, ?_⟩
  have c4 : (0 + (131 + 131)) * 1 ≤ (strs (X ++ Y)).length := by rw [strs_len, List.length_append, lX, lY]; decide
  refine And.intro c4 (And.intro (nnl_strs _) ⟨X ++ Y, lend_all (n := 131 + 131) (by rw [List.length_append, lX, lY]), ⟨?_, ?_⟩, plain_bool _, ?_⟩)
  · show (X ++ Y).length ≤ 1000000000
    rw [List.length_append, lX, lY]; decide
  · intro s hs
    rcases List.mem_append.1 hs with hs | hs
    · exact sX s hs
    · exact sY s hs
  iterate 1 (refine cond_t col ?_)
  refine ⟨(), rfl, trivial, ?_⟩
  refine And.intro rfl ?_
  refine ⟨_, (by first | exact SubSt.refl _ | exact SubTop.refl _), ?_⟩
  show AV.bool (cond (colB (X ++ Y)) true false) = AV.bool true
  rw [col]
  rfl

end Qk
