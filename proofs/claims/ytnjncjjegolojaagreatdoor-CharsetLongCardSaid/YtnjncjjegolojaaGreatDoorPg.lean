/-
  Chapter 57: words, contracts, writing of runes, the codings.
-/
import Derived.Lib.MapLaws
import Derived.Lib.ValidLaws
import Derived.Test.YtnjncjjegolojaaGreatDoorPa
import Derived.Lib.Replace
import Derived.Lib.IndexMore
import Derived.Lib.CountLaws
import Derived.Test.YtnjncjjegolojaaGreatDoorPf
import Derived.Test.YtnjncjjegolojaaGreatDoorPc
import Derived.Test.YtnjncjjegolojaaGreatDoorPe

/-
  Chapter 57, plain: code points, their UTF-8, ISO 8859-1 and UTF-16.
-/
namespace Qk
open Go

/-- A code point. -/
def Sc (c : Nat) : Prop := c < 55296 ∨ (57344 ≤ c ∧ c ≤ 1114111)
instance (c : Nat) : Decidable (Sc c) := inferInstanceAs (Decidable (_ ∨ _))
/-- Its UTF-8. -/
def enc (c : Nat) : List UInt8 := Lib.encodeRune (c : Int)

theorem toNat_u8 {n : Nat} (h : n < 256) : (n.toUInt8).toNat = n := by
 show (UInt8.ofNat n).toNat = n
 simp [Nat.mod_eq_of_lt h]
theorem enc_one {c : Nat} (h : c < 128) : enc c = [c.toUInt8] := by
 unfold enc Lib.encodeRune
 rw [Lib.encodeRuneZ_one (by omega) (by omega)]
 simp
theorem enc_two {c : Nat} (h : 128 ≤ c) (h1 : c < 2048) : enc c = [(192 + c / 64).toUInt8,(128 + c % 64).toUInt8] := by
 unfold enc Lib.encodeRune
 rw [Lib.encodeRuneZ_two (by omega) (by omega)]
 simp only [List.map_cons,List.map_nil]
 have e1 : (192 + (c : Int) / 64).toNat = 192 + c / 64 := by omega
 have e2 : (128 + (c : Int) % 64).toNat = 128 + c % 64 := by omega
 rw [e1,e2]
theorem enc_three {c : Nat} (h : 2048 ≤ c) (h1 : c < 65536) (h2 : Sc c) : enc c = [(224 + c / 4096).toUInt8,(128 + c / 64 % 64).toUInt8,(128 + c % 64).toUInt8] := by
 unfold enc Lib.encodeRune
 unfold Sc at h2
 rw [Lib.encodeRuneZ_three (by omega)]
 simp only [List.map_cons,List.map_nil]
 have e1 : (224 + (c : Int) / 4096).toNat = 224 + c / 4096 := by omega
 have e2 : (128 + (c : Int) / 64 % 64).toNat = 128 + c / 64 % 64 := by omega
 have e3 : (128 + (c : Int) % 64).toNat = 128 + c % 64 := by omega
 rw [e1,e2,e3]
theorem enc_four {c : Nat} (h : 65536 ≤ c) (h1 : c ≤ 1114111) : enc c = [(240 + c / 262144).toUInt8,(128 + c / 4096 % 64).toUInt8,(128 + c / 64 % 64).toUInt8,(128 + c % 64).toUInt8] := by
 unfold enc Lib.encodeRune
 rw [Lib.encodeRuneZ_four (by omega) (by omega)]
 simp only [List.map_cons,List.map_nil]
 have e0 : (240 + (c : Int) / 262144).toNat = 240 + c / 262144 := by omega
 have e1 : (128 + (c : Int) / 4096 % 64).toNat = 128 + c / 4096 % 64 := by omega
 have e2 : (128 + (c : Int) / 64 % 64).toNat = 128 + c / 64 % 64 := by omega
 have e3 : (128 + (c : Int) % 64).toNat = 128 + c % 64 := by omega
 rw [e0,e1,e2,e3]
theorem enc_ne (c : Nat) : enc c ≠ [] := by
 have := (Lib.encodeRuneZ_length (c : Int)).1
 intro h
 have h2 : (enc c).length = 0 := by rw [h]; rfl
 unfold enc Lib.encodeRune at h2
 rw [List.length_map] at h2
 omega
theorem enc_len (c : Nat) : 1 ≤ (enc c).length ∧ (enc c).length ≤ 4 := by
 have := Lib.encodeRuneZ_length (c : Int)
 unfold enc Lib.encodeRune
 rw [List.length_map]
 exact this

/-- What is read from a code point's UTF-8, whatever follows. -/
theorem dec_enc {c : Nat} (h : Sc c) (r : List UInt8) : Lib.decodeL (enc c ++ r) = (c,(enc c).length) := by
 by_cases h1 : c < 128
 ·rw [enc_one h1]
  show Lib.decodeL (c.toUInt8 :: r) = _
  rw [Lib.decodeL_ascii _ _ (by rw [toNat_u8 (by omega)]; exact h1),toNat_u8 (by omega)]
  rfl
 ·by_cases h2 : c < 2048
  ·rw [enc_two (by omega) h2,Lib.decodeL_N]
   simp only [List.cons_append,List.nil_append,List.getD_cons_zero,List.getD_cons_succ,List.length_cons,List.length_nil]
   rw [toNat_u8 (by omega),toNat_u8 (by omega)]
   unfold Lib.decodeN
   rw [if_neg (by omega),if_pos (by omega),if_pos (by omega)]
   refine Prod.ext ?_ rfl
   show (192 + c / 64) % 32 * 64 + (128 + c % 64) % 64 = c
   omega
  ·by_cases h3 : c < 65536
   ·rw [enc_three (by omega) h3 h,Lib.decodeL_N]
    unfold Sc at h
    simp only [List.cons_append,List.nil_append,List.getD_cons_zero,List.getD_cons_succ,List.length_cons,List.length_nil]
    rw [toNat_u8 (by omega),toNat_u8 (by omega),toNat_u8 (by omega)]
    unfold Lib.decodeN
    rw [if_neg (by omega),if_neg (by omega),if_pos (by omega),if_pos (by omega)]
    refine Prod.ext ?_ rfl
    show (224 + c / 4096) % 16 * 4096 + (128 + c / 64 % 64) % 64 * 64 + (128 + c % 64) % 64 = c
    omega
   ·unfold Sc at h
    rw [enc_four (by omega) (by omega),Lib.decodeL_N]
    simp only [List.cons_append,List.nil_append,List.getD_cons_zero,List.getD_cons_succ,List.length_cons,List.length_nil]
    rw [toNat_u8 (by omega),toNat_u8 (by omega),toNat_u8 (by omega),toNat_u8 (by omega)]
    unfold Lib.decodeN
    rw [if_neg (by omega),if_neg (by omega),if_neg (by omega),if_pos (by omega),if_pos (by omega)]
    refine Prod.ext ?_ rfl
    show (240 + c / 262144) % 8 * 262144 + (128 + c / 4096 % 64) % 64 * 4096 + (128 + c / 64 % 64) % 64 * 64 + (128 + c % 64) % 64 = c
    omega
/-- A step that is no error. -/
def Bad (l : List UInt8) : Prop := (Lib.decodeL l).1 = 65533 ∧ (Lib.decodeL l).2 = 1
instance (l : List UInt8) : Decidable (Bad l) := inferInstanceAs (Decidable (_ ∧ _))
theorem not_bad {c : Nat} (h : Sc c) (r : List UInt8) : ¬ Bad (enc c ++ r) := by
 unfold Bad
 rw [dec_enc h]
 rintro ⟨h1,h2⟩
 dsimp only at h1 h2
 subst h1
 revert h2
 decide
theorem dec_sc {l : List UInt8} (_hne : l ≠ []) (hb : ¬ Bad l) : Sc (Lib.decodeL l).1 := by
 have hb := hb
 unfold Bad at hb
 rw [Lib.decodeL_N] at hb ⊢
 have b0 := (l.getD 0 0).toNat_lt
 have b1 := (l.getD 1 0).toNat_lt
 have b2 := (l.getD 2 0).toNat_lt
 have b3 := (l.getD 3 0).toNat_lt
 unfold Lib.decodeN at hb ⊢
 unfold Sc
 repeat' split
 all_goals first | (dsimp only; omega) | (exfalso; simp_all)
theorem dec_take {l : List UInt8} (hne : l ≠ []) (hb : ¬ Bad l) : l = enc (Lib.decodeL l).1 ++ l.drop (Lib.decodeL l).2 := by
 have := Lib.encode_decode l hne hb
 unfold enc
 rw [this,List.take_append_drop]

/-- The code points of a valid string. -/
def ptsF : Nat → List UInt8 → Option (List Nat)
 | 0,_ => some []
 | n + 1,l => if l = [] then some [] else if Bad l then none else (ptsF n (l.drop (Lib.decodeL l).2)).map ((Lib.decodeL l).1 :: ·)
def pts (l : List UInt8) : Option (List Nat) := ptsF l.length l
def txt (cs : List Nat) : List UInt8 := cs.flatMap enc

theorem ptsF_some : ∀ (n : Nat) (l : List UInt8) (cs : List Nat),l.length ≤ n → (ptsF n l = some cs ↔ (∀ c ∈ cs,Sc c) ∧ l = txt cs)
 | 0,l,cs,hn => by
  have : l = [] := List.eq_nil_of_length_eq_zero (by omega)
  subst this
  cases cs with
  | nil => simp [ptsF,txt]
  | cons c cs =>
   refine ⟨fun h => (by cases h),fun h => ?_⟩
   have := h.2
   unfold txt at this
   rw [List.flatMap_cons] at this
   have h2 := congrArg List.length this
   rw [List.length_append] at h2
   have := (enc_len c).1
   simp at h2
   omega
 | n + 1,l,cs,hn => by
  unfold ptsF
  by_cases hl : l = []
  ·subst hl
   rw [if_pos rfl]
   cases cs with
   | nil => simp [txt]
   | cons c cs =>
    refine ⟨fun h => (by cases h),fun h => ?_⟩
    have h2 := congrArg List.length h.2
    unfold txt at h2
    rw [List.flatMap_cons,List.length_append] at h2
    have := (enc_len c).1
    simp at h2
    omega
  ·rw [if_neg hl]
   by_cases hb : Bad l
   ·rw [if_pos hb]
    refine ⟨fun h => (by cases h),fun h => ?_⟩
    exfalso
    cases cs with
    | nil => exact hl h.2
    | cons c cs =>
     have h2 := h.2
     unfold txt at h2
     rw [List.flatMap_cons] at h2
     rw [h2] at hb
     exact not_bad (h.1 c (by simp)) _ hb
   ·rw [if_neg hb]
    have hw := Lib.decodeL_width l
    have hpos : 0 < l.length := List.length_pos_iff.2 hl
    have ih := ptsF_some n (l.drop (Lib.decodeL l).2)
    constructor
    ·intro h
     cases hp : ptsF n (l.drop (Lib.decodeL l).2) with
     | none => rw [hp] at h; cases h
     | some ds =>
      rw [hp] at h
      cases h
      have := (ih ds (by rw [List.length_drop]; omega)).1 hp
      refine ⟨fun c hc => ?_,?_⟩
      ·rcases List.mem_cons.1 hc with rfl | hc
       ·exact dec_sc hl hb
       ·exact this.1 c hc
      ·unfold txt
       rw [List.flatMap_cons,show ds.flatMap enc = txt ds from rfl,← this.2]
       exact dec_take hl hb
    ·rintro ⟨h1,h2⟩
     cases cs with
     | nil => exact absurd h2 hl
     | cons c ds =>
      have e : Lib.decodeL l = (c,(enc c).length) := by
       rw [h2]; unfold txt; rw [List.flatMap_cons]
       exact dec_enc (h1 c (by simp)) _
      have e2 : l.drop (enc c).length = txt ds := by
       rw [h2]; unfold txt; rw [List.flatMap_cons,List.drop_left']
       rfl
      rw [e]
      dsimp only
      have := (ih ds (by rw [List.length_drop]; omega)).2
      rw [e] at this
      rw [this ⟨fun x hx => h1 x (by simp [hx]),e2⟩]
      rfl
theorem pts_some {l : List UInt8} {cs : List Nat} : pts l = some cs ↔ (∀ c ∈ cs,Sc c) ∧ l = txt cs := ptsF_some _ _ _ (Nat.le_refl _)
theorem pts_txt {cs : List Nat} (h : ∀ c ∈ cs,Sc c) : pts (txt cs) = some cs := pts_some.2 ⟨h,rfl⟩

theorem ptsF_valid : ∀ (n : Nat) (l : List UInt8),(ptsF n l).isSome = Lib.validGoD n l
 | 0,_ => rfl
 | n + 1,l => by
  unfold ptsF Lib.validGoD
  by_cases hl : l = []
  ·rw [if_pos hl,if_pos hl]; rfl
  ·rw [if_neg hl,if_neg hl]
   by_cases hb : Bad l
   ·rw [if_pos hb,if_pos (show (Lib.decodeL l).1 = 65533 ∧ (Lib.decodeL l).2 = 1 from hb)]; rfl
   ·rw [if_neg hb,if_neg (show ¬ ((Lib.decodeL l).1 = 65533 ∧ (Lib.decodeL l).2 = 1) from hb),Option.isSome_map]
    exact ptsF_valid n _
theorem pts_valid (l : List UInt8) : (pts l).isSome = Lib.validD l := ptsF_valid _ _

/-! ### The character sets -/
def fromLatinS (l : List UInt8) : List UInt8 := txt (l.map UInt8.toNat)
def toLatinS (l : List UInt8) : List UInt8 × Bool :=
 match pts l with
 | none => ([],false)
 | some cs => if cs.all (fun c => Nat.ble c 255) then (cs.map Nat.toUInt8,true) else ([],false)
/-- A unit of UTF-16. -/
def two (c : Nat) : List UInt8 := [c.toUInt8,(c / 256).toUInt8]
def wide (c : Nat) : List UInt8 := if c < 65536 then two c else two (55296 + (c - 65536) / 1024) ++ two (56320 + (c - 65536) % 1024)
def toUtf16S (l : List UInt8) : List UInt8 × Bool :=
 match pts l with
 | none => ([],false)
 | some cs => if l = [] then ([],true) else (255 :: 254 :: cs.flatMap wide,true)
def wordsL : List UInt8 → Option (List Nat)
 | [] => some []
 | [_] => none
 | a :: b :: r => (wordsL r).map ((a.toNat + 256 * b.toNat) :: ·)
def surr : List Nat → Option (List Nat)
 | [] => some []
 | c :: r => if 56320 ≤ c ∧ c < 57344 then none else if 55296 ≤ c ∧ c < 56320 then (match r with
   | [] => none
   | d :: r' => if d < 56320 ∨ 57344 ≤ d then none else (surr r').map ((65536 + (c - 55296) * 1024 + d - 56320) :: ·)) else (surr r).map (c :: ·)
def fromUtf16S (l : List UInt8) : List UInt8 × Bool :=
 match l with
 | [] => ([],true)
 | 255 :: 254 :: r => match wordsL r with
  | none => ([],false)
  | some ws => if ws = [] then ([],false) else match surr ws with
   | none => ([],false)
   | some cs => (txt cs,true)
 | _ => ([],false)

/-- Of a coding: what is decoded, encoded; the error. -/
def convS (f : List UInt8 → List UInt8 × Bool) (l : List UInt8) : List UInt8 × Int :=
 if 65536 < l.length then ([],4) else
  match f l with
  | (t,true) => if 65536 < t.length then ([],4) else (t,0)
  | (_,false) => ([],24)
def sameS (l : List UInt8) : List UInt8 × Bool := (l,Lib.validD l)
def decodeS (set : Int) (l : List UInt8) : List UInt8 × Int :=
 if set = 1 then convS sameS l else if set = 2 then convS (fun l => (fromLatinS l,true)) l else if set = 3 then convS fromUtf16S l else ([],8)
def encodeS (set : Int) (l : List UInt8) : List UInt8 × Int :=
 if set = 1 then convS sameS l else if set = 2 then convS toLatinS l else if set = 3 then convS toUtf16S l else ([],8)

end Qk

/-
  Chapter 57, plain: words of UTF-16.
-/
namespace Qk
open Go

theorem wrap32 {n : Nat} (h : n < 2147483648) : IntKind.i32.wrap (n : Int) = n := by
 have e : (n : Int) % 4294967296 = n := by omega
 show (if (true && decide ((n : Int) % 4294967296 ≥ 2147483648)) = true then (n : Int) % 4294967296 - 4294967296 else (n : Int) % 4294967296) = n
 rw [e,decide_eq_false (by omega)]
 rfl
theorem or_word {a b : Nat} (ha : a < 256) (hb : b < 256) : orI .i32 (a : Int) (shlI .i32 (b : Int) 8) = ((a + 256 * b : Nat) : Int) := by
 have e1 : shlI .i32 (b : Int) 8 = ((b * 256 : Nat) : Int) := by
  show IntKind.i32.wrap ((b : Int) * 256) = _
  have : ((b : Int) * 256) = ((b * 256 : Nat) : Int) := by simp
  rw [this,wrap32 (by omega)]
 rw [e1]
 show IntKind.i32.wrap (((BitVec.ofInt 32 (a : Int) ||| BitVec.ofInt 32 ((b * 256 : Nat) : Int)).toNat : Nat) : Int) = _
 rw [BitVec.ofInt_natCast,BitVec.ofInt_natCast,BitVec.toNat_or,BitVec.toNat_ofNat,BitVec.toNat_ofNat,Nat.mod_eq_of_lt (by omega),Nat.mod_eq_of_lt (by omega)]
 have e2 : a ||| b * 256 = a + 256 * b := by
  have := Nat.shiftLeft_add_eq_or_of_lt (b := a) (i := 8) ha b
  rw [Nat.shiftLeft_eq] at this
  rw [Nat.or_comm]
  rw [show b * 256 = b * 2 ^ 8 from rfl,← this]
  omega
 rw [e2,wrap32 (by omega)]

/-- The words of an even number of bytes. -/
def wordsF (s : List UInt8) : List Nat := (List.range (s.length / 2)).map fun k => (s.getD (2 * k) 0).toNat + 256 * (s.getD (2 * k + 1) 0).toNat
theorem wordsF_len (s : List UInt8) : (wordsF s).length = s.length / 2 := by simp [wordsF]
theorem words_odd : ∀ (s : List UInt8),s.length % 2 = 1 → wordsL s = none
 | [],h => by simp at h
 | [_],_ => rfl
 | a :: b :: r,h => by
  rw [wordsL,words_odd r (by simp at h; omega)]; rfl
theorem words_even : ∀ (s : List UInt8),s.length % 2 = 0 → wordsL s = some (wordsF s)
 | [],_ => rfl
 | [_],h => by simp at h
 | a :: b :: r,h => by
  have hr : r.length % 2 = 0 := by simp at h; omega
  rw [wordsL,words_even r hr]
  have e : (a :: b :: r).length / 2 = r.length / 2 + 1 := by simp only [List.length_cons]; omega
  unfold wordsF
  rw [e,List.range_succ_eq_map,List.map_cons,List.map_map]
  simp only [Option.map_some]
  congr 1
theorem wordsF_get {s : List UInt8} {k : Nat} (h : k < s.length / 2) : (wordsF s)[k]? = some ((s.getD (2 * k) 0).toNat + 256 * (s.getD (2 * k + 1) 0).toNat) := by
 simp [wordsF,h]
theorem wordsF_lt {s : List UInt8} : ∀ w ∈ wordsF s,w < 65536 := by
 intro w hw
 obtain ⟨k,_,rfl⟩ := List.mem_map.1 hw
 have h1 := (s.getD (2 * k) 0).toNat_lt
 have h2 := (s.getD (2 * k + 1) 0).toNat_lt
 omega

end Qk

/-
  Chapter 57, plain: replacing.
-/
namespace Qk
open Go

section
variable {old new : List UInt8}
theorem ra_eq (hon : old ≠ new) (s : List UInt8) : Lib.replaceAll s old new = Lib.replaceK old new (Lib.count s old) s := by
 unfold Lib.replaceAll Lib.replace Lib.replaceNum
 have h1 : (old == new) = false := by simpa using hon
 rw [h1]
 simp
theorem ra_nil (hne : old ≠ []) (hon : old ≠ new) : Lib.replaceAll [] old new = [] := by
 rw [ra_eq hon]
 have hi : Lib.index [] old = -1 := by
  unfold Lib.index
  cases old with
  | nil => exact absurd rfl hne
  | cons => rfl
 rw [Lib.count_miss hi]; rfl
theorem ra_hit (hne : old ≠ []) (hon : old ≠ new) (r : List UInt8) : Lib.replaceAll (old ++ r) old new = new ++ Lib.replaceAll r old new := by
 rw [ra_eq hon,ra_eq hon]
 have hi : Lib.index (old ++ r) old = (0 : Nat) := by
  have hp : old.isPrefixOf (old ++ r) = true := List.isPrefixOf_iff_prefix.2 (List.prefix_append _ _)
  cases ho : old ++ r with
  | nil =>
   rw [List.append_eq_nil_iff] at ho
   exact absurd ho.1 hne
  | cons b l =>
   rw [ho] at hp
   unfold Lib.index
   rw [if_pos hp]; rfl
 rw [Lib.count_hit hne hi,Nat.add_comm,Lib.replaceK_hit _ _ _ _ 0 hi]
 simp
theorem ra_miss (hne : old ≠ []) (hon : old ≠ new) {b : UInt8} {l : List UInt8} (h : old.isPrefixOf (b :: l) = false) : Lib.replaceAll (b :: l) old new = b :: Lib.replaceAll l old new := by
 rw [ra_eq hon,ra_eq hon]
 have hi : Lib.index (b :: l) old = if Lib.index l old == -1 then -1 else Lib.index l old + 1 := by
  conv => lhs; unfold Lib.index
  rw [if_neg (by rw [h]; decide)]
 rcases Lib.index_spec l old with ⟨h1,_⟩ | ⟨i,h1,_⟩
 ·rw [h1] at hi
  rw [Lib.count_miss hi,Lib.count_miss h1]; rfl
 ·have hi2 : Lib.index (b :: l) old = ((i + 1 : Nat) : Int) := by
   rw [hi,h1,if_neg (by simp)]; simp
  have hc1 := Lib.count_hit hne hi2
  have hc2 := Lib.count_hit hne h1
  have hd : (b :: l).drop (i + 1 + old.length) = l.drop (i + old.length) := by
   rw [show i + 1 + old.length = (i + old.length) + 1 by omega,List.drop_succ_cons]
  rw [hd] at hc1
  rw [hc1,hc2,Nat.add_comm,Lib.replaceK_hit _ _ _ _ _ hi2,Lib.replaceK_hit _ _ _ _ _ h1,hd]
  simp
end

/-- Without the CR ahead of each LF. -/
def stripCR : List UInt8 → List UInt8
 | [] => []
 | [b] => [b]
 | b :: c :: r => if b = 13 ∧ c = 10 then 10 :: stripCR r else b :: stripCR (c :: r)
/-- With a CR ahead of each LF. -/
def addCR (s : List UInt8) : List UInt8 := s.flatMap fun b => if b = 10 then [13,10] else [b]
theorem ra_strip : ∀ (s : List UInt8),Lib.replaceAll s [13,10] [10] = stripCR s
 | [] => ra_nil (by decide) (by decide)
 | [b] => by
  rw [ra_miss (by decide) (by decide) (by simp [List.isPrefixOf]),ra_nil (by decide) (by decide)]; rfl
 | b :: c :: r => by
  unfold stripCR
  by_cases h : b = 13 ∧ c = 10
  ·obtain ⟨rfl,rfl⟩ := h
   rw [if_pos ⟨rfl,rfl⟩]
   show Lib.replaceAll ([13,10] ++ r) [13,10] [10] = _
   rw [ra_hit (by decide) (by decide),ra_strip r]; rfl
  ·rw [if_neg h,ra_miss (by decide) (by decide) ?_,ra_strip (c :: r)]
   simp only [List.isPrefixOf,Bool.and_true,Bool.and_eq_false_imp,beq_iff_eq]
   intro h1
   simpa using fun h2 => h ⟨h1.symm,h2.symm⟩
theorem ra_add : ∀ (s : List UInt8),Lib.replaceAll s [10] [13,10] = addCR s
 | [] => ra_nil (by decide) (by decide)
 | b :: r => by
  unfold addCR
  rw [List.flatMap_cons]
  by_cases h : b = 10
  ·subst h
   rw [if_pos rfl]
   show Lib.replaceAll ([10] ++ r) [10] [13,10] = _
   rw [ra_hit (by decide) (by decide),ra_add r]; rfl
  ·rw [if_neg h,ra_miss (by decide) (by decide) ?_,ra_add r]
   ·rfl
   ·simp only [List.isPrefixOf,Bool.and_true]
    simpa using fun e => h e.symm
theorem stripCR_len : ∀ (s : List UInt8),(stripCR s).length ≤ s.length
 | [] => Nat.le_refl _
 | [_] => Nat.le_refl _
 | b :: c :: r => by
  unfold stripCR
  split
  ·have := stripCR_len r
   simp only [List.length_cons]; omega
  ·have := stripCR_len (c :: r)
   simp only [List.length_cons] at this ⊢; omega
theorem addCR_len (s : List UInt8) : (addCR s).length ≤ 2 * s.length := by
 unfold addCR
 induction s with
 | nil => exact Nat.zero_le _
 | cons b r ih =>
  rw [List.flatMap_cons,List.length_append,List.length_cons]
  have : (if b = 10 then [13,10] else [b] : List UInt8).length ≤ 2 := by split <;> simp
  omega

end Qk

/-
  Chapter 57: attributes and contracts.
-/
namespace Qk
open Go Go.RowKit

/-- An attribute. -/
structure Att where
 g : List UInt8
 set : Int
 eol : Int
theorem Att.ext' {a b : Att} (h1 : a.g = b.g) (h2 : a.set = b.set) (h3 : a.eol = b.eol) : a = b := by cases a; cases b; simp_all
instance : DecidableEq Att := fun a b => if h : a.g = b.g ∧ a.set = b.set ∧ a.eol = b.eol then isTrue (Att.ext' h.1 h.2.1 h.2.2) else isFalse (fun e => h (by subst e; exact ⟨rfl,rfl,rfl⟩))
def Att.zero : Att := ⟨[],0,0⟩
instance : Inhabited Att := ⟨Att.zero⟩
def attA (a : Att) : List AV := [.str a.g,.int .i64 a.set,.int .i64 a.eol]
def flatA (l : List Att) : List AV := l.flatMap attA
def attsA (l : List Att) : AV := .ilist 3 l.length (flatA l)
theorem attA_len (a : Att) : (attA a).length = 3 := rfl
theorem plain_attA (a : Att) : ∀ c ∈ attA a,PlainV c := by
 intro c hc
 simp only [attA,List.mem_cons,List.not_mem_nil,or_false] at hc
 rcases hc with rfl | rfl | rfl
 ·exact plain_str _
 ·exact plain_int _ _
 ·exact plain_int _ _
theorem nnl_attA (a : Att) : NNL (attA a) := nnl_plain (plain_attA a)
theorem plain_flatA (l : List Att) : ∀ c ∈ flatA l,PlainV c := by
 intro c hc
 obtain ⟨a,_,h⟩ := List.mem_flatMap.1 hc
 exact plain_attA a c h
theorem nnl_flatA (l : List Att) : NNL (flatA l) := nnl_plain (plain_flatA l)
theorem flatA_len (l : List Att) : (flatA l).length = l.length * 3 := by
 induction l with
 | nil => rfl
 | cons a l ih => show (attA a ++ flatA l).length = _; rw [List.length_append,ih,attA_len,List.length_cons]; omega

/-- Split at each byte c. -/
def splB (c : UInt8) : List UInt8 → List (List UInt8)
 | [] => [[]]
 | b :: t => if b = c then [] :: splB c t else match splB c t with
  | [] => [[b]]
  | p :: ps => (b :: p) :: ps

/-- The last attribute that matches. -/
def findS (l : List Att) (path : List UInt8) : Att := l.foldl (fun out a => if matchG a.g path then a else out) Att.zero
def knownS (a : Att) (data : List UInt8) : Int :=
 if (a.set < 0 ∨ 3 < a.set) ∨ a.eol < 0 ∨ 2 < a.eol then 8 else if 65536 < data.length then 4 else 0
def toLfS (eol : Int) (s : List UInt8) : List UInt8 × Int :=
 if eol = 0 then (s,0)
 else if eol = 2 then
  (if (s.count 10 : Int) = (s.length : Int) - (Lib.replaceAll s [13,10] [10]).length then
   (if (13 : UInt8) ∈ Lib.replaceAll s [13,10] [10] then ([],24) else (Lib.replaceAll s [13,10] [10],0)) else ([],24))
 else if (13 : UInt8) ∈ s then ([],24) else (s,0)
def fromLfS (eol : Int) (s : List UInt8) : List UInt8 × Int :=
 if eol = 0 then (s,0)
 else if (13 : UInt8) ∈ s then ([],24)
 else if eol = 2 then (if 65536 < (Lib.replaceAll s [10] [13,10]).length then ([],4) else (Lib.replaceAll s [10] [13,10],0))
 else if 65536 < s.length then ([],4) else (s,0)
def toRepoS (l : List Att) (path data : List UInt8) : List UInt8 × Int :=
 if knownS (findS l path) data ≠ 0 then ([],knownS (findS l path) data)
 else if (findS l path).set ≠ 0 then
  (if (decodeS (findS l path).set data).2 ≠ 0 then ([],(decodeS (findS l path).set data).2) else toLfS (findS l path).eol (decodeS (findS l path).set data).1)
 else toLfS (findS l path).eol data
def fromRepoS (l : List Att) (path data : List UInt8) : List UInt8 × Int :=
 if knownS (findS l path) data ≠ 0 then ([],knownS (findS l path) data)
 else if (fromLfS (findS l path).eol data).2 ≠ 0 ∨ (findS l path).set = 0 then fromLfS (findS l path).eol data
 else encodeS (findS l path).set (fromLfS (findS l path).eol data).1

/-- The words of the character sets and of the line endings. -/
def setOf (w : List UInt8) : Option Int :=
 if w = [97,110,121] then some 0 else if w = [117,116,102,56] then some 1 else if w = [108,97,116,105,110,49] then some 2 else if w = [117,116,102,49,54] then some 3 else none
def eolOf (w : List UInt8) : Option Int :=
 if w = [114,97,119] then some 0 else if w = [108,102] then some 1 else if w = [99,114,108,102] then some 2 else none
def attributeS (line : List UInt8) : Att × Bool :=
 match splB 32 line with
 | [g,c,e] => if checkG g ≠ 0 then (Att.zero,false) else (⟨g,(setOf c).getD 0,(eolOf e).getD 0⟩,(setOf c).isSome && (eolOf e).isSome)
 | _ => (Att.zero,false)
/-- The attributes of lines, ahead of which n lines lie and out was read. -/
def linesS : List (List UInt8) → List Att → Nat → List Att × Int × Int
 | [],out,_ => (out,0,0)
 | line :: r,out,n =>
  if line = [] ∨ line.getD 0 0 = 35 then linesS r out (n + 1)
  else if (attributeS line).2 = false then ([],(n + 1 : Nat),3)
  else if out.length = 100 then ([],(n + 1 : Nat),4)
  else linesS r (out ++ [(attributeS line).1]) (n + 1)
def attributesS (s : List UInt8) : List Att × Int × Int :=
 if 65536 < s.length then ([],0,4) else linesS (splB 10 (Lib.trimSuffix s [10])) [] 0

/-! ### Contracts -/
def tupS (r : List UInt8 × Int) : AV := .tup [.str r.1,.int .i64 r.2]
def tupB (r : List UInt8 × Bool) : AV := .tup [.str r.1,.bool r.2]
def C_unicode_utf8_ValidString : PC := ⟨List UInt8,fun s => [.str s],fun s => s.length ≤ 1000000000,fun s => .bool (Lib.validD s)⟩
def C_strings_TrimSuffix : PC := ⟨List UInt8 × List UInt8,fun x => [.str x.1,.str x.2],fun x => x.1.length ≤ 1000000000,fun x => .str (Lib.trimSuffix x.1 x.2)⟩
def C_strings_CutPrefix : PC := ⟨List UInt8 × List UInt8,fun x => [.str x.1,.str x.2],fun x => x.1.length ≤ 1000000000,fun x => tupB (Lib.trimPrefix x.1 x.2,Lib.hasPrefix x.1 x.2)⟩
def C_strings_ReplaceAll : PC := ⟨List UInt8 × List UInt8 × List UInt8,fun x => [.str x.1,.str x.2.1,.str x.2.2],fun x => x.1.length ≤ 1000000000 ∧ 1 ≤ x.2.1.length ∧ x.2.2.length ≤ 2,fun x => .str (Lib.replaceAll x.1 x.2.1 x.2.2)⟩
def C_strings_Count : PC := ⟨List UInt8 × UInt8,fun x => [.str x.1,.str [x.2]],fun x => x.1.length ≤ 1000000000,fun x => .int .i64 (x.1.count x.2)⟩
def F_strings_Split32 : FC := ⟨List UInt8,fun s => [.str s,.str [32]],fun s => s.length ≤ 1000000000,1,fun s => (splB 32 s).length,fun s => strs (splB 32 s)⟩

/-- Never asked. -/
def C_unicode_utf8_DecodeRuneInString : PC := ⟨Unit,fun _ => [],fun _ => False,fun _ => .bool true⟩
def C_charset_same : PC := ⟨List UInt8,fun s => [.str s],fun s => s.length ≤ 1000000000,fun s => tupB (sameS s)⟩
def C_charset_fromLatin : PC := ⟨List UInt8,fun s => [.str s],fun s => s.length ≤ 1000000000,fun s => tupB (fromLatinS s,true)⟩
def C_charset_toLatin : PC := ⟨List UInt8,fun s => [.str s],fun s => s.length ≤ 1000000000,fun s => tupB (toLatinS s)⟩
def C_charset_fromUtf16 : PC := ⟨List UInt8,fun s => [.str s],fun s => s.length ≤ 1000000000,fun s => tupB (fromUtf16S s)⟩
def C_charset_toUtf16 : PC := ⟨List UInt8,fun s => [.str s],fun s => s.length ≤ 1000000000,fun s => tupB (toUtf16S s)⟩
def runA (ws : List Nat) : List AV := ws.map fun (w : Nat) => AV.int .i32 (w : Int)
def C_charset_units : PC := ⟨List UInt8,fun s => [.str s],fun s => s.length ≤ 1000000000,fun s => match wordsL s with
 | none => .tup [.raw (.slice none 0 0),.bool false]
 | some ws => .tup [.ilist 1 ws.length (runA ws),.bool true]⟩
/-- The map of the character sets, by the functions' numbers. -/
def codM : AV → AV → Prop := putM (putM (putM noM (.int .i64 1) (.agg [.clo (1000000 + 53) [],.clo (1000000 + 53) []])) (.int .i64 2) (.agg [.clo (1000000 + 54) [],.clo (1000000 + 55) []])) (.int .i64 3) (.agg [.clo (1000000 + 56) [],.clo (1000000 + 57) []])
def setM : AV → AV → Prop := putM (putM (putM (putM noM (.str [97,110,121]) (.int .i64 0)) (.str [117,116,102,56]) (.int .i64 1)) (.str [108,97,116,105,110,49]) (.int .i64 2)) (.str [117,116,102,49,54]) (.int .i64 3)
def eolM : AV → AV → Prop := putM (putM (putM noM (.str [114,97,119]) (.int .i64 0)) (.str [108,102]) (.int .i64 1)) (.str [99,114,108,102]) (.int .i64 2)
def C_charset_codings : PC := ⟨Unit,fun _ => [],fun _ => True,fun _ => .sem (mapS ⟨true,[some (some .i64)],codM⟩)⟩
def C_charset_charsets : PC := ⟨Unit,fun _ => [],fun _ => True,fun _ => .sem (mapS ⟨true,[some none],setM⟩)⟩
def C_charset_endings : PC := ⟨Unit,fun _ => [],fun _ => True,fun _ => .sem (mapS ⟨true,[some none],eolM⟩)⟩
def C_charset_Decode : PC := ⟨Int × List UInt8,fun x => [.int .i64 x.1,.str x.2],fun x => x.2.length ≤ 1000000000,fun x => tupS (decodeS x.1 x.2)⟩
def C_charset_Encode : PC := ⟨Int × List UInt8,fun x => [.int .i64 x.1,.str x.2],fun x => x.2.length ≤ 1000000000,fun x => tupS (encodeS x.1 x.2)⟩
def C_charset_attribute : PC := ⟨List UInt8,fun s => [.str s],fun s => s.length ≤ 1000000000,fun s => .tup [.agg (attA (attributeS s).1),.bool (attributeS s).2]⟩
def C_charset_Attributes : PC := ⟨List UInt8,fun s => [.str s],fun s => s.length ≤ 1000000000,fun s => .tup [attsA (attributesS s).1,.int .i64 (attributesS s).2.1,.int .i64 (attributesS s).2.2]⟩
def okA (l : List Att) : Prop := l.length ≤ 1000000000 ∧ ∀ a ∈ l,a.g.length ≤ 1000000000
def C_charset_Find : PC := ⟨List Att × List UInt8,fun x => [attsA x.1,.str x.2],fun x => okA x.1 ∧ x.2.length ≤ 1000000000,fun x => .agg (attA (findS x.1 x.2))⟩
def C_charset_known : PC := ⟨Att × List UInt8,fun x => [.agg (attA x.1),.str x.2],fun x => x.2.length ≤ 1000000000,fun x => .int .i64 (knownS x.1 x.2)⟩
def C_charset_toLf : PC := ⟨Int × List UInt8,fun x => [.int .i64 x.1,.str x.2],fun x => x.2.length ≤ 1000000000,fun x => tupS (toLfS x.1 x.2)⟩
def C_charset_fromLf : PC := ⟨Int × List UInt8,fun x => [.int .i64 x.1,.str x.2],fun x => x.2.length ≤ 1000000000,fun x => tupS (fromLfS x.1 x.2)⟩
def C_charset_ToRepo : PC := ⟨List Att × List UInt8 × List UInt8,fun x => [attsA x.1,.str x.2.1,.str x.2.2],fun x => okA x.1 ∧ x.2.1.length ≤ 1000000000 ∧ x.2.2.length ≤ 1000000000,fun x => tupS (toRepoS x.1 x.2.1 x.2.2)⟩
def C_charset_FromRepo : PC := ⟨List Att × List UInt8 × List UInt8,fun x => [attsA x.1,.str x.2.1,.str x.2.2],fun x => okA x.1 ∧ x.2.1.length ≤ 1000000000 ∧ x.2.2.length ≤ 1000000000,fun x => tupS (fromRepoS x.1 x.2.1 x.2.2)⟩
def C_quiltlaw57_awake : PC := ⟨Unit,fun _ => [],fun _ => True,fun _ => .bool true⟩

end Qk

/-
  Chapter 57: writing a rune (printed).
-/
namespace Qk
open Go Go.RowKit

/-- unicode/utf8.appendRuneNonASCII -/
def ir_unicode_utf8_appendRuneNonASCII : IF := ⟨(.seq (.ops [⟨some 4,none,.mov (.const (.slice none 0 0))⟩])
 (.seq (.ops [⟨some 6,none,.mov (t 1)⟩,⟨some 7,none,.conv .u32 (t 6)⟩,⟨some 5,none,.mov (t 7)⟩])
 (.block 0 (.seq (.ops [⟨some 12,none,.mov (t 5)⟩,⟨some 13,none,.bin .leq (t 12) (.const (.int .u32 2047))⟩,⟨some 11,none,.mov (t 13)⟩])
 (.cond (t 11) (.seq (.ops [⟨some 14,none,.mov (t 0)⟩,⟨some 15,none,.mov (t 1)⟩,
  ⟨some 16,none,.bin .shr (t 15) (.const (.int .u64 6))⟩,⟨some 17,none,.conv .u8 (t 16)⟩,⟨some 18,none,.bin .or (.const (.int .u8 192)) (t 17)⟩,⟨some 19,none,.mov (t 1)⟩,⟨some 20,none,.conv .u8 (t 19)⟩,⟨some 21,none,.bin .and (t 20) (.const (.int .u8 63))⟩,
  ⟨some 22,none,.bin .or (.const (.int .u8 128)) (t 21)⟩,⟨some 23,none,.bslice 1 [.int .u8 0] 2 [(0,1,(t 18)),(1,1,(t 22))]⟩,⟨some 24,none,.app 1 1 (t 14) (t 23)⟩,⟨some 4,none,.mov (t 24)⟩])
 .ret)
 (.seq (.seq (.ops [⟨some 26,none,.mov (t 5)⟩,⟨some 27,none,.bin .lss (t 26) (.const (.int .u32 55296))⟩,⟨some 25,none,.mov (t 27)⟩])
 (.jn (.cond (t 25) .skip
 (.ops [⟨some 28,none,.mov (t 5)⟩,
  ⟨some 29,none,.bin .lss (.const (.int .u32 57343)) (t 28)⟩,⟨some 30,none,.mov (t 29)⟩,⟨some 31,some (30,true),.mov (t 5)⟩,⟨some 32,some (30,true),.bin .leq (t 31) (.const (.int .u32 65535))⟩,⟨some 33,none,.pick (t 30) (t 32) (.const (.bool false))⟩,⟨some 25,none,.mov (t 33)⟩]))))
 (.cond (t 25) (.seq (.ops [⟨some 34,none,.mov (t 0)⟩,
  ⟨some 35,none,.mov (t 1)⟩,⟨some 36,none,.bin .shr (t 35) (.const (.int .u64 12))⟩,⟨some 37,none,.conv .u8 (t 36)⟩,⟨some 38,none,.bin .or (.const (.int .u8 224)) (t 37)⟩,⟨some 39,none,.mov (t 1)⟩,⟨some 40,none,.bin .shr (t 39) (.const (.int .u64 6))⟩,
  ⟨some 41,none,.conv .u8 (t 40)⟩,⟨some 42,none,.bin .and (t 41) (.const (.int .u8 63))⟩,⟨some 43,none,.bin .or (.const (.int .u8 128)) (t 42)⟩,⟨some 44,none,.mov (t 1)⟩,⟨some 45,none,.conv .u8 (t 44)⟩,⟨some 46,none,.bin .and (t 45) (.const (.int .u8 63))⟩,
  ⟨some 47,none,.bin .or (.const (.int .u8 128)) (t 46)⟩,⟨some 48,none,.bslice 1 [.int .u8 0] 3 [(0,1,(t 38)),(1,1,(t 43)),(2,1,(t 47))]⟩,⟨some 49,none,.app 1 1 (t 34) (t 48)⟩,⟨some 4,none,.mov (t 49)⟩])
 .ret)
 (.seq (.ops [⟨some 51,none,.mov (t 5)⟩,⟨some 52,none,.bin .gtr (t 51) (.const (.int .u32 65535))⟩,⟨some 53,none,.mov (t 52)⟩,
  ⟨some 54,some (53,true),.mov (t 5)⟩,⟨some 55,some (53,true),.bin .leq (t 54) (.const (.int .u32 1114111))⟩,⟨some 56,none,.pick (t 53) (t 55) (.const (.bool false))⟩,⟨some 50,none,.mov (t 56)⟩])
 (.cond (t 50) (.seq (.ops [⟨some 57,none,.mov (t 0)⟩,⟨some 58,none,.mov (t 1)⟩,⟨some 59,none,.bin .shr (t 58) (.const (.int .u64 18))⟩,
  ⟨some 60,none,.conv .u8 (t 59)⟩,⟨some 61,none,.bin .or (.const (.int .u8 240)) (t 60)⟩,⟨some 62,none,.mov (t 1)⟩,⟨some 63,none,.bin .shr (t 62) (.const (.int .u64 12))⟩,⟨some 64,none,.conv .u8 (t 63)⟩,⟨some 65,none,.bin .and (t 64) (.const (.int .u8 63))⟩,
  ⟨some 66,none,.bin .or (.const (.int .u8 128)) (t 65)⟩,⟨some 67,none,.mov (t 1)⟩,⟨some 68,none,.bin .shr (t 67) (.const (.int .u64 6))⟩,⟨some 69,none,.conv .u8 (t 68)⟩,⟨some 70,none,.bin .and (t 69) (.const (.int .u8 63))⟩,⟨some 71,none,.bin .or (.const (.int .u8 128)) (t 70)⟩,
  ⟨some 72,none,.mov (t 1)⟩,⟨some 73,none,.conv .u8 (t 72)⟩,⟨some 74,none,.bin .and (t 73) (.const (.int .u8 63))⟩,⟨some 75,none,.bin .or (.const (.int .u8 128)) (t 74)⟩,⟨some 76,none,.bslice 1 [.int .u8 0] 4 [(0,1,(t 61)),(1,1,(t 66)),(2,1,(t 71)),(3,1,(t 75))]⟩,⟨some 77,none,.app 1 1 (t 57) (t 76)⟩,
  ⟨some 4,none,.mov (t 77)⟩])
 .ret)
 (.seq (.ops [⟨some 8,none,.mov (t 0)⟩,⟨some 9,none,.bslice 1 [.int .u8 0] 3 [(0,1,(.const (.int .u8 239))),(1,1,(.const (.int .u8 191))),(2,1,(.const (.int .u8 189)))]⟩,⟨some 10,none,.app 1 1 (t 8) (t 9)⟩,⟨some 4,none,.mov (t 10)⟩])
 .ret)))))))))),[.tmp 4]⟩
def H_unicode_utf8_appendRuneNonASCII : HTran := inl 2 ir_unicode_utf8_appendRuneNonASCII.code ir_unicode_utf8_appendRuneNonASCII.res


/-- unicode/utf8.AppendRune -/
def ir_unicode_utf8_AppendRune : IF := ⟨(.seq (.ops [⟨some 4,none,.mov (.const (.slice none 0 0))⟩])
 (.seq (.seq (.ops [⟨some 5,none,.mov (t 1)⟩,⟨some 6,none,.conv .u32 (t 5)⟩,⟨some 7,none,.bin .leq (t 6) (.const (.int .u32 127))⟩])
 (.cond (t 7) (.seq (.ops [⟨some 8,none,.mov (t 0)⟩,⟨some 9,none,.mov (t 1)⟩,⟨some 10,none,.conv .u8 (t 9)⟩,⟨some 11,none,.bslice 1 [.int .u8 0] 1 [(0,1,(t 10))]⟩,
  ⟨some 12,none,.app 1 1 (t 8) (t 11)⟩,⟨some 4,none,.mov (t 12)⟩])
 .ret)
 .skip))
 (.seq (.sops [.op ⟨some 13,none,.mov (t 0)⟩,
  .op ⟨some 14,none,.mov (t 1)⟩,
  .call none (some 15) H_unicode_utf8_appendRuneNonASCII [(t 13),(t 14)],
  .op ⟨some 4,none,.mov (t 15)⟩])
 .ret))),[.tmp 4]⟩
def H_unicode_utf8_AppendRune : HTran := inl 2 ir_unicode_utf8_AppendRune.code ir_unicode_utf8_AppendRune.res
/-- A rune is written behind the bytes. -/
def H___strings_Builder__WriteRune : HTran := fun us H nx K => ∃ n m l,∃ c : Nat,us = [.ref n 0,.int .i32 c] ∧ Sc c ∧ BL H n m l ∧ n < nx ∧ m < nx ∧ l.length + 4 ≤ 140737488355328 ∧
 K (.tup [.int .i64 (enc c).length,.raw .nilIface]) (wrB (upd H nx none) n m (nx + 1) (l ++ enc c)) (nx + 2)

def ir___strings_Builder__WriteRune : IF := ⟨(.seq (.ops [⟨some 4,none,.mov (ci 0)⟩,⟨some 5,none,.mov (.const .nilIface)⟩])
 (.seq (.sops [.op ⟨some 7,none,.mov (t 0)⟩,
  .call none (some 8) H___strings_Builder__copyCheck [(t 7)]])
 (.seq (.ops [⟨some 9,none,.mov (t 0)⟩,⟨some 10,none,.nilck (t 9)⟩,⟨some 11,none,.fldA 1 (t 10)⟩,⟨some 12,none,.load1 (t 11)⟩,⟨some 13,none,.lenL (t 12)⟩,
  ⟨some 6,none,.mov (t 13)⟩])
 (.seq (.sops [.op ⟨some 14,none,.mov (t 0)⟩,
  .op ⟨some 15,none,.mov (t 0)⟩,
  .op ⟨some 16,none,.nilck (t 15)⟩,
  .op ⟨some 17,none,.fldA 1 (t 16)⟩,
  .op ⟨some 18,none,.load1 (t 17)⟩,
  .op ⟨some 19,none,.mov (t 1)⟩,
  .call none (some 20) H_unicode_utf8_AppendRune [(t 18),(t 19)],
  .op ⟨some 21,none,.nilck (t 14)⟩,
  .op ⟨some 22,none,.fldA 1 (t 21)⟩,
  .op ⟨none,none,.stor1 (t 22) (t 20)⟩])
 (.seq (.ops [⟨some 23,none,.mov (t 0)⟩,⟨some 24,none,.nilck (t 23)⟩,⟨some 25,none,.fldA 1 (t 24)⟩,⟨some 26,none,.load1 (t 25)⟩,⟨some 27,none,.lenL (t 26)⟩,⟨some 28,none,.mov (t 6)⟩,
  ⟨some 29,none,.bin .sub (t 27) (t 28)⟩,⟨some 4,none,.mov (t 29)⟩,⟨some 5,none,.mov (.const .nilIface)⟩])
 .ret))))),[.tmp 4,.tmp 5]⟩

end Qk

/-
  Chapter 57: writing a rune into a builder of strings.
-/
namespace Qk
open Go Go.RowKit

theorem or192 : ∀ x : Fin 32,orI .u8 192 (x.val : Nat) = 192 + (x.val : Nat) := by decide
theorem or224 : ∀ x : Fin 16,orI .u8 224 (x.val : Nat) = 224 + (x.val : Nat) := by decide
theorem or240 : ∀ x : Fin 8,orI .u8 240 (x.val : Nat) = 240 + (x.val : Nat) := by decide
theorem or128 : ∀ x : Fin 64,orI .u8 128 (x.val : Nat) = 128 + (x.val : Nat) := by decide
set_option maxRecDepth 10000 in
theorem and63 : ∀ x : Fin 256,andI .u8 (x.val : Nat) 63 = ((x.val % 64 : Nat) : Int) := by decide
theorem or192' {n : Nat} (h : n < 32) : orI .u8 192 (n : Int) = ((192 + n : Nat) : Int) := by have := or192 ⟨n,h⟩; simpa using this
theorem or224' {n : Nat} (h : n < 16) : orI .u8 224 (n : Int) = ((224 + n : Nat) : Int) := by have := or224 ⟨n,h⟩; simpa using this
theorem or240' {n : Nat} (h : n < 8) : orI .u8 240 (n : Int) = ((240 + n : Nat) : Int) := by have := or240 ⟨n,h⟩; simpa using this
theorem or128' {n : Nat} (h : n < 64) : orI .u8 128 (n : Int) = ((128 + n : Nat) : Int) := by have := or128 ⟨n,h⟩; simpa using this
theorem and63' {n : Nat} (h : n < 256) : andI .u8 (n : Int) 63 = ((n % 64 : Nat) : Int) := and63 ⟨n,h⟩
theorem shr6 (c : Nat) : shrI .i32 (c : Int) 6 = ((c / 64 : Nat) : Int) := by
 show (c : Int).fdiv 64 = _
 rw [Int.fdiv_eq_ediv_of_nonneg _ (by decide)]; rfl
theorem shr12 (c : Nat) : shrI .i32 (c : Int) 12 = ((c / 4096 : Nat) : Int) := by
 show (c : Int).fdiv 4096 = _
 rw [Int.fdiv_eq_ediv_of_nonneg _ (by decide)]; rfl
theorem shr18 (c : Nat) : shrI .i32 (c : Int) 18 = ((c / 262144 : Nat) : Int) := by
 show (c : Int).fdiv 262144 = _
 rw [Int.fdiv_eq_ediv_of_nonneg _ (by decide)]; rfl
theorem tail_byte (c : Nat) : orI .u8 128 (andI .u8 ((c : Int) % 256) 63) = ((128 + c % 64 : Nat) : Int) := by
 have e : (c : Int) % 256 = ((c % 256 : Nat) : Int) := by omega
 rw [e,and63' (by omega),or128' (by omega)]
 congr 2; omega
theorem mod_small {n : Nat} (h : n < 256) : ((n : Int)) % 256 = (n : Int) := by omega

def ds2 (c : Nat) : List AV := [AV.int .u8 (orI .u8 192 ((shrI .i32 (c : Int) 6) % 256)),AV.int .u8 (orI .u8 128 (andI .u8 ((c : Int) % 256) 63))]
def ds3 (c : Nat) : List AV := [AV.int .u8 (orI .u8 224 ((shrI .i32 (c : Int) 12) % 256)),AV.int .u8 (orI .u8 128 (andI .u8 ((shrI .i32 (c : Int) 6) % 256) 63)),AV.int .u8 (orI .u8 128 (andI .u8 ((c : Int) % 256) 63))]
def ds4 (c : Nat) : List AV := [AV.int .u8 (orI .u8 240 ((shrI .i32 (c : Int) 18) % 256)),AV.int .u8 (orI .u8 128 (andI .u8 ((shrI .i32 (c : Int) 12) % 256) 63)),AV.int .u8 (orI .u8 128 (andI .u8 ((shrI .i32 (c : Int) 6) % 256) 63)),AV.int .u8 (orI .u8 128 (andI .u8 ((c : Int) % 256) 63))]
theorem one_ds2 (c : Nat) : AllOne (ds2 c) := by intro x hx; simp only [ds2,List.mem_cons,List.not_mem_nil,or_false] at hx; rcases hx with rfl | rfl <;> rfl
theorem one_ds3 (c : Nat) : AllOne (ds3 c) := by intro x hx; simp only [ds3,List.mem_cons,List.not_mem_nil,or_false] at hx; rcases hx with rfl | rfl | rfl <;> rfl
theorem one_ds4 (c : Nat) : AllOne (ds4 c) := by intro x hx; simp only [ds4,List.mem_cons,List.not_mem_nil,or_false] at hx; rcases hx with rfl | rfl | rfl | rfl <;> rfl
theorem bys_two {c : Nat} (h : 128 ≤ c) (h1 : c < 2048) : [AV.int .u8 (orI .u8 192 ((shrI .i32 (c : Int) 6) % 256)),AV.int .u8 (orI .u8 128 (andI .u8 ((c : Int) % 256) 63))] = bys (enc c) := by
 rw [shr6,mod_small (by omega),or192' (by omega),tail_byte,enc_two h h1]
 show [_,_] = [AV.int .u8 ((192 + c / 64).toUInt8.toNat : Int),AV.int .u8 ((128 + c % 64).toUInt8.toNat : Int)]
 rw [toNat_u8 (n := 192 + c / 64) (by omega),toNat_u8 (n := 128 + c % 64) (by omega)]
theorem bys_three {c : Nat} (h : 2048 ≤ c) (h1 : c < 65536) (h2 : Sc c) : [AV.int .u8 (orI .u8 224 ((shrI .i32 (c : Int) 12) % 256)),AV.int .u8 (orI .u8 128 (andI .u8 ((shrI .i32 (c : Int) 6) % 256) 63)),AV.int .u8 (orI .u8 128 (andI .u8 ((c : Int) % 256) 63))] = bys (enc c) := by
 rw [shr6,shr12,mod_small (show c / 4096 < 256 by omega),or224' (by omega),tail_byte,tail_byte,enc_three h h1 h2]
 show [_,_,_] = [AV.int .u8 ((224 + c / 4096).toUInt8.toNat : Int),AV.int .u8 ((128 + c / 64 % 64).toUInt8.toNat : Int),AV.int .u8 ((128 + c % 64).toUInt8.toNat : Int)]
 rw [toNat_u8 (n := 224 + c / 4096) (by omega),toNat_u8 (n := 128 + c / 64 % 64) (by omega),toNat_u8 (n := 128 + c % 64) (by omega)]
theorem bys_four {c : Nat} (h : 65536 ≤ c) (h1 : c ≤ 1114111) : [AV.int .u8 (orI .u8 240 ((shrI .i32 (c : Int) 18) % 256)),AV.int .u8 (orI .u8 128 (andI .u8 ((shrI .i32 (c : Int) 12) % 256) 63)),AV.int .u8 (orI .u8 128 (andI .u8 ((shrI .i32 (c : Int) 6) % 256) 63)),AV.int .u8 (orI .u8 128 (andI .u8 ((c : Int) % 256) 63))] = bys (enc c) := by
 rw [shr6,shr12,shr18,mod_small (show c / 262144 < 256 by omega),or240' (by omega),tail_byte,tail_byte,tail_byte,enc_four h h1]
 show [_,_,_,_] = [AV.int .u8 ((240 + c / 262144).toUInt8.toNat : Int),AV.int .u8 ((128 + c / 4096 % 64).toUInt8.toNat : Int),AV.int .u8 ((128 + c / 64 % 64).toUInt8.toNat : Int),AV.int .u8 ((128 + c % 64).toUInt8.toNat : Int)]
 rw [toNat_u8 (n := 240 + c / 262144) (by omega),toNat_u8 (n := 128 + c / 4096 % 64) (by omega),toNat_u8 (n := 128 + c / 64 % 64) (by omega),toNat_u8 (n := 128 + c % 64) (by omega)]

/-- The heap behind an append. -/
def apH (H : Heap) (nx m : Nat) (l : List UInt8) : Heap := upd (upd (upd H nx none) m none) (nx + 1) (some (.ls true 1 (bys l)))
theorem fin_app {H : Heap} {nx m k j : Nat} {l : List UInt8} {c : Nat} {ds : List AV} {K : AV → Heap → Nat → Prop} {S : St} {q : Bool} (_hm : m < nx) (e : ds = bys (enc c)) (hk : k = (enc c).length)
  (h4 : S.env j = some (.sl (nx + 1) 0 (l.length + k))) (hH : S.heap = upd (upd (upd H nx (some (.ls q 1 ds))) m none) (nx + 1) (some (.ls true 1 (bys l ++ (ds.drop (0 * 1)).take (k * 1))))) (hn : S.next = nx + 2)
  (hK : K (.sl (nx + 1) 0 (l ++ enc c).length) (apH H nx m (l ++ enc c)) (nx + 2)) : ∃ S',SubSt nx S S' ∧ resK S' [.tmp j] (fun r => K r S'.heap S'.next) := by
 refine ⟨⟨fun i => if i = j then some (.sl (nx + 1) 0 (l.length + k)) else none,apH H nx m (l ++ enc c),nx + 2⟩,sub_drop ?_ ?_ (by rw [hn]; exact Nat.le_refl _),?_⟩
 ·intro i w hi
  dsimp only at hi
  split at hi
  ·rename_i e; subst e; cases hi; exact h4
  ·cases hi
 ·intro i o hi
  rw [hH]
  have e5 : bys l ++ (ds.drop (0 * 1)).take (k * 1) = bys (l ++ enc c) := by
   rw [bys_app,e,hk,Nat.zero_mul,List.drop_zero,Nat.mul_one,List.take_of_length_le (by rw [bys_length]; exact Nat.le_refl _)]
  rw [e5]
  replace hi : apH H nx m (l ++ enc c) i = some o := hi
  unfold apH at hi
  by_cases q2 : i = nx + 1
  ·subst q2; rw [upd_same] at hi ⊢; exact hi
  ·rw [upd_ne _ _ q2] at hi ⊢
   by_cases q3 : i = m
   ·subst q3; rw [upd_same] at hi; cases hi
   ·rw [upd_ne _ _ q3] at hi ⊢
    by_cases q4 : i = nx
    ·subst q4; rw [upd_same] at hi; cases hi
    ·rw [upd_ne _ _ q4] at hi ⊢; exact hi
 ·show (match (if j = j then some (AV.sl (nx + 1) 0 (l.length + k)) else none) with | some v => K v (apH H nx m (l ++ enc c)) (nx + 2) | none => False)
  rw [if_pos rfl]
  have : (l ++ enc c).length = l.length + k := by rw [List.length_append,hk]
  rw [← this]
  exact hK

theorem w_nonascii {H : Heap} {nx m : Nat} {l : List UInt8} {c : Nat} {z : Int} (hz : z = c) {K : AV → Heap → Nat → Prop} (hm : m < nx) (hH : H m = some (.ls true 1 (bys l))) (hl : l.length + 4 ≤ 140737488355328) (hc : Sc c) (h1 : 128 ≤ c)
  (hK : K (.sl (nx + 1) 0 (l ++ enc c).length) (apH H nx m (l ++ enc c)) (nx + 2)) : H_unicode_utf8_appendRuneNonASCII [.sl m 0 l.length,.int .i32 z] H nx K := by
 have l1 := bys_length l
 have e2 : ∀ o,upd H nx o m = some (.ls true 1 (bys l)) := fun o => by rw [upd_ne _ _ (by omega)]; exact hH
 have e32 : (z % 4294967296) = z := by unfold Sc at hc; omega
 refine And.intro rfl ?_
 by_cases h2 : c < 2048
 ·have A1 : decide (z ≤ 2047) = true := decide_eq_true (by omega)
  repeat ((conv => whnf); first | refine And.intro (by decide) ?_ | refine cond_t (by first | (simp only [e32, A1,eq_self]; done) | fail) ?_ | refine cond_f (by first | (simp only [e32, A1,cond_true,cond_false,Bool.not_true,Bool.not_false,eq_self,decide_true,decide_false]; done) | fail) ?_ | refine And.intro (by omega) ?_ | refine And.intro ⟨rfl,by omega,by omega⟩ ?_ | refine And.intro ⟨rfl,by decide,by omega,by omega⟩ ?_)
  conv => whnf
  dsimp only [St.set]
  rw [e2,upd_same]
  refine And.intro ⟨by omega,rfl,rfl,rfl,by rw [l1]; omega,(show (0 + 2) * 1 ≤ 2 by decide),(by rw [hz]; exact one_ds2 c),by omega⟩ ⟨_,rfl,?_⟩
  exact fin_app hm (by rw [hz]; exact bys_two h1 h2) (by rw [enc_two h1 h2]; rfl) rfl rfl rfl hK
 ·have A1 : decide (z ≤ 2047) = false := decide_eq_false (by omega)
  by_cases h3 : c < 65536
  ·have hsc := hc
   unfold Sc at hc
   by_cases h5 : c < 55296
   ·have A2 : decide (z < 55296) = true := decide_eq_true (by omega)
    repeat ((conv => whnf); first | refine And.intro (by decide) ?_ | refine Exists.intro _ (And.intro (fun _ S' hk => Exists.intro S' (And.intro (SubSt.refl _) hk)) ?_) | refine cond_t (by first | (simp only [e32, A1, A2,eq_self]; done) | fail) ?_ | refine cond_f (by first | (simp only [e32, A1, eq_self]; done) | fail) ?_ | refine And.intro (by omega) ?_ | refine And.intro ⟨rfl,by omega,by omega⟩ ?_ | refine And.intro ⟨rfl,by decide,by omega,by omega⟩ ?_)
    conv => whnf
    dsimp only [St.set]
    rw [e2,upd_same]
    refine And.intro ⟨by omega,rfl,rfl,rfl,by rw [l1]; omega,(show (0 + 3) * 1 ≤ 3 by decide),(by rw [hz]; exact one_ds3 c),by omega⟩ ⟨_,rfl,?_⟩
    exact fin_app hm (by rw [hz]; exact bys_three (by omega) h3 hsc) (by rw [enc_three (by omega) h3 hsc]; rfl) rfl rfl rfl hK
   ·have A2 : decide (z < 55296) = false := decide_eq_false (by omega)
    have A3 : decide ((57343 : Int) < z) = true := decide_eq_true (by omega)
    have A4 : decide (z ≤ 65535) = true := decide_eq_true (by omega)
    repeat ((conv => whnf); first | refine And.intro (by decide) ?_ | refine Exists.intro _ (And.intro (fun _ S' hk => Exists.intro S' (And.intro (SubSt.refl _) hk)) ?_) | refine cond_t (by first | (simp only [e32, A1, A2, A3, A4,cond_true,eq_self]; done) | fail) ?_ | refine cond_f (by first | (simp only [e32, A1, A2, eq_self]; done) | fail) ?_ | refine And.intro (by omega) ?_ | refine And.intro ⟨rfl,by omega,by omega⟩ ?_ | refine And.intro ⟨rfl,by decide,by omega,by omega⟩ ?_)
    conv => whnf
    dsimp only [St.set]
    rw [e2,upd_same]
    refine And.intro ⟨by omega,rfl,rfl,rfl,by rw [l1]; omega,(show (0 + 3) * 1 ≤ 3 by decide),(by rw [hz]; exact one_ds3 c),by omega⟩ ⟨_,rfl,?_⟩
    exact fin_app hm (by rw [hz]; exact bys_three (by omega) h3 hsc) (by rw [enc_three (by omega) h3 hsc]; rfl) rfl rfl rfl hK
  ·unfold Sc at hc
   have A2 : decide (z < 55296) = false := decide_eq_false (by omega)
   have A3 : decide ((57343 : Int) < z) = true := decide_eq_true (by omega)
   have A4 : decide (z ≤ 65535) = false := decide_eq_false (by omega)
   have A5 : decide ((65535 : Int) < z) = true := decide_eq_true (by omega)
   have A6 : decide (z ≤ 1114111) = true := decide_eq_true (by omega)
   repeat ((conv => whnf); first | refine And.intro (by decide) ?_ | refine Exists.intro _ (And.intro (fun _ S' hk => Exists.intro S' (And.intro (SubSt.refl _) hk)) ?_) | refine cond_t (by first | (simp only [e32, A1, A2, A3, A4, A5, A6,cond_true,eq_self]; done) | fail) ?_ | refine cond_f (by first | (simp only [e32, A1, A2, A3, A4, cond_true,eq_self]; done) | fail) ?_ | refine And.intro (by omega) ?_ | refine And.intro ⟨rfl,by omega,by omega⟩ ?_ | refine And.intro ⟨rfl,by decide,by omega,by omega⟩ ?_)
   conv => whnf
   dsimp only [St.set]
   rw [e2,upd_same]
   refine And.intro ⟨by omega,rfl,rfl,rfl,by rw [l1]; omega,(show (0 + 4) * 1 ≤ 4 by decide),(by rw [hz]; exact one_ds4 c),by omega⟩ ⟨_,rfl,?_⟩
   exact fin_app hm (by rw [hz]; exact bys_four (by omega) (by omega)) (by rw [enc_four (by omega) (by omega)]; rfl) rfl rfl rfl hK

theorem w_append {H : Heap} {nx m : Nat} {l : List UInt8} {c : Nat} {z : Int} (hz : z = c) {K : AV → Heap → Nat → Prop} (hm : m < nx) (hH : H m = some (.ls true 1 (bys l))) (hl : l.length + 4 ≤ 140737488355328) (hc : Sc c)
  (hK : K (.sl (nx + 1) 0 (l ++ enc c).length) (apH H nx m (l ++ enc c)) (nx + 2)) : H_unicode_utf8_AppendRune [.sl m 0 l.length,.int .i32 z] H nx K := by
 have l1 := bys_length l
 have e2 : ∀ o,upd H nx o m = some (.ls true 1 (bys l)) := fun o => by rw [upd_ne _ _ (by omega)]; exact hH
 have e32 : (z % 4294967296) = z := by unfold Sc at hc; omega
 refine And.intro rfl ?_
 by_cases h1 : c < 128
 ·have A1 : decide (z ≤ 127) = true := decide_eq_true (by omega)
  repeat ((conv => whnf); first | refine cond_t (by first | (simp only [e32, A1,eq_self]; done) | fail) ?_ | refine cond_f (by first | (simp only [e32, A1,cond_true,cond_false,Bool.not_true,Bool.not_false,eq_self,decide_true,decide_false]; done) | fail) ?_ | refine And.intro (by omega) ?_ | refine And.intro ⟨rfl,by omega,by omega⟩ ?_ | refine And.intro ⟨rfl,by decide,by omega,by omega⟩ ?_)
  conv => whnf
  dsimp only [St.set]
  rw [e2,upd_same]
  have e1 : [AV.int .u8 (z % 256)] = bys (enc c) := by
   rw [hz,enc_one h1,mod_small (by omega)]
   show _ = [AV.int .u8 (c.toUInt8.toNat : Int)]
   rw [toNat_u8 (by omega)]
  refine And.intro ⟨by omega,rfl,rfl,rfl,by rw [l1]; omega,(show (0 + 1) * 1 ≤ 1 by decide),(show AllOne [AV.int .u8 (z % 256)] from by intro x hx; rcases List.mem_singleton.1 hx with rfl; rfl),by omega⟩ ⟨_,rfl,?_⟩
  exact fin_app hm e1 (by rw [enc_one h1]; rfl) rfl rfl rfl hK
 ·have A1 : decide (z ≤ 127) = false := decide_eq_false (by omega)
  repeat ((conv => whnf); first | refine cond_t (by first | (simp only [e32, A1]; done) | fail) ?_ | refine cond_f (by first | (simp only [e32, A1,eq_self]; done) | fail) ?_ | refine And.intro (by omega) ?_ | refine And.intro ⟨rfl,by omega,by omega⟩ ?_ | refine And.intro ⟨rfl,by decide,by omega,by omega⟩ ?_)
  refine w_nonascii hz hm hH hl hc (by omega) ?_
  refine ⟨_,SubSt.refl _,?_⟩
  exact hK

theorem w_WriteRune {us : List AV} {H : Heap} {nx : Nat} {K : AV → Heap → Nat → Prop} (h : H___strings_Builder__WriteRune us H nx K) : inl 2 ir___strings_Builder__WriteRune.code ir___strings_Builder__WriteRune.res us H nx K := by
 obtain ⟨n,m,l,c,rfl,hc,⟨hnm,p,h1,h2,h3⟩,h7,h8,h13,hK⟩ := h
 obtain ⟨z,hz⟩ : ∃ z : Int,z = c := ⟨_,rfl⟩
 rw [← hz]
 refine And.intro rfl ?_
 refine ⟨n,p,_,rfl,h1,h3,?_⟩
 obtain ⟨H1,hH1⟩ : ∃ H1,H1 = upd H n (some (.cl true [.ref n 0,.sl m 0 l.length])) := ⟨_,rfl⟩
 dsimp only [St.set]
 rw [← hH1]
 have e1 : H1 n = some (.cl true [.ref n 0,.sl m 0 l.length]) := by rw [hH1,upd_same]
 have e2 : H1 m = some (.ls true 1 (bys l)) := by rw [hH1,upd_ne _ _ (Ne.symm hnm)]; exact h2
 have l1 := bys_length l
 conv => whnf
 dsimp only [St.set]
 rw [e1]
 refine ⟨_,rfl,?_⟩
 conv => whnf
 dsimp only [St.set]
 rw [e1]
 refine ⟨_,rfl,?_⟩
 refine w_append hz h8 e2 h13 hc ?_
 have e3 : apH H1 nx m (l ++ enc c) n = some (.cl true [.ref n 0,.sl m 0 l.length]) := by
  unfold apH
  rw [upd_ne _ _ (by omega),upd_ne _ _ hnm,upd_ne _ _ (by omega)]; exact e1
 have e4 : ∀ o,upd (apH H1 nx m (l ++ enc c)) n o (nx + 1) = some (.ls true 1 (bys (l ++ enc c))) := fun o => by
  rw [upd_ne _ _ (by omega)]; unfold apH; rw [upd_same]
 conv => whnf
 dsimp only [St.set]
 rw [e3]
 refine And.intro (show 1 < 2 by decide) ?_
 conv => whnf
 dsimp only [St.set]
 rw [upd_same]
 refine ⟨_,rfl,?_⟩
 have el := enc_len c
 have ea : (l ++ enc c).length = l.length + (enc c).length := List.length_append
 refine And.intro (by omega) ?_
 refine ⟨⟨fun k => if k = 4 then some (.int .i64 (enc c).length) else if k = 5 then some (.raw .nilIface) else none,wrB (upd H nx none) n m (nx + 1) (l ++ enc c),nx + 2⟩,sub_drop ?_ ?_ (Nat.le_refl _),?_⟩
 ·intro k w hk
  dsimp only at hk
  split at hk
  ·rename_i e; subst e
   cases hk
   refine congrArg some (congrArg (AV.int .i64) ?_)
   omega
  ·split at hk
   ·rename_i e; subst e; exact hk
   ·cases hk
 ·intro k o hk
  replace hk : wrB (upd H nx none) n m (nx + 1) (l ++ enc c) k = some o := hk
  show upd (apH H1 nx m (l ++ enc c)) n _ k = some o
  unfold wrB at hk
  by_cases q1 : k = n
  ·subst q1
   rw [upd_same] at hk ⊢
   exact hk
  ·rw [upd_ne _ _ q1] at hk ⊢
   unfold apH
   by_cases q2 : k = nx + 1
   ·subst q2
    rw [upd_same] at hk ⊢
    exact hk
   ·rw [upd_ne _ _ q2] at hk ⊢
    by_cases q3 : k = m
    ·subst q3; rw [upd_same] at hk; cases hk
    ·rw [upd_ne _ _ q3] at hk ⊢
     by_cases q4 : k = nx
     ·subst q4; rw [upd_same] at hk; cases hk
     ·rw [upd_ne _ _ q4] at hk ⊢
      rw [hH1,upd_ne _ _ q1]
      exact hk
 ·exact hK

end Qk

/-
  Chapter 57: the package in the executor's form (printed).
-/
namespace Qk
open Go Go.RowKit

/-- quilt/charset.same -/
def ir_charset_same : IF := ⟨(.seq (.ops [⟨some 2,none,.mov (.const (.string ⟨#[]⟩))⟩,⟨some 3,none,.mov (.const (.bool false))⟩])
 (.seq (.ops [⟨some 4,none,.mov (t 0)⟩,⟨some 5,none,.mov (t 0)⟩,⟨some 6,none,.pcall C_unicode_utf8_ValidString [(t 5)]⟩,⟨some 2,none,.mov (t 4)⟩,⟨some 3,none,.mov (t 6)⟩])
 .ret)),[.tmp 2,.tmp 3]⟩
/-- quilt/charset.fromLatin -/
def ir_charset_fromLatin : IF := ⟨(.seq (.ops [⟨some 2,none,.mov (.const (.string ⟨#[]⟩))⟩,⟨some 3,none,.mov (.const (.bool false))⟩])
 (.seq (.jn (.ops [⟨some 4,none,.newb [.raw (.pointer none),.raw (.slice none 0 0)]⟩]))
 (.seq (.seq (.ops [⟨some 6,none,.mov (t 0)⟩,⟨some 7,none,.lenS (t 6)⟩,⟨some 8,none,.mov (ci 0)⟩])
 (.block 0 (.loop (.seq (.ops [⟨some 9,none,.bin .lss (t 8) (t 7)⟩])
 (.seq (.cond (t 9) .skip
 (.exit 0))
 (.seq (.block 1 (.seq (.ops [⟨some 10,none,.mov (t 8)⟩,⟨some 5,none,.mov (t 10)⟩])
 (.sops [.op ⟨some 11,none,.mov (t 0)⟩,
  .op ⟨some 12,none,.mov (t 5)⟩,
  .op ⟨some 13,none,.idxS (t 11) (t 12)⟩,
  .op ⟨some 14,none,.conv .i32 (t 13)⟩,
  .call none (some 15) H___strings_Builder__WriteRune [(t 4),(t 14)]])))
 (.ops [⟨some 16,none,.bin .add (t 8) (ci 1)⟩,⟨some 8,none,.mov (t 16)⟩])))))))
 (.seq (.sops [.call none (some 17) H___strings_Builder__String [(t 4)],
  .op ⟨some 2,none,.mov (t 17)⟩,
  .op ⟨some 3,none,.mov (.const (.bool true))⟩])
 .ret)))),[.tmp 2,.tmp 3]⟩
/-- quilt/charset.toLatin -/
def ir_charset_toLatin : IF := ⟨(.seq (.ops [⟨some 2,none,.mov (.const (.string ⟨#[]⟩))⟩,⟨some 3,none,.mov (.const (.bool false))⟩])
 (.seq (.seq (.ops [⟨some 7,none,.mov (t 0)⟩,⟨some 8,none,.pcall C_unicode_utf8_ValidString [(t 7)]⟩,⟨some 9,none,.not (t 8)⟩])
 (.cond (t 9) (.seq (.ops [⟨some 2,none,.mov (.const (.string ⟨#[]⟩))⟩,⟨some 3,none,.mov (.const (.bool false))⟩])
 .ret)
 .skip))
 (.seq (.jn (.ops [⟨some 4,none,.newb [.raw (.pointer none),.raw (.slice none 0 0)]⟩]))
 (.seq (.seq (.sops [.op ⟨some 10,none,.mov (t 0)⟩,
  .rngS (some 11) (t 10)])
 (.block 0 (.loop (.seq (.sops [.nxtS (some 12) (t 11),
  .op ⟨some 13,none,.extr (t 12) 0⟩])
 (.seq (.cond (t 13) .skip
 (.exit 0))
 (.block 1 (.seq (.ops [⟨some 14,none,.extr (t 12) 2⟩,⟨some 6,none,.mov (t 14)⟩])
 (.seq (.seq (.ops [⟨some 15,none,.mov (t 6)⟩,
  ⟨some 16,none,.bin .gtr (t 15) (.const (.int .i32 255))⟩])
 (.cond (t 16) (.seq (.ops [⟨some 2,none,.mov (.const (.string ⟨#[]⟩))⟩,⟨some 3,none,.mov (.const (.bool false))⟩])
 .ret)
 .skip))
 (.sops [.op ⟨some 17,none,.mov (t 6)⟩,
  .op ⟨some 18,none,.conv .u8 (t 17)⟩,
  .call none (some 19) H___strings_Builder__WriteByte [(t 4),(t 18)]])))))))))
 (.seq (.sops [.call none (some 20) H___strings_Builder__String [(t 4)],
  .op ⟨some 2,none,.mov (t 20)⟩,
  .op ⟨some 3,none,.mov (.const (.bool true))⟩])
 .ret))))),[.tmp 2,.tmp 3]⟩
/-- quilt/charset.units -/
def ir_charset_units : IF := ⟨(.seq (.ops [⟨some 2,none,.mov (.const (.slice none 0 0))⟩,⟨some 3,none,.mov (.const (.bool false))⟩])
 (.seq (.seq (.ops [⟨some 6,none,.mov (t 0)⟩,⟨some 7,none,.lenS (t 6)⟩,⟨some 8,none,.bin .rem (t 7) (ci 2)⟩,⟨some 9,none,.bin .neq (t 8) (ci 0)⟩])
 (.cond (t 9) (.seq (.ops [⟨some 2,none,.mov (.const (.slice none 0 0))⟩,⟨some 3,none,.mov (.const (.bool false))⟩])
 .ret)
 .skip))
 (.seq (.jn (.ops [⟨some 4,none,.mov (.const (.slice none 0 0))⟩]))
 (.seq (.seq (.ops [⟨some 5,none,.mov (ci 0)⟩])
 (.block 0 (.loop (.seq (.seq (.ops [⟨some 10,none,.mov (t 5)⟩,
  ⟨some 11,none,.mov (t 0)⟩,⟨some 12,none,.lenS (t 11)⟩,⟨some 13,none,.bin .lss (t 10) (t 12)⟩])
 (.cond (t 13) .skip
 (.exit 0)))
 (.seq (.block 1 (.ops [⟨some 16,none,.mov (t 4)⟩,⟨some 17,none,.mov (t 0)⟩,⟨some 18,none,.mov (t 5)⟩,⟨some 19,none,.idxS (t 17) (t 18)⟩,
  ⟨some 20,none,.conv .i32 (t 19)⟩,⟨some 21,none,.mov (t 0)⟩,⟨some 22,none,.mov (t 5)⟩,⟨some 23,none,.bin .add (t 22) (ci 1)⟩,⟨some 24,none,.idxS (t 21) (t 23)⟩,⟨some 25,none,.conv .i32 (t 24)⟩,
  ⟨some 26,none,.bin .shl (t 25) (.const (.int .u64 8))⟩,⟨some 27,none,.bin .or (t 20) (t 26)⟩,⟨some 28,none,.bslice 1 [.int .i32 0] 1 [(0,1,(t 27))]⟩,⟨some 29,none,.app 1 4 (t 16) (t 28)⟩,⟨some 4,none,.mov (t 29)⟩]))
 (.ops [⟨some 14,none,.mov (t 5)⟩,⟨some 15,none,.bin .add (t 14) (ci 2)⟩,
  ⟨some 5,none,.mov (t 15)⟩]))))))
 (.seq (.ops [⟨some 30,none,.mov (t 4)⟩,⟨some 2,none,.mov (t 30)⟩,⟨some 3,none,.mov (.const (.bool true))⟩])
 .ret))))),[.tmp 2,.tmp 3]⟩
/-- quilt/charset.fromUtf16 -/
def ir_charset_fromUtf16 : IF := ⟨(.seq (.ops [⟨some 2,none,.mov (.const (.string ⟨#[]⟩))⟩,⟨some 3,none,.mov (.const (.bool false))⟩])
 (.seq (.seq (.ops [⟨some 11,none,.mov (t 0)⟩,⟨some 12,none,.bin .eql (t 11) (.const (.string ⟨#[]⟩))⟩])
 (.cond (t 12) (.seq (.ops [⟨some 2,none,.mov (.const (.string ⟨#[]⟩))⟩,⟨some 3,none,.mov (.const (.bool true))⟩])
 .ret)
 .skip))
 (.seq (.ops [⟨some 14,none,.mov (t 0)⟩,⟨some 15,none,.pcall C_strings_CutPrefix [(t 14),(.const (.string ⟨#[255,254]⟩))]⟩,⟨some 13,none,.mov (t 15)⟩,
  ⟨some 16,none,.extr (t 13) 0⟩,⟨some 17,none,.extr (t 13) 1⟩,⟨some 4,none,.mov (t 16)⟩,⟨some 5,none,.mov (t 17)⟩])
 (.seq (.ops [⟨some 19,none,.mov (t 4)⟩,⟨some 20,none,.pcall C_charset_units [(t 19)]⟩,⟨some 18,none,.mov (t 20)⟩,
  ⟨some 21,none,.extr (t 18) 0⟩,⟨some 22,none,.extr (t 18) 1⟩,⟨some 6,none,.mov (t 21)⟩,⟨some 7,none,.mov (t 22)⟩])
 (.seq (.seq (.ops [⟨some 23,none,.mov (t 5)⟩,⟨some 24,none,.not (t 23)⟩,⟨some 25,none,.mov (t 24)⟩,
  ⟨some 26,some (25,false),.mov (t 7)⟩,⟨some 27,some (25,false),.not (t 26)⟩,⟨some 28,none,.pick (t 25) (.const (.bool true)) (t 27)⟩,⟨some 29,none,.mov (t 28)⟩,⟨some 30,some (29,false),.mov (t 6)⟩,⟨some 31,some (29,false),.lenL (t 30)⟩,
  ⟨some 32,some (29,false),.bin .eql (t 31) (ci 0)⟩,⟨some 33,none,.pick (t 29) (.const (.bool true)) (t 32)⟩])
 (.cond (t 33) (.seq (.ops [⟨some 2,none,.mov (.const (.string ⟨#[]⟩))⟩,⟨some 3,none,.mov (.const (.bool false))⟩])
 .ret)
 .skip))
 (.seq (.jn (.ops [⟨some 8,none,.newb [.raw (.pointer none),.raw (.slice none 0 0)]⟩]))
 (.seq (.seq (.ops [⟨some 9,none,.mov (ci 0)⟩])
 (.block 0 (.loop (.seq (.seq (.ops [⟨some 34,none,.mov (t 9)⟩,⟨some 35,none,.mov (t 6)⟩,⟨some 36,none,.lenL (t 35)⟩,⟨some 37,none,.bin .lss (t 34) (t 36)⟩])
 (.cond (t 37) .skip
 (.exit 0)))
 (.seq (.block 1 (.seq (.ops [⟨some 40,none,.mov (t 6)⟩,
  ⟨some 41,none,.mov (t 9)⟩,⟨some 42,none,.idxL 1 (t 40) (t 41)⟩,⟨some 43,none,.load1 (t 42)⟩,⟨some 10,none,.mov (t 43)⟩])
 (.seq (.block 2 (.seq (.ops [⟨some 45,none,.mov (t 10)⟩,⟨some 46,none,.bin .geq (t 45) (.const (.int .i32 56320))⟩,⟨some 47,none,.mov (t 46)⟩,
  ⟨some 48,some (47,true),.mov (t 10)⟩,⟨some 49,some (47,true),.bin .lss (t 48) (.const (.int .i32 57344))⟩,⟨some 50,none,.pick (t 47) (t 49) (.const (.bool false))⟩,⟨some 44,none,.mov (t 50)⟩])
 (.cond (t 44) (.seq (.ops [⟨some 2,none,.mov (.const (.string ⟨#[]⟩))⟩,⟨some 3,none,.mov (.const (.bool false))⟩])
 .ret)
 (.seq (.ops [⟨some 52,none,.mov (t 10)⟩,⟨some 53,none,.bin .geq (t 52) (.const (.int .i32 55296))⟩,
  ⟨some 54,none,.mov (t 53)⟩,⟨some 55,some (54,true),.mov (t 10)⟩,⟨some 56,some (54,true),.bin .lss (t 55) (.const (.int .i32 56320))⟩,⟨some 57,none,.pick (t 54) (t 56) (.const (.bool false))⟩,⟨some 51,none,.mov (t 57)⟩])
 (.jn (.cond (t 51) (.seq (.seq (.ops [⟨some 58,none,.mov (t 9)⟩,⟨some 59,none,.bin .add (t 58) (ci 1)⟩,
  ⟨some 9,none,.mov (t 59)⟩])
 (.seq (.ops [⟨some 60,none,.mov (t 9)⟩,⟨some 61,none,.mov (t 6)⟩,⟨some 62,none,.lenL (t 61)⟩,⟨some 63,none,.bin .eql (t 60) (t 62)⟩,⟨some 64,none,.mov (t 63)⟩,⟨some 65,some (64,false),.mov (t 6)⟩,
  ⟨some 66,some (64,false),.mov (t 9)⟩,⟨some 67,some (64,false),.idxL 1 (t 65) (t 66)⟩,⟨some 68,some (64,false),.load1 (t 67)⟩,⟨some 69,some (64,false),.bin .lss (t 68) (.const (.int .i32 56320))⟩,⟨some 70,none,.pick (t 64) (.const (.bool true)) (t 69)⟩,⟨some 71,none,.mov (t 70)⟩,
  ⟨some 72,some (71,false),.mov (t 6)⟩,⟨some 73,some (71,false),.mov (t 9)⟩,⟨some 74,some (71,false),.idxL 1 (t 72) (t 73)⟩,⟨some 75,some (71,false),.load1 (t 74)⟩,⟨some 76,some (71,false),.bin .geq (t 75) (.const (.int .i32 57344))⟩,⟨some 77,none,.pick (t 71) (.const (.bool true)) (t 76)⟩])
 (.cond (t 77) (.seq (.ops [⟨some 2,none,.mov (.const (.string ⟨#[]⟩))⟩,
  ⟨some 3,none,.mov (.const (.bool false))⟩])
 .ret)
 .skip)))
 (.ops [⟨some 78,none,.mov (t 10)⟩,⟨some 79,none,.bin .sub (t 78) (.const (.int .i32 55296))⟩,⟨some 80,none,.bin .shl (t 79) (.const (.int .u64 10))⟩,⟨some 81,none,.bin .add (.const (.int .i32 65536)) (t 80)⟩,⟨some 82,none,.mov (t 6)⟩,⟨some 83,none,.mov (t 9)⟩,
  ⟨some 84,none,.idxL 1 (t 82) (t 83)⟩,⟨some 85,none,.load1 (t 84)⟩,⟨some 86,none,.bin .add (t 81) (t 85)⟩,⟨some 87,none,.bin .sub (t 86) (.const (.int .i32 56320))⟩,⟨some 10,none,.mov (t 87)⟩]))
 .skip))))))
 (.sops [.op ⟨some 88,none,.mov (t 10)⟩,
  .call none (some 89) H___strings_Builder__WriteRune [(t 8),(t 88)]]))))
 (.ops [⟨some 38,none,.mov (t 9)⟩,⟨some 39,none,.bin .add (t 38) (ci 1)⟩,
  ⟨some 9,none,.mov (t 39)⟩]))))))
 (.seq (.sops [.call none (some 90) H___strings_Builder__String [(t 8)],
  .op ⟨some 2,none,.mov (t 90)⟩,
  .op ⟨some 3,none,.mov (.const (.bool true))⟩])
 .ret)))))))),[.tmp 2,.tmp 3]⟩
/-- quilt/charset.toUtf16$1 -/
def ir_charset_toUtf16_1 : IF := ⟨(.seq (.sops [.op ⟨some 3,none,.mov (t 0)⟩,
  .op ⟨some 4,none,.conv .u8 (t 3)⟩,
  .call none (some 5) H___strings_Builder__WriteByte [(t 1),(t 4)]])
 (.sops [.op ⟨some 6,none,.mov (t 0)⟩,
  .op ⟨some 7,none,.bin .shr (t 6) (.const (.int .u64 8))⟩,
  .op ⟨some 8,none,.conv .u8 (t 7)⟩,
  .call none (some 9) H___strings_Builder__WriteByte [(t 1),(t 8)]])),[]⟩
def H_charset_toUtf16_1 : HTran := inl 2 ir_charset_toUtf16_1.code ir_charset_toUtf16_1.res
def V_charset_toUtf16 : Nat → Option PC := look []
def HV_charset_toUtf16 : Nat → Option HTran := look [(6,H_charset_toUtf16_1)]
/-- quilt/charset.toUtf16 -/
def ir_charset_toUtf16 : IF := ⟨(.seq (.ops [⟨some 2,none,.mov (.const (.string ⟨#[]⟩))⟩,⟨some 3,none,.mov (.const (.bool false))⟩])
 (.seq (.seq (.ops [⟨some 8,none,.mov (t 0)⟩,⟨some 9,none,.bin .eql (t 8) (.const (.string ⟨#[]⟩))⟩,⟨some 10,none,.mov (t 9)⟩,⟨some 11,some (10,false),.mov (t 0)⟩,⟨some 12,some (10,false),.pcall C_unicode_utf8_ValidString [(t 11)]⟩,
  ⟨some 13,some (10,false),.not (t 12)⟩,⟨some 14,none,.pick (t 10) (.const (.bool true)) (t 13)⟩])
 (.cond (t 14) (.seq (.ops [⟨some 15,none,.mov (t 0)⟩,⟨some 16,none,.bin .eql (t 15) (.const (.string ⟨#[]⟩))⟩,⟨some 2,none,.mov (.const (.string ⟨#[]⟩))⟩,⟨some 3,none,.mov (t 16)⟩])
 .ret)
 .skip))
 (.seq (.jn (.ops [⟨some 4,none,.newb [.raw (.pointer none),.raw (.slice none 0 0)]⟩]))
 (.seq (.sops [.call none (some 17) H___strings_Builder__WriteString [(t 4),(.const (.string ⟨#[255,254]⟩))]])
 (.seq (.ops [⟨some 18,none,.mkclo 6 [(t 4)]⟩,⟨some 5,none,.mov (t 18)⟩])
 (.seq (.seq (.sops [.op ⟨some 19,none,.mov (t 0)⟩,
  .rngS (some 20) (t 19)])
 (.block 0 (.loop (.seq (.sops [.nxtS (some 21) (t 20),
  .op ⟨some 22,none,.extr (t 21) 0⟩])
 (.seq (.cond (t 22) .skip
 (.exit 0))
 (.jn (.block 1 (.seq (.ops [⟨some 23,none,.extr (t 21) 2⟩,
  ⟨some 7,none,.mov (t 23)⟩])
 (.seq (.seq (.ops [⟨some 24,none,.mov (t 7)⟩,⟨some 25,none,.bin .lss (t 24) (.const (.int .i32 65536))⟩])
 (.cond (t 25) (.seq (.sops [.op ⟨some 26,none,.mov (t 5)⟩,
  .op ⟨some 27,none,.mov (t 7)⟩,
  .dyn ⟨some 28,none,.vcall V_charset_toUtf16 (t 26) [(t 27)]⟩ HV_charset_toUtf16 (t 26) [(t 27)]])
 (.exit 1))
 .skip))
 (.seq (.sops [.op ⟨some 29,none,.mov (t 5)⟩,
  .op ⟨some 30,none,.mov (t 7)⟩,
  .op ⟨some 31,none,.bin .sub (t 30) (.const (.int .i32 65536))⟩,
  .op ⟨some 32,none,.bin .shr (t 31) (.const (.int .u64 10))⟩,
  .op ⟨some 33,none,.bin .add (.const (.int .i32 55296)) (t 32)⟩,
  .dyn ⟨some 34,none,.vcall V_charset_toUtf16 (t 29) [(t 33)]⟩ HV_charset_toUtf16 (t 29) [(t 33)]])
 (.sops [.op ⟨some 35,none,.mov (t 5)⟩,
  .op ⟨some 36,none,.mov (t 7)⟩,
  .op ⟨some 37,none,.bin .sub (t 36) (.const (.int .i32 65536))⟩,
  .op ⟨some 38,none,.bin .and (t 37) (.const (.int .i32 1023))⟩,
  .op ⟨some 39,none,.bin .add (.const (.int .i32 56320)) (t 38)⟩,
  .dyn ⟨some 40,none,.vcall V_charset_toUtf16 (t 35) [(t 39)]⟩ HV_charset_toUtf16 (t 35) [(t 39)]])))))))))))
 (.seq (.sops [.call none (some 41) H___strings_Builder__String [(t 4)],
  .op ⟨some 2,none,.mov (t 41)⟩,
  .op ⟨some 3,none,.mov (.const (.bool true))⟩])
 .ret))))))),[.tmp 2,.tmp 3]⟩
/-- quilt/charset.codings -/
def ir_charset_codings : IF := ⟨(.seq (.ops [⟨some 0,none,.mov (.const (.map none))⟩])
 (.seq (.ops [⟨some 1,none,.mkmap true [some (some .i64)]⟩,⟨some 2,none,.build 2 [.raw .nilFunc,.raw .nilFunc] [(0,1,(.func 53)),(1,1,(.func 53))]⟩,⟨none,none,.mput true [some (some .i64)] (t 1) (ci 1) (t 2)⟩,⟨some 3,none,.build 2 [.raw .nilFunc,.raw .nilFunc] [(0,1,(.func 54)),(1,1,(.func 55))]⟩,⟨none,none,.mput true [some (some .i64)] (t 1) (ci 2) (t 3)⟩,⟨some 4,none,.build 2 [.raw .nilFunc,.raw .nilFunc] [(0,1,(.func 56)),(1,1,(.func 57))]⟩,
  ⟨none,none,.mput true [some (some .i64)] (t 1) (ci 3) (t 4)⟩,⟨some 5,none,.mov (t 1)⟩,⟨some 0,none,.mov (t 5)⟩])
 .ret)),[.tmp 0]⟩
/-- quilt/charset.charsets -/
def ir_charset_charsets : IF := ⟨(.seq (.ops [⟨some 0,none,.mov (.const (.map none))⟩])
 (.seq (.ops [⟨some 1,none,.mkmap true [some none]⟩,⟨none,none,.mput true [some none] (t 1) (.const (.string ⟨#[97,110,121]⟩)) (ci 0)⟩,⟨none,none,.mput true [some none] (t 1) (.const (.string ⟨#[117,116,102,56]⟩)) (ci 1)⟩,⟨none,none,.mput true [some none] (t 1) (.const (.string ⟨#[108,97,116,105,110,49]⟩)) (ci 2)⟩,⟨none,none,.mput true [some none] (t 1) (.const (.string ⟨#[117,116,102,49,54]⟩)) (ci 3)⟩,⟨some 2,none,.mov (t 1)⟩,
  ⟨some 0,none,.mov (t 2)⟩])
 .ret)),[.tmp 0]⟩
/-- quilt/charset.endings -/
def ir_charset_endings : IF := ⟨(.seq (.ops [⟨some 0,none,.mov (.const (.map none))⟩])
 (.seq (.ops [⟨some 1,none,.mkmap true [some none]⟩,⟨none,none,.mput true [some none] (t 1) (.const (.string ⟨#[114,97,119]⟩)) (ci 0)⟩,⟨none,none,.mput true [some none] (t 1) (.const (.string ⟨#[108,102]⟩)) (ci 1)⟩,⟨none,none,.mput true [some none] (t 1) (.const (.string ⟨#[99,114,108,102]⟩)) (ci 2)⟩,⟨some 2,none,.mov (t 1)⟩,⟨some 0,none,.mov (t 2)⟩])
 .ret)),[.tmp 0]⟩
def cvs : List (Nat × PC) := [(1000000 + 53,C_charset_same),(1000000 + 54,C_charset_fromLatin),(1000000 + 55,C_charset_toLatin),(1000000 + 56,C_charset_fromUtf16),(1000000 + 57,C_charset_toUtf16)]
def V_charset_convert : Nat → Option PC := look cvs
def HV_charset_convert : Nat → Option HTran := look []
/-- quilt/charset.convert -/
def ir_charset_convert : IF := ⟨(.seq (.ops [⟨some 4,none,.mov (.const (.string ⟨#[]⟩))⟩,⟨some 5,none,.mov (ci 0)⟩])
 (.seq (.seq (.ops [⟨some 8,none,.mov (t 1)⟩,⟨some 9,none,.lenS (t 8)⟩,⟨some 10,none,.bin .gtr (t 9) (ci 65536)⟩])
 (.cond (t 10) (.seq (.ops [⟨some 4,none,.mov (.const (.string ⟨#[]⟩))⟩,⟨some 5,none,.mov (ci 4)⟩])
 .ret)
 .skip))
 (.seq (.sops [.op ⟨some 12,none,.mov (t 0)⟩,
  .op ⟨some 13,none,.mov (t 1)⟩,
  .dyn ⟨some 14,none,.vcall V_charset_convert (t 12) [(t 13)]⟩ HV_charset_convert (t 12) [(t 13)],
  .op ⟨some 11,none,.mov (t 14)⟩,
  .op ⟨some 15,none,.extr (t 11) 0⟩,
  .op ⟨some 16,none,.extr (t 11) 1⟩,
  .op ⟨some 6,none,.mov (t 15)⟩,
  .op ⟨some 7,none,.mov (t 16)⟩])
 (.seq (.seq (.ops [⟨some 17,none,.mov (t 7)⟩,⟨some 18,none,.not (t 17)⟩])
 (.cond (t 18) (.seq (.ops [⟨some 4,none,.mov (.const (.string ⟨#[]⟩))⟩,
  ⟨some 5,none,.mov (ci 24)⟩])
 .ret)
 .skip))
 (.seq (.seq (.ops [⟨some 19,none,.mov (t 6)⟩,⟨some 20,none,.lenS (t 19)⟩,⟨some 21,none,.bin .gtr (t 20) (ci 65536)⟩])
 (.cond (t 21) (.seq (.ops [⟨some 4,none,.mov (.const (.string ⟨#[]⟩))⟩,⟨some 5,none,.mov (ci 4)⟩])
 .ret)
 .skip))
 (.seq (.ops [⟨some 22,none,.mov (t 6)⟩,⟨some 4,none,.mov (t 22)⟩,⟨some 5,none,.mov (ci 0)⟩])
 .ret)))))),[.tmp 4,.tmp 5]⟩
def H_charset_convert : HTran := inl 2 ir_charset_convert.code ir_charset_convert.res
/-- quilt/charset.Decode -/
def ir_charset_Decode : IF := ⟨(.seq (.ops [⟨some 4,none,.mov (.const (.string ⟨#[]⟩))⟩,⟨some 5,none,.mov (ci 0)⟩])
 (.seq (.ops [⟨some 9,none,.pcall C_charset_codings []⟩,⟨some 10,none,.mov (t 0)⟩,⟨some 11,none,.mlook true [some (some .i64)] (.agg [.raw .nilFunc,.raw .nilFunc]) true (t 9) (t 10)⟩,⟨some 8,none,.mov (t 11)⟩,⟨some 12,none,.extr (t 8) 0⟩,
  ⟨some 13,none,.extr (t 8) 1⟩,⟨some 6,none,.alloc [.raw .nilFunc,.raw .nilFunc]⟩,⟨none,none,.storN 2 (t 6) (t 12)⟩,⟨some 7,none,.mov (t 13)⟩])
 (.seq (.seq (.ops [⟨some 14,none,.mov (t 7)⟩,⟨some 15,none,.not (t 14)⟩])
 (.cond (t 15) (.seq (.ops [⟨some 4,none,.mov (.const (.string ⟨#[]⟩))⟩,⟨some 5,none,.mov (ci 8)⟩])
 .ret)
 .skip))
 (.seq (.sops [.op ⟨some 16,none,.fldA 0 (t 6)⟩,
  .op ⟨some 17,none,.load1 (t 16)⟩,
  .op ⟨some 18,none,.mov (t 1)⟩,
  .call none (some 19) H_charset_convert [(t 17),(t 18)],
  .op ⟨some 20,none,.extr (t 19) 0⟩,
  .op ⟨some 21,none,.extr (t 19) 1⟩,
  .op ⟨some 4,none,.mov (t 20)⟩,
  .op ⟨some 5,none,.mov (t 21)⟩])
 .ret)))),[.tmp 4,.tmp 5]⟩
/-- quilt/charset.Encode -/
def ir_charset_Encode : IF := ⟨(.seq (.ops [⟨some 4,none,.mov (.const (.string ⟨#[]⟩))⟩,⟨some 5,none,.mov (ci 0)⟩])
 (.seq (.ops [⟨some 9,none,.pcall C_charset_codings []⟩,⟨some 10,none,.mov (t 0)⟩,⟨some 11,none,.mlook true [some (some .i64)] (.agg [.raw .nilFunc,.raw .nilFunc]) true (t 9) (t 10)⟩,⟨some 8,none,.mov (t 11)⟩,⟨some 12,none,.extr (t 8) 0⟩,
  ⟨some 13,none,.extr (t 8) 1⟩,⟨some 6,none,.alloc [.raw .nilFunc,.raw .nilFunc]⟩,⟨none,none,.storN 2 (t 6) (t 12)⟩,⟨some 7,none,.mov (t 13)⟩])
 (.seq (.seq (.ops [⟨some 14,none,.mov (t 7)⟩,⟨some 15,none,.not (t 14)⟩])
 (.cond (t 15) (.seq (.ops [⟨some 4,none,.mov (.const (.string ⟨#[]⟩))⟩,⟨some 5,none,.mov (ci 8)⟩])
 .ret)
 .skip))
 (.seq (.sops [.op ⟨some 16,none,.fldA 1 (t 6)⟩,
  .op ⟨some 17,none,.load1 (t 16)⟩,
  .op ⟨some 18,none,.mov (t 1)⟩,
  .call none (some 19) H_charset_convert [(t 17),(t 18)],
  .op ⟨some 20,none,.extr (t 19) 0⟩,
  .op ⟨some 21,none,.extr (t 19) 1⟩,
  .op ⟨some 4,none,.mov (t 20)⟩,
  .op ⟨some 5,none,.mov (t 21)⟩])
 .ret)))),[.tmp 4,.tmp 5]⟩
/-- quilt/charset.known -/
def ir_charset_known : IF := ⟨(.seq (.ops [⟨some 2,none,.box (t 0)⟩,⟨some 4,none,.mov (ci 0)⟩])
 (.seq (.seq (.rops [(0,7),(2,7),(3,7)] [⟨some 8,none,.pcall C_charset_codings []⟩,⟨some 9,none,.fldA 1 (t 2)⟩,⟨some 10,none,.load1 (t 9)⟩,⟨some 11,none,.mlook true [some (some .i64)] (.agg [.raw .nilFunc,.raw .nilFunc]) true (t 8) (t 10)⟩,⟨some 7,none,.mov (t 11)⟩,
  ⟨some 12,none,.extr (t 7) 0⟩,⟨some 13,none,.extr (t 7) 1⟩,⟨some 5,none,.alloc [.raw .nilFunc,.raw .nilFunc]⟩,⟨none,none,.storN 2 (t 5) (t 12)⟩,⟨some 6,none,.mov (t 13)⟩])
 (.seq (.ops [⟨some 14,none,.mov (t 6)⟩,⟨some 15,none,.not (t 14)⟩,
  ⟨some 16,none,.mov (t 15)⟩,⟨some 17,some (16,true),.fldA 1 (t 2)⟩,⟨some 18,some (16,true),.load1 (t 17)⟩,⟨some 19,some (16,true),.bin .neq (t 18) (ci 0)⟩,⟨some 20,none,.pick (t 16) (t 19) (.const (.bool false))⟩,⟨some 21,none,.mov (t 20)⟩,
  ⟨some 22,some (21,false),.fldA 2 (t 2)⟩,⟨some 23,some (21,false),.load1 (t 22)⟩,⟨some 24,some (21,false),.bin .lss (t 23) (ci 0)⟩,⟨some 25,none,.pick (t 21) (.const (.bool true)) (t 24)⟩,⟨some 26,none,.mov (t 25)⟩,⟨some 27,some (26,false),.fldA 2 (t 2)⟩,
  ⟨some 28,some (26,false),.load1 (t 27)⟩,⟨some 29,some (26,false),.bin .gtr (t 28) (ci 2)⟩,⟨some 30,none,.pick (t 26) (.const (.bool true)) (t 29)⟩])
 (.cond (t 30) (.seq (.ops [⟨some 4,none,.mov (ci 8)⟩])
 .ret)
 .skip)))
 (.seq (.seq (.ops [⟨some 31,none,.mov (t 1)⟩,⟨some 32,none,.lenS (t 31)⟩,⟨some 33,none,.bin .gtr (t 32) (ci 65536)⟩])
 (.cond (t 33) (.seq (.ops [⟨some 4,none,.mov (ci 4)⟩])
 .ret)
 .skip))
 (.seq (.ops [⟨some 4,none,.mov (ci 0)⟩])
 .ret)))),[.tmp 4]⟩
/-- quilt/charset.toLf -/
def ir_charset_toLf : IF := ⟨(.seq (.ops [⟨some 4,none,.mov (.const (.string ⟨#[]⟩))⟩,⟨some 5,none,.mov (ci 0)⟩])
 (.seq (.seq (.ops [⟨some 7,none,.mov (t 0)⟩,⟨some 8,none,.bin .eql (t 7) (ci 0)⟩])
 (.cond (t 8) (.seq (.ops [⟨some 9,none,.mov (t 1)⟩,⟨some 4,none,.mov (t 9)⟩,⟨some 5,none,.mov (ci 0)⟩])
 .ret)
 .skip))
 (.seq (.seq (.ops [⟨some 10,none,.mov (t 0)⟩,⟨some 11,none,.bin .eql (t 10) (ci 2)⟩])
 (.jn (.cond (t 11) (.seq (.ops [⟨some 12,none,.mov (t 1)⟩,
  ⟨some 13,none,.pcall C_strings_ReplaceAll [(t 12),(.const (.string ⟨#[13,10]⟩)),(.const (.string ⟨#[10]⟩))]⟩,⟨some 6,none,.mov (t 13)⟩])
 (.seq (.seq (.ops [⟨some 14,none,.mov (t 1)⟩,⟨some 15,none,.pcall C_strings_Count [(t 14),(.const (.string ⟨#[10]⟩))]⟩,⟨some 16,none,.mov (t 1)⟩,⟨some 17,none,.lenS (t 16)⟩,⟨some 18,none,.mov (t 6)⟩,
  ⟨some 19,none,.lenS (t 18)⟩,⟨some 20,none,.bin .sub (t 17) (t 19)⟩,⟨some 21,none,.bin .neq (t 15) (t 20)⟩])
 (.cond (t 21) (.seq (.ops [⟨some 4,none,.mov (.const (.string ⟨#[]⟩))⟩,⟨some 5,none,.mov (ci 24)⟩])
 .ret)
 .skip))
 (.ops [⟨some 22,none,.mov (t 6)⟩,⟨some 1,none,.mov (t 22)⟩])))
 .skip)))
 (.seq (.seq (.ops [⟨some 23,none,.mov (t 1)⟩,⟨some 24,none,.pcall C_strings_Contains [(t 23),(.const (.string ⟨#[13]⟩))]⟩])
 (.cond (t 24) (.seq (.ops [⟨some 4,none,.mov (.const (.string ⟨#[]⟩))⟩,
  ⟨some 5,none,.mov (ci 24)⟩])
 .ret)
 .skip))
 (.seq (.ops [⟨some 25,none,.mov (t 1)⟩,⟨some 4,none,.mov (t 25)⟩,⟨some 5,none,.mov (ci 0)⟩])
 .ret))))),[.tmp 4,.tmp 5]⟩
/-- quilt/charset.fromLf -/
def ir_charset_fromLf : IF := ⟨(.seq (.ops [⟨some 4,none,.mov (.const (.string ⟨#[]⟩))⟩,⟨some 5,none,.mov (ci 0)⟩])
 (.seq (.seq (.ops [⟨some 6,none,.mov (t 0)⟩,⟨some 7,none,.bin .eql (t 6) (ci 0)⟩])
 (.cond (t 7) (.seq (.ops [⟨some 8,none,.mov (t 1)⟩,⟨some 4,none,.mov (t 8)⟩,⟨some 5,none,.mov (ci 0)⟩])
 .ret)
 .skip))
 (.seq (.seq (.ops [⟨some 9,none,.mov (t 1)⟩,⟨some 10,none,.pcall C_strings_Contains [(t 9),(.const (.string ⟨#[13]⟩))]⟩])
 (.cond (t 10) (.seq (.ops [⟨some 4,none,.mov (.const (.string ⟨#[]⟩))⟩,
  ⟨some 5,none,.mov (ci 24)⟩])
 .ret)
 .skip))
 (.seq (.seq (.ops [⟨some 11,none,.mov (t 0)⟩,⟨some 12,none,.bin .eql (t 11) (ci 2)⟩])
 (.jn (.cond (t 12) (.ops [⟨some 13,none,.mov (t 1)⟩,⟨some 14,none,.pcall C_strings_ReplaceAll [(t 13),(.const (.string ⟨#[10]⟩)),(.const (.string ⟨#[13,10]⟩))]⟩,⟨some 1,none,.mov (t 14)⟩])
 .skip)))
 (.seq (.seq (.ops [⟨some 15,none,.mov (t 1)⟩,⟨some 16,none,.lenS (t 15)⟩,⟨some 17,none,.bin .gtr (t 16) (ci 65536)⟩])
 (.cond (t 17) (.seq (.ops [⟨some 4,none,.mov (.const (.string ⟨#[]⟩))⟩,
  ⟨some 5,none,.mov (ci 4)⟩])
 .ret)
 .skip))
 (.seq (.ops [⟨some 18,none,.mov (t 1)⟩,⟨some 4,none,.mov (t 18)⟩,⟨some 5,none,.mov (ci 0)⟩])
 .ret)))))),[.tmp 4,.tmp 5]⟩
/-- quilt/charset.Find -/
def ir_charset_Find : IF := ⟨(.seq (.ops [⟨some 4,none,.alloc [.str [],.int .i64 0,.int .i64 0]⟩])
 (.seq (.ops [⟨some 5,none,.alloc [.str [],.int .i64 0,.int .i64 0]⟩])
 (.seq (.seq (.ops [⟨some 8,none,.mov (t 0)⟩,⟨some 9,none,.lenL (t 8)⟩,⟨some 10,none,.mov (ci 0)⟩])
 (.block 0 (.loop (.seq (.ops [⟨some 11,none,.bin .lss (t 10) (t 9)⟩])
 (.seq (.cond (t 11) .skip
 (.exit 0))
 (.seq (.block 1 (.seq (.ops [⟨some 12,none,.idxL 3 (t 8) (t 10)⟩,⟨some 13,none,.loadN 3 (t 12)⟩,⟨some 7,none,.alloc [.str [],.int .i64 0,.int .i64 0]⟩,⟨none,none,.storN 3 (t 7) (t 13)⟩])
 (.seq (.ops [⟨some 14,none,.fldA 0 (t 7)⟩,
  ⟨some 15,none,.load1 (t 14)⟩,⟨some 16,none,.mov (t 1)⟩,⟨some 17,none,.pcall C_glob_Match [(t 15),(t 16)]⟩])
 (.jn (.cond (t 17) (.ops [⟨some 18,none,.loadN 3 (t 7)⟩,⟨none,none,.storN 3 (t 5) (t 18)⟩])
 .skip)))))
 (.ops [⟨some 19,none,.bin .add (t 10) (ci 1)⟩,⟨some 10,none,.mov (t 19)⟩])))))))
 (.seq (.ops [⟨some 20,none,.loadN 3 (t 5)⟩,⟨none,none,.storN 3 (t 4) (t 20)⟩])
 .ret)))),[.cell 4 true 3]⟩
/-- quilt/charset.ToRepo -/
def ir_charset_ToRepo : IF := ⟨(.seq (.ops [⟨some 6,none,.mov (.const (.string ⟨#[]⟩))⟩,⟨some 7,none,.mov (ci 0)⟩])
 (.seq (.ops [⟨some 12,none,.mov (t 0)⟩,⟨some 13,none,.mov (t 1)⟩,⟨some 14,none,.pcall C_charset_Find [(t 12),(t 13)]⟩,⟨some 8,none,.alloc [.str [],.int .i64 0,.int .i64 0]⟩,⟨none,none,.storN 3 (t 8) (t 14)⟩])
 (.seq (.seq (.ops [⟨some 15,none,.loadN 3 (t 8)⟩,
  ⟨some 16,none,.mov (t 2)⟩,⟨some 17,none,.pcall C_charset_known [(t 15),(t 16)]⟩,⟨some 9,none,.mov (t 17)⟩])
 (.seq (.ops [⟨some 18,none,.mov (t 9)⟩,⟨some 19,none,.bin .neq (t 18) (ci 0)⟩])
 (.cond (t 19) (.seq (.ops [⟨some 20,none,.mov (t 9)⟩,⟨some 6,none,.mov (.const (.string ⟨#[]⟩))⟩,⟨some 7,none,.mov (t 20)⟩])
 .ret)
 .skip)))
 (.seq (.seq (.ops [⟨some 21,none,.fldA 1 (t 8)⟩,
  ⟨some 22,none,.load1 (t 21)⟩,⟨some 23,none,.bin .neq (t 22) (ci 0)⟩])
 (.jn (.cond (t 23) (.seq (.ops [⟨some 25,none,.fldA 1 (t 8)⟩,⟨some 26,none,.load1 (t 25)⟩,⟨some 27,none,.mov (t 2)⟩,⟨some 28,none,.pcall C_charset_Decode [(t 26),(t 27)]⟩,⟨some 24,none,.mov (t 28)⟩,
  ⟨some 29,none,.extr (t 24) 0⟩,⟨some 30,none,.extr (t 24) 1⟩,⟨some 10,none,.mov (t 29)⟩,⟨some 11,none,.mov (t 30)⟩])
 (.seq (.seq (.ops [⟨some 31,none,.mov (t 11)⟩,⟨some 32,none,.bin .neq (t 31) (ci 0)⟩])
 (.cond (t 32) (.seq (.ops [⟨some 33,none,.mov (t 11)⟩,⟨some 6,none,.mov (.const (.string ⟨#[]⟩))⟩,
  ⟨some 7,none,.mov (t 33)⟩])
 .ret)
 .skip))
 (.ops [⟨some 34,none,.mov (t 10)⟩,⟨some 2,none,.mov (t 34)⟩])))
 .skip)))
 (.seq (.ops [⟨some 35,none,.fldA 2 (t 8)⟩,⟨some 36,none,.load1 (t 35)⟩,⟨some 37,none,.mov (t 2)⟩,⟨some 38,none,.pcall C_charset_toLf [(t 36),(t 37)]⟩,⟨some 39,none,.extr (t 38) 0⟩,
  ⟨some 40,none,.extr (t 38) 1⟩,⟨some 6,none,.mov (t 39)⟩,⟨some 7,none,.mov (t 40)⟩])
 .ret))))),[.tmp 6,.tmp 7]⟩
/-- quilt/charset.FromRepo -/
def ir_charset_FromRepo : IF := ⟨(.seq (.ops [⟨some 6,none,.mov (.const (.string ⟨#[]⟩))⟩,⟨some 7,none,.mov (ci 0)⟩])
 (.seq (.ops [⟨some 12,none,.mov (t 0)⟩,⟨some 13,none,.mov (t 1)⟩,⟨some 14,none,.pcall C_charset_Find [(t 12),(t 13)]⟩,⟨some 8,none,.alloc [.str [],.int .i64 0,.int .i64 0]⟩,⟨none,none,.storN 3 (t 8) (t 14)⟩])
 (.seq (.seq (.ops [⟨some 15,none,.loadN 3 (t 8)⟩,
  ⟨some 16,none,.mov (t 2)⟩,⟨some 17,none,.pcall C_charset_known [(t 15),(t 16)]⟩,⟨some 9,none,.mov (t 17)⟩])
 (.seq (.ops [⟨some 18,none,.mov (t 9)⟩,⟨some 19,none,.bin .neq (t 18) (ci 0)⟩])
 (.cond (t 19) (.seq (.ops [⟨some 20,none,.mov (t 9)⟩,⟨some 6,none,.mov (.const (.string ⟨#[]⟩))⟩,⟨some 7,none,.mov (t 20)⟩])
 .ret)
 .skip)))
 (.seq (.ops [⟨some 22,none,.fldA 2 (t 8)⟩,
  ⟨some 23,none,.load1 (t 22)⟩,⟨some 24,none,.mov (t 2)⟩,⟨some 25,none,.pcall C_charset_fromLf [(t 23),(t 24)]⟩,⟨some 21,none,.mov (t 25)⟩,⟨some 26,none,.extr (t 21) 0⟩,⟨some 27,none,.extr (t 21) 1⟩,
  ⟨some 10,none,.mov (t 26)⟩,⟨some 11,none,.mov (t 27)⟩])
 (.seq (.seq (.ops [⟨some 28,none,.mov (t 11)⟩,⟨some 29,none,.bin .neq (t 28) (ci 0)⟩,⟨some 30,none,.mov (t 29)⟩,⟨some 31,some (30,false),.fldA 1 (t 8)⟩,⟨some 32,some (30,false),.load1 (t 31)⟩,
  ⟨some 33,some (30,false),.bin .eql (t 32) (ci 0)⟩,⟨some 34,none,.pick (t 30) (.const (.bool true)) (t 33)⟩])
 (.cond (t 34) (.seq (.ops [⟨some 35,none,.mov (t 10)⟩,⟨some 36,none,.mov (t 11)⟩,⟨some 6,none,.mov (t 35)⟩,⟨some 7,none,.mov (t 36)⟩])
 .ret)
 .skip))
 (.seq (.ops [⟨some 37,none,.fldA 1 (t 8)⟩,⟨some 38,none,.load1 (t 37)⟩,
  ⟨some 39,none,.mov (t 10)⟩,⟨some 40,none,.pcall C_charset_Encode [(t 38),(t 39)]⟩,⟨some 41,none,.extr (t 40) 0⟩,⟨some 42,none,.extr (t 40) 1⟩,⟨some 6,none,.mov (t 41)⟩,⟨some 7,none,.mov (t 42)⟩])
 .ret)))))),[.tmp 6,.tmp 7]⟩
/-- strings.splitSeq -/
def ir_strings_splitSeq : IF := ⟨(.seq (.ops [⟨some 3,none,.box (t 0)⟩,⟨some 4,none,.box (t 1)⟩,⟨some 5,none,.box (t 2)⟩,⟨some 6,none,.mov (.const .nilFunc)⟩])
 (.seq (.ops [⟨some 7,none,.mkclo 5 [(t 4),(t 3),(t 5)]⟩,⟨some 6,none,.mov (t 7)⟩])
 .ret)),[.tmp 6]⟩
def H_strings_splitSeq : HTran := inl 3 ir_strings_splitSeq.code ir_strings_splitSeq.res
/-- strings.SplitSeq -/
def ir_strings_SplitSeq : IF := ⟨(.seq (.ops [⟨some 4,none,.mov (.const .nilFunc)⟩])
 (.seq (.sops [.op ⟨some 5,none,.mov (t 0)⟩,
  .op ⟨some 6,none,.mov (t 1)⟩,
  .call none (some 7) H_strings_splitSeq [(t 5),(t 6),(ci 0)],
  .op ⟨some 4,none,.mov (t 7)⟩])
 .ret)),[.tmp 4]⟩
def H_strings_SplitSeq : HTran := inl 2 ir_strings_SplitSeq.code ir_strings_SplitSeq.res
def V_strings_splitSeq_1 : Nat → Option PC := look []
def HV_strings_splitSeq_1 : Nat → Option HTran := look []
/-- strings.splitSeq$1 -/
def ir_strings_splitSeq_1 : IF := ⟨(.seq (.seq (.ops [⟨some 9,none,.load1 (t 1)⟩,⟨some 10,none,.lenS (t 9)⟩,⟨some 11,none,.bin .eql (t 10) (ci 0)⟩])
 (.cond (t 11) (.seq (.block 0 (.loop (.seq (.seq (.ops [⟨some 12,none,.load1 (t 2)⟩,⟨some 13,none,.lenS (t 12)⟩,⟨some 14,none,.bin .gtr (t 13) (ci 0)⟩])
 (.cond (t 14) .skip
 (.exit 0)))
 (.block 1 (.seq (.ops [⟨some 16,none,.load1 (t 2)⟩,⟨some 17,none,.pcall C_unicode_utf8_DecodeRuneInString [(t 16)]⟩,
  ⟨some 15,none,.mov (t 17)⟩,⟨some 18,none,.extr (t 15) 0⟩,⟨some 19,none,.extr (t 15) 1⟩,⟨some 5,none,.mov (t 18)⟩,⟨some 6,none,.mov (t 19)⟩])
 (.seq (.seq (.sops [.op ⟨some 20,none,.mov (t 0)⟩,
  .op ⟨some 21,none,.load1 (t 2)⟩,
  .op ⟨some 22,none,.mov (t 6)⟩,
  .op ⟨some 23,none,.slS (t 21) none (some (t 22))⟩,
  .dyn ⟨some 24,none,.vcall V_strings_splitSeq_1 (t 20) [(t 23)]⟩ HV_strings_splitSeq_1 (t 20) [(t 23)],
  .op ⟨some 25,none,.not (t 24)⟩])
 (.cond (t 25) .ret
 .skip))
 (.ops [⟨some 26,none,.load1 (t 2)⟩,⟨some 27,none,.mov (t 6)⟩,
  ⟨some 28,none,.slS (t 26) (some (t 27)) none⟩,⟨none,none,.stor1 (t 2) (t 28)⟩])))))))
 .ret)
 .skip))
 (.seq (.block 2 (.loop (.block 3 (.seq (.ops [⟨some 29,none,.load1 (t 2)⟩,⟨some 30,none,.load1 (t 1)⟩,⟨some 31,none,.pcall C_strings_Index [(t 29),(t 30)]⟩,⟨some 7,none,.mov (t 31)⟩])
 (.seq (.seq (.ops [⟨some 32,none,.mov (t 7)⟩,⟨some 33,none,.bin .lss (t 32) (ci 0)⟩])
 (.cond (t 33) (.exit 2)
 .skip))
 (.seq (.ops [⟨some 34,none,.load1 (t 2)⟩,
  ⟨some 35,none,.mov (t 7)⟩,⟨some 36,none,.load1 (t 3)⟩,⟨some 37,none,.bin .add (t 35) (t 36)⟩,⟨some 38,none,.slS (t 34) none (some (t 37))⟩,⟨some 8,none,.mov (t 38)⟩])
 (.seq (.jn (.seq (.sops [.op ⟨some 39,none,.mov (t 0)⟩,
  .op ⟨some 40,none,.mov (t 8)⟩,
  .dyn ⟨some 41,none,.vcall V_strings_splitSeq_1 (t 39) [(t 40)]⟩ HV_strings_splitSeq_1 (t 39) [(t 40)],
  .op ⟨some 42,none,.not (t 41)⟩])
 (.cond (t 42) .ret
 .skip)))
 (.ops [⟨some 43,none,.load1 (t 2)⟩,⟨some 44,none,.mov (t 7)⟩,
  ⟨some 45,none,.load1 (t 1)⟩,⟨some 46,none,.lenS (t 45)⟩,⟨some 47,none,.bin .add (t 44) (t 46)⟩,⟨some 48,none,.slS (t 43) (some (t 47)) none⟩,⟨none,none,.stor1 (t 2) (t 48)⟩]))))))))
 (.sops [.op ⟨some 49,none,.mov (t 0)⟩,
  .op ⟨some 50,none,.load1 (t 2)⟩,
  .dyn ⟨some 51,none,.vcall V_strings_splitSeq_1 (t 49) [(t 50)]⟩ HV_strings_splitSeq_1 (t 49) [(t 50)]]))),[]⟩
def T_strings_splitSeq_1 : ITran := itr 4 ir_strings_splitSeq_1.code ir_strings_splitSeq_1.res
/-- quilt/charset.attribute -/
def ir_charset_attribute : IF := ⟨(.seq (.ops [⟨some 2,none,.alloc [.str [],.int .i64 0,.int .i64 0]⟩,⟨some 3,none,.mov (.const (.bool false))⟩])
 (.seq (.ops [⟨some 9,none,.mov (t 0)⟩,⟨some 10,none,.pcallF F_strings_Split32 [(t 9),(.const (.string ⟨#[32]⟩))]⟩,⟨some 4,none,.mov (t 10)⟩])
 (.seq (.seq (.ops [⟨some 11,none,.mov (t 4)⟩,⟨some 12,none,.lenL (t 11)⟩,⟨some 13,none,.bin .neq (t 12) (ci 3)⟩,
  ⟨some 14,none,.mov (t 13)⟩,⟨some 15,some (14,false),.mov (t 4)⟩,⟨some 16,some (14,false),.idxL 1 (t 15) (ci 0)⟩,⟨some 17,some (14,false),.load1 (t 16)⟩,⟨some 18,some (14,false),.pcall C_glob_Check [(t 17)]⟩,⟨some 19,some (14,false),.bin .neq (t 18) (ci 0)⟩,
  ⟨some 20,none,.pick (t 14) (.const (.bool true)) (t 19)⟩])
 (.cond (t 20) (.seq (.ops [⟨some 21,none,.build 3 [.str [],.int .i64 0,.int .i64 0] []⟩,⟨none,none,.storN 3 (t 2) (t 21)⟩,⟨some 3,none,.mov (.const (.bool false))⟩])
 .ret)
 .skip))
 (.seq (.ops [⟨some 23,none,.pcall C_charset_charsets []⟩,⟨some 24,none,.mov (t 4)⟩,⟨some 25,none,.idxL 1 (t 24) (ci 1)⟩,⟨some 26,none,.load1 (t 25)⟩,
  ⟨some 27,none,.mlook true [some none] (.int .i64 0) true (t 23) (t 26)⟩,⟨some 22,none,.mov (t 27)⟩,⟨some 28,none,.extr (t 22) 0⟩,⟨some 29,none,.extr (t 22) 1⟩,⟨some 5,none,.mov (t 28)⟩,⟨some 6,none,.mov (t 29)⟩])
 (.seq (.ops [⟨some 31,none,.pcall C_charset_endings []⟩,
  ⟨some 32,none,.mov (t 4)⟩,⟨some 33,none,.idxL 1 (t 32) (ci 2)⟩,⟨some 34,none,.load1 (t 33)⟩,⟨some 35,none,.mlook true [some none] (.int .i64 0) true (t 31) (t 34)⟩,⟨some 30,none,.mov (t 35)⟩,⟨some 36,none,.extr (t 30) 0⟩,
  ⟨some 37,none,.extr (t 30) 1⟩,⟨some 7,none,.mov (t 36)⟩,⟨some 8,none,.mov (t 37)⟩])
 (.seq (.ops [⟨some 38,none,.mov (t 4)⟩,⟨some 39,none,.idxL 1 (t 38) (ci 0)⟩,⟨some 40,none,.load1 (t 39)⟩,⟨some 41,none,.mov (t 5)⟩,
  ⟨some 42,none,.mov (t 7)⟩,⟨some 43,none,.build 3 [.str [],.int .i64 0,.int .i64 0] [(0,1,(t 40)),(1,1,(t 41)),(2,1,(t 42))]⟩,⟨some 44,none,.mov (t 6)⟩,⟨some 45,none,.mov (t 44)⟩,⟨some 46,some (45,true),.mov (t 8)⟩,⟨some 47,none,.pick (t 45) (t 46) (.const (.bool false))⟩,
  ⟨none,none,.storN 3 (t 2) (t 43)⟩,⟨some 3,none,.mov (t 47)⟩])
 .ret)))))),[.cell 2 true 3,.tmp 3]⟩
def IT_charset_Attributes : Nat → Option ITran := look [(5,T_strings_splitSeq_1)]
/-- quilt/charset.Attributes -/
def ir_charset_Attributes : IF := ⟨(.seq (.ops [⟨some 2,none,.alloc [.raw (.slice none 0 0)]⟩,⟨some 3,none,.alloc [.int .i64 0]⟩,⟨some 4,none,.alloc [.int .i64 0]⟩])
 (.seq (.seq (.ops [⟨some 10,none,.mov (t 0)⟩,⟨some 11,none,.lenS (t 10)⟩,⟨some 12,none,.bin .gtr (t 11) (ci 65536)⟩])
 (.cond (t 12) (.seq (.ops [⟨none,none,.stor1 (t 2) (.const (.slice none 0 0))⟩,⟨none,none,.stor1 (t 3) (ci 0)⟩,
  ⟨none,none,.stor1 (t 4) (ci 4)⟩])
 .ret)
 .skip))
 (.seq (.jn (.ops [⟨some 5,none,.alloc [.raw (.slice none 0 0)]⟩]))
 (.seq (.ops [⟨some 6,none,.alloc [.int .i64 0]⟩,⟨none,none,.stor1 (t 6) (ci 0)⟩])
 (.seq (.seq (.jn (.sops [.op ⟨some 13,none,.mov (t 0)⟩,
  .op ⟨some 14,none,.pcall C_strings_TrimSuffix [(t 13),(.const (.string ⟨#[10]⟩))]⟩,
  .call none (some 15) H_strings_SplitSeq [(t 14),(.const (.string ⟨#[10]⟩))]]))
 (.block 0 (.rfuncX IT_charset_Attributes (t 15) [16] (.ops [⟨some 7,none,.mov (t 16)⟩])
 (.jn (.block 1 (.seq (.ops [⟨some 17,none,.load1 (t 6)⟩,⟨some 18,none,.bin .add (t 17) (ci 1)⟩,⟨none,none,.stor1 (t 6) (t 18)⟩])
 (.seq (.seq (.ops [⟨some 19,none,.mov (t 7)⟩,⟨some 20,none,.bin .eql (t 19) (.const (.string ⟨#[]⟩))⟩,⟨some 21,none,.mov (t 20)⟩,
  ⟨some 22,some (21,false),.mov (t 7)⟩,⟨some 23,some (21,false),.idxS (t 22) (ci 0)⟩,⟨some 24,some (21,false),.bin .eql (t 23) (.const (.int .u8 35))⟩,⟨some 25,none,.pick (t 21) (.const (.bool true)) (t 24)⟩])
 (.cond (t 25) (.exit 1)
 .skip))
 (.seq (.ops [⟨some 27,none,.mov (t 7)⟩,⟨some 28,none,.pcall C_charset_attribute [(t 27)]⟩,⟨some 26,none,.mov (t 28)⟩,
  ⟨some 29,none,.extr (t 26) 0⟩,⟨some 30,none,.extr (t 26) 1⟩,⟨some 8,none,.alloc [.str [],.int .i64 0,.int .i64 0]⟩,⟨none,none,.storN 3 (t 8) (t 29)⟩,⟨some 9,none,.mov (t 30)⟩])
 (.seq (.seq (.ops [⟨some 31,none,.mov (t 9)⟩,⟨some 32,none,.not (t 31)⟩])
 (.cond (t 32) (.seq (.rops [(0,1)] [⟨some 33,none,.load1 (t 6)⟩,
  ⟨none,none,.stor1 (t 2) (.const (.slice none 0 0))⟩,⟨none,none,.stor1 (t 3) (t 33)⟩,⟨none,none,.stor1 (t 4) (ci 3)⟩])
 .ret)
 .skip))
 (.seq (.seq (.ops [⟨some 34,none,.load1 (t 5)⟩,⟨some 35,none,.lenL (t 34)⟩,⟨some 36,none,.bin .eql (t 35) (ci 100)⟩])
 (.cond (t 36) (.seq (.rops [(0,1)] [⟨some 37,none,.load1 (t 6)⟩,⟨none,none,.stor1 (t 2) (.const (.slice none 0 0))⟩,
  ⟨none,none,.stor1 (t 3) (t 37)⟩,⟨none,none,.stor1 (t 4) (ci 4)⟩])
 .ret)
 .skip))
 (.ops [⟨some 38,none,.load1 (t 5)⟩,⟨some 39,none,.loadN 3 (t 8)⟩,⟨some 40,none,.bslice 3 [.str [],.int .i64 0,.int .i64 0] 1 [(0,3,(t 39))]⟩,⟨some 41,none,.app 3 32 (t 38) (t 40)⟩,⟨none,none,.stor1 (t 5) (t 41)⟩])))))))))))
 (.seq (.ops [⟨some 42,none,.load1 (t 5)⟩,
  ⟨none,none,.stor1 (t 2) (t 42)⟩,⟨none,none,.stor1 (t 3) (ci 0)⟩,⟨none,none,.stor1 (t 4) (ci 0)⟩])
 .ret)))))),[.cell 2 false 1,.cell 3 false 1,.cell 4 false 1]⟩
/-- quilt/quiltlaw57.awake -/
def ir_quiltlaw57_awake : IF := ⟨(.seq (.ops [⟨some 0,none,.mov (.const (.bool false))⟩])
 (.seq (.ops [⟨some 9,none,.pcall C_charset_Attributes [(.const (.string ⟨#[42,46,116,120,116,32,117,116,102,49,54,32,99,114,108,102,10,97,46,116,120,116,32,108,97,116,105,110,49,32,114,97,119,10]⟩))]⟩,⟨some 8,none,.mov (t 9)⟩,⟨some 10,none,.extr (t 8) 0⟩,⟨some 11,none,.extr (t 8) 1⟩,⟨some 12,none,.extr (t 8) 2⟩,⟨some 1,none,.mov (t 10)⟩,
  ⟨some 2,none,.mov (t 11)⟩,⟨some 3,none,.mov (t 12)⟩])
 (.seq (.ops [⟨some 14,none,.mov (t 1)⟩,⟨some 15,none,.pcall C_charset_FromRepo [(t 14),(.const (.string ⟨#[98,46,116,120,116]⟩)),(.const (.string ⟨#[97,10]⟩))]⟩,⟨some 13,none,.mov (t 15)⟩,⟨some 16,none,.extr (t 13) 0⟩,⟨some 17,none,.extr (t 13) 1⟩,
  ⟨some 4,none,.mov (t 16)⟩,⟨some 5,none,.mov (t 17)⟩])
 (.seq (.ops [⟨some 19,none,.mov (t 1)⟩,⟨some 20,none,.pcall C_charset_ToRepo [(t 19),(.const (.string ⟨#[97,46,116,120,116]⟩)),(.const (.string ⟨#[228]⟩))]⟩,⟨some 18,none,.mov (t 20)⟩,⟨some 21,none,.extr (t 18) 0⟩,⟨some 22,none,.extr (t 18) 1⟩,
  ⟨some 6,none,.mov (t 21)⟩,⟨some 7,none,.mov (t 22)⟩])
 (.seq (.ops [⟨some 23,none,.mov (t 3)⟩,⟨some 24,none,.bin .eql (t 23) (ci 0)⟩,⟨some 25,none,.mov (t 24)⟩,⟨some 26,some (25,true),.mov (t 5)⟩,⟨some 27,some (25,true),.bin .eql (t 26) (ci 0)⟩,
  ⟨some 28,none,.pick (t 25) (t 27) (.const (.bool false))⟩,⟨some 29,none,.mov (t 28)⟩,⟨some 30,some (29,true),.mov (t 7)⟩,⟨some 31,some (29,true),.bin .eql (t 30) (ci 0)⟩,⟨some 32,none,.pick (t 29) (t 31) (.const (.bool false))⟩,⟨some 33,none,.mov (t 32)⟩,
  ⟨some 34,some (33,true),.mov (t 1)⟩,⟨some 35,some (33,true),.lenL (t 34)⟩,⟨some 36,some (33,true),.bin .eql (t 35) (ci 2)⟩,⟨some 37,none,.pick (t 33) (t 36) (.const (.bool false))⟩,⟨some 38,none,.mov (t 37)⟩,⟨some 39,some (38,true),.mov (t 4)⟩,
  ⟨some 40,some (38,true),.bin .eql (t 39) (.const (.string ⟨#[255,254,97,0,13,0,10,0]⟩))⟩,⟨some 41,none,.pick (t 38) (t 40) (.const (.bool false))⟩,⟨some 42,none,.mov (t 41)⟩,⟨some 43,some (42,true),.mov (t 6)⟩,⟨some 44,some (42,true),.bin .eql (t 43) (.const (.string ⟨#[195,164]⟩))⟩,⟨some 45,none,.pick (t 42) (t 44) (.const (.bool false))⟩,
  ⟨some 0,none,.mov (t 45)⟩])
 .ret))))),[.tmp 0]⟩

end Qk

/-
  Chapter 57: ISO 8859-1.
-/
namespace Qk
open Go Go.RowKit

/-- The builder's own pointer. -/
def pQ (p : Bool) : AV := bif p then .ref 0 0 else .raw (.pointer none)
theorem pQ_or (p : Bool) : pQ p = .raw (.pointer none) ∨ pQ p = .ref 0 0 := by cases p; exact .inl rfl; exact .inr rfl
def FQ (out : List UInt8) (p : Bool) : List (Nat × AO) := [(0,.cl true [pQ p,.sl 1 0 out.length]),(1,.ls true 1 (bys out))]
/-- A builder, its bytes under another name. -/
theorem renQ {τ : List Nat} {p : Bool} {out out' : List UInt8} {m : Nat} (h0 : τ[0]? = some 0) (h1 : τ[1]? = some m) (h : out = out') : RenO τ (.cl true [pQ p,.sl 1 0 out'.length]) (.cl true [pQ p,.sl m 0 out.length]) := by
 subst h
 refine ⟨_,rfl,.inr ⟨_,_,rfl,?_,_,_,rfl,⟨m,h1,rfl⟩,rfl⟩⟩
 cases p
 ·exact rfl
 ·exact ⟨0,h0,rfl⟩

theorem d_same : Does ir_charset_same C_charset_same := by
 intro (s : List UInt8) hs
 refine ⟨s,rfl,hs,?_⟩
 refine ⟨_,(by first | exact SubSt.refl _ | exact SubTop.refl _),?_⟩
 rfl

theorem txt_app (a b : List Nat) : txt (a ++ b) = txt a ++ txt b := by unfold txt; rw [List.flatMap_append]
theorem txt_one (c : Nat) : txt [c] = enc c := by unfold txt; simp
theorem txt_len (cs : List Nat) : (txt cs).length ≤ 4 * cs.length := by
 induction cs with
 | nil => exact Nat.zero_le _
 | cons c cs ih =>
  show (enc c ++ txt cs).length ≤ _
  have := (enc_len c).2
  rw [List.length_append,List.length_cons]
  omega
theorem u8_at {s : List UInt8} {i : Nat} (h : i < s.length) : s.take (i + 1) = s.take i ++ [s[i]'h] := List.take_succ_eq_append_getElem h

set_option maxRecDepth 4000 in
theorem d_fromLatin : Does ir_charset_fromLatin C_charset_fromLatin := by
 intro (s : List UInt8) hs
 replace hs : s.length ≤ 1000000000 := hs
 show awp _ _ _ (entry [.str s])
 refine jn_to ?_
 refine ⟨_,sub_nil 0 1 true 1 rfl rfl,?_⟩
 refine ⟨Nat × Bool,fun x => x.1 ≤ s.length,fun x => mks [(0,.str s),(4,.ref 0 0),(7,.int .i64 s.length),(8,.int .i64 x.1)] (FQ (txt ((s.take x.1).map UInt8.toNat)) x.2) 2,fun x => s.length - x.1,(0,false),Nat.zero_le _,?_,?_⟩
 ·refine sub_ren [0,1] rfl (by decide) ⟨⟨_,rfl,rfl⟩,⟨_,rfl,⟨0,rfl,rfl⟩⟩,⟨_,rfl,rfl⟩,⟨_,rfl,rfl⟩,trivial⟩ ⟨⟨0,_,rfl,rfl,?_⟩,⟨1,_,rfl,rfl,?_⟩,trivial⟩
  ·exact renQ (p := false) (out := []) rfl rfl rfl
  ·exact ⟨_,rfl,eB rfl⟩
 ·rintro ⟨k,p⟩ hk
  replace hk : k ≤ s.length := hk
  have hlen := txt_len ((s.take k).map UInt8.toNat)
  rw [List.length_map,List.length_take] at hlen
  show awp _ _ _ (mks [(0,.str s),(4,.ref 0 0),(7,.int .i64 s.length),(8,.int .i64 k)] (FQ (txt ((s.take k).map UInt8.toNat)) p) 2)
  obtain ⟨out,ho⟩ : ∃ out,out = txt ((s.take k).map UInt8.toNat) := ⟨_,rfl⟩
  rw [← ho] at hlen ⊢
  refine cond_split (fun h => ?_) (fun h => ?_)
  ·have hT : (k : Int) < s.length := of_decide_eq_true h
   have hlt : k < s.length := by omega
   have e0 : (k : Int).toNat = k := by omega
   have hb := (s.getD k 0).toNat_lt
   refine And.intro ⟨by omega,by omega⟩ ?_
   rw [e0]
   refine And.intro ⟨by omega,by omega⟩ ?_
   refine ⟨0,1,out,(s.getD k 0).toNat,rfl,.inl (by omega),⟨by decide,_,rfl,rfl,pQ_or p⟩,(show 0 < 2 by decide),(show 1 < 2 by decide),by omega,?_⟩
   refine And.intro (by omega) ?_
   have e1 : out ++ enc (s.getD k 0).toNat = txt ((s.take (k + 1)).map UInt8.toNat) := by
    rw [u8_at hlt,List.map_append,txt_app,← ho,List.map_cons,List.map_nil,txt_one]
    simp [List.getD,hlt]
   refine ⟨(k + 1,true),(show k + 1 ≤ s.length by omega),(show s.length - (k + 1) < s.length - k by omega),?_⟩
   refine sub_ren [0,3] rfl (by decide) ⟨⟨_,rfl,rfl⟩,⟨_,rfl,⟨0,rfl,rfl⟩⟩,⟨_,rfl,rfl⟩,⟨_,rfl,eI (by omega)⟩,trivial⟩ ⟨⟨0,_,rfl,rfl,?_⟩,⟨3,_,rfl,rfl,?_⟩,trivial⟩
   ·exact renQ (p := true) rfl rfl e1
   ·exact ⟨_,rfl,eB (congrArg bys e1)⟩
  ·have hF : ¬ (k : Int) < s.length := of_decide_eq_false h
   have he : k = s.length := by omega
   refine ⟨0,1,_,out,rfl,by decide,rfl,rfl,by omega,?_⟩
   refine ⟨_,(by first | exact SubSt.refl _ | exact SubTop.refl _),?_⟩
   show AV.tup [.str out,.bool true] = tupB (fromLatinS s,true)
   rw [ho,he,List.take_length]; rfl

theorem txt_take {cs : List Nat} {k : Nat} (h : k < cs.length) : txt (cs.take (k + 1)) = txt (cs.take k) ++ enc (cs.getD k 0) := by
 rw [List.take_succ_eq_append_getElem h,txt_app,txt_one]
 simp [List.getD,h]
theorem txt_split (cs : List Nat) (k : Nat) : txt cs = txt (cs.take k) ++ txt (cs.drop k) := by rw [← txt_app,List.take_append_drop]
theorem txt_lt {cs : List Nat} {k : Nat} (h : k < cs.length) : (txt (cs.take k)).length < (txt cs).length := by
 have h1 := txt_split cs (k + 1)
 have h2 := txt_take h
 have h3 := (enc_len (cs.getD k 0)).1
 rw [h1,h2,List.length_append,List.length_append]
 omega
/-- What an iterator reads of a valid string. -/
theorem dec_at {cs : List Nat} (hs : ∀ c ∈ cs,Sc c) {k : Nat} (h : k < cs.length) : decU (txt cs) (txt (cs.take k)).length = (cs.getD k 0,(enc (cs.getD k 0)).length) := by
 have e := Lib.decodeL_drop ⟨(txt cs).toArray⟩ (txt (cs.take k)).length
 unfold decU
 rw [← e]
 show Lib.decodeL ((txt cs).drop _) = _
 conv => lhs; rw [txt_split cs k,List.drop_left' rfl,List.drop_eq_getElem_cons h]
 have e2 : cs[k]'h = cs.getD k 0 := by simp [List.getD,h]
 show Lib.decodeL (enc (cs[k]'h) ++ txt (cs.drop (k + 1))) = _
 rw [e2]
 exact dec_enc (by rw [← e2]; exact hs _ (List.getElem_mem h)) _
theorem getD_sc {cs : List Nat} (hs : ∀ c ∈ cs,Sc c) {k : Nat} (h : k < cs.length) : Sc (cs.getD k 0) := by
 have e2 : cs[k]'h = cs.getD k 0 := by simp [List.getD,h]
 rw [← e2]; exact hs _ (List.getElem_mem h)
theorem cs_le (cs : List Nat) : cs.length ≤ (txt cs).length := by
 induction cs with
 | nil => exact Nat.zero_le _
 | cons c cs ih =>
  show _ ≤ (enc c ++ txt cs).length
  have := (enc_len c).1
  rw [List.length_append,List.length_cons]
  omega
theorem renI {τ : List Nat} {s : List UInt8} {p p' : Nat} (h : p' = p) : RenO τ (.opq (strItR s p)) (.opq (strItR s p')) := by
 subst h; exact .inr (.inr ⟨rfl,_,rfl⟩)

set_option maxRecDepth 4000 in
theorem d_toLatin : Does ir_charset_toLatin C_charset_toLatin := by
 intro (s : List UInt8) hs
 replace hs : s.length ≤ 1000000000 := hs
 show awp _ _ _ (entry [.str s])
 refine ⟨s,rfl,hs,?_⟩
 have hv := pts_valid s
 show cond (!Lib.validD s) _ _
 cases hp : pts s with
 | none =>
  rw [hp] at hv
  rw [← hv]
  refine ⟨_,(by first | exact SubSt.refl _ | exact SubTop.refl _),?_⟩
  show tupB ([],false) = tupB (toLatinS s)
  unfold toLatinS; rw [hp]
 | some cs =>
  rw [hp] at hv
  rw [← hv]
  obtain ⟨hsc,rfl⟩ := pts_some.1 hp
  have hcs := cs_le cs
  refine jn_to ?_
  refine ⟨_,sub_nil 0 1 true 1 rfl rfl,?_⟩
  refine ⟨Nat × Bool,fun x => x.1 ≤ cs.length ∧ (cs.take x.1).all (fun c => Nat.ble c 255) = true,fun x => mks [(4,.ref 0 0),(11,.ref 2 0)] ([(0,.cl true [pQ x.2,.sl 1 0 ((cs.take x.1).map Nat.toUInt8).length]),(1,.ls true 1 (bys ((cs.take x.1).map Nat.toUInt8))),(2,.opq (strItR (txt cs) (txt (cs.take x.1)).length))]) 3,fun x => cs.length - x.1,(0,false),⟨Nat.zero_le _,rfl⟩,?_,?_⟩
  ·refine sub_ren [0,1,2] rfl (by decide) ⟨⟨_,rfl,⟨0,rfl,rfl⟩⟩,⟨_,rfl,⟨2,rfl,rfl⟩⟩,trivial⟩ ⟨⟨0,_,rfl,rfl,?_⟩,⟨1,_,rfl,rfl,?_⟩,⟨2,_,rfl,rfl,?_⟩,trivial⟩
   ·exact renQ (p := false) (out := []) rfl rfl rfl
   ·exact ⟨_,rfl,eB rfl⟩
   ·exact renI rfl
  ·rintro ⟨k,p⟩ ⟨hk,hall⟩
   dsimp only at hk hall
   obtain ⟨out,ho⟩ : ∃ out,out = (cs.take k).map Nat.toUInt8 := ⟨_,rfl⟩
   have hlen : out.length = k := by rw [ho,List.length_map,List.length_take]; omega
   show awp _ _ _ (mks [(4,.ref 0 0),(11,.ref 2 0)] ([(0,.cl true [pQ p,.sl 1 0 ((cs.take k).map Nat.toUInt8).length]),(1,.ls true 1 (bys ((cs.take k).map Nat.toUInt8))),(2,.opq (strItR (txt cs) (txt (cs.take k)).length))]) 3)
   rw [← ho]
   refine ⟨_,_,rfl,fun hlt => ?_,fun hge => ?_⟩
   ·have hkl : k < cs.length := by
     rcases Nat.lt_or_ge k cs.length with h | h
     ·exact h
     ·rw [List.take_of_length_le h] at hlt; omega
    rw [dec_at hsc hkl]
    obtain ⟨c,hc⟩ : ∃ c,c = cs.getD k 0 := ⟨_,rfl⟩
    have hcc := getD_sc hsc hkl
    rw [← hc] at hcc ⊢
    have htk := txt_take hkl
    rw [← hc] at htk
    refine ⟨_,rfl,?_⟩
    refine ⟨_,rfl,?_⟩
    have hS : toLatinS (txt cs) = if cs.all (fun c => Nat.ble c 255) then (cs.map Nat.toUInt8,true) else ([],false) := by
     unfold toLatinS; rw [hp]
    by_cases h255 : c ≤ 255
    ·refine cond_f (decide_eq_false (show ¬ (255 : Int) < c by omega)) ?_
     refine ⟨0,1,out,c.toUInt8,(by show [AV.ref 0 0,AV.int .u8 ((c : Int) % 256)] = [AV.ref 0 0,AV.int .u8 (c.toUInt8.toNat : Int)]; rw [toNat_u8 (by omega),mod_small (by omega)]),⟨by decide,_,rfl,rfl,pQ_or p⟩,(show 0 < 3 by decide),(show 1 < 3 by decide),by omega,?_⟩
     have e1 : out ++ [c.toUInt8] = (cs.take (k + 1)).map Nat.toUInt8 := by
      rw [List.take_succ_eq_append_getElem hkl,List.map_append,← ho]
      simp [hc,List.getD,hkl]
     have e2 : (txt (cs.take k)).length + (enc c).length = (txt (cs.take (k + 1))).length := by rw [htk,List.length_append]
     refine ⟨(k + 1,true),⟨(show k + 1 ≤ cs.length by omega),?_⟩,(show cs.length - (k + 1) < cs.length - k by omega),?_⟩
     ·rw [List.take_succ_eq_append_getElem hkl,List.all_append,hall]
      have : cs[k]'hkl = c := by rw [hc]; simp [List.getD,hkl]
      simp [this,h255]
     ·refine sub_ren [0,4,2] rfl (by decide) ⟨⟨_,rfl,⟨0,rfl,rfl⟩⟩,⟨_,rfl,⟨2,rfl,rfl⟩⟩,trivial⟩ ⟨⟨0,_,rfl,rfl,?_⟩,⟨4,_,rfl,rfl,?_⟩,⟨2,_,rfl,rfl,?_⟩,trivial⟩
      ·exact renQ (p := true) rfl rfl e1
      ·exact ⟨_,rfl,eB (congrArg bys e1)⟩
      ·exact renI e2
    ·refine cond_t (decide_eq_true (show (255 : Int) < c by omega)) ?_
     refine ⟨_,(by first | exact SubSt.refl _ | exact SubTop.refl _),?_⟩
     show tupB ([],false) = tupB (toLatinS (txt cs))
     rw [hS,if_neg]
     intro h
     have h2 := List.all_eq_true.1 h c (by rw [hc]; simp [List.getD,hkl])
     have := Nat.le_of_ble_eq_true h2
     omega
   ·have hke : k = cs.length := by
     rcases Nat.lt_or_ge k cs.length with h | h
     ·have := txt_lt h; omega
     ·omega
    refine ⟨_,rfl,?_⟩
    refine ⟨0,1,_,out,rfl,by decide,rfl,rfl,by omega,?_⟩
    refine ⟨_,(by first | exact SubSt.refl _ | exact SubTop.refl _),?_⟩
    show AV.tup [.str out,.bool true] = tupB (toLatinS (txt cs))
    rw [hke,List.take_length] at hall
    unfold toLatinS
    rw [hp]
    show _ = tupB (if cs.all (fun c => Nat.ble c 255) then (cs.map Nat.toUInt8,true) else ([],false))
    rw [if_pos hall,ho,hke,List.take_length]; rfl

end Qk

/-
  Chapter 57: UTF-16, its words.
-/
namespace Qk
open Go Go.RowKit

theorem runA_len (ws : List Nat) : (runA ws).length = ws.length := List.length_map _
theorem plain_runA (ws : List Nat) : ∀ c ∈ runA ws,PlainV c := by
 intro c hc
 obtain ⟨w,_,rfl⟩ := List.mem_map.1 hc
 exact plain_int _ _
theorem nnl_runA (ws : List Nat) : NNL (runA ws) := nnl_plain (plain_runA ws)
theorem runA_app (a b : List Nat) : runA (a ++ b) = runA a ++ runA b := List.map_append

set_option maxRecDepth 4000 in
theorem d_units : Does ir_charset_units C_charset_units := by
 intro (s : List UInt8) hs
 replace hs : s.length ≤ 1000000000 := hs
 show awp _ _ _ (entry [.str s])
 have e2 : ((s.length : Int).tmod 2) = ((s.length % 2 : Nat) : Int) := by rw [Int.tmod_eq_emod_of_nonneg (by omega)]; omega
 refine And.intro (by decide) ?_
 by_cases hodd : s.length % 2 = 1
 ·refine cond_t (by show (!decide ((s.length : Int).tmod 2 = 0)) = true; rw [e2,hodd]; rfl) ?_
  refine ⟨_,(by first | exact SubSt.refl _ | exact SubTop.refl _),?_⟩
  show AV.tup [.raw (.slice none 0 0),.bool false] = C_charset_units.res s
  show _ = (match wordsL s with | none => AV.tup [.raw (.slice none 0 0),.bool false] | some ws => .tup [.ilist 1 ws.length (runA ws),.bool true])
  rw [words_odd s hodd]
 ·have hev : s.length % 2 = 0 := by omega
  refine cond_f (by show (!decide ((s.length : Int).tmod 2 = 0)) = false; rw [e2,hev]; rfl) ?_
  have hres : C_charset_units.res s = .tup [.ilist 1 (wordsF s).length (runA (wordsF s)),.bool true] := by
   show (match wordsL s with | none => AV.tup [.raw (.slice none 0 0),.bool false] | some ws => .tup [.ilist 1 ws.length (runA ws),.bool true]) = _
   rw [words_even s hev]
  have hwl := wordsF_len s
  refine jn_to ?_
  refine ⟨_,sub_nilE 4 false 1 rfl,?_⟩
  refine ⟨Nat,fun k => k ≤ (wordsF s).length,fun k => mks [(0,.str s),(4,.sl 0 0 k),(5,.int .i64 ((2 * k : Nat) : Int))] [(0,.ls false 1 (runA ((wordsF s).take k)))] 1,fun k => (wordsF s).length - k,0,Nat.zero_le _,?_,?_⟩
  ·refine sub_ren [0] rfl (by decide) ⟨⟨_,rfl,rfl⟩,⟨_,rfl,⟨0,rfl,eSl ?_⟩⟩,⟨_,rfl,rfl⟩,trivial⟩ ⟨⟨0,_,rfl,rfl,?_⟩,trivial⟩
   ·rfl
   ·exact ⟨_,rfl,eN (nnl_runA _) rfl⟩
  ·intro k hk
   show awp _ _ _ (mks [(0,.str s),(4,.sl 0 0 k),(5,.int .i64 ((2 * k : Nat) : Int))] [(0,.ls false 1 (runA ((wordsF s).take k)))] 1)
   refine cond_split (fun h => ?_) (fun h => ?_)
   ·have hT : ((2 * k : Nat) : Int) < s.length := of_decide_eq_true h
    have hlt : k < (wordsF s).length := by omega
    have e0 : (((2 * k : Nat) : Int)).toNat = 2 * k := by omega
    have e1 : (((2 * k : Nat) : Int) + 1).toNat = 2 * k + 1 := by omega
    have hb := (s.getD (2 * k) 0).toNat_lt
    have hb1 := (s.getD (2 * k + 1) 0).toNat_lt
    refine And.intro ⟨by omega,by omega⟩ ?_
    rw [e0]
    refine And.intro ⟨by omega,by omega⟩ ?_
    refine And.intro (by omega) ?_
    refine And.intro ⟨by omega,by omega⟩ ?_
    rw [e1]
    refine And.intro ⟨by omega,by omega⟩ ?_
    refine And.intro (by decide) ?_
    have hw := or_word hb hb1
    have hg := wordsF_get (s := s) (k := k) (by omega)
    have ht : runA ((wordsF s).take k) ++ (([AV.int .i32 (orI .i32 ((s.getD (2 * k) 0).toNat : Int) (shlI .i32 ((s.getD (2 * k + 1) 0).toNat : Int) 8))].drop (0 * 1)).take (1 * 1)) = runA ((wordsF s).take (k + 1)) := by
     rw [hw,show (wordsF s).take (k + 1) = (wordsF s).take k ++ (wordsF s)[k]?.toList from List.take_add_one,hg,runA_app]; rfl
    have hl0 : (runA ((wordsF s).take k)).length = k := by rw [runA_len,List.length_take]; omega
    refine And.intro ⟨(show (0 : Nat) ≠ 1 by decide),rfl,rfl,rfl,by rw [hl0]; omega,(show (0 + 1) * 1 ≤ 1 by decide),(show AllOne [AV.int .i32 (orI .i32 ((s.getD (2 * k) 0).toNat : Int) (shlI .i32 ((s.getD (2 * k + 1) 0).toNat : Int) 8))] from by intro x hx; rcases List.mem_singleton.1 hx with rfl; rfl),by omega⟩ ⟨_,rfl,?_⟩
    refine And.intro (by omega) ?_
    refine ⟨k + 1,(show k + 1 ≤ (wordsF s).length by omega),(show (wordsF s).length - (k + 1) < (wordsF s).length - k by omega),?_⟩
    refine sub_ren [2] rfl (by decide) ⟨⟨_,rfl,rfl⟩,⟨_,rfl,⟨2,rfl,eSl ?_⟩⟩,⟨_,rfl,eI (by omega)⟩,trivial⟩ ⟨⟨2,_,rfl,rfl,?_⟩,trivial⟩
    ·rfl
    ·exact ⟨_,rfl,eN (nnl_runA _) ht⟩
   ·have hF : ¬ ((2 * k : Nat) : Int) < s.length := of_decide_eq_false h
    have he : k = (wordsF s).length := by omega
    refine ⟨_,sub_frz [0] (env := [(2,.ilist 1 (wordsF s).length (runA (wordsF s))),(3,.bool true)]) (heap := []) (nx := 1) ?_ trivial (Nat.le_refl 1),?_⟩
    ·exact ⟨⟨_,rfl,.inr (.inr ⟨0,0,false,runA (wordsF s),by rw [he],by decide,by rw [he,List.take_length]; rfl,by rw [runA_len]; omega,by rw [Nat.zero_mul,List.drop_zero,List.take_of_length_le (by rw [runA_len]; omega)],nnl_runA _⟩)⟩,⟨_,rfl,fzV_refl _ _ _⟩,trivial⟩
    ·show AV.tup [.ilist 1 (wordsF s).length (runA (wordsF s)),.bool true] = C_charset_units.res s
     rw [hres]

end Qk

/-
  Chapter 57: decoding UTF-16.
-/
namespace Qk
open Go Go.RowKit

theorem fu_pre (r : List UInt8) : fromUtf16S (255 :: 254 :: r) = match wordsL r with
  | none => ([],false)
  | some ws => if ws = [] then ([],false) else match surr ws with
   | none => ([],false)
   | some cs => (txt cs,true) := rfl
theorem fu_no {s : List UInt8} (h : s ≠ []) (h2 : Lib.hasPrefix s [255,254] = false) : fromUtf16S s = ([],false) := by
 unfold fromUtf16S
 split
 ·exact absurd rfl h
 ·exfalso; revert h2; simp [Lib.hasPrefix]
 ·rfl
theorem fu_yes {s : List UInt8} (h2 : Lib.hasPrefix s [255,254] = true) : s = 255 :: 254 :: Lib.trimPrefix s [255,254] := by
 unfold Lib.hasPrefix at h2
 obtain ⟨r,hr⟩ := List.isPrefixOf_iff_prefix.1 h2
 subst hr
 simp [Lib.trimPrefix,Lib.hasPrefix]
theorem surr_low {c : Nat} {r : List Nat} (h : 56320 ≤ c ∧ c < 57344) : surr (c :: r) = none := by
 cases r <;> (rw [surr]; exact if_pos h)
theorem surr_plain {c : Nat} {r : List Nat} (h : c < 55296 ∨ 57344 ≤ c) : surr (c :: r) = (surr r).map (c :: ·) := by
 have h1 : ¬ (56320 ≤ c ∧ c < 57344) := by omega
 have h2 : ¬ (55296 ≤ c ∧ c < 56320) := by omega
 cases r <;> simp only [surr,if_neg h1,if_neg h2]
theorem surr_end {c : Nat} (h : 55296 ≤ c ∧ c < 56320) : surr [c] = none := by
 rw [surr,if_neg (by omega),if_pos h]
theorem surr_bad {c d : Nat} {r : List Nat} (h : 55296 ≤ c ∧ c < 56320) (h2 : d < 56320 ∨ 57344 ≤ d) : surr (c :: d :: r) = none := by
 rw [surr,if_neg (by omega),if_pos h]
 exact if_pos h2
theorem surr_pair {c d : Nat} {r : List Nat} (h : 55296 ≤ c ∧ c < 56320) (h2 : 56320 ≤ d ∧ d < 57344) : surr (c :: d :: r) = (surr r).map ((65536 + (c - 55296) * 1024 + d - 56320) :: ·) := by
 rw [surr,if_neg (by omega),if_pos h]
 exact if_neg (by omega)
theorem run_get {ws : List Nat} {i : Nat} (h : i < ws.length) : (runA ws)[i]? = some (.int .i32 ((ws[i]'h : Nat) : Int)) := by
 simp [runA,h]
theorem shl10 {x : Int} (h : 0 ≤ x) (h1 : x < 1024) : shlI .i32 x 10 = x * 1024 := by
 obtain ⟨n,rfl⟩ := Int.eq_ofNat_of_zero_le h
 show IntKind.i32.wrap ((n : Int) * 1024) = _
 have : ((n : Int) * 1024) = ((n * 1024 : Nat) : Int) := by simp
 rw [this,wrap32 (by omega)]

set_option maxRecDepth 4000 in
set_option maxHeartbeats 1000000 in
theorem d_fromUtf16 : Does ir_charset_fromUtf16 C_charset_fromUtf16 := by
 intro (s : List UInt8) hs
 replace hs : s.length ≤ 1000000000 := hs
 show awp _ _ _ (entry [.str s])
 by_cases hs0 : s = []
 ·refine cond_t (decide_eq_true (show s = [] from hs0)) ?_
  refine ⟨_,(by first | exact SubSt.refl _ | exact SubTop.refl _),?_⟩
  show tupB ([],true) = tupB (fromUtf16S s)
  rw [hs0]; rfl
 refine cond_f (decide_eq_false (show ¬ s = [] from hs0)) ?_
 refine ⟨(s,[255,254]),rfl,hs,?_⟩
 refine ⟨_,rfl,?_⟩
 refine ⟨_,rfl,?_⟩
 obtain ⟨rest,hrest⟩ : ∃ rest,rest = Lib.trimPrefix s [255,254] := ⟨_,rfl⟩
 rw [← hrest]
 have hrl : rest.length ≤ s.length := by rw [hrest]; unfold Lib.trimPrefix; split <;> simp
 refine ⟨rest,rfl,by show rest.length ≤ _; omega,?_⟩
 cases hm : Lib.hasPrefix s [255,254] with
 | false =>
  have hno := fu_no hs0 hm
  cases hw : wordsL rest with
  | none =>
   have hres : C_charset_units.res rest = .tup [.raw (.slice none 0 0),.bool false] := by
    show (match wordsL rest with | none => AV.tup [.raw (.slice none 0 0),.bool false] | some ws => .tup [.ilist 1 ws.length (runA ws),.bool true]) = _
    rw [hw]
   rw [hres]
   refine ⟨_,rfl,?_⟩
   refine ⟨_,rfl,?_⟩
   refine ⟨_,(by first | exact SubSt.refl _ | exact SubTop.refl _),?_⟩
   show tupB ([],false) = tupB (fromUtf16S s)
   rw [hno]
  | some ws =>
   have hres : C_charset_units.res rest = .tup [.ilist 1 ws.length (runA ws),.bool true] := by
    show (match wordsL rest with | none => AV.tup [.raw (.slice none 0 0),.bool false] | some ws => .tup [.ilist 1 ws.length (runA ws),.bool true]) = _
    rw [hw]
   rw [hres]
   refine ⟨_,rfl,?_⟩
   refine ⟨_,rfl,?_⟩
   refine ⟨_,(by first | exact SubSt.refl _ | exact SubTop.refl _),?_⟩
   show tupB ([],false) = tupB (fromUtf16S s)
   rw [hno]
 | true =>
  have hyes := fu_yes hm
  rw [← hrest] at hyes
  have hfu : fromUtf16S s = match wordsL rest with
   | none => ([],false)
   | some ws => if ws = [] then ([],false) else match surr ws with
    | none => ([],false)
    | some cs => (txt cs,true) := by rw [hyes]; exact fu_pre rest
  cases hw : wordsL rest with
  | none =>
   have hres : C_charset_units.res rest = .tup [.raw (.slice none 0 0),.bool false] := by
    show (match wordsL rest with | none => AV.tup [.raw (.slice none 0 0),.bool false] | some ws => .tup [.ilist 1 ws.length (runA ws),.bool true]) = _
    rw [hw]
   rw [hres]
   refine ⟨_,rfl,?_⟩
   refine ⟨_,rfl,?_⟩
   refine ⟨_,(by first | exact SubSt.refl _ | exact SubTop.refl _),?_⟩
   show tupB ([],false) = tupB (fromUtf16S s)
   rw [hfu,hw]
  | some ws =>
   have hres : C_charset_units.res rest = .tup [.ilist 1 ws.length (runA ws),.bool true] := by
    show (match wordsL rest with | none => AV.tup [.raw (.slice none 0 0),.bool false] | some ws => .tup [.ilist 1 ws.length (runA ws),.bool true]) = _
    rw [hw]
   rw [hres]
   refine ⟨_,rfl,?_⟩
   refine ⟨_,rfl,?_⟩
   rw [hw] at hfu
   dsimp only at hfu
   have hev : rest.length % 2 = 0 := by
    rcases Nat.mod_two_eq_zero_or_one rest.length with h | h
    ·exact h
    ·rw [words_odd rest h] at hw; cases hw
   have hwf : ws = wordsF rest := by rw [words_even rest hev] at hw; exact (Option.some.inj hw).symm
   have hwlt : ∀ w ∈ ws,w < 65536 := by rw [hwf]; exact wordsF_lt
   have hwl : ws.length ≤ 1000000000 := by rw [hwf,wordsF_len]; omega
   clear hw hwf hres hev hyes hrest hm hrl hs
   by_cases hw0 : ws = []
   ·subst hw0
    refine ⟨_,(by first | exact SubSt.refl _ | exact SubTop.refl _),?_⟩
    show tupB ([],false) = tupB (fromUtf16S s)
    rw [hfu]; rfl
   ·have hpos : 0 < ws.length := List.length_pos_iff.2 hw0
    rw [if_neg hw0] at hfu
    refine cond_f (decide_eq_false (show ¬ (ws.length : Int) = 0 by omega)) ?_
    refine jn_to ?_
    refine ⟨_,sub_nil 0 1 true 1 rfl rfl,?_⟩
    refine ⟨Nat × List Nat × Bool,fun x => x.1 ≤ ws.length ∧ surr ws = (surr (ws.drop x.1)).map (x.2.1 ++ ·) ∧ x.2.1.length ≤ x.1,fun x => mks [(6,.ilist 1 ws.length (runA ws)),(8,.ref 0 0),(9,.int .i64 x.1)] (FQ (txt x.2.1) x.2.2) 2,fun x => ws.length - x.1,(0,[],false),⟨Nat.zero_le _,by simp,Nat.le_refl _⟩,?_,?_⟩
    ·refine sub_ren [0,1] rfl (by decide) ⟨⟨_,rfl,rfl⟩,⟨_,rfl,⟨0,rfl,rfl⟩⟩,⟨_,rfl,rfl⟩,trivial⟩ ⟨⟨0,_,rfl,rfl,?_⟩,⟨1,_,rfl,rfl,?_⟩,trivial⟩
     ·exact renQ (p := false) (out := []) rfl rfl rfl
     ·exact ⟨_,rfl,eB rfl⟩
    ·rintro ⟨i,done,p⟩ ⟨hi,hsu,hdl⟩
     dsimp only at hi hsu hdl
     have hlen := txt_len done
     show awp _ _ _ (mks [(6,.ilist 1 ws.length (runA ws)),(8,.ref 0 0),(9,.int .i64 i)] (FQ (txt done) p) 2)
     refine cond_split (fun h => ?_) (fun h => ?_)
     ·have hT : (i : Int) < ws.length := of_decide_eq_true h
      have hlt : i < ws.length := by omega
      have e0 : (i : Int).toNat * 1 = i := by omega
      have hdr : ws.drop i = ws[i]'hlt :: ws.drop (i + 1) := List.drop_eq_getElem_cons hlt
      obtain ⟨c,hc⟩ : ∃ c,c = ws[i]'hlt := ⟨_,rfl⟩
      have hcb : c < 65536 := by rw [hc]; exact hwlt _ (List.getElem_mem hlt)
      obtain ⟨z,hz⟩ : ∃ z : Int,z = c := ⟨_,rfl⟩
      have hg : (runA ws)[(i : Int).toNat * 1]? = some (.int .i32 z) := by rw [e0,run_get hlt,hz,hc]
      rw [← hc] at hdr
      by_cases hA : 56320 ≤ c ∧ c < 57344
      ·have A1 : decide ((56320 : Int) ≤ z) = true := decide_eq_true (by omega)
       have A2 : decide (z < 57344) = true := decide_eq_true (by omega)
       repeat ((conv => whnf); first | refine cond_t (by first | (simp only [A1, A2,cond_true,eq_self]; done) | fail) ?_ | refine cond_f (by first | (simp only [A1, A2,cond_true,cond_false,Bool.not_true,Bool.not_false,eq_self,decide_true,decide_false]; done) | fail) ?_ | refine And.intro (by omega) ?_ | refine And.intro ⟨rfl,by omega,by omega⟩ ?_ | refine And.intro ⟨rfl,by decide,by omega,by omega⟩ ?_ | refine ⟨_,hg,?_⟩)
       refine ⟨_,(by first | exact SubSt.refl _ | exact SubTop.refl _),?_⟩
       show tupB ([],false) = tupB (fromUtf16S s)
       rw [hfu,hsu,hdr,surr_low hA]; rfl
      ·by_cases hB : 55296 ≤ c ∧ c < 56320
       ·have A1 : decide ((56320 : Int) ≤ z) = false := decide_eq_false (by omega)
        have A3 : decide ((55296 : Int) ≤ z) = true := decide_eq_true (by omega)
        have A4 : decide (z < 56320) = true := decide_eq_true (by omega)
        by_cases hE : i + 1 = ws.length
        ·have A5 : decide ((i : Int) + 1 = ws.length) = true := decide_eq_true (by omega)
         have hnil : ws.drop (i + 1) = [] := List.drop_eq_nil_of_le (by omega)
         repeat ((conv => whnf); first | refine Exists.intro _ (And.intro (fun _ S' hk => Exists.intro S' (And.intro (SubSt.refl _) hk)) ?_) | refine cond_t (by first | (simp only [A1, A3, A4, A5,cond_true,eq_self]; done) | fail) ?_ | refine cond_f (by first | (simp only [A1, eq_self]; done) | fail) ?_ | refine And.intro (by omega) ?_ | refine And.intro ⟨rfl,by omega,by omega⟩ ?_ | refine And.intro ⟨rfl,by decide,by omega,by omega⟩ ?_ | refine ⟨_,hg,?_⟩)
         refine ⟨_,(by first | exact SubSt.refl _ | exact SubTop.refl _),?_⟩
         show tupB ([],false) = tupB (fromUtf16S s)
         rw [hfu,hsu,hdr,hnil,surr_end hB]; rfl
        ·have A5 : decide ((i : Int) + 1 = ws.length) = false := decide_eq_false (by omega)
         have hlt2 : i + 1 < ws.length := by omega
         have hdr2 : ws.drop (i + 1) = ws[i + 1]'hlt2 :: ws.drop (i + 1 + 1) := List.drop_eq_getElem_cons hlt2
         obtain ⟨d,hd⟩ : ∃ d,d = ws[i + 1]'hlt2 := ⟨_,rfl⟩
         have hdb : d < 65536 := by rw [hd]; exact hwlt _ (List.getElem_mem hlt2)
         obtain ⟨y,hy⟩ : ∃ y : Int,y = d := ⟨_,rfl⟩
         have e1 : ((i : Int) + 1).toNat * 1 = i + 1 := by omega
         have hg2 : (runA ws)[((i : Int) + 1).toNat * 1]? = some (.int .i32 y) := by rw [e1,run_get hlt2,hy,hd]
         rw [← hd] at hdr2
         by_cases hD : d < 56320 ∨ 57344 ≤ d
         ·rcases hD with hD1 | hD1
          ·have A6 : decide (y < 56320) = true := decide_eq_true (by omega)
           repeat ((conv => whnf); first | refine Exists.intro _ (And.intro (fun _ S' hk => Exists.intro S' (And.intro (SubSt.refl _) hk)) ?_) | refine cond_t (by first | (simp only [A1, A3, A4, A5, A6,cond_true,cond_false,eq_self]; done) | fail) ?_ | refine cond_f (by first | (simp only [A1, A5, eq_self]; done) | fail) ?_ | refine And.intro (by omega) ?_ | refine And.intro ⟨rfl,by omega,by omega⟩ ?_ | refine And.intro ⟨rfl,by decide,by omega,by omega⟩ ?_ | refine ⟨_,hg,?_⟩ | refine ⟨_,hg2,?_⟩)
           refine ⟨_,(by first | exact SubSt.refl _ | exact SubTop.refl _),?_⟩
           show tupB ([],false) = tupB (fromUtf16S s)
           rw [hfu,hsu,hdr,hdr2,surr_bad hB (.inl hD1)]; rfl
          ·have A6 : decide (y < 56320) = false := decide_eq_false (by omega)
           have A7 : decide ((57344 : Int) ≤ y) = true := decide_eq_true (by omega)
           repeat ((conv => whnf); first | refine Exists.intro _ (And.intro (fun _ S' hk => Exists.intro S' (And.intro (SubSt.refl _) hk)) ?_) | refine cond_t (by first | (simp only [A1, A3, A4, A5, A6, A7,cond_true,cond_false,eq_self]; done) | fail) ?_ | refine cond_f (by first | (simp only [A1, A5, A6, cond_false,eq_self]; done) | fail) ?_ | refine And.intro (by omega) ?_ | refine And.intro ⟨rfl,by omega,by omega⟩ ?_ | refine And.intro ⟨rfl,by decide,by omega,by omega⟩ ?_ | refine ⟨_,hg,?_⟩ | refine ⟨_,hg2,?_⟩)
           refine ⟨_,(by first | exact SubSt.refl _ | exact SubTop.refl _),?_⟩
           show tupB ([],false) = tupB (fromUtf16S s)
           rw [hfu,hsu,hdr,hdr2,surr_bad hB (.inr hD1)]; rfl
         ·have A6 : decide (y < 56320) = false := decide_eq_false (by omega)
          have A7 : decide ((57344 : Int) ≤ y) = false := decide_eq_false (by omega)
          have hsh := shl10 (x := z - 55296) (by omega) (by omega)
          repeat ((conv => whnf); first | refine Exists.intro _ (And.intro (fun _ S' hk => Exists.intro S' (And.intro (SubSt.refl _) hk)) ?_) | refine cond_t (by first | (simp only [A1, A3, A4, A5, A6, A7,cond_true,cond_false,eq_self]; done) | fail) ?_ | refine cond_f (by first | (simp only [A1, A5, A6, A7,cond_false,eq_self]; done) | fail) ?_ | refine And.intro (by omega) ?_ | refine And.intro ⟨rfl,by omega,by omega⟩ ?_ | refine And.intro ⟨rfl,by decide,by omega,by omega⟩ ?_ | refine ⟨_,hg,?_⟩ | refine ⟨_,hg2,?_⟩)
          have hcc : Sc (65536 + (c - 55296) * 1024 + d - 56320) := by unfold Sc; omega
          refine ⟨0,1,txt done,65536 + (c - 55296) * 1024 + d - 56320,(congrArg (fun v : Int => [AV.ref 0 0,AV.int .i32 v]) (by omega)),hcc,⟨by decide,_,rfl,rfl,pQ_or p⟩,(show 0 < 2 by decide),(show 1 < 2 by decide),by omega,?_⟩
          refine And.intro (by omega) ?_
          have e2 : txt done ++ enc (65536 + (c - 55296) * 1024 + d - 56320) = txt (done ++ [65536 + (c - 55296) * 1024 + d - 56320]) := by rw [txt_app,txt_one]
          refine ⟨(i + 1 + 1,done ++ [65536 + (c - 55296) * 1024 + d - 56320],true),⟨(show i + 1 + 1 ≤ ws.length by omega),?_,(by show (done ++ [_]).length ≤ i + 1 + 1; rw [List.length_append,List.length_singleton]; omega)⟩,(show ws.length - (i + 1 + 1) < ws.length - i by omega),?_⟩
          ·rw [hsu,hdr,hdr2,surr_pair hB (by omega)]
           show Option.map _ (Option.map _ (surr (ws.drop (i + 1 + 1)))) = _
           cases surr (ws.drop (i + 1 + 1)) with
           | none => rfl
           | some r => simp
          ·refine sub_ren [0,3] rfl (by decide) ⟨⟨_,rfl,rfl⟩,⟨_,rfl,⟨0,rfl,rfl⟩⟩,⟨_,rfl,eI (by omega)⟩,trivial⟩ ⟨⟨0,_,rfl,rfl,?_⟩,⟨3,_,rfl,rfl,?_⟩,trivial⟩
           ·exact renQ (p := true) rfl rfl e2
           ·exact ⟨_,rfl,eB (congrArg bys e2)⟩
       ·have hpl : c < 55296 ∨ 57344 ≤ c := by omega
        have hcc : Sc c := by unfold Sc; omega
        have e2 : txt done ++ enc c = txt (done ++ [c]) := by rw [txt_app,txt_one]
        have hsu2 : surr ws = (surr (ws.drop (i + 1))).map ((done ++ [c]) ++ ·) := by
         rw [hsu,hdr,surr_plain hpl]
         cases surr (ws.drop (i + 1)) with
         | none => rfl
         | some r => simp
        by_cases h1 : 56320 ≤ c
        ·have A1 : decide ((56320 : Int) ≤ z) = true := decide_eq_true (by omega)
         have A2 : decide (z < 57344) = false := decide_eq_false (by omega)
         have A3 : decide ((55296 : Int) ≤ z) = true := decide_eq_true (by omega)
         have A4 : decide (z < 56320) = false := decide_eq_false (by omega)
         repeat ((conv => whnf); first | refine Exists.intro _ (And.intro (fun _ S' hk => Exists.intro S' (And.intro (SubSt.refl _) hk)) ?_) | refine cond_t (by first | (simp only [A1, A2, A3, A4,cond_true,eq_self]; done) | fail) ?_ | refine cond_f (by first | (simp only [A1, A2, A3, A4,cond_true,eq_self]; done) | fail) ?_ | refine And.intro (by omega) ?_ | refine And.intro ⟨rfl,by omega,by omega⟩ ?_ | refine And.intro ⟨rfl,by decide,by omega,by omega⟩ ?_ | refine ⟨_,hg,?_⟩)
         refine ⟨0,1,txt done,c,(congrArg (fun v : Int => [AV.ref 0 0,AV.int .i32 v]) hz),hcc,⟨by decide,_,rfl,rfl,pQ_or p⟩,(show 0 < 2 by decide),(show 1 < 2 by decide),by omega,?_⟩
         refine And.intro (by omega) ?_
         refine ⟨(i + 1,done ++ [c],true),⟨(show i + 1 ≤ ws.length by omega),hsu2,(by show (done ++ [_]).length ≤ i + 1; rw [List.length_append,List.length_singleton]; omega)⟩,(show ws.length - (i + 1) < ws.length - i by omega),?_⟩
         refine sub_ren [0,3] rfl (by decide) ⟨⟨_,rfl,rfl⟩,⟨_,rfl,⟨0,rfl,rfl⟩⟩,⟨_,rfl,eI (by omega)⟩,trivial⟩ ⟨⟨0,_,rfl,rfl,?_⟩,⟨3,_,rfl,rfl,?_⟩,trivial⟩
         ·exact renQ (p := true) rfl rfl e2
         ·exact ⟨_,rfl,eB (congrArg bys e2)⟩
        ·have A1 : decide ((56320 : Int) ≤ z) = false := decide_eq_false (by omega)
         have A3 : decide ((55296 : Int) ≤ z) = false := decide_eq_false (by omega)
         repeat ((conv => whnf); first | refine Exists.intro _ (And.intro (fun _ S' hk => Exists.intro S' (And.intro (SubSt.refl _) hk)) ?_) | refine cond_t (by first | (simp only [A1, A3]; done) | fail) ?_ | refine cond_f (by first | (simp only [A1, A3,eq_self]; done) | fail) ?_ | refine And.intro (by omega) ?_ | refine And.intro ⟨rfl,by omega,by omega⟩ ?_ | refine And.intro ⟨rfl,by decide,by omega,by omega⟩ ?_ | refine ⟨_,hg,?_⟩)
         refine ⟨0,1,txt done,c,(congrArg (fun v : Int => [AV.ref 0 0,AV.int .i32 v]) hz),hcc,⟨by decide,_,rfl,rfl,pQ_or p⟩,(show 0 < 2 by decide),(show 1 < 2 by decide),by omega,?_⟩
         refine And.intro (by omega) ?_
         refine ⟨(i + 1,done ++ [c],true),⟨(show i + 1 ≤ ws.length by omega),hsu2,(by show (done ++ [_]).length ≤ i + 1; rw [List.length_append,List.length_singleton]; omega)⟩,(show ws.length - (i + 1) < ws.length - i by omega),?_⟩
         refine sub_ren [0,3] rfl (by decide) ⟨⟨_,rfl,rfl⟩,⟨_,rfl,⟨0,rfl,rfl⟩⟩,⟨_,rfl,eI (by omega)⟩,trivial⟩ ⟨⟨0,_,rfl,rfl,?_⟩,⟨3,_,rfl,rfl,?_⟩,trivial⟩
         ·exact renQ (p := true) rfl rfl e2
         ·exact ⟨_,rfl,eB (congrArg bys e2)⟩
     ·have hF : ¬ (i : Int) < ws.length := of_decide_eq_false h
      have he : i = ws.length := by omega
      refine ⟨0,1,_,txt done,rfl,by decide,rfl,rfl,by omega,?_⟩
      refine ⟨_,(by first | exact SubSt.refl _ | exact SubTop.refl _),?_⟩
      show AV.tup [.str (txt done),.bool true] = tupB (fromUtf16S s)
      rw [hfu,hsu,he,List.drop_eq_nil_of_le (Nat.le_refl _)]
      simp [surr,tupB]

end Qk

/-
  Chapter 57: encoding UTF-16.
-/
namespace Qk
open Go Go.RowKit

theorem shr8 {c : Nat} : shrI .i32 (c : Int) 8 = ((c / 256 : Nat) : Int) := by
 show (c : Int).fdiv 256 = _
 rw [Int.fdiv_eq_ediv_of_nonneg _ (by decide)]; rfl
theorem shr10 {c : Nat} : shrI .i32 (c : Int) 10 = ((c / 1024 : Nat) : Int) := by
 show (c : Int).fdiv 1024 = _
 rw [Int.fdiv_eq_ediv_of_nonneg _ (by decide)]; rfl
theorem and1023 {c : Nat} (h : c < 2147483648) : andI .i32 (c : Int) 1023 = ((c % 1024 : Nat) : Int) := by
 show IntKind.i32.wrap (((BitVec.ofInt 32 (c : Int) &&& BitVec.ofInt 32 ((1023 : Nat) : Int)).toNat : Nat) : Int) = _
 rw [BitVec.ofInt_natCast,BitVec.ofInt_natCast,BitVec.toNat_and,BitVec.toNat_ofNat,BitVec.toNat_ofNat,Nat.mod_eq_of_lt (by omega),Nat.mod_eq_of_lt (by decide)]
 have := Nat.and_two_pow_sub_one_eq_mod c 10
 rw [show (1023 : Nat) = 2 ^ 10 - 1 from rfl,this,wrap32 (by omega)]
theorem two_eq {c : Nat} (_h : c < 65536) : two c = [(c % 256).toUInt8,(c / 256).toUInt8] := by
 unfold two
 congr 1
 apply UInt8.toNat_inj.1
 rw [toNat_u8 (n := c % 256) (by omega)]
 show (UInt8.ofNat c).toNat = _
 simp

/-- What the writer of a unit does. -/
def unH (H : Heap) (n m nx : Nat) (l : List UInt8) : Heap := wrB (upd (upd (upd H nx none) (nx + 1) none) (nx + 2) none) n m (nx + 3) l
theorem w_unit {H : Heap} {nx n m : Nat} {l : List UInt8} {c : Nat} {z : Int} (hz : z = c) (hc : c < 65536) {K : AV → Heap → Nat → Prop} (hB : BL H n m l) (hn : n < nx) (hm : m < nx) (hl : l.length + 2 ≤ 140737488355328)
  (hK : K (.tup []) (unH H n m nx (l ++ two c)) (nx + 4)) : H_charset_toUtf16_1 [.int .i32 z,.ref n 0] H nx K := by
 refine And.intro rfl ?_
 have t2 := two_eq hc
 refine ⟨n,m,l,(c % 256).toUInt8,?_,hB,hn,hm,by omega,?_⟩
 ·show [AV.ref n 0,AV.int .u8 (z % 256)] = [AV.ref n 0,AV.int .u8 ((c % 256).toUInt8.toNat : Int)]
  rw [toNat_u8 (n := c % 256) (by omega),hz]
  rfl
 refine And.intro (by decide) ?_
 have hB2 : BL (wrB (upd H nx none) n m (nx + 1) (l ++ [(c % 256).toUInt8])) n (nx + 1) (l ++ [(c % 256).toUInt8]) := BL.wr (by omega)
 refine ⟨n,nx + 1,l ++ [(c % 256).toUInt8],(c / 256).toUInt8,?_,hB2,by show n < nx + 2; omega,by show nx + 1 < nx + 2; omega,by rw [List.length_append,List.length_singleton]; omega,?_⟩
 ·show [AV.ref n 0,AV.int .u8 (shrI .i32 z 8 % 256)] = [AV.ref n 0,AV.int .u8 ((c / 256).toUInt8.toNat : Int)]
  rw [toNat_u8 (n := c / 256) (by omega),hz,shr8,mod_small (by omega)]
 have ea : l ++ [(c % 256).toUInt8] ++ [(c / 256).toUInt8] = l ++ two c := by rw [t2]; simp
 rw [ea]
 refine ⟨⟨fun _ => none,unH H n m nx (l ++ two c),nx + 4⟩,sub_drop (fun k v e => by cases e) ?_ (Nat.le_refl _),hK⟩
 intro k o hk
 replace hk : unH H n m nx (l ++ two c) k = some o := hk
 show wrB (upd (wrB (upd H nx none) n m (nx + 1) (l ++ [(c % 256).toUInt8])) (nx + 2) none) n (nx + 1) (nx + 2 + 1) (l ++ two c) k = some o
 unfold unH wrB at hk
 unfold wrB
 by_cases q1 : k = n
 ·subst q1
  rw [upd_same] at hk ⊢
  exact hk
 ·rw [upd_ne _ _ q1] at hk ⊢
  by_cases q2 : k = nx + 3
  ·subst q2
   rw [upd_same] at hk ⊢
   exact hk
  ·rw [upd_ne _ _ q2] at hk ⊢
   by_cases q3 : k = m
   ·subst q3; rw [upd_same] at hk; cases hk
   ·rw [upd_ne _ _ q3] at hk
    by_cases q4 : k = nx + 2
    ·subst q4; rw [upd_same] at hk; cases hk
    ·rw [upd_ne _ _ q4] at hk
     by_cases q5 : k = nx + 1
     ·subst q5; rw [upd_same] at hk; cases hk
     ·rw [upd_ne _ _ q5] at hk
      by_cases q6 : k = nx
      ·subst q6; rw [upd_same] at hk; cases hk
      ·rw [upd_ne _ _ q6] at hk
       rw [upd_ne _ _ q5,upd_ne _ _ q4,upd_ne _ _ q1,upd_ne _ _ q5,upd_ne _ _ q3,upd_ne _ _ q6]
       exact hk

def oU (cs : List Nat) (k : Nat) : List UInt8 := 255 :: 254 :: (cs.take k).flatMap wide
theorem wide_len (c : Nat) : (wide c).length ≤ 4 := by unfold wide; split <;> simp [two]
theorem oU_len (cs : List Nat) (k : Nat) : (oU cs k).length ≤ 2 + 4 * k := by
 have h : ∀ l : List Nat,(l.flatMap wide).length ≤ 4 * l.length := by
  intro l
  induction l with
  | nil => exact Nat.zero_le _
  | cons c l ih =>
   have := wide_len c
   rw [List.flatMap_cons,List.length_append,List.length_cons]; omega
 have h2 := h (cs.take k)
 rw [List.length_take] at h2
 unfold oU
 simp only [List.length_cons]
 omega
theorem oU_next {cs : List Nat} {k : Nat} (h : k < cs.length) : oU cs (k + 1) = oU cs k ++ wide (cs.getD k 0) := by
 unfold oU
 rw [List.take_succ_eq_append_getElem h,List.flatMap_append]
 simp [List.getD,h]
theorem wide_small {c : Nat} (h : c < 65536) : wide c = two c := if_pos h
theorem wide_great {c : Nat} (h : 65536 ≤ c) : wide c = two (55296 + (c - 65536) / 1024) ++ two (56320 + (c - 65536) % 1024) := if_neg (by omega)

set_option maxRecDepth 4000 in
set_option maxHeartbeats 1000000 in
theorem d_toUtf16 : Does ir_charset_toUtf16 C_charset_toUtf16 := by
 intro (s : List UInt8) hs
 replace hs : s.length ≤ 1000000000 := hs
 show awp _ _ _ (entry [.str s])
 by_cases hs0 : s = []
 ·subst hs0
  refine ⟨_,(by first | exact SubSt.refl _ | exact SubTop.refl _),?_⟩
  rfl
 have hv := pts_valid s
 refine cond_f (decide_eq_false (show ¬ s = [] from hs0)) ?_
 refine cond_f (decide_eq_false (show ¬ s = [] from hs0)) ?_
 refine ⟨s,rfl,hs,?_⟩
 refine cond_f (decide_eq_false (show ¬ s = [] from hs0)) ?_
 have B0 : decide (s = (ByteArray.mk #[]).data.toList) = false := decide_eq_false hs0
 cases hp : pts s with
 | none =>
  rw [hp] at hv
  refine cond_t (by rw [B0,← hv]; rfl) ?_
  refine ⟨_,(by first | exact SubSt.refl _ | exact SubTop.refl _),?_⟩
  show AV.tup [.str [],.bool (decide (s = (ByteArray.mk #[]).data.toList))] = tupB (toUtf16S s)
  rw [B0]
  unfold toUtf16S; rw [hp]; rfl
 | some cs =>
  rw [hp] at hv
  refine cond_f (by rw [B0,← hv]; rfl) ?_
  have hS : toUtf16S s = (255 :: 254 :: cs.flatMap wide,true) := by unfold toUtf16S; rw [hp]; exact if_neg hs0
  obtain ⟨hsc,rfl⟩ := pts_some.1 hp
  have hcs := cs_le cs
  clear hv B0
  refine jn_to ?_
  refine ⟨_,sub_nil 0 1 true 1 rfl rfl,?_⟩
  refine ⟨0,1,[],[255,254],rfl,⟨by decide,_,rfl,rfl,.inl rfl⟩,(show 0 < 2 by decide),(show 1 < 2 by decide),by decide,?_⟩
  refine ⟨Nat,fun k => k ≤ cs.length,fun k => mks [(4,.ref 0 0),(5,.clo 6 [.ref 0 0]),(20,.ref 2 0)] ([(0,.cl true [pQ true,.sl 1 0 (oU cs k).length]),(1,.ls true 1 (bys (oU cs k))),(2,.opq (strItR (txt cs) (txt (cs.take k)).length))]) 3,fun k => cs.length - k,0,Nat.zero_le _,?_,?_⟩
  ·refine sub_ren [0,2,3] rfl (by decide) ⟨⟨_,rfl,⟨0,rfl,rfl⟩⟩,⟨_,rfl,?_⟩,⟨_,rfl,⟨3,rfl,rfl⟩⟩,trivial⟩ ⟨⟨0,_,rfl,rfl,?_⟩,⟨2,_,rfl,rfl,?_⟩,⟨3,_,rfl,rfl,?_⟩,trivial⟩
   ·exact .inr ⟨_,rfl,_,_,rfl,⟨0,rfl,rfl⟩,rfl⟩
   ·exact renQ (p := true) rfl rfl rfl
   ·exact ⟨_,rfl,eB rfl⟩
   ·exact renI rfl
  ·intro k hk
   have hol := oU_len cs k
   obtain ⟨out,ho⟩ : ∃ out,out = oU cs k := ⟨_,rfl⟩
   show awp _ _ _ (mks [(4,.ref 0 0),(5,.clo 6 [.ref 0 0]),(20,.ref 2 0)] ([(0,.cl true [pQ true,.sl 1 0 (oU cs k).length]),(1,.ls true 1 (bys (oU cs k))),(2,.opq (strItR (txt cs) (txt (cs.take k)).length))]) 3)
   rw [← ho] at hol ⊢
   refine ⟨_,_,rfl,fun hlt => ?_,fun hge => ?_⟩
   ·have hkl : k < cs.length := by
     rcases Nat.lt_or_ge k cs.length with h | h
     ·exact h
     ·rw [List.take_of_length_le h] at hlt; omega
    have hd := dec_at hsc hkl
    have htk := txt_take hkl
    have hcc := getD_sc hsc hkl
    have hnx := oU_next hkl
    obtain ⟨z,hz⟩ : ∃ z : Int,z = ((decU (txt cs) (txt (cs.take k)).length).1 : Int) := ⟨_,rfl⟩
    rw [← hz]
    rw [hd] at hz ⊢
    obtain ⟨c,hc⟩ : ∃ c,c = cs.getD k 0 := ⟨_,rfl⟩
    rw [← hc] at hz hcc htk hnx ⊢
    replace hz : z = (c : Int) := hz
    have e2 : (txt (cs.take k)).length + (enc c).length = (txt (cs.take (k + 1))).length := by rw [htk,List.length_append]
    refine ⟨_,rfl,?_⟩
    refine jn_plain ?_
    refine ⟨_,rfl,?_⟩
    unfold Sc at hcc
    have hw4 := wide_len c
    by_cases h1 : c < 65536
    ·refine cond_t (decide_eq_true (show z < 65536 by omega)) ?_
     refine w_unit (n := 0) (m := 1) (l := out) hz h1 ⟨by decide,_,rfl,rfl,.inr rfl⟩ (show 0 < 3 by decide) (show 1 < 3 by decide) (by omega) ?_
     rw [← ho,wide_small h1] at hnx
     refine ⟨k + 1,(show k + 1 ≤ cs.length by omega),(show cs.length - (k + 1) < cs.length - k by omega),?_⟩
     refine sub_ren [0,6,2] rfl (by decide) ⟨⟨_,rfl,⟨0,rfl,rfl⟩⟩,⟨_,rfl,?_⟩,⟨_,rfl,⟨2,rfl,rfl⟩⟩,trivial⟩ ⟨⟨0,_,rfl,rfl,?_⟩,⟨6,_,rfl,rfl,?_⟩,⟨2,_,rfl,rfl,?_⟩,trivial⟩
     ·exact .inr ⟨_,rfl,_,_,rfl,⟨0,rfl,rfl⟩,rfl⟩
     ·exact renQ (p := true) rfl rfl hnx.symm
     ·exact ⟨_,rfl,eB (congrArg bys hnx.symm)⟩
     ·exact renI e2
    ·refine cond_f (decide_eq_false (show ¬ z < 65536 by omega)) ?_
     have es : shrI .i32 (z - 65536) 10 = (((c - 65536) / 1024 : Nat) : Int) := by
      rw [show z - 65536 = ((c - 65536 : Nat) : Int) by omega,shr10]
     have ea : andI .i32 (z - 65536) 1023 = (((c - 65536) % 1024 : Nat) : Int) := by
      rw [show z - 65536 = ((c - 65536 : Nat) : Int) by omega,and1023 (by omega)]
     refine And.intro (by omega) ?_
     refine And.intro (by decide) ?_
     rw [es]
     refine And.intro (by omega) ?_
     refine w_unit (n := 0) (m := 1) (l := out) (c := 55296 + (c - 65536) / 1024) (by omega) (by omega) ⟨by decide,_,rfl,rfl,.inr rfl⟩ (show 0 < 3 by decide) (show 1 < 3 by decide) (by omega) ?_
     refine And.intro (by omega) ?_
     refine And.intro (by omega) ?_
     refine w_unit (n := 0) (m := 6) (l := out ++ two (55296 + (c - 65536) / 1024)) (c := 56320 + (c - 65536) % 1024) (by omega) (by omega) ⟨by decide,_,rfl,rfl,.inr rfl⟩ (show 0 < 7 by decide) (show 6 < 7 by decide) (by rw [List.length_append]; show out.length + 2 + 2 ≤ _; omega) ?_
     rw [← ho,wide_great (by omega),← List.append_assoc] at hnx
     refine ⟨k + 1,(show k + 1 ≤ cs.length by omega),(show cs.length - (k + 1) < cs.length - k by omega),?_⟩
     refine sub_ren [0,10,2] rfl (by decide) ⟨⟨_,rfl,⟨0,rfl,rfl⟩⟩,⟨_,rfl,?_⟩,⟨_,rfl,⟨2,rfl,rfl⟩⟩,trivial⟩ ⟨⟨0,_,rfl,rfl,?_⟩,⟨10,_,rfl,rfl,?_⟩,⟨2,_,rfl,rfl,?_⟩,trivial⟩
     ·exact .inr ⟨_,rfl,_,_,rfl,⟨0,rfl,rfl⟩,rfl⟩
     ·exact renQ (p := true) rfl rfl hnx.symm
     ·exact ⟨_,rfl,eB (congrArg bys hnx.symm)⟩
     ·exact renI e2
   ·have hke : k = cs.length := by
     rcases Nat.lt_or_ge k cs.length with h | h
     ·have := txt_lt h; omega
     ·omega
    refine ⟨_,rfl,?_⟩
    refine ⟨0,1,_,out,rfl,by decide,rfl,rfl,by omega,?_⟩
    refine ⟨_,(by first | exact SubSt.refl _ | exact SubTop.refl _),?_⟩
    show AV.tup [.str out,.bool true] = tupB (toUtf16S (txt cs))
    rw [hS,ho,hke]
    unfold oU
    rw [List.take_length]; rfl

end Qk

/-
  Chapter 57: the maps of words and codings; decoding and encoding.
-/
namespace Qk
open Go Go.RowKit

theorem allTwo5 {a b : AV} (h1 : a.isOne = true) (h2 : b.isOne = true) : AllOne [a,b] := by intro c hc; simp only [List.mem_cons,List.not_mem_nil,or_false] at hc; rcases hc with rfl | rfl; exact h1; exact h2
theorem allThree5 {a b c : AV} (h1 : a.isOne = true) (h2 : b.isOne = true) (h3 : c.isOne = true) : AllOne [a,b,c] := by intro x hx; simp only [List.mem_cons,List.not_mem_nil,or_false] at hx; rcases hx with rfl | rfl | rfl; exact h1; exact h2; exact h3
theorem nn_sem (R : Gl → Phi → Value → Prop) : NN (.sem R) := fun G Φ ρ ρ' v h => by simpa [Rep] using h
theorem nn_clo2 (a b : Nat) : NN (.agg [.clo a [],.clo b []]) := nn_agg (nnl_cons (nn_clo nnl_nil) (nnl_one (nn_clo nnl_nil)))

theorem d_codings : Does ir_charset_codings C_charset_codings := by
 intro (_ : Unit) _
 show awp _ _ _ (entry [])
 refine And.intro rfl ?_
 refine ⟨_,⟨rfl,⟨_,rfl,rfl⟩,nn_clo2 _ _⟩,?_⟩
 refine And.intro rfl ?_
 refine ⟨_,⟨rfl,⟨_,rfl,rfl⟩,nn_clo2 _ _⟩,?_⟩
 refine And.intro rfl ?_
 refine ⟨_,⟨rfl,⟨_,rfl,rfl⟩,nn_clo2 _ _⟩,?_⟩
 refine ⟨_,sub_frz [0] (env := [(0,.sem (mapS ⟨true,[some (some .i64)],codM⟩))]) (heap := []) (nx := 1) ?_ trivial (Nat.le_refl 1),?_⟩
 ·exact ⟨⟨_,rfl,.inr ⟨0,_,rfl,by decide,rfl,rfl⟩⟩,trivial⟩
 ·rfl
theorem d_charsets : Does ir_charset_charsets C_charset_charsets := by
 intro (_ : Unit) _
 show awp _ _ _ (entry [])
 refine ⟨_,⟨rfl,⟨_,rfl,rfl⟩,(plain_int _ _).nn⟩,?_⟩
 refine ⟨_,⟨rfl,⟨_,rfl,rfl⟩,(plain_int _ _).nn⟩,?_⟩
 refine ⟨_,⟨rfl,⟨_,rfl,rfl⟩,(plain_int _ _).nn⟩,?_⟩
 refine ⟨_,⟨rfl,⟨_,rfl,rfl⟩,(plain_int _ _).nn⟩,?_⟩
 refine ⟨_,sub_frz [0] (env := [(0,.sem (mapS ⟨true,[some none],setM⟩))]) (heap := []) (nx := 1) ?_ trivial (Nat.le_refl 1),?_⟩
 ·exact ⟨⟨_,rfl,.inr ⟨0,_,rfl,by decide,rfl,rfl⟩⟩,trivial⟩
 ·rfl
theorem d_endings : Does ir_charset_endings C_charset_endings := by
 intro (_ : Unit) _
 show awp _ _ _ (entry [])
 refine ⟨_,⟨rfl,⟨_,rfl,rfl⟩,(plain_int _ _).nn⟩,?_⟩
 refine ⟨_,⟨rfl,⟨_,rfl,rfl⟩,(plain_int _ _).nn⟩,?_⟩
 refine ⟨_,⟨rfl,⟨_,rfl,rfl⟩,(plain_int _ _).nn⟩,?_⟩
 refine ⟨_,sub_frz [0] (env := [(0,.sem (mapS ⟨true,[some none],eolM⟩))]) (heap := []) (nx := 1) ?_ trivial (Nat.le_refl 1),?_⟩
 ·exact ⟨⟨_,rfl,.inr ⟨0,_,rfl,by decide,rfl,rfl⟩⟩,trivial⟩
 ·rfl

theorem w_convert {t : Nat} {C : PC} {F : List UInt8 → List UInt8 × Bool} (hV : V_charset_convert t = some C) {x : C.α} {s : List UInt8} (hx : [AV.str s] = C.args x) (hok : s.length ≤ 65536 → C.ok x) (hres : C.res x = tupB (F s))
  {H : Heap} {nx : Nat} {K : AV → Heap → Nat → Prop} (hK : K (tupS (convS F s)) H nx) : H_charset_convert [.clo t [],.str s] H nx K := by
 refine And.intro rfl ?_
 by_cases h1 : 65536 < s.length
 ·refine cond_t (decide_eq_true (show (65536 : Int) < s.length by omega)) ?_
  refine ⟨_,(by first | exact SubSt.refl _ | exact SubTop.refl _),?_⟩
  have : convS F s = ([],4) := by unfold convS; exact if_pos h1
  rw [this] at hK
  exact hK
 ·refine cond_f (decide_eq_false (show ¬ (65536 : Int) < s.length by omega)) ?_
  have hc : convS F s = match F s with
   | (t,true) => if 65536 < t.length then ([],4) else (t,0)
   | (_,false) => ([],24) := by unfold convS; exact if_neg h1
  conv => whnf
  dsimp only [St.set]
  rw [hV]
  refine ⟨x,hx,hok (by omega),?_⟩
  rw [hres]
  obtain ⟨r,b,hF⟩ : ∃ r b,F s = (r,b) := ⟨_,_,rfl⟩
  rw [hF] at hc ⊢
  refine ⟨_,rfl,?_⟩
  refine ⟨_,rfl,?_⟩
  cases b with
  | false =>
   refine ⟨_,(by first | exact SubSt.refl _ | exact SubTop.refl _),?_⟩
   dsimp only at hc
   rw [hc] at hK
   exact hK
  | true =>
   dsimp only at hc
   by_cases h2 : 65536 < r.length
   ·refine cond_t (decide_eq_true (show (65536 : Int) < r.length by omega)) ?_
    refine ⟨_,(by first | exact SubSt.refl _ | exact SubTop.refl _),?_⟩
    rw [hc,if_pos h2] at hK
    exact hK
   ·refine cond_f (decide_eq_false (show ¬ (65536 : Int) < r.length by omega)) ?_
    refine ⟨_,(by first | exact SubSt.refl _ | exact SubTop.refl _),?_⟩
    rw [hc,if_neg h2] at hK
    exact hK

theorem cod_1 : codM (.int .i64 1) (.agg [.clo (1000000 + 53) [],.clo (1000000 + 53) []]) := .inr ⟨(by intro h; cases h),.inr ⟨(by intro h; cases h),.inl ⟨rfl,rfl⟩⟩⟩
theorem cod_2 : codM (.int .i64 2) (.agg [.clo (1000000 + 54) [],.clo (1000000 + 55) []]) := .inr ⟨(by intro h; cases h),.inl ⟨rfl,rfl⟩⟩
theorem cod_3 : codM (.int .i64 3) (.agg [.clo (1000000 + 56) [],.clo (1000000 + 57) []]) := .inl ⟨rfl,rfl⟩
theorem cod_no {n : Int} (h1 : n ≠ 1) (h2 : n ≠ 2) (h3 : n ≠ 3) : ∀ v,¬ codM (.int .i64 n) v := by
 rintro v (⟨e,_⟩ | ⟨_,⟨e,_⟩ | ⟨_,⟨e,_⟩ | ⟨_,h⟩⟩⟩)
 ·cases e; exact h3 rfl
 ·cases e; exact h2 rfl
 ·cases e; exact h1 rfl
 ·exact h

set_option maxRecDepth 4000 in
theorem d_Decode : Does ir_charset_Decode C_charset_Decode := by
 rintro ⟨set,data⟩ hd
 replace hd : data.length ≤ 1000000000 := hd
 show awp _ _ _ (entry [.int .i64 set,.str data])
 refine ⟨(),rfl,trivial,?_⟩
 by_cases h1 : set = 1
 ·subst h1
  refine ⟨codM,rfl,⟨_,rfl,rfl⟩,some _,cod_1,?_⟩
  refine ⟨_,rfl,?_⟩
  refine ⟨_,rfl,?_⟩
  refine And.intro ⟨rfl,allTwo5 rfl rfl⟩ ?_
  refine And.intro (Nat.le_refl 2) ?_
  refine ⟨_,lay_all rfl,?_⟩
  refine ⟨_,rfl,?_⟩
  refine w_convert (C := C_charset_same) (F := sameS) (x := data) rfl rfl (fun _ => hd) rfl ?_
  refine ⟨_,rfl,?_⟩
  refine ⟨_,rfl,?_⟩
  refine ⟨_,(by first | exact SubSt.refl _ | exact SubTop.refl _),?_⟩
  rfl
 by_cases h2 : set = 2
 ·subst h2
  refine ⟨codM,rfl,⟨_,rfl,rfl⟩,some _,cod_2,?_⟩
  refine ⟨_,rfl,?_⟩
  refine ⟨_,rfl,?_⟩
  refine And.intro ⟨rfl,allTwo5 rfl rfl⟩ ?_
  refine And.intro (Nat.le_refl 2) ?_
  refine ⟨_,lay_all rfl,?_⟩
  refine ⟨_,rfl,?_⟩
  refine w_convert (C := C_charset_fromLatin) (F := (fun l => (fromLatinS l,true))) (x := data) rfl rfl (fun _ => hd) rfl ?_
  refine ⟨_,rfl,?_⟩
  refine ⟨_,rfl,?_⟩
  refine ⟨_,(by first | exact SubSt.refl _ | exact SubTop.refl _),?_⟩
  rfl
 by_cases h3 : set = 3
 ·subst h3
  refine ⟨codM,rfl,⟨_,rfl,rfl⟩,some _,cod_3,?_⟩
  refine ⟨_,rfl,?_⟩
  refine ⟨_,rfl,?_⟩
  refine And.intro ⟨rfl,allTwo5 rfl rfl⟩ ?_
  refine And.intro (Nat.le_refl 2) ?_
  refine ⟨_,lay_all rfl,?_⟩
  refine ⟨_,rfl,?_⟩
  refine w_convert (C := C_charset_fromUtf16) (F := fromUtf16S) (x := data) rfl rfl (fun _ => hd) rfl ?_
  refine ⟨_,rfl,?_⟩
  refine ⟨_,rfl,?_⟩
  refine ⟨_,(by first | exact SubSt.refl _ | exact SubTop.refl _),?_⟩
  rfl
 refine ⟨codM,rfl,⟨_,rfl,rfl⟩,none,cod_no h1 h2 h3,?_⟩
 refine ⟨_,rfl,?_⟩
 refine ⟨_,rfl,?_⟩
 refine And.intro ⟨rfl,allTwo5 rfl rfl⟩ ?_
 refine And.intro (Nat.le_refl 2) ?_
 refine ⟨_,lay_all rfl,?_⟩
 refine ⟨_,(by first | exact SubSt.refl _ | exact SubTop.refl _),?_⟩
 show tupS ([],8) = tupS (decodeS set data)
 unfold decodeS
 rw [if_neg h1,if_neg h2,if_neg h3]

set_option maxRecDepth 4000 in
theorem d_Encode : Does ir_charset_Encode C_charset_Encode := by
 rintro ⟨set,data⟩ hd
 replace hd : data.length ≤ 1000000000 := hd
 show awp _ _ _ (entry [.int .i64 set,.str data])
 refine ⟨(),rfl,trivial,?_⟩
 by_cases h1 : set = 1
 ·subst h1
  refine ⟨codM,rfl,⟨_,rfl,rfl⟩,some _,cod_1,?_⟩
  refine ⟨_,rfl,?_⟩
  refine ⟨_,rfl,?_⟩
  refine And.intro ⟨rfl,allTwo5 rfl rfl⟩ ?_
  refine And.intro (Nat.le_refl 2) ?_
  refine ⟨_,lay_all rfl,?_⟩
  refine ⟨_,rfl,?_⟩
  refine w_convert (C := C_charset_same) (F := sameS) (x := data) rfl rfl (fun _ => hd) rfl ?_
  refine ⟨_,rfl,?_⟩
  refine ⟨_,rfl,?_⟩
  refine ⟨_,(by first | exact SubSt.refl _ | exact SubTop.refl _),?_⟩
  rfl
 by_cases h2 : set = 2
 ·subst h2
  refine ⟨codM,rfl,⟨_,rfl,rfl⟩,some _,cod_2,?_⟩
  refine ⟨_,rfl,?_⟩
  refine ⟨_,rfl,?_⟩
  refine And.intro ⟨rfl,allTwo5 rfl rfl⟩ ?_
  refine And.intro (Nat.le_refl 2) ?_
  refine ⟨_,lay_all rfl,?_⟩
  refine ⟨_,rfl,?_⟩
  refine w_convert (C := C_charset_toLatin) (F := toLatinS) (x := data) rfl rfl (fun _ => hd) rfl ?_
  refine ⟨_,rfl,?_⟩
  refine ⟨_,rfl,?_⟩
  refine ⟨_,(by first | exact SubSt.refl _ | exact SubTop.refl _),?_⟩
  rfl
 by_cases h3 : set = 3
 ·subst h3
  refine ⟨codM,rfl,⟨_,rfl,rfl⟩,some _,cod_3,?_⟩
  refine ⟨_,rfl,?_⟩
  refine ⟨_,rfl,?_⟩
  refine And.intro ⟨rfl,allTwo5 rfl rfl⟩ ?_
  refine And.intro (Nat.le_refl 2) ?_
  refine ⟨_,lay_all rfl,?_⟩
  refine ⟨_,rfl,?_⟩
  refine w_convert (C := C_charset_toUtf16) (F := toUtf16S) (x := data) rfl rfl (fun _ => hd) rfl ?_
  refine ⟨_,rfl,?_⟩
  refine ⟨_,rfl,?_⟩
  refine ⟨_,(by first | exact SubSt.refl _ | exact SubTop.refl _),?_⟩
  rfl
 refine ⟨codM,rfl,⟨_,rfl,rfl⟩,none,cod_no h1 h2 h3,?_⟩
 refine ⟨_,rfl,?_⟩
 refine ⟨_,rfl,?_⟩
 refine And.intro ⟨rfl,allTwo5 rfl rfl⟩ ?_
 refine And.intro (Nat.le_refl 2) ?_
 refine ⟨_,lay_all rfl,?_⟩
 refine ⟨_,(by first | exact SubSt.refl _ | exact SubTop.refl _),?_⟩
 show tupS ([],8) = tupS (encodeS set data)
 unfold encodeS
 rw [if_neg h1,if_neg h2,if_neg h3]

end Qk
