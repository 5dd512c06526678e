/-
  Chapter 57: the reference of the codings: UTF-16, both directions.
-/
import Derived.Test.YtnjncjjegolojaaGreatDoorPp
import Derived.Test.YtnjncjjegolojaaGreatDoorPg

/-
  Chapter 57, plain: what the reference reads of UTF-16, and its codings.
-/
namespace Qk
open Go

/-- The code points of words, up to the first that is none. -/
def surrP : List Nat → List Nat × Bool
 | [] => ([],true)
 | c :: r => if 55296 ≤ c ∧ c < 56320 then (match r with
   | [] => ([],false)
   | d :: r' => if d < 56320 ∨ 57343 < d then ([],false) else ((65536 + (c - 55296) * 1024 + d - 56320) :: (surrP r').1,(surrP r').2))
  else if Sc c then (c :: (surrP r).1,(surrP r).2) else ([],false)
theorem surrP_cons (c : Nat) (r : List Nat) : surrP (c :: r) = if 55296 ≤ c ∧ c < 56320 then (match r with
   | [] => ([],false)
   | d :: r' => if d < 56320 ∨ 57343 < d then ([],false) else ((65536 + (c - 55296) * 1024 + d - 56320) :: (surrP r').1,(surrP r').2))
  else if Sc c then (c :: (surrP r).1,(surrP r).2) else ([],false) := by rw [surrP.eq_def]
def optP (x : List Nat × Bool) : Option (List Nat) := match x.2 with | true => some x.1 | false => none
theorem optP_cons (c : Nat) (x : List Nat × Bool) : optP (c :: x.1,x.2) = (optP x).map (c :: ·) := by
 obtain ⟨l,b⟩ := x
 cases b <;> rfl
theorem surrP_ok : ∀ (n : Nat) (ws : List Nat),ws.length ≤ n → (∀ w ∈ ws,w < 65536) → surr ws = optP (surrP ws)
 | _,[],_,_ => by simp [surr,surrP,optP]
 | 0,_ :: _,h,_ => by simp at h
 | n + 1,c :: r,h,hw => by
  have hc := hw c (by simp)
  have hl : r.length ≤ n := by simp at h; omega
  have hS : Sc c ↔ (c < 55296 ∨ (57344 ≤ c ∧ c ≤ 1114111)) := Iff.rfl
  rw [surr_cons]
  by_cases h1 : 56320 ≤ c ∧ c < 57344
  ·have e : surrP (c :: r) = ([],false) := by rw [surrP_cons,if_neg (by omega),if_neg (by rw [hS]; omega)]
   rw [if_pos h1,e]; rfl
  ·rw [if_neg h1]
   by_cases h2 : 55296 ≤ c ∧ c < 56320
   ·rw [if_pos h2]
    match r,hl,hw with
    | [],_,_ =>
     have e : surrP [c] = ([],false) := by rw [surrP_cons,if_pos h2]
     rw [e]; rfl
    | d :: r',hl,hw =>
     dsimp only
     have hd := hw d (by simp)
     by_cases h3 : d < 56320 ∨ 57343 < d
     ·have e : surrP (c :: d :: r') = ([],false) := by rw [surrP_cons,if_pos h2]; dsimp only; rw [if_pos h3]
      rw [if_pos (by omega),e]; rfl
     ·have e : surrP (c :: d :: r') = ((65536 + (c - 55296) * 1024 + d - 56320) :: (surrP r').1,(surrP r').2) := by rw [surrP_cons,if_pos h2]; dsimp only; rw [if_neg h3]
      rw [if_neg (by omega),e,surrP_ok n r' (by simp at hl; omega) (fun w hx => hw w (by simp [hx])),optP_cons]
   ·have e : surrP (c :: r) = (c :: (surrP r).1,(surrP r).2) := by rw [surrP_cons,if_neg h2,if_pos (by rw [hS]; omega)]
    rw [if_neg h2,e,surrP_ok n r hl (fun w hx => hw w (by simp [hx])),optP_cons]
def utf16P (s : List UInt8) : List Nat × Bool := if s = [] then ([],true) else if (s.length < 4 ∨ s.length % 2 = 1) ∨ s.take 2 ≠ [255,254] then ([],false) else surrP (wordsF (s.drop 2))

def outP (x : List Nat × Bool) : List UInt8 × Bool := match x.2 with | true => (txt x.1,true) | false => ([],false)
theorem utf16P_ok (s : List UInt8) : fromUtf16S s = outP (utf16P s) := by
 have bad : ∀ s : List UInt8,s ≠ [] → ((s.length < 4 ∨ s.length % 2 = 1) ∨ s.take 2 ≠ [255,254]) → outP (utf16P s) = ([],false) := fun s h1 h2 => by
  have e : utf16P s = ([],false) := by unfold utf16P; rw [if_neg h1,if_pos h2]
  rw [e]; rfl
 match s with
 | [] => rfl
 | [a] =>
  rw [bad [a] (by simp) (.inl (.inl (by show 1 < 4; omega)))]
  unfold fromUtf16S
  split
  ·rename_i he; cases he
  ·rename_i he; cases he
  ·rfl
 | a :: b :: r =>
  by_cases hab : a = 255 ∧ b = 254
  ·obtain ⟨rfl,rfl⟩ := hab
   show (match wordsL r with
    | none => ([],false)
    | some ws => if ws = [] then ([],false) else match surr ws with
     | none => ([],false)
     | some cs => (txt cs,true)) = _
   have hlr : (255 :: 254 :: r : List UInt8).length = r.length + 2 := rfl
   by_cases ho : r.length % 2 = 1
   ·rw [words_odd r ho,bad _ (by simp) (.inl (.inr (by omega)))]
   ·rw [words_even r (by omega)]
    dsimp only
    by_cases hr : r = []
    ·subst hr; rfl
    ·have hp : 0 < r.length := List.length_pos_iff.2 hr
     have hw : wordsF r ≠ [] := by
      intro e
      have := wordsF_len r
      rw [e] at this
      simp at this
      omega
     have e : utf16P (255 :: 254 :: r) = surrP (wordsF r) := by
      unfold utf16P
      rw [if_neg (by simp),if_neg (by
       rintro ((h | h) | h)
       ·omega
       ·omega
       ·exact h rfl)]
      rfl
     rw [if_neg hw,e,surrP_ok _ _ (Nat.le_refl _) wordsF_lt]
     unfold optP outP
     cases (surrP (wordsF r)).2 <;> rfl
  ·rw [bad _ (by simp) (.inr (fun e => hab (by
    have e : [a,b] = [255,254] := e
    injection e with e1 e2
    injection e2 with e2 e3
    exact ⟨e1,e2⟩)))]
   unfold fromUtf16S
   split
   ·rename_i he; cases he
   ·rename_i he
    injection he with e1 e2
    injection e2 with e2 e3
    exact absurd ⟨e1,e2⟩ hab
   ·rfl

def wordAt (s : List UInt8) (i : Nat) : Nat := (s.getD i 0).toNat + 256 * (s.getD (i + 1) 0).toNat
theorem wordAt_lt (s : List UInt8) (i : Nat) : wordAt s i < 65536 := by
 have h1 := (s.getD i 0).toNat_lt
 have h2 := (s.getD (i + 1) 0).toNat_lt
 unfold wordAt; omega
theorem wordsF_step {s : List UInt8} {i : Nat} (h : i + 2 ≤ s.length) (he : (s.length - i) % 2 = 0) : wordsF (s.drop i) = wordAt s i :: wordsF (s.drop (i + 2)) := by
 have e1 : s.drop i = s.getD i 0 :: s.getD (i + 1) 0 :: s.drop (i + 2) := by
  rw [List.drop_eq_getElem_cons (by omega),List.drop_eq_getElem_cons (by omega)]
  simp [List.getD,show i < s.length by omega,show i + 1 < s.length by omega]
 have h1 := words_even (s.drop i) (by rw [List.length_drop]; exact he)
 have h2 := words_even (s.drop (i + 2)) (by rw [List.length_drop]; omega)
 rw [e1] at h1
 have h3 : wordsL (s.getD i 0 :: s.getD (i + 1) 0 :: s.drop (i + 2)) = (wordsL (s.drop (i + 2))).map (((s.getD i 0).toNat + 256 * (s.getD (i + 1) 0).toNat) :: ·) := by rw [wordsL]
 rw [h2] at h3
 rw [h3] at h1
 rw [e1]
 exact (Option.some.inj h1).symm
theorem wordsF_nil : wordsF [] = [] := rfl

end Qk

/-
  Chapter 57: contracts of the reference's codings.
-/
namespace Qk
open Go Go.RowKit

def C_quiltref57_utf16 : PC := ⟨List UInt8,fun s => [.str s],fun s => s.length ≤ 1000000000,fun s => .tup [listN (utf16P s).1,.bool (utf16P s).2]⟩
def C_quiltref57_Decode : PC := ⟨Int × List UInt8,fun x => [.int .i64 x.1,.str x.2],fun x => x.2.length ≤ 1000000000,fun x => tupS (decodeS x.1 x.2)⟩
def C_quiltref57_Encode : PC := ⟨Int × List UInt8,fun x => [.int .i64 x.1,.str x.2],fun x => x.2.length ≤ 1000000000,fun x => tupS (encodeS x.1 x.2)⟩
end Qk

/-
  Chapter 57, plain: the codings by the code points.
-/
namespace Qk
open Go

def limP (t : List UInt8) : List UInt8 × Int := if 65536 < t.length then ([],4) else (t,0)
theorem surrP_len : ∀ (n : Nat) (ws : List Nat),ws.length ≤ n → (surrP ws).1.length ≤ ws.length
 | _,[],_ => by simp [surrP]
 | 0,_ :: _,h => by simp at h
 | n + 1,c :: r,h => by
  have hl : r.length ≤ n := by simp at h; omega
  rw [surrP_cons]
  split
  ·match r,hl with
   | [],_ => simp
   | d :: r',hl =>
    dsimp only
    split
    ·simp
    ·have := surrP_len n r' (by simp at hl; omega)
     simp only [List.length_cons]
     omega
  ·split
   ·have := surrP_len n r hl
    simp only [List.length_cons]
    omega
   ·simp
theorem utf16P_len (s : List UInt8) : (utf16P s).1.length ≤ s.length := by
 unfold utf16P
 split
 ·simp
 ·split
  ·simp
  ·have h1 := surrP_len _ (wordsF (s.drop 2)) (Nat.le_refl _)
   have h2 := wordsF_len (s.drop 2)
   rw [List.length_drop] at h2
   omega
theorem utf16P_sc {s : List UInt8} (h : (utf16P s).2 = true) : ∀ c ∈ (utf16P s).1,Sc c := by
 unfold utf16P at h ⊢
 by_cases h0 : s = []
 ·rw [if_pos h0]
  intro c hc
  cases hc
 ·rw [if_neg h0] at h ⊢
  by_cases h1 : (s.length < 4 ∨ s.length % 2 = 1) ∨ s.take 2 ≠ [255,254]
  ·rw [if_pos h1] at h
   cases h
  ·rw [if_neg h1] at h ⊢
   have e := surrP_ok _ (wordsF (s.drop 2)) (Nat.le_refl _) wordsF_lt
   have e2 : optP (surrP (wordsF (s.drop 2))) = some (surrP (wordsF (s.drop 2))).1 := by unfold optP; rw [h]
   rw [e2] at e
   exact (surr_inv _ _ _ (Nat.le_refl _) wordsF_lt e).2
theorem pre_valid {s : List UInt8} (h : Lib.validD s = true) : pts s = some (preL s) ∧ (∀ c ∈ preL s,Sc c) ∧ s = txt (preL s) := by
 have h1 := pts_valid s
 rw [h] at h1
 obtain ⟨cs,hcs⟩ := Option.isSome_iff_exists.1 h1
 have h2 := pts_pre _ s (Nat.le_refl _) cs hcs
 rw [h2]
 exact ⟨hcs,pts_some.1 hcs⟩
theorem pts_no {s : List UInt8} (h : Lib.validD s = false) : pts s = none := by
 have h1 := pts_valid s
 rw [h] at h1
 cases hp : pts s with
 | none => rfl
 | some cs => rw [hp] at h1; cases h1
theorem pre_len (s : List UInt8) (h : Lib.validD s = true) : (preL s).length ≤ s.length := by
 have h1 := (pre_valid h).2.2
 have h2 := cs_le (preL s)
 rw [← h1] at h2
 exact h2

theorem preF_le : ∀ (n : Nat) (l : List UInt8),(preF n l).length ≤ n
 | 0,_ => by simp [preF]
 | n + 1,l => by
  unfold preF
  split
  ·simp
  ·split
   ·simp
   ·have := preF_le n (l.drop (Lib.decodeL l).2)
    simp only [List.length_cons]
    omega
theorem pre_le (l : List UInt8) : (preL l).length ≤ l.length := preF_le _ _

/-- What is decoded of code points. -/
def decP (x : List Nat × Bool) : List UInt8 × Int := match x.2 with | true => limP (txt x.1) | false => ([],24)
theorem conv_lim {f : List UInt8 → List UInt8 × Bool} {l : List UInt8} (h : l.length ≤ 65536) : convS f l = match (f l).2 with | true => limP (f l).1 | false => ([],24) := by
 unfold convS
 rw [if_neg (by omega)]
 obtain ⟨t,b⟩ := f l
 cases b <;> rfl
theorem decode_1 {l : List UInt8} (h : l.length ≤ 65536) : decodeS 1 l = decP (preL l,Lib.validD l) := by
 show convS sameS l = _
 rw [conv_lim h]
 unfold sameS decP
 cases hv : Lib.validD l with
 | true =>
  dsimp only
  rw [← (pre_valid hv).2.2]
 | false => rfl
theorem decode_2 {l : List UInt8} (h : l.length ≤ 65536) : decodeS 2 l = decP (l.map UInt8.toNat,true) := by
 show convS (fun l => (fromLatinS l,true)) l = _
 rw [conv_lim h]
 rfl
theorem decode_3 {l : List UInt8} (h : l.length ≤ 65536) : decodeS 3 l = decP (utf16P l) := by
 show convS fromUtf16S l = _
 rw [conv_lim h,utf16P_ok]
 unfold outP decP
 cases (utf16P l).2 <;> rfl
theorem decode_far {n : Int} {l : List UInt8} (h : n < 1 ∨ 3 < n) : decodeS n l = ([],8) := by
 unfold decodeS
 rw [if_neg (by omega),if_neg (by omega),if_neg (by omega)]
theorem encode_far {n : Int} {l : List UInt8} (h : n < 1 ∨ 3 < n) : encodeS n l = ([],8) := by
 unfold encodeS
 rw [if_neg (by omega),if_neg (by omega),if_neg (by omega)]
theorem conv_big {f : List UInt8 → List UInt8 × Bool} {l : List UInt8} (h : 65536 < l.length) : convS f l = ([],4) := if_pos h
theorem decode_big {n : Int} {l : List UInt8} (h : ¬ (n < 1 ∨ 3 < n)) (hl : 65536 < l.length) : decodeS n l = ([],4) := by
 have hn : n = 1 ∨ n = 2 ∨ n = 3 := by omega
 rcases hn with rfl | rfl | rfl
 ·exact conv_big (f := sameS) hl
 ·exact conv_big (f := fun l => (fromLatinS l,true)) hl
 ·exact conv_big (f := fromUtf16S) hl
theorem encode_big {n : Int} {l : List UInt8} (h : ¬ (n < 1 ∨ 3 < n)) (hl : 65536 < l.length) : encodeS n l = ([],4) := by
 have hn : n = 1 ∨ n = 2 ∨ n = 3 := by omega
 rcases hn with rfl | rfl | rfl
 ·exact conv_big (f := sameS) hl
 ·exact conv_big (f := toLatinS) hl
 ·exact conv_big (f := toUtf16S) hl
theorem encode_no {n : Int} {l : List UInt8} (h : ¬ (n < 1 ∨ 3 < n)) (hl : l.length ≤ 65536) (hv : Lib.validD l = false) : encodeS n l = ([],24) := by
 have hn : n = 1 ∨ n = 2 ∨ n = 3 := by omega
 have hp := pts_no hv
 rcases hn with rfl | rfl | rfl
 ·show convS sameS l = _
  rw [conv_lim hl]; unfold sameS; rw [hv]
 ·show convS toLatinS l = _
  rw [conv_lim hl]; unfold toLatinS; rw [hp]
 ·show convS toUtf16S l = _
  rw [conv_lim hl]; unfold toUtf16S; rw [hp]
theorem encode_1 {l : List UInt8} (hl : l.length ≤ 65536) (hv : Lib.validD l = true) : encodeS 1 l = (l,0) := by
 show convS sameS l = _
 rw [conv_lim hl]; unfold sameS; rw [hv]
 exact if_neg (show ¬ 65536 < l.length by omega)
theorem encode_3 {l : List UInt8} (hl : l.length ≤ 65536) (hv : Lib.validD l = true) : encodeS 3 l = limP (if preL l = [] then [] else 255 :: 254 :: (preL l).flatMap wide) := by
 have hp := pre_valid hv
 show convS toUtf16S l = _
 rw [conv_lim hl]; unfold toUtf16S; rw [hp.1]
 dsimp only
 by_cases h0 : l = []
 ·subst h0; rfl
 ·have h1 : preL l ≠ [] := by
   intro e
   have h2 := hp.2.2
   rw [e] at h2
   exact h0 h2
  rw [if_neg h0,if_neg h1]
theorem encode_2 {l : List UInt8} (hl : l.length ≤ 65536) (hv : Lib.validD l = true) : encodeS 2 l = if (preL l).all (fun c => Nat.ble c 255) then ((preL l).map Nat.toUInt8,0) else ([],24) := by
 have hp := pre_valid hv
 have h2 := pre_len l hv
 show convS toLatinS l = _
 rw [conv_lim hl]; unfold toLatinS; rw [hp.1]
 dsimp only
 cases h : (preL l).all (fun c => Nat.ble c 255) with
 | true =>
  rw [if_pos rfl,if_pos rfl]
  exact if_neg (by rw [List.length_map]; omega)
 | false => rfl

end Qk

/-
  Chapter 57: the reference of the codings, and its law, in the executor's form (printed).
-/
namespace Qk
open Go Go.RowKit

/-- quilt/quiltref57.utf16 -/
def ir_quiltref57_utf16 : IF := ⟨(.seq (.ops [⟨some 2,none,.mov (.const (.slice none 0 0))⟩,⟨some 3,none,.mov (.const (.bool false))⟩])
 (.seq (.ops [⟨some 8,none,.bslice 1 [.int .i64 0] 0 []⟩,⟨some 4,none,.mov (t 8)⟩])
 (.seq (.seq (.ops [⟨some 9,none,.mov (t 0)⟩,⟨some 10,none,.bin .eql (t 9) (.const (.string ⟨#[]⟩))⟩])
 (.cond (t 10) (.seq (.ops [⟨some 11,none,.mov (t 4)⟩,⟨some 2,none,.mov (t 11)⟩,⟨some 3,none,.mov (.const (.bool true))⟩])
 .ret)
 .skip))
 (.seq (.seq (.ops [⟨some 12,none,.mov (t 0)⟩,
  ⟨some 13,none,.lenS (t 12)⟩,⟨some 14,none,.bin .lss (t 13) (ci 4)⟩,⟨some 15,none,.mov (t 14)⟩,⟨some 16,some (15,false),.mov (t 0)⟩,⟨some 17,some (15,false),.lenS (t 16)⟩,⟨some 18,some (15,false),.bin .rem (t 17) (ci 2)⟩,
  ⟨some 19,some (15,false),.bin .eql (t 18) (ci 1)⟩,⟨some 20,none,.pick (t 15) (.const (.bool true)) (t 19)⟩,⟨some 21,none,.mov (t 20)⟩,⟨some 22,some (21,false),.mov (t 0)⟩,⟨some 23,some (21,false),.slS (t 22) none (some (ci 2))⟩,⟨some 24,some (21,false),.bin .neq (t 23) (.const (.string ⟨#[255,254]⟩))⟩,
  ⟨some 25,none,.pick (t 21) (.const (.bool true)) (t 24)⟩])
 (.cond (t 25) (.seq (.ops [⟨some 26,none,.mov (t 4)⟩,⟨some 2,none,.mov (t 26)⟩,⟨some 3,none,.mov (.const (.bool false))⟩])
 .ret)
 .skip))
 (.seq (.seq (.ops [⟨some 5,none,.mov (ci 2)⟩])
 (.block 0 (.loop (.seq (.seq (.ops [⟨some 27,none,.mov (t 5)⟩,⟨some 28,none,.mov (t 0)⟩,⟨some 29,none,.lenS (t 28)⟩,⟨some 30,none,.bin .lss (t 27) (t 29)⟩])
 (.cond (t 30) .skip
 (.exit 0)))
 (.seq (.block 1 (.seq (.ops [⟨some 33,none,.mov (t 0)⟩,
  ⟨some 34,none,.mov (t 5)⟩,⟨some 35,none,.idxS (t 33) (t 34)⟩,⟨some 36,none,.conv .i64 (t 35)⟩,⟨some 37,none,.mov (t 0)⟩,⟨some 38,none,.mov (t 5)⟩,⟨some 39,none,.bin .add (t 38) (ci 1)⟩,
  ⟨some 40,none,.idxS (t 37) (t 39)⟩,⟨some 41,none,.conv .i64 (t 40)⟩,⟨some 42,none,.bin .mul (ci 256) (t 41)⟩,⟨some 43,none,.bin .add (t 36) (t 42)⟩,⟨some 6,none,.mov (t 43)⟩])
 (.seq (.jn (.seq (.ops [⟨some 44,none,.mov (t 6)⟩,⟨some 45,none,.bin .geq (t 44) (ci 55296)⟩,
  ⟨some 46,none,.mov (t 45)⟩,⟨some 47,some (46,true),.mov (t 6)⟩,⟨some 48,some (46,true),.bin .lss (t 47) (ci 56320)⟩,⟨some 49,none,.pick (t 46) (t 48) (.const (.bool false))⟩])
 (.cond (t 49) (.seq (.ops [⟨some 50,none,.mov (t 5)⟩,⟨some 51,none,.bin .add (t 50) (ci 2)⟩,⟨some 5,none,.mov (t 51)⟩])
 (.seq (.seq (.ops [⟨some 52,none,.mov (t 5)⟩,
  ⟨some 53,none,.mov (t 0)⟩,⟨some 54,none,.lenS (t 53)⟩,⟨some 55,none,.bin .geq (t 52) (t 54)⟩])
 (.cond (t 55) (.seq (.ops [⟨some 56,none,.mov (t 4)⟩,⟨some 2,none,.mov (t 56)⟩,⟨some 3,none,.mov (.const (.bool false))⟩])
 .ret)
 .skip))
 (.seq (.ops [⟨some 57,none,.mov (t 0)⟩,⟨some 58,none,.mov (t 5)⟩,
  ⟨some 59,none,.idxS (t 57) (t 58)⟩,⟨some 60,none,.conv .i64 (t 59)⟩,⟨some 61,none,.mov (t 0)⟩,⟨some 62,none,.mov (t 5)⟩,⟨some 63,none,.bin .add (t 62) (ci 1)⟩,⟨some 64,none,.idxS (t 61) (t 63)⟩,
  ⟨some 65,none,.conv .i64 (t 64)⟩,⟨some 66,none,.bin .mul (ci 256) (t 65)⟩,⟨some 67,none,.bin .add (t 60) (t 66)⟩,⟨some 7,none,.mov (t 67)⟩])
 (.seq (.seq (.ops [⟨some 68,none,.mov (t 7)⟩,⟨some 69,none,.bin .lss (t 68) (ci 56320)⟩,⟨some 70,none,.mov (t 69)⟩,
  ⟨some 71,some (70,false),.mov (t 7)⟩,⟨some 72,some (70,false),.bin .gtr (t 71) (ci 57343)⟩,⟨some 73,none,.pick (t 70) (.const (.bool true)) (t 72)⟩])
 (.cond (t 73) (.seq (.ops [⟨some 74,none,.mov (t 4)⟩,⟨some 2,none,.mov (t 74)⟩,⟨some 3,none,.mov (.const (.bool false))⟩])
 .ret)
 .skip))
 (.ops [⟨some 75,none,.mov (t 6)⟩,⟨some 76,none,.bin .sub (t 75) (ci 55296)⟩,
  ⟨some 77,none,.bin .mul (t 76) (ci 1024)⟩,⟨some 78,none,.bin .add (ci 65536) (t 77)⟩,⟨some 79,none,.mov (t 7)⟩,⟨some 80,none,.bin .add (t 78) (t 79)⟩,⟨some 81,none,.bin .sub (t 80) (ci 56320)⟩,⟨some 6,none,.mov (t 81)⟩])))))
 .skip)))
 (.seq (.seq (.ops [⟨some 82,none,.mov (t 6)⟩,
  ⟨some 83,none,.pcall C_quiltref57_valid [(t 82)]⟩,⟨some 84,none,.not (t 83)⟩])
 (.cond (t 84) (.seq (.ops [⟨some 85,none,.mov (t 4)⟩,⟨some 2,none,.mov (t 85)⟩,⟨some 3,none,.mov (.const (.bool false))⟩])
 .ret)
 .skip))
 (.ops [⟨some 86,none,.mov (t 4)⟩,⟨some 87,none,.mov (t 6)⟩,⟨some 88,none,.bslice 1 [.int .i64 0] 1 [(0,1,(t 87))]⟩,
  ⟨some 89,none,.app 1 8 (t 86) (t 88)⟩,⟨some 4,none,.mov (t 89)⟩])))))
 (.ops [⟨some 31,none,.mov (t 5)⟩,⟨some 32,none,.bin .add (t 31) (ci 2)⟩,⟨some 5,none,.mov (t 32)⟩]))))))
 (.seq (.ops [⟨some 90,none,.mov (t 4)⟩,⟨some 2,none,.mov (t 90)⟩,⟨some 3,none,.mov (.const (.bool true))⟩])
 .ret)))))),[.tmp 2,.tmp 3]⟩
/-- quilt/quiltref57.Decode -/
def ir_quiltref57_Decode : IF := ⟨(.seq (.ops [⟨some 4,none,.mov (.const (.string ⟨#[]⟩))⟩,⟨some 5,none,.mov (ci 0)⟩])
 (.seq (.seq (.ops [⟨some 9,none,.mov (t 0)⟩,⟨some 10,none,.mov (t 1)⟩,⟨some 11,none,.pcall C_quiltref57_refused [(t 9),(t 10)]⟩,⟨some 6,none,.mov (t 11)⟩])
 (.seq (.ops [⟨some 12,none,.mov (t 6)⟩,⟨some 13,none,.bin .neq (t 12) (ci 0)⟩])
 (.cond (t 13) (.seq (.ops [⟨some 14,none,.mov (t 6)⟩,
  ⟨some 4,none,.mov (.const (.string ⟨#[]⟩))⟩,⟨some 5,none,.mov (t 14)⟩])
 .ret)
 .skip)))
 (.seq (.ops [⟨some 15,none,.mov (t 1)⟩,⟨some 16,none,.pcall C_quiltref57_latin [(t 15)]⟩,⟨some 7,none,.mov (t 16)⟩,⟨some 8,none,.mov (.const (.bool true))⟩])
 (.seq (.seq (.ops [⟨some 17,none,.mov (t 0)⟩,⟨some 18,none,.bin .eql (t 17) (ci 1)⟩])
 (.jn (.cond (t 18) (.ops [⟨some 20,none,.mov (t 1)⟩,
  ⟨some 21,none,.pcall C_quiltref57_Points [(t 20)]⟩,⟨some 19,none,.mov (t 21)⟩,⟨some 22,none,.extr (t 19) 0⟩,⟨some 23,none,.extr (t 19) 1⟩,⟨some 7,none,.mov (t 22)⟩,⟨some 8,none,.mov (t 23)⟩])
 .skip)))
 (.seq (.seq (.ops [⟨some 24,none,.mov (t 0)⟩,
  ⟨some 25,none,.bin .eql (t 24) (ci 3)⟩])
 (.jn (.cond (t 25) (.ops [⟨some 27,none,.mov (t 1)⟩,⟨some 28,none,.pcall C_quiltref57_utf16 [(t 27)]⟩,⟨some 26,none,.mov (t 28)⟩,⟨some 29,none,.extr (t 26) 0⟩,⟨some 30,none,.extr (t 26) 1⟩,⟨some 7,none,.mov (t 29)⟩,
  ⟨some 8,none,.mov (t 30)⟩])
 .skip)))
 (.seq (.seq (.ops [⟨some 31,none,.mov (t 8)⟩,⟨some 32,none,.not (t 31)⟩])
 (.cond (t 32) (.seq (.ops [⟨some 4,none,.mov (.const (.string ⟨#[]⟩))⟩,⟨some 5,none,.mov (ci 24)⟩])
 .ret)
 .skip))
 (.seq (.ops [⟨some 33,none,.mov (t 7)⟩,⟨some 34,none,.pcall C_quiltref57_text [(t 33)]⟩,⟨some 35,none,.pcall C_quiltref57_limited [(t 34)]⟩,⟨some 36,none,.extr (t 35) 0⟩,
  ⟨some 37,none,.extr (t 35) 1⟩,⟨some 4,none,.mov (t 36)⟩,⟨some 5,none,.mov (t 37)⟩])
 .ret))))))),[.tmp 4,.tmp 5]⟩
/-- quilt/quiltref57.Encode -/
def ir_quiltref57_Encode : IF := ⟨(.seq (.ops [⟨some 4,none,.mov (.const (.string ⟨#[]⟩))⟩,⟨some 5,none,.mov (ci 0)⟩])
 (.seq (.seq (.ops [⟨some 11,none,.mov (t 0)⟩,⟨some 12,none,.mov (t 1)⟩,⟨some 13,none,.pcall C_quiltref57_refused [(t 11),(t 12)]⟩,⟨some 6,none,.mov (t 13)⟩])
 (.seq (.ops [⟨some 14,none,.mov (t 6)⟩,⟨some 15,none,.bin .neq (t 14) (ci 0)⟩])
 (.cond (t 15) (.seq (.ops [⟨some 16,none,.mov (t 6)⟩,
  ⟨some 4,none,.mov (.const (.string ⟨#[]⟩))⟩,⟨some 5,none,.mov (t 16)⟩])
 .ret)
 .skip)))
 (.seq (.ops [⟨some 18,none,.mov (t 1)⟩,⟨some 19,none,.pcall C_quiltref57_Points [(t 18)]⟩,⟨some 17,none,.mov (t 19)⟩,⟨some 20,none,.extr (t 17) 0⟩,⟨some 21,none,.extr (t 17) 1⟩,
  ⟨some 7,none,.mov (t 20)⟩,⟨some 8,none,.mov (t 21)⟩])
 (.seq (.seq (.ops [⟨some 22,none,.mov (t 8)⟩,⟨some 23,none,.not (t 22)⟩])
 (.cond (t 23) (.seq (.ops [⟨some 4,none,.mov (.const (.string ⟨#[]⟩))⟩,⟨some 5,none,.mov (ci 24)⟩])
 .ret)
 .skip))
 (.seq (.seq (.ops [⟨some 24,none,.mov (t 0)⟩,⟨some 25,none,.bin .eql (t 24) (ci 1)⟩])
 (.cond (t 25) (.seq (.ops [⟨some 26,none,.mov (t 1)⟩,⟨some 4,none,.mov (t 26)⟩,
  ⟨some 5,none,.mov (ci 0)⟩])
 .ret)
 .skip))
 (.seq (.seq (.ops [⟨some 27,none,.mov (t 0)⟩,⟨some 28,none,.bin .eql (t 27) (ci 3)⟩])
 (.cond (t 28) (.seq (.ops [⟨some 29,none,.mov (t 7)⟩,⟨some 30,none,.pcall C_quiltref57_units [(t 29)]⟩,⟨some 31,none,.pcall C_quiltref57_limited [(t 30)]⟩,⟨some 32,none,.extr (t 31) 0⟩,⟨some 33,none,.extr (t 31) 1⟩,
  ⟨some 4,none,.mov (t 32)⟩,⟨some 5,none,.mov (t 33)⟩])
 .ret)
 .skip))
 (.seq (.ops [⟨some 34,none,.bslice 1 [.int .u8 0] 0 []⟩,⟨some 9,none,.mov (t 34)⟩])
 (.seq (.seq (.ops [⟨some 10,none,.mov (ci 0)⟩])
 (.block 0 (.loop (.seq (.seq (.ops [⟨some 35,none,.mov (t 10)⟩,⟨some 36,none,.mov (t 7)⟩,⟨some 37,none,.lenL (t 36)⟩,⟨some 38,none,.bin .lss (t 35) (t 37)⟩])
 (.cond (t 38) .skip
 (.exit 0)))
 (.seq (.block 1 (.seq (.seq (.ops [⟨some 41,none,.mov (t 7)⟩,
  ⟨some 42,none,.mov (t 10)⟩,⟨some 43,none,.idxL 1 (t 41) (t 42)⟩,⟨some 44,none,.load1 (t 43)⟩,⟨some 45,none,.bin .gtr (t 44) (ci 255)⟩])
 (.cond (t 45) (.seq (.ops [⟨some 4,none,.mov (.const (.string ⟨#[]⟩))⟩,⟨some 5,none,.mov (ci 24)⟩])
 .ret)
 .skip))
 (.ops [⟨some 46,none,.mov (t 9)⟩,⟨some 47,none,.mov (t 7)⟩,
  ⟨some 48,none,.mov (t 10)⟩,⟨some 49,none,.idxL 1 (t 47) (t 48)⟩,⟨some 50,none,.load1 (t 49)⟩,⟨some 51,none,.conv .u8 (t 50)⟩,⟨some 52,none,.bslice 1 [.int .u8 0] 1 [(0,1,(t 51))]⟩,⟨some 53,none,.app 1 1 (t 46) (t 52)⟩,
  ⟨some 9,none,.mov (t 53)⟩])))
 (.ops [⟨some 39,none,.mov (t 10)⟩,⟨some 40,none,.bin .add (t 39) (ci 1)⟩,⟨some 10,none,.mov (t 40)⟩]))))))
 (.seq (.ops [⟨some 54,none,.mov (t 9)⟩,⟨some 55,none,.b2s (t 54)⟩,⟨some 4,none,.mov (t 55)⟩,⟨some 5,none,.mov (ci 0)⟩])
 .ret))))))))),[.tmp 4,.tmp 5]⟩
end Qk

/-
  Chapter 57: the reference's code points of UTF-16.
-/
namespace Qk
open Go Go.RowKit

def UI (s : List UInt8) (cs : List Nat) (i : Nat) : Prop := 2 ≤ i ∧ i ≤ s.length ∧ (s.length - i) % 2 = 0 ∧ cs.length ≤ i ∧ utf16P s = (cs ++ (surrP (wordsF (s.drop i))).1,(surrP (wordsF (s.drop i))).2)
/-- What a unit gives, and where it ends. -/
def UJ (s : List UInt8) (i : Nat) (j c : Nat) : Prop := i ≤ j ∧ j + 2 ≤ s.length ∧ (s.length - j) % 2 = 0 ∧ c < 1114112 ∧ surrP (wordsF (s.drop i)) = if Sc c then (c :: (surrP (wordsF (s.drop (j + 2)))).1,(surrP (wordsF (s.drop (j + 2)))).2) else ([],false)

theorem UI_start {s : List UInt8} (h0 : s ≠ []) (h : ¬ ((s.length < 4 ∨ s.length % 2 = 1) ∨ s.take 2 ≠ [255,254])) : UI s [] 2 := by
 have h4 : ¬ s.length < 4 := fun e => h (.inl (.inl e))
 have h2 : ¬ s.length % 2 = 1 := fun e => h (.inl (.inr e))
 refine ⟨Nat.le_refl 2,by omega,by omega,Nat.zero_le _,?_⟩
 unfold utf16P
 rw [if_neg h0,if_neg h]
 rfl
theorem UI_words {s : List UInt8} {cs : List Nat} {i : Nat} (h : UI s cs i) (hlt : i < s.length) : i + 2 ≤ s.length ∧ wordsF (s.drop i) = wordAt s i :: wordsF (s.drop (i + 2)) := by
 obtain ⟨_,_,h3,_,_⟩ := h
 exact ⟨by omega,wordsF_step (by omega) h3⟩
theorem UJ_plain {s : List UInt8} {cs : List Nat} {i : Nat} (h : UI s cs i) (hlt : i < s.length) (hw : ¬ (55296 ≤ wordAt s i ∧ wordAt s i < 56320)) : UJ s i i (wordAt s i) := by
 have h1 := UI_words h hlt
 have h2 := wordAt_lt s i
 obtain ⟨_,_,h3,_,_⟩ := h
 refine ⟨Nat.le_refl i,h1.1,h3,by omega,?_⟩
 rw [h1.2,surrP_cons,if_neg hw]
theorem UI_bad {s : List UInt8} {cs : List Nat} {i : Nat} (h : UI s cs i) (e : surrP (wordsF (s.drop i)) = ([],false)) : utf16P s = (cs,false) := by
 obtain ⟨_,_,_,_,h5⟩ := h
 rw [h5,e,List.append_nil]
theorem U_end {s : List UInt8} {cs : List Nat} {i : Nat} (h : UI s cs i) (hlt : i < s.length) (hw : 55296 ≤ wordAt s i ∧ wordAt s i < 56320) (he : s.length ≤ i + 2) : surrP (wordsF (s.drop i)) = ([],false) := by
 have h1 := UI_words h hlt
 have e : s.drop (i + 2) = [] := List.drop_eq_nil_of_le he
 rw [h1.2,e,wordsF_nil,surrP_cons,if_pos hw]
theorem U_low {s : List UInt8} {cs : List Nat} {i : Nat} (h : UI s cs i) (hlt : i + 2 < s.length) (hw : 55296 ≤ wordAt s i ∧ wordAt s i < 56320) (hd : wordAt s (i + 2) < 56320 ∨ 57343 < wordAt s (i + 2)) : surrP (wordsF (s.drop i)) = ([],false) := by
 have h1 := UI_words h (by omega)
 obtain ⟨_,_,h3,_,_⟩ := h
 rw [h1.2,wordsF_step (by omega) (by omega),surrP_cons,if_pos hw]
 dsimp only
 rw [if_pos hd]
theorem UJ_pair {s : List UInt8} {cs : List Nat} {i : Nat} (h : UI s cs i) (hlt : i + 2 < s.length) (hw : 55296 ≤ wordAt s i ∧ wordAt s i < 56320) (hd : ¬ (wordAt s (i + 2) < 56320 ∨ 57343 < wordAt s (i + 2))) : UJ s i (i + 2) (65536 + (wordAt s i - 55296) * 1024 + wordAt s (i + 2) - 56320) := by
 have h1 := UI_words h (by omega)
 obtain ⟨_,_,h3,_,_⟩ := h
 refine ⟨by omega,by omega,by omega,by omega,?_⟩
 rw [h1.2,wordsF_step (i := i + 2) (by omega) (by omega),surrP_cons,if_pos hw]
 dsimp only
 rw [if_neg hd,if_pos (by unfold Sc; omega)]
theorem UJ_bad {s : List UInt8} {i j c : Nat} (h : UJ s i j c) (hc : ¬ Sc c) : surrP (wordsF (s.drop i)) = ([],false) := by
 obtain ⟨_,_,_,_,h5⟩ := h
 rw [h5,if_neg hc]
theorem UJ_next {s : List UInt8} {cs : List Nat} {i j c : Nat} (h : UI s cs i) (hj : UJ s i j c) (hc : Sc c) : UI s (cs ++ [c]) (j + 2) := by
 obtain ⟨h1,h2,h3,h4,h5⟩ := h
 obtain ⟨g1,g2,g3,_,g4⟩ := hj
 refine ⟨by omega,g2,by omega,by rw [List.length_append]; show cs.length + 1 ≤ _; omega,?_⟩
 rw [h5,g4,if_pos hc]
 simp

theorem u16_res {s : List UInt8} {cs : List Nat} {b : Bool} (he : utf16P s = (cs,b)) : AV.tup [listN cs,.bool b] = C_quiltref57_utf16.res s := by
 show AV.tup [listN cs,.bool b] = AV.tup [listN (utf16P s).1,.bool (utf16P s).2]
 rw [he]

def US (s : List UInt8) (cs : List Nat) (i : Nat) : St := mks [(0,.str s),(4,.sl 0 0 cs.length),(5,.int .i64 i)] [(0,.ls false 1 (intsN cs))] 1
def US1 (s : List UInt8) (cs : List Nat) (j : Nat) (c : Int) : St := mks [(0,.str s),(4,.sl 0 0 cs.length),(5,.int .i64 j),(6,.int .i64 c)] [(0,.ls false 1 (intsN cs))] 1

end Qk

/-
  Chapter 57: the walk through the reference's UTF-16.
-/
namespace Qk
open Go Go.RowKit

set_option maxRecDepth 4000 in
theorem d_utf16 : Does ir_quiltref57_utf16 C_quiltref57_utf16 := by
 intro (s : List UInt8) hs
 replace hs : s.length ≤ 1000000000 := hs
 show awp _ _ _ (entry [.str s])
 by_cases h0 : s = []
 ·refine cond_t (show decide (s = (ByteArray.mk #[]).data.toList) = true from dec_t h0) ?_
  exact ⟨_,ret_sub (cs := []) (b := true) rfl rfl rfl (Nat.le_refl 1),u16_res (if_pos h0)⟩
 refine cond_f (show decide (s = (ByteArray.mk #[]).data.toList) = false from dec_f h0) ?_
 have tm : (s.length : Int).tmod 2 = ((s.length % 2 : Nat) : Int) := tmN _ 2
 have bad : (s.length < 4 ∨ s.length % 2 = 1) ∨ s.take 2 ≠ [255,254] → utf16P s = ([],false) := fun h => by unfold utf16P; rw [if_neg h0,if_pos h]
 by_cases h4 : s.length < 4
 ·have A1 : decide ((s.length : Int) < 4) = true := dec_t (by omega)
  repeat ((conv => whnf); first | refine cond_t (by first | (simp only [A1,eq_self]; done) | fail) ?_ | refine cond_f (by first | (simp only [A1,cond_true,cond_false,Bool.not_true,Bool.not_false,eq_self,decide_true,decide_false]; done) | fail) ?_ | refine And.intro (by omega) ?_ | refine And.intro ⟨rfl,by omega,by omega⟩ ?_ | refine And.intro ⟨rfl,by decide,by omega,by omega⟩ ?_)
  exact ⟨_,ret_sub (cs := []) (b := false) rfl rfl rfl (Nat.le_refl 1),u16_res (bad (.inl (.inl h4)))⟩
 have A1 : decide ((s.length : Int) < 4) = false := dec_f (by omega)
 by_cases h2 : s.length % 2 = 1
 ·have A2 : decide ((s.length : Int).tmod 2 = 1) = true := dec_t (by omega)
  repeat ((conv => whnf); first | refine cond_t (by first | (simp only [A1, A2,cond_false,eq_self]; done) | fail) ?_ | refine cond_f (by first | (simp only [A1, eq_self]; done) | fail) ?_ | refine And.intro (by omega) ?_ | refine And.intro ⟨rfl,by omega,by omega⟩ ?_ | refine And.intro ⟨rfl,by decide,by omega,by omega⟩ ?_)
  exact ⟨_,ret_sub (cs := []) (b := false) rfl rfl rfl (Nat.le_refl 1),u16_res (bad (.inl (.inr h2)))⟩
 have A2 : decide ((s.length : Int).tmod 2 = 1) = false := dec_f (by omega)
 have A12 : (bif decide ((s.length : Int) < 4) then true else decide ((s.length : Int).tmod 2 = 1)) = false := by rw [A1,A2]; rfl
 refine cond_f A1 ?_
 refine cond_f A1 ?_
 refine cond_f A1 ?_
 refine And.intro (by decide) ?_
 refine cond_f A1 ?_
 refine cond_f A12 ?_
 refine cond_f A12 ?_
 refine And.intro ⟨by decide,by decide,by omega⟩ ?_
 refine cond_f A12 ?_
 by_cases h3 : s.take 2 = [255,254]
 case neg =>
  refine cond_t (show (bif (bif decide ((s.length : Int) < 4) then true else decide ((s.length : Int).tmod 2 = 1)) then true else !decide (s.take 2 = [255,254])) = true by rw [A12,decide_eq_false h3]; rfl) ?_
  exact ⟨_,ret_sub (cs := []) (b := false) rfl rfl rfl (Nat.le_refl 1),u16_res (bad (.inr h3))⟩
 refine cond_f (show (bif (bif decide ((s.length : Int) < 4) then true else decide ((s.length : Int).tmod 2 = 1)) then true else !decide (s.take 2 = [255,254])) = false by rw [A12,decide_eq_true h3]; rfl) ?_
 refine ⟨List Nat × Nat,fun x => UI s x.1 x.2,fun x => US s x.1 x.2,fun x => s.length - x.2,([],2),UI_start h0 (fun h => h.elim (fun h => h.elim h4 h2) (fun h => h h3)),?_,?_⟩
 ·show SubSt _ _ (US s [] 2)
  refine sub_ren [0] rfl (by decide) ⟨⟨_,rfl,rfl⟩,⟨_,rfl,⟨0,rfl,eSl ?_⟩⟩,⟨_,rfl,rfl⟩,trivial⟩ ⟨⟨0,_,rfl,rfl,?_⟩,trivial⟩
  ·rfl
  ·exact ⟨_,rfl,eN (nnl_intsN _) rfl⟩
 ·rintro ⟨cs,i⟩ hI
  have hI : UI s cs i := hI
  obtain ⟨hi2,hi,hpar,hci,hu⟩ := id hI
  show awp _ _ _ (US s cs i)
  refine cond_split (fun h => ?_) (fun h => ?_)
  ·have hT : (i : Int) < s.length := of_decide_eq_true h
   have hlt : i < s.length := by omega
   have hw2 := (UI_words hI hlt).1
   have b1 := (s.getD (i : Int).toNat 0).toNat_lt
   have b2 := (s.getD ((i : Int) + 1).toNat 0).toNat_lt
   have e1 : (i : Int).toNat = i := Int.toNat_natCast i
   have e2 : ((i : Int) + 1).toNat = i + 1 := by omega
   have hwl := wordAt_lt s i
   obtain ⟨w,hw⟩ : ∃ w,w = wordAt s i := ⟨_,rfl⟩
   obtain ⟨W,hWw⟩ : ∃ W : Int,W = (w : Int) := ⟨_,rfl⟩
   have hW : ((s.getD (i : Int).toNat 0).toNat : Int) + 256 * ((s.getD ((i : Int) + 1).toNat 0).toNat : Int) = W := by
    rw [hWw,hw,wordAt,e1,e2]; simp
   rw [← hw] at hwl
   refine And.intro ⟨by omega,by omega⟩ ?_
   refine And.intro ⟨by omega,by omega⟩ ?_
   refine And.intro ⟨by omega,by omega⟩ ?_
   refine And.intro ⟨by omega,by omega⟩ ?_
   refine And.intro ⟨by omega,by omega⟩ ?_
   refine And.intro ⟨by omega,by omega⟩ ?_
   refine And.intro ⟨by omega,by omega⟩ ?_
   rewrite [hW]
   refine jn_at (X := Nat × Nat) (fun x => US1 s cs x.1 x.2) (fun x => UJ s i x.1 x.2) ?_ ?_
   ·by_cases hhi : 55296 ≤ wordAt s i ∧ wordAt s i < 56320
    ·have hhi' := hhi
     rw [← hw] at hhi'
     have B1 : decide ((55296 : Int) ≤ W) = true := dec_t (by omega)
     have B2 : decide (W < 56320) = true := dec_t (by omega)
     refine cond_t B1 ?_
     refine cond_t B1 ?_
     refine cond_t (show (bif decide ((55296 : Int) ≤ W) then decide (W < 56320) else false) = true by rw [B1,B2]; rfl) ?_
     refine And.intro ⟨by omega,by omega⟩ ?_
     by_cases hend : s.length ≤ i + 2
     ·refine cond_t (dec_t (show (s.length : Int) ≤ (i : Int) + 2 by omega)) ?_
      exact ⟨_,ret_sub (cs := cs) (b := false) rfl rfl rfl (Nat.le_refl 1),u16_res (UI_bad hI (U_end hI hlt hhi hend))⟩
     refine cond_f (dec_f (show ¬ (s.length : Int) ≤ (i : Int) + 2 by omega)) ?_
     have b3 := (s.getD ((i : Int) + 2).toNat 0).toNat_lt
     have b4 := (s.getD ((i : Int) + 2 + 1).toNat 0).toNat_lt
     have e3 : ((i : Int) + 2).toNat = i + 2 := by omega
     have e4 : ((i : Int) + 2 + 1).toNat = i + 2 + 1 := by omega
     have hdl := wordAt_lt s (i + 2)
     obtain ⟨d,hd⟩ : ∃ d,d = wordAt s (i + 2) := ⟨_,rfl⟩
     obtain ⟨D,hDd⟩ : ∃ D : Int,D = (d : Int) := ⟨_,rfl⟩
     have hD : ((s.getD ((i : Int) + 2).toNat 0).toNat : Int) + 256 * ((s.getD ((i : Int) + 2 + 1).toNat 0).toNat : Int) = D := by
      rw [hDd,hd,wordAt,e3,e4]; simp
     rw [← hd] at hdl
     refine And.intro ⟨by omega,by omega⟩ ?_
     refine And.intro ⟨by omega,by omega⟩ ?_
     refine And.intro ⟨by omega,by omega⟩ ?_
     refine And.intro ⟨by omega,by omega⟩ ?_
     refine And.intro ⟨by omega,by omega⟩ ?_
     refine And.intro ⟨by omega,by omega⟩ ?_
     refine And.intro ⟨by omega,by omega⟩ ?_
     rewrite [hD]
     by_cases hlo : wordAt s (i + 2) < 56320 ∨ 57343 < wordAt s (i + 2)
     ·have hB := UI_bad hI (U_low hI (by omega) hhi hlo)
      rw [← hd] at hlo
      by_cases hl1 : d < 56320
      ·have C1 : decide (D < 56320) = true := dec_t (by omega)
       repeat ((conv => whnf); first | refine cond_t (by first | (simp only [C1,eq_self]; done) | fail) ?_ | refine cond_f (by first | (simp only [C1,cond_true,cond_false,Bool.not_true,Bool.not_false,eq_self,decide_true,decide_false]; done) | fail) ?_ | refine And.intro (by omega) ?_ | refine And.intro ⟨rfl,by omega,by omega⟩ ?_ | refine And.intro ⟨rfl,by decide,by omega,by omega⟩ ?_)
       exact ⟨_,ret_sub (cs := cs) (b := false) rfl rfl rfl (Nat.le_refl 1),u16_res hB⟩
      ·have C1 : decide (D < 56320) = false := dec_f (by omega)
       have C2 : decide ((57343 : Int) < D) = true := dec_t (by omega)
       repeat ((conv => whnf); first | refine cond_t (by first | (simp only [C1, C2,cond_false,eq_self]; done) | fail) ?_ | refine cond_f (by first | (simp only [C1, eq_self]; done) | fail) ?_ | refine And.intro (by omega) ?_ | refine And.intro ⟨rfl,by omega,by omega⟩ ?_ | refine And.intro ⟨rfl,by decide,by omega,by omega⟩ ?_)
       exact ⟨_,ret_sub (cs := cs) (b := false) rfl rfl rfl (Nat.le_refl 1),u16_res hB⟩
     ·have hJ := UJ_pair hI (by omega) hhi hlo
      rw [← hd,← hw] at hJ
      rw [← hd] at hlo
      have C1 : decide (D < 56320) = false := dec_f (by omega)
      have C2 : decide ((57343 : Int) < D) = false := dec_f (by omega)
      repeat ((conv => whnf); first | refine cond_t (by first | (simp only [C1, C2,cond_false]; done) | fail) ?_ | refine cond_f (by first | (simp only [C1, C2,cond_false,eq_self]; done) | fail) ?_ | refine And.intro (by omega) ?_ | refine And.intro ⟨rfl,by omega,by omega⟩ ?_ | refine And.intro ⟨rfl,by decide,by omega,by omega⟩ ?_)
      refine ⟨(i + 2,65536 + (w - 55296) * 1024 + d - 56320),hJ,?_⟩
      show SubSt _ _ (US1 s cs (i + 2) ((65536 + (w - 55296) * 1024 + d - 56320 : Nat) : Int))
      refine sub_ren [0] rfl (by decide) ⟨⟨_,rfl,rfl⟩,⟨_,rfl,⟨0,rfl,eSl ?_⟩⟩,⟨_,rfl,eI (by omega)⟩,⟨_,rfl,eI (by omega)⟩,trivial⟩ ⟨⟨0,_,rfl,rfl,?_⟩,trivial⟩
      ·rfl
      ·exact ⟨_,rfl,eN (nnl_intsN _) rfl⟩
    ·have hJ := UJ_plain hI hlt hhi
     rw [← hw] at hJ hhi
     by_cases hh1 : 55296 ≤ w
     ·have B1 : decide ((55296 : Int) ≤ W) = true := dec_t (by omega)
      have B2 : decide (W < 56320) = false := dec_f (by omega)
      repeat ((conv => whnf); first | refine cond_t (by first | (simp only [B1, B2,cond_true,eq_self]; done) | fail) ?_ | refine cond_f (by first | (simp only [B1, B2,cond_true,eq_self]; done) | fail) ?_ | refine And.intro (by omega) ?_ | refine And.intro ⟨rfl,by omega,by omega⟩ ?_ | refine And.intro ⟨rfl,by decide,by omega,by omega⟩ ?_)
      refine ⟨(i,w),hJ,?_⟩
      show SubSt _ _ (US1 s cs i w)
      refine sub_ren [0] rfl (by decide) ⟨⟨_,rfl,rfl⟩,⟨_,rfl,⟨0,rfl,eSl ?_⟩⟩,⟨_,rfl,rfl⟩,⟨_,rfl,eI (by omega)⟩,trivial⟩ ⟨⟨0,_,rfl,rfl,?_⟩,trivial⟩
      ·rfl
      ·exact ⟨_,rfl,eN (nnl_intsN _) rfl⟩
     ·have B1 : decide ((55296 : Int) ≤ W) = false := dec_f (by omega)
      repeat ((conv => whnf); first | refine cond_t (by first | (simp only [B1]; done) | fail) ?_ | refine cond_f (by first | (simp only [B1,eq_self]; done) | fail) ?_ | refine And.intro (by omega) ?_ | refine And.intro ⟨rfl,by omega,by omega⟩ ?_ | refine And.intro ⟨rfl,by decide,by omega,by omega⟩ ?_)
      refine ⟨(i,w),hJ,?_⟩
      show SubSt _ _ (US1 s cs i w)
      refine sub_ren [0] rfl (by decide) ⟨⟨_,rfl,rfl⟩,⟨_,rfl,⟨0,rfl,eSl ?_⟩⟩,⟨_,rfl,rfl⟩,⟨_,rfl,eI (by omega)⟩,trivial⟩ ⟨⟨0,_,rfl,rfl,?_⟩,trivial⟩
      ·rfl
      ·exact ⟨_,rfl,eN (nnl_intsN _) rfl⟩
   ·rintro ⟨j,c⟩ hJ
    have hJ : UJ s i j c := hJ
    obtain ⟨hj1,hj2,hj3,hcl, -⟩ := id hJ
    obtain ⟨C,hC⟩ : ∃ C : Int,C = (c : Int) := ⟨_,rfl⟩
    show awp _ _ _ (US1 s cs j (c : Int))
    rewrite [← hC]
    refine ⟨C,rfl,trivial,?_⟩
    refine (Classical.em (Sc c)).elim (fun hsc => ?_) (fun hsc => ?_)
    ·have V : (!scB C) = false := by rw [hC,scB_t hsc]; rfl
     refine cond_f V ?_
     refine And.intro ⟨(show (0 : Nat) ≠ 1 by decide),rfl,rfl,rfl,(show _ = cs.length * 1 by rw [intsN_len]; omega),(show (0 + 1) * 1 ≤ 1 by decide),(show AllOne [AV.int .i64 C] from allOne1' rfl),(show (cs.length + 1) * 8 ≤ 140737488355328 by omega)⟩ ⟨_,rfl,?_⟩
     refine And.intro ⟨by omega,by omega⟩ ?_
     have hn := UJ_next hI hJ hsc
     refine ⟨(cs ++ [c],j + 2),hn,(show s.length - (j + 2) < s.length - i by omega),?_⟩
     show SubSt _ _ (US s (cs ++ [c]) (j + 2))
     refine sub_ren [2] rfl (by decide) ⟨⟨_,rfl,rfl⟩,⟨_,rfl,⟨2,rfl,eSl ?_⟩⟩,⟨_,rfl,eI (by omega)⟩,trivial⟩ ⟨⟨2,_,rfl,rfl,?_⟩,trivial⟩
     ·show cs.length + 1 = (cs ++ [c]).length; rw [List.length_append]; rfl
     ·exact ⟨_,rfl,eN (nnl_intsN _) (by rw [intsN_app]; show intsN cs ++ [AV.int .i64 C] = _; rw [hC]; rfl)⟩
    ·have V : (!scB C) = true := by rw [hC,scB_f hsc]; rfl
     refine cond_t V ?_
     exact ⟨_,ret_sub (cs := cs) (b := false) rfl rfl rfl (Nat.le_refl 1),u16_res (UI_bad hI (UJ_bad hJ hsc))⟩
  ·have hF : ¬ (i : Int) < s.length := of_decide_eq_false h
   have he : i = s.length := by omega
   have hd : s.drop i = [] := by rw [he,List.drop_length]
   rw [hd] at hu
   exact ⟨_,ret_sub (cs := cs) (b := true) rfl rfl rfl (Nat.le_refl 1),u16_res (by rw [hu]; show (cs ++ [],true) = (cs,true); rw [List.append_nil])⟩

end Qk

/-
  Chapter 57: the reference's Decode and Encode, and the law that both codings are the reference's.
-/
namespace Qk
open Go Go.RowKit

theorem ref_why {n : Int} {l : List UInt8} {r : Int} (h : (if n < 1 ∨ 3 < n then 8 else if 65536 < l.length then 4 else 0 : Int) = r) :
  (r = 0 ∧ ¬ (n < 1 ∨ 3 < n) ∧ l.length ≤ 65536) ∨ (r ≠ 0 ∧ decodeS n l = ([],r) ∧ encodeS n l = ([],r)) := by
 by_cases h1 : n < 1 ∨ 3 < n
 ·rw [if_pos h1] at h
  subst h
  exact .inr ⟨by decide,decode_far h1,encode_far h1⟩
 rw [if_neg h1] at h
 by_cases h2 : 65536 < l.length
 ·rw [if_pos h2] at h
  subst h
  exact .inr ⟨by decide,decode_big h1 h2,encode_big h1 h2⟩
 ·rw [if_neg h2] at h
  subst h
  exact .inl ⟨rfl,h1,by omega⟩

def TS (n : Int) (l : List UInt8) (cs : List Nat) (b : Bool) : St := mks [(0,.int .i64 n),(1,.str l),(7,listN cs),(8,.bool b)] [] 0

set_option maxRecDepth 4000 in
theorem d_rDecode : Does ir_quiltref57_Decode C_quiltref57_Decode := by
 rintro ⟨n,l⟩ hl
 replace hl : l.length ≤ 1000000000 := hl
 show awp _ _ _ (entry [.int .i64 n,.str l])
 obtain ⟨r,hr⟩ : ∃ r,(if n < 1 ∨ 3 < n then 8 else if 65536 < l.length then 4 else 0 : Int) = r := ⟨_,rfl⟩
 have res : C_quiltref57_refused.res (n,l) = .int .i64 r := by rw [← hr]; rfl
 refine ⟨(n,l),rfl,trivial,?_⟩
 rewrite [res]
 rcases ref_why hr with ⟨h0,hn,h65⟩ | ⟨h0,hd, -⟩
 case inr =>
  refine cond_t (show (!decide (r = 0)) = true by rw [decide_eq_false h0]; rfl) ?_
  refine ⟨_,(by first | exact SubSt.refl _ | exact SubTop.refl _),?_⟩
  show tupS ([],r) = tupS (decodeS n l)
  rw [hd]
 refine cond_f (show (!decide (r = 0)) = false by rw [decide_eq_true h0]; rfl) ?_
 refine ⟨l,rfl,hl,?_⟩
 refine jn_at (X := Unit) (fun _ => bif decide (n = 1) then TS n l (preL l) (Lib.validD l) else TS n l (l.map UInt8.toNat) true) (fun _ => True) ?_ ?_
 ·by_cases h1 : n = 1
  ·refine cond_t (dec_t h1) ?_
   refine ⟨l,rfl,hl,?_⟩
   refine ⟨_,rfl,?_⟩
   refine ⟨_,rfl,?_⟩
   refine ⟨(),trivial,?_⟩
   rw [decide_eq_true h1]
   exact sub_to ⟨rfl,rfl,rfl,rfl,trivial⟩ rfl (Nat.le_refl 0)
  ·refine cond_f (dec_f h1) ?_
   refine ⟨(),trivial,?_⟩
   rw [decide_eq_false h1]
   exact sub_to ⟨rfl,rfl,rfl,rfl,trivial⟩ rfl (Nat.le_refl 0)
 ·rintro - -
  obtain ⟨cs,b,hcb,h3⟩ : ∃ cs b,(bif decide (n = 1) then TS n l (preL l) (Lib.validD l) else TS n l (l.map UInt8.toNat) true) = TS n l cs b ∧ (n ≠ 3 → decodeS n l = decP (cs,b) ∧ cs.length ≤ 1000000000 ∧ (b = true → ∀ c ∈ cs,Sc c)) := by
   by_cases h1 : n = 1
   ·refine ⟨preL l,Lib.validD l,by rw [decide_eq_true h1]; rfl,fun _ => ⟨by rw [h1]; exact decode_1 h65,?_,fun hv => (pre_valid hv).2.1⟩⟩
    have := pre_le l
    omega
   ·refine ⟨l.map UInt8.toNat,true,by rw [decide_eq_false h1]; rfl,fun h3 => ⟨?_,by rw [List.length_map]; omega,fun _ => latin_sc l⟩⟩
    have h2 : n = 2 := by omega
    rw [h2]; exact decode_2 h65
  rw [hcb]
  refine jn_at (X := List Nat × Bool) (fun x => TS n l x.1 x.2) (fun x => decodeS n l = decP x ∧ x.1.length ≤ 1000000000 ∧ (x.2 = true → ∀ c ∈ x.1,Sc c)) ?_ ?_
  ·by_cases h : n = 3
   ·refine cond_t (dec_t h) ?_
    refine ⟨l,rfl,hl,?_⟩
    refine ⟨_,rfl,?_⟩
    refine ⟨_,rfl,?_⟩
    have hul := utf16P_len l
    refine ⟨utf16P l,⟨by rw [h]; exact decode_3 h65,by omega,fun hv => utf16P_sc hv⟩,?_⟩
    exact sub_to ⟨rfl,rfl,rfl,rfl,trivial⟩ rfl (Nat.le_refl 0)
   ·refine cond_f (dec_f h) ?_
    refine ⟨(cs,b),h3 h,?_⟩
    exact sub_to ⟨rfl,rfl,rfl,rfl,trivial⟩ rfl (Nat.le_refl 0)
  ·rintro ⟨cs,b⟩ ⟨hd,hcl,hsc⟩
   show awp _ _ _ (TS n l cs b)
   cases b with
   | false =>
    refine ⟨_,(by first | exact SubSt.refl _ | exact SubTop.refl _),?_⟩
    show tupS ([],24) = tupS (decodeS n l)
    rw [hd]; rfl
   | true =>
    refine ⟨cs,rfl,⟨hcl,hsc rfl⟩,?_⟩
    refine ⟨txt cs,rfl,trivial,?_⟩
    refine ⟨_,rfl,?_⟩
    refine ⟨_,rfl,?_⟩
    refine ⟨_,(by first | exact SubSt.refl _ | exact SubTop.refl _),?_⟩
    show tupS (if 65536 < (txt cs).length then ([],4) else (txt cs,0)) = tupS (decodeS n l)
    rw [hd]; rfl

set_option maxRecDepth 4000 in
theorem d_rEncode : Does ir_quiltref57_Encode C_quiltref57_Encode := by
 rintro ⟨n,l⟩ hl
 replace hl : l.length ≤ 1000000000 := hl
 show awp _ _ _ (entry [.int .i64 n,.str l])
 obtain ⟨r,hr⟩ : ∃ r,(if n < 1 ∨ 3 < n then 8 else if 65536 < l.length then 4 else 0 : Int) = r := ⟨_,rfl⟩
 have res : C_quiltref57_refused.res (n,l) = .int .i64 r := by rw [← hr]; rfl
 refine ⟨(n,l),rfl,trivial,?_⟩
 rewrite [res]
 rcases ref_why hr with ⟨h0,hn,h65⟩ | ⟨h0, -,hd⟩
 case inr =>
  refine cond_t (show (!decide (r = 0)) = true by rw [decide_eq_false h0]; rfl) ?_
  refine ⟨_,(by first | exact SubSt.refl _ | exact SubTop.refl _),?_⟩
  show tupS ([],r) = tupS (encodeS n l)
  rw [hd]
 refine cond_f (show (!decide (r = 0)) = false by rw [decide_eq_true h0]; rfl) ?_
 refine ⟨l,rfl,hl,?_⟩
 refine ⟨_,rfl,?_⟩
 refine ⟨_,rfl,?_⟩
 rcases Bool.eq_false_or_eq_true (Lib.validD l) with hv | hv
 case inr =>
  refine cond_t (show (!Lib.validD l) = true by rw [hv]; rfl) ?_
  refine ⟨_,(by first | exact SubSt.refl _ | exact SubTop.refl _),?_⟩
  show tupS ([],24) = tupS (encodeS n l)
  rw [encode_no hn h65 hv]
 refine cond_f (show (!Lib.validD l) = false by rw [hv]; rfl) ?_
 have hp := pre_valid hv
 have hpl := pre_len l hv
 by_cases h1 : n = 1
 ·refine cond_t (dec_t h1) ?_
  refine ⟨_,(by first | exact SubSt.refl _ | exact SubTop.refl _),?_⟩
  show tupS (l,0) = tupS (encodeS n l)
  rw [h1,encode_1 h65 hv]
 refine cond_f (dec_f h1) ?_
 by_cases h3 : n = 3
 ·refine cond_t (dec_t h3) ?_
  refine ⟨preL l,rfl,⟨by omega,hp.2.1⟩,?_⟩
  refine ⟨_,rfl,trivial,?_⟩
  refine ⟨_,rfl,?_⟩
  refine ⟨_,rfl,?_⟩
  refine ⟨_,(by first | exact SubSt.refl _ | exact SubTop.refl _),?_⟩
  show tupS (limP (if preL l = [] then [] else 255 :: 254 :: (preL l).flatMap wide)) = tupS (encodeS n l)
  rw [h3,encode_3 h65 hv]
 refine cond_f (dec_f h3) ?_
 have h2 : n = 2 := by omega
 have henc := encode_2 h65 hv
 obtain ⟨cs,hcs⟩ : ∃ cs,cs = preL l := ⟨_,rfl⟩
 rw [← hcs] at henc hpl
 refine ⟨Nat,fun k => k ≤ cs.length ∧ (cs.take k).all (fun c => Nat.ble c 255) = true,fun k => mks [(7,listN cs),(9,.sl 0 0 k),(10,.int .i64 k)] [(0,.ls false 1 (bys ((cs.take k).map Nat.toUInt8)))] 1,fun k => cs.length - k,0,⟨Nat.zero_le _,rfl⟩,?_,?_⟩
 ·rw [hcs]
  refine sub_ren [0] rfl (by decide) ⟨⟨_,rfl,rfl⟩,⟨_,rfl,⟨0,rfl,eSl ?_⟩⟩,⟨_,rfl,rfl⟩,trivial⟩ ⟨⟨0,_,rfl,rfl,?_⟩,trivial⟩
  ·rfl
  ·exact ⟨_,rfl,eN (nnl_bys _) rfl⟩
 ·rintro k ⟨hk,hall⟩
  show awp _ _ _ (mks [(7,.ilist 1 cs.length (intsN cs)),(9,.sl 0 0 k),(10,.int .i64 k)] [(0,.ls false 1 (bys ((cs.take k).map Nat.toUInt8)))] 1)
  refine cond_split (fun h => ?_) (fun h => ?_)
  ·have hT : (k : Int) < cs.length := of_decide_eq_true h
   have hlt : k < cs.length := by omega
   obtain ⟨c,hcd⟩ : ∃ c,c = cs.getD k 0 := ⟨_,rfl⟩
   have hcell : (intsN cs)[(k : Int).toNat * 1]? = some (.int .i64 (c : Int)) := by rw [Int.toNat_natCast,Nat.mul_one,hcd]; exact intsN_get hlt
   refine And.intro ⟨rfl,by decide,by omega,by omega⟩ ?_
   refine ⟨_,hcell,?_⟩
   have hsn : (cs.take (k + 1)).all (fun c => Nat.ble c 255) = ((cs.take k).all (fun c => Nat.ble c 255) && Nat.ble c 255) := by
    rw [take_snocN hlt,List.all_append,← hcd]; simp
   by_cases hb : 255 < c
   ·refine cond_t (dec_t (show (255 : Int) < (c : Int) by omega)) ?_
    refine ⟨_,(by first | exact SubSt.refl _ | exact SubTop.refl _),?_⟩
    show tupS ([],24) = tupS (encodeS n l)
    have hf : cs.all (fun c => Nat.ble c 255) = false := by
     have h5 : cs.all (fun c => Nat.ble c 255) = ((cs.take (k + 1)).all (fun c => Nat.ble c 255) && (cs.drop (k + 1)).all (fun c => Nat.ble c 255)) := by
      rw [← List.all_append,List.take_append_drop]
     have h6 : Nat.ble c 255 = false := by
      cases h7 : Nat.ble c 255 with
      | false => rfl
      | true => exact absurd (Nat.le_of_ble_eq_true h7) (by omega)
     rw [h5,hsn,h6]; simp
    rw [h2,henc,hf]; rfl
   ·refine cond_f (dec_f (show ¬ (255 : Int) < (c : Int) by omega)) ?_
    have hcl : ((cs.take k).map Nat.toUInt8).length = k := by rw [List.length_map,List.length_take]; omega
    refine And.intro ⟨rfl,by decide,by omega,by omega⟩ ?_
    refine ⟨_,hcell,?_⟩
    refine And.intro ⟨(show (0 : Nat) ≠ 1 by decide),rfl,rfl,rfl,(show (bys _).length = k * 1 by rw [bys_length,hcl]; omega),(show (0 + 1) * 1 ≤ 1 by decide),(show AllOne [AV.int .u8 ((c : Int) % 256)] from allOne1' rfl),(show (k + 1) * 1 ≤ 140737488355328 by omega)⟩ ⟨_,rfl,?_⟩
    refine And.intro ⟨by omega,by omega⟩ ?_
    refine ⟨k + 1,⟨by omega,by rw [hsn,hall]; exact Nat.ble_eq_true_of_le (by omega)⟩,(show cs.length - (k + 1) < cs.length - k by omega),?_⟩
    refine sub_ren [2] rfl (by decide) ⟨⟨_,rfl,rfl⟩,⟨_,rfl,⟨2,rfl,eSl ?_⟩⟩,⟨_,rfl,eI (by omega)⟩,trivial⟩ ⟨⟨2,_,rfl,rfl,?_⟩,trivial⟩
    ·rfl
    ·refine ⟨_,rfl,eN (nnl_bys _) ?_⟩
     rw [take_snocN hlt,List.map_append,← hcd]
     show bys _ ++ [AV.int .u8 ((c : Int) % 256)] = bys (_ ++ [c.toUInt8])
     rw [cell8 (n := c) (by omega) rfl]
     unfold bys
     rw [List.map_append]
     rfl
  ·have hF : ¬ (k : Int) < cs.length := of_decide_eq_false h
   have he : k = cs.length := by omega
   have hlk : cs.take k = cs := List.take_of_length_le (by omega)
   rw [hlk] at hall
   refine And.intro rfl ⟨cs.map Nat.toUInt8,⟨?_,by rw [List.length_map]; exact he.symm⟩,?_⟩
   ·show ((bys ((cs.take k).map Nat.toUInt8)).drop 0).take k = bys (cs.map Nat.toUInt8)
    rw [hlk,List.drop_zero,List.take_of_length_le (by rw [bys_length,List.length_map]; omega)]
   ·refine ⟨_,(by first | exact SubSt.refl _ | exact SubTop.refl _),?_⟩
    show tupS (cs.map Nat.toUInt8,0) = tupS (encodeS n l)
    rw [h2,henc,hall]; rfl

end Qk
