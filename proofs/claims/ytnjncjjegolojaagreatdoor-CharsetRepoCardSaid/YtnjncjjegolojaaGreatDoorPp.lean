/-
  Chapter 57: the reference of the codings.
-/
import Derived.Test.YtnjncjjegolojaaGreatDoorPg
import Derived.Test.YtnjncjjegolojaaGreatDoorPi
import Derived.Test.YtnjncjjegolojaaGreatDoorPa

/-
  Chapter 57, plain: what the reference reads.
-/
namespace Qk
open Go

/-- The code points ahead of the first error. -/
def preF : Nat → List UInt8 → List Nat
 | 0,_ => []
 | n + 1,l => if l = [] then [] else if Bad l then [] else (Lib.decodeL l).1 :: preF n (l.drop (Lib.decodeL l).2)
def preL (l : List UInt8) : List Nat := preF l.length l
theorem preF_fuel : ∀ (n m : Nat) (l : List UInt8),l.length ≤ n → l.length ≤ m → preF n l = preF m l
 | 0,m,l,hn,_ => by
  have : l = [] := List.eq_nil_of_length_eq_zero (by omega)
  subst this
  cases m <;> simp [preF]
 | n + 1,0,l,_,hm => by
  have : l = [] := List.eq_nil_of_length_eq_zero (by omega)
  subst this
  simp [preF]
 | n + 1,m + 1,l,hn,hm => by
  unfold preF
  have hw := Lib.decodeL_width l
  by_cases hl : l = []
  ·rw [if_pos hl,if_pos hl]
  ·have hp : 0 < l.length := List.length_pos_iff.2 hl
   rw [if_neg hl,if_neg hl,preF_fuel n m _ (by rw [List.length_drop]; omega) (by rw [List.length_drop]; omega)]
theorem preL_step {l : List UInt8} (hl : l ≠ []) (hb : ¬ Bad l) : preL l = (Lib.decodeL l).1 :: preL (l.drop (Lib.decodeL l).2) := by
 have hp : 0 < l.length := List.length_pos_iff.2 hl
 have hw := Lib.decodeL_width l
 obtain ⟨n,hn⟩ : ∃ n,l.length = n + 1 := ⟨l.length - 1,by omega⟩
 unfold preL
 rw [hn]
 show (if l = [] then _ else if Bad l then _ else _) = _
 rw [if_neg hl,if_neg hb,preF_fuel n (l.drop (Lib.decodeL l).2).length _ (by rw [List.length_drop]; omega) (Nat.le_refl _)]
theorem preL_bad {l : List UInt8} (hb : Bad l) : preL l = [] := by
 unfold preL
 cases l.length with
 | zero => rfl
 | succ n => unfold preF; rw [if_pos hb]; split <;> rfl
theorem preL_nil : preL [] = [] := rfl
theorem validD_bad {l : List UInt8} (hl : l ≠ []) (hb : Bad l) : Lib.validD l = false := by
 rw [Lib.validD_step l hl]; exact if_pos hb
theorem validD_good {l : List UInt8} (hl : l ≠ []) (hb : ¬ Bad l) : Lib.validD l = Lib.validD (l.drop (Lib.decodeL l).2) := by
 rw [Lib.validD_step l hl]; exact if_neg hb
theorem pts_pre : ∀ (n : Nat) (l : List UInt8),l.length ≤ n → ∀ cs,pts l = some cs → preL l = cs
 | 0,l,hn,cs,h => by
  have : l = [] := List.eq_nil_of_length_eq_zero (by omega)
  subst this
  cases h; rfl
 | n + 1,l,hn,cs,h => by
  have h2 := pts_some.1 h
  cases cs with
  | nil => rw [h2.2]; rfl
  | cons c cs =>
   have e : l = enc c ++ txt cs := by rw [h2.2]; rfl
   have hs := h2.1 c (by simp)
   have hl : l ≠ [] := by
    rw [e]
    intro h3
    exact enc_ne c (List.append_eq_nil_iff.1 h3).1
   have hb : ¬ Bad l := by rw [e]; exact not_bad hs _
   have hd : Lib.decodeL l = (c,(enc c).length) := by rw [e]; exact dec_enc hs _
   rw [preL_step hl hb,hd]
   have hdrop : l.drop (enc c).length = txt cs := by rw [e,List.drop_left']; rfl
   dsimp only
   rw [hdrop]
   have hp := (enc_len c).1
   have hlen : l.length = (enc c).length + (txt cs).length := by rw [e,List.length_append]
   rw [pts_pre n (txt cs) (by omega) cs (pts_txt fun x hx => h2.1 x (by simp [hx]))]

/-- How many bytes the reference reads at a first byte. -/
def refLen (b : Nat) : Nat := if b < 128 then 1 else if b < 224 then 2 else if b < 240 then 3 else 4
/-- What it puts together of so many bytes. -/
def refC (l : List UInt8) : Nat → Nat
 | 1 => (l.getD 0 0).toNat
 | 2 => (l.getD 0 0).toNat % 32 * 64 + (l.getD 1 0).toNat % 64
 | 3 => ((l.getD 0 0).toNat % 16 * 64 + (l.getD 1 0).toNat % 64) * 64 + (l.getD 2 0).toNat % 64
 | _ => (((l.getD 0 0).toNat % 8 * 64 + (l.getD 1 0).toNat % 64) * 64 + (l.getD 2 0).toNat % 64) * 64 + (l.getD 3 0).toNat % 64

theorem ref_good {c : Nat} (h : Sc c) (r : List UInt8) : refLen ((enc c ++ r).getD 0 0).toNat = (enc c).length ∧ refC (enc c ++ r) (enc c).length = c := by
 by_cases h1 : c < 128
 ·rw [enc_one h1]
  simp only [List.cons_append,List.nil_append,List.getD_cons_zero,List.length_cons,List.length_nil]
  rw [toNat_u8 (by omega)]
  refine ⟨by unfold refLen; rw [if_pos h1],?_⟩
  show ((c.toUInt8 :: r).getD 0 0).toNat = c
  rw [List.getD_cons_zero,toNat_u8 (by omega)]
 ·by_cases h2 : c < 2048
  ·rw [enc_two (by omega) h2]
   simp only [List.cons_append,List.nil_append,List.getD_cons_zero,List.length_cons,List.length_nil]
   rw [toNat_u8 (by omega)]
   refine ⟨by unfold refLen; rw [if_neg (by omega),if_pos (by omega)],?_⟩
   simp only [refC,List.getD_cons_zero,List.getD_cons_succ]
   rw [toNat_u8 (by omega),toNat_u8 (by omega)]
   omega
  ·by_cases h3 : c < 65536
   ·rw [enc_three (by omega) h3 h]
    unfold Sc at h
    simp only [List.cons_append,List.nil_append,List.getD_cons_zero,List.length_cons,List.length_nil]
    rw [toNat_u8 (by omega)]
    refine ⟨by unfold refLen; rw [if_neg (by omega),if_neg (by omega),if_pos (by omega)],?_⟩
    simp only [refC,List.getD_cons_zero,List.getD_cons_succ]
    rw [toNat_u8 (by omega),toNat_u8 (by omega),toNat_u8 (by omega)]
    omega
   ·unfold Sc at h
    rw [enc_four (by omega) (by omega)]
    simp only [List.cons_append,List.nil_append,List.getD_cons_zero,List.length_cons,List.length_nil]
    rw [toNat_u8 (by omega)]
    refine ⟨by unfold refLen; rw [if_neg (by omega),if_neg (by omega),if_neg (by omega)],?_⟩
    simp only [refC,List.getD_cons_zero,List.getD_cons_succ]
    rw [toNat_u8 (by omega),toNat_u8 (by omega),toNat_u8 (by omega),toNat_u8 (by omega)]
    omega

/-- The step of the reference. -/
theorem ref_step {l : List UInt8} (hl : l ≠ []) :
  (¬ Bad l → (Lib.decodeL l).2 = refLen (l.getD 0 0).toNat ∧ refLen (l.getD 0 0).toNat ≤ l.length ∧ refC l (refLen (l.getD 0 0).toNat) = (Lib.decodeL l).1 ∧ Sc (Lib.decodeL l).1 ∧ enc (Lib.decodeL l).1 = l.take (refLen (l.getD 0 0).toNat)) ∧
  (Bad l → refLen (l.getD 0 0).toNat ≤ l.length → Sc (refC l (refLen (l.getD 0 0).toNat)) → enc (refC l (refLen (l.getD 0 0).toNat)) ≠ l.take (refLen (l.getD 0 0).toNat)) := by
 constructor
 ·intro hb
  have e := dec_take hl hb
  have hs := dec_sc hl hb
  obtain ⟨c,hc⟩ : ∃ c,c = (Lib.decodeL l).1 := ⟨_,rfl⟩
  obtain ⟨r,hr⟩ : ∃ r,r = l.drop (Lib.decodeL l).2 := ⟨_,rfl⟩
  rw [← hc,← hr] at e
  rw [← hc] at hs ⊢
  have hd : Lib.decodeL l = (c,(enc c).length) := by rw [e]; exact dec_enc hs _
  have hg := ref_good hs r
  rw [← e] at hg
  rw [hg.1]
  refine ⟨by rw [hd],by rw [e,List.length_append]; omega,hg.2,hs,?_⟩
  rw [e,List.take_left']
  rfl
 ·intro hb hn hs he
  have e : l = enc (refC l (refLen (l.getD 0 0).toNat)) ++ l.drop (refLen (l.getD 0 0).toNat) := by rw [he,List.take_append_drop]
  rw [e] at hb
  exact not_bad hs _ hb

end Qk

/-
  Chapter 57, plain: the codings are inverse to each other.
-/
namespace Qk
open Go

def unitsC (c : Nat) : List Nat := if c < 65536 then [c] else [55296 + (c - 65536) / 1024,56320 + (c - 65536) % 1024]
theorem surr_cons (c : Nat) (r : List Nat) : surr (c :: r) = if 56320 ≤ c ∧ c < 57344 then none else if 55296 ≤ c ∧ c < 56320 then (match r with
   | [] => none
   | d :: r' => if d < 56320 ∨ 57344 ≤ d then none else (surr r').map ((65536 + (c - 55296) * 1024 + d - 56320) :: ·)) else (surr r).map (c :: ·) := by rw [surr.eq_def]; rfl
theorem surr_inv : ∀ (n : Nat) (ws cs : List Nat),ws.length ≤ n → (∀ w ∈ ws,w < 65536) → surr ws = some cs → ws = cs.flatMap unitsC ∧ ∀ c ∈ cs,Sc c
 | _,[],cs,_,_,h => by
  have : cs = [] := by simp [surr] at h; exact h
  subst this
  exact ⟨rfl,fun c hc => by cases hc⟩
 | n + 1,c :: r,cs,hn,hw,h => by
  have hc := hw c (by simp)
  rw [surr_cons] at h
  by_cases h1 : 56320 ≤ c ∧ c < 57344
  ·rw [if_pos h1] at h; cases h
  rw [if_neg h1] at h
  by_cases h2 : 55296 ≤ c ∧ c < 56320
  ·rw [if_pos h2] at h
   cases r with
   | nil => cases h
   | cons d r' =>
    dsimp only at h
    by_cases h3 : d < 56320 ∨ 57344 ≤ d
    ·rw [if_pos h3] at h; cases h
    rw [if_neg h3] at h
    cases hr : surr r' with
    | none => rw [hr] at h; cases h
    | some ds =>
     rw [hr] at h
     cases h
     obtain ⟨e1,e2⟩ := surr_inv n r' ds (by simp at hn; omega) (fun w hx => hw w (by simp [hx])) hr
     refine ⟨?_,?_⟩
     ·have e : unitsC (65536 + (c - 55296) * 1024 + d - 56320) = [c,d] := by
       unfold unitsC
       rw [if_neg (by omega),show 55296 + (65536 + (c - 55296) * 1024 + d - 56320 - 65536) / 1024 = c by omega,show 56320 + (65536 + (c - 55296) * 1024 + d - 56320 - 65536) % 1024 = d by omega]
      rw [List.flatMap_cons,← e1,e]; rfl
     ·intro x hx
      rcases List.mem_cons.1 hx with e | hx
      ·have e' : x = 65536 + (c - 55296) * 1024 + d - 56320 := e
       unfold Sc; omega
      ·exact e2 x hx
  ·rw [if_neg h2] at h
   cases hr : surr r with
   | none => rw [hr] at h; cases h
   | some ds =>
    rw [hr] at h
    cases h
    obtain ⟨e1,e2⟩ := surr_inv n r ds (by simp at hn; omega) (fun w hx => hw w (by simp [hx])) hr
    refine ⟨?_,?_⟩
    ·have e : unitsC c = [c] := if_pos hc
     rw [List.flatMap_cons,← e1,e]; rfl
    ·intro x hx
     rcases List.mem_cons.1 hx with rfl | hx
     ·unfold Sc; omega
     ·exact e2 x hx

theorem latin_sc (l : List UInt8) : ∀ c ∈ l.map UInt8.toNat,Sc c := by
 intro c hc
 obtain ⟨b,_,rfl⟩ := List.mem_map.1 hc
 have := b.toNat_lt
 unfold Sc
 omega
end Qk

/-
  Chapter 57, plain: code points that are read one by one; lengths.
-/
namespace Qk
open Go

def bigN (cs : List Nat) : Nat := cs.countP (fun c => decide (65535 < c))
theorem wide_len2 (c : Nat) : (wide c).length = 2 + 2 * (if 65535 < c then 1 else 0) := by
 unfold wide
 by_cases h : c < 65536
 ·rw [if_pos h,if_neg (by omega)]; rfl
 ·rw [if_neg h,if_pos (by omega)]; rfl
theorem flat_wide_len (cs : List Nat) : (cs.flatMap wide).length = 2 * (cs.length + bigN cs) := by
 induction cs with
 | nil => rfl
 | cons c cs ih =>
  rw [List.flatMap_cons,List.length_append,ih,wide_len2]
  unfold bigN
  rw [List.countP_cons,List.length_cons]
  by_cases h : 65535 < c
  ·rw [if_pos h,decide_eq_true h]; simp; omega
  ·rw [if_neg h,decide_eq_false h]; simp; omega

/-- What has been read of the first p bytes: the code points, those past ffff, whether all was good. -/
structure Read (d : List UInt8) (p n w : Nat) (good : Bool) : Prop where
 hp : p ≤ d.length
 hn : n ≤ p
 hw : w ≤ n
 yes : good = true → Lib.validD d = Lib.validD (d.drop p) ∧ (preL d).length = n + (preL (d.drop p)).length ∧ bigN (preL d) = w + bigN (preL (d.drop p))
 no : good = false → Lib.validD d = false
end Qk

/-
  Chapter 57: contracts of the reference's codings (begun).
-/
namespace Qk
open Go Go.RowKit

def intsN (cs : List Nat) : List AV := cs.map fun (c : Nat) => AV.int .i64 (c : Int)
def listN (cs : List Nat) : AV := .ilist 1 cs.length (intsN cs)
def scB (n : Int) : Bool := decide (0 ≤ n) && decide (n < 1114112) && (decide (n < 55296) || decide (57343 < n))
def C_quiltref57_valid : PC := ⟨Int,fun n => [.int .i64 n],fun _ => True,fun n => .bool (scB n)⟩
def C_quiltref57_utf8 : PC := ⟨Nat,fun c => [.int .i64 (c : Int)],fun c => Sc c,fun c => .str (enc c)⟩
def C_quiltref57_length : PC := ⟨UInt8,fun b => [.int .u8 b.toNat],fun _ => True,fun b => .int .i64 (refLen b.toNat : Nat)⟩
def C_quiltref57_Points : PC := ⟨List UInt8,fun s => [.str s],fun s => s.length ≤ 1000000000,fun s => .tup [listN (preL s),.bool (Lib.validD s)]⟩
def C_quiltref57_text : PC := ⟨List Nat,fun l => [listN l],fun l => l.length ≤ 1000000000 ∧ ∀ c ∈ l,Sc c,fun l => .str (txt l)⟩
def C_quiltref57_latin : PC := ⟨List UInt8,fun s => [.str s],fun s => s.length ≤ 1000000000,fun s => listN (s.map UInt8.toNat)⟩
def C_quiltref57_two : PC := ⟨Nat,fun c => [.int .i64 (c : Int)],fun c => c < 65536,fun c => .str (two c)⟩
def C_quiltref57_units : PC := ⟨List Nat,fun l => [listN l],fun l => l.length ≤ 1000000000 ∧ ∀ c ∈ l,Sc c,fun l => .str (if l = [] then [] else 255 :: 254 :: l.flatMap wide)⟩
def C_quiltref57_limited : PC := ⟨List UInt8,fun s => [.str s],fun _ => True,fun s => tupS (if 65536 < s.length then ([],4) else (s,0))⟩
def C_quiltref57_refused : PC := ⟨Int × List UInt8,fun x => [.int .i64 x.1,.str x.2],fun _ => True,fun x => .int .i64 (if x.1 < 1 ∨ 3 < x.1 then 8 else if 65536 < x.2.length then 4 else 0)⟩

end Qk

/-
  Chapter 57: the reference of the codings in the executor's form (printed).
-/
namespace Qk
open Go Go.RowKit

/-- quilt/quiltref57.valid -/
def ir_quiltref57_valid : IF := ⟨(.seq (.ops [⟨some 2,none,.mov (.const (.bool false))⟩])
 (.seq (.ops [⟨some 3,none,.mov (t 0)⟩,⟨some 4,none,.bin .geq (t 3) (ci 0)⟩,⟨some 5,none,.mov (t 4)⟩,⟨some 6,some (5,true),.mov (t 0)⟩,⟨some 7,some (5,true),.bin .lss (t 6) (ci 1114112)⟩,⟨some 8,none,.pick (t 5) (t 7) (.const (.bool false))⟩,
  ⟨some 9,none,.mov (t 8)⟩,⟨some 10,some (9,true),.mov (t 0)⟩,⟨some 11,some (9,true),.bin .lss (t 10) (ci 55296)⟩,⟨some 12,some (9,true),.mov (t 11)⟩,⟨some 13,some (12,false),.mov (t 0)⟩,⟨some 14,some (12,false),.bin .gtr (t 13) (ci 57343)⟩,
  ⟨some 15,some (9,true),.pick (t 12) (.const (.bool true)) (t 14)⟩,⟨some 16,none,.pick (t 9) (t 15) (.const (.bool false))⟩,⟨some 2,none,.mov (t 16)⟩])
 .ret)),[.tmp 2]⟩
/-- quilt/quiltref57.utf8 -/
def ir_quiltref57_utf8 : IF := ⟨(.seq (.ops [⟨some 2,none,.mov (.const (.string ⟨#[]⟩))⟩])
 (.seq (.seq (.ops [⟨some 3,none,.mov (t 0)⟩,⟨some 4,none,.bin .lss (t 3) (ci 128)⟩])
 (.cond (t 4) (.seq (.ops [⟨some 5,none,.mov (t 0)⟩,⟨some 6,none,.conv .u8 (t 5)⟩,⟨some 7,none,.bslice 1 [.int .u8 0] 1 [(0,1,(t 6))]⟩,⟨some 8,none,.b2s (t 7)⟩,⟨some 2,none,.mov (t 8)⟩])
 .ret)
 .skip))
 (.seq (.seq (.ops [⟨some 9,none,.mov (t 0)⟩,
  ⟨some 10,none,.bin .lss (t 9) (ci 2048)⟩])
 (.cond (t 10) (.seq (.ops [⟨some 11,none,.mov (t 0)⟩,⟨some 12,none,.bin .quo (t 11) (ci 64)⟩,⟨some 13,none,.bin .add (ci 192) (t 12)⟩,⟨some 14,none,.conv .u8 (t 13)⟩,⟨some 15,none,.mov (t 0)⟩,⟨some 16,none,.bin .rem (t 15) (ci 64)⟩,
  ⟨some 17,none,.bin .add (ci 128) (t 16)⟩,⟨some 18,none,.conv .u8 (t 17)⟩,⟨some 19,none,.bslice 1 [.int .u8 0] 2 [(0,1,(t 14)),(1,1,(t 18))]⟩,⟨some 20,none,.b2s (t 19)⟩,⟨some 2,none,.mov (t 20)⟩])
 .ret)
 .skip))
 (.seq (.seq (.ops [⟨some 21,none,.mov (t 0)⟩,⟨some 22,none,.bin .lss (t 21) (ci 65536)⟩])
 (.cond (t 22) (.seq (.ops [⟨some 23,none,.mov (t 0)⟩,
  ⟨some 24,none,.bin .quo (t 23) (ci 4096)⟩,⟨some 25,none,.bin .add (ci 224) (t 24)⟩,⟨some 26,none,.conv .u8 (t 25)⟩,⟨some 27,none,.mov (t 0)⟩,⟨some 28,none,.bin .quo (t 27) (ci 64)⟩,⟨some 29,none,.bin .rem (t 28) (ci 64)⟩,
  ⟨some 30,none,.bin .add (ci 128) (t 29)⟩,⟨some 31,none,.conv .u8 (t 30)⟩,⟨some 32,none,.mov (t 0)⟩,⟨some 33,none,.bin .rem (t 32) (ci 64)⟩,⟨some 34,none,.bin .add (ci 128) (t 33)⟩,⟨some 35,none,.conv .u8 (t 34)⟩,
  ⟨some 36,none,.bslice 1 [.int .u8 0] 3 [(0,1,(t 26)),(1,1,(t 31)),(2,1,(t 35))]⟩,⟨some 37,none,.b2s (t 36)⟩,⟨some 2,none,.mov (t 37)⟩])
 .ret)
 .skip))
 (.seq (.ops [⟨some 38,none,.mov (t 0)⟩,⟨some 39,none,.bin .quo (t 38) (ci 262144)⟩,⟨some 40,none,.bin .add (ci 240) (t 39)⟩,⟨some 41,none,.conv .u8 (t 40)⟩,
  ⟨some 42,none,.mov (t 0)⟩,⟨some 43,none,.bin .quo (t 42) (ci 4096)⟩,⟨some 44,none,.bin .rem (t 43) (ci 64)⟩,⟨some 45,none,.bin .add (ci 128) (t 44)⟩,⟨some 46,none,.conv .u8 (t 45)⟩,⟨some 47,none,.mov (t 0)⟩,
  ⟨some 48,none,.bin .quo (t 47) (ci 64)⟩,⟨some 49,none,.bin .rem (t 48) (ci 64)⟩,⟨some 50,none,.bin .add (ci 128) (t 49)⟩,⟨some 51,none,.conv .u8 (t 50)⟩,⟨some 52,none,.mov (t 0)⟩,⟨some 53,none,.bin .rem (t 52) (ci 64)⟩,
  ⟨some 54,none,.bin .add (ci 128) (t 53)⟩,⟨some 55,none,.conv .u8 (t 54)⟩,⟨some 56,none,.bslice 1 [.int .u8 0] 4 [(0,1,(t 41)),(1,1,(t 46)),(2,1,(t 51)),(3,1,(t 55))]⟩,⟨some 57,none,.b2s (t 56)⟩,⟨some 2,none,.mov (t 57)⟩])
 .ret))))),[.tmp 2]⟩
/-- quilt/quiltref57.length -/
def ir_quiltref57_length : IF := ⟨(.seq (.ops [⟨some 2,none,.mov (ci 0)⟩])
 (.seq (.seq (.ops [⟨some 3,none,.mov (t 0)⟩,⟨some 4,none,.bin .lss (t 3) (.const (.int .u8 128))⟩])
 (.cond (t 4) (.seq (.ops [⟨some 2,none,.mov (ci 1)⟩])
 .ret)
 .skip))
 (.seq (.seq (.ops [⟨some 5,none,.mov (t 0)⟩,⟨some 6,none,.bin .lss (t 5) (.const (.int .u8 224))⟩])
 (.cond (t 6) (.seq (.ops [⟨some 2,none,.mov (ci 2)⟩])
 .ret)
 .skip))
 (.seq (.seq (.ops [⟨some 7,none,.mov (t 0)⟩,⟨some 8,none,.bin .lss (t 7) (.const (.int .u8 240))⟩])
 (.cond (t 8) (.seq (.ops [⟨some 2,none,.mov (ci 3)⟩])
 .ret)
 .skip))
 (.seq (.ops [⟨some 2,none,.mov (ci 4)⟩])
 .ret))))),[.tmp 2]⟩
/-- quilt/quiltref57.Points -/
def ir_quiltref57_Points : IF := ⟨(.seq (.ops [⟨some 2,none,.mov (.const (.slice none 0 0))⟩,⟨some 3,none,.mov (.const (.bool false))⟩])
 (.seq (.ops [⟨some 9,none,.bslice 1 [.int .i64 0] 0 []⟩,⟨some 4,none,.mov (t 9)⟩])
 (.seq (.seq (.ops [⟨some 5,none,.mov (ci 0)⟩])
 (.block 0 (.loop (.seq (.seq (.ops [⟨some 10,none,.mov (t 5)⟩,⟨some 11,none,.mov (t 0)⟩,⟨some 12,none,.lenS (t 11)⟩,⟨some 13,none,.bin .lss (t 10) (t 12)⟩])
 (.cond (t 13) .skip
 (.exit 0)))
 (.block 1 (.seq (.ops [⟨some 14,none,.mov (t 0)⟩,
  ⟨some 15,none,.mov (t 5)⟩,⟨some 16,none,.idxS (t 14) (t 15)⟩,⟨some 17,none,.pcall C_quiltref57_length [(t 16)]⟩,⟨some 6,none,.mov (t 17)⟩])
 (.seq (.seq (.ops [⟨some 18,none,.mov (t 5)⟩,⟨some 19,none,.mov (t 6)⟩,⟨some 20,none,.bin .add (t 18) (t 19)⟩,
  ⟨some 21,none,.mov (t 0)⟩,⟨some 22,none,.lenS (t 21)⟩,⟨some 23,none,.bin .gtr (t 20) (t 22)⟩])
 (.cond (t 23) (.seq (.ops [⟨some 24,none,.mov (t 4)⟩,⟨some 2,none,.mov (t 24)⟩,⟨some 3,none,.mov (.const (.bool false))⟩])
 .ret)
 .skip))
 (.seq (.ops [⟨some 25,none,.mov (t 0)⟩,⟨some 26,none,.mov (t 5)⟩,
  ⟨some 27,none,.idxS (t 25) (t 26)⟩,⟨some 28,none,.conv .i64 (t 27)⟩,⟨some 7,none,.mov (t 28)⟩])
 (.seq (.seq (.ops [⟨some 29,none,.mov (t 6)⟩,⟨some 30,none,.bin .gtr (t 29) (ci 1)⟩])
 (.jn (.cond (t 30) (.ops [⟨some 31,none,.mov (t 7)⟩,⟨some 32,none,.mov (t 6)⟩,⟨some 33,none,.bin .sub (t 32) (ci 1)⟩,
  ⟨some 34,none,.bin .shr (ci 63) (t 33)⟩,⟨some 35,none,.bin .and (t 31) (t 34)⟩,⟨some 7,none,.mov (t 35)⟩])
 .skip)))
 (.seq (.seq (.ops [⟨some 8,none,.mov (ci 1)⟩])
 (.block 2 (.loop (.seq (.seq (.ops [⟨some 36,none,.mov (t 8)⟩,⟨some 37,none,.mov (t 6)⟩,⟨some 38,none,.bin .lss (t 36) (t 37)⟩])
 (.cond (t 38) .skip
 (.exit 2)))
 (.seq (.block 3 (.ops [⟨some 41,none,.mov (t 7)⟩,⟨some 42,none,.bin .shl (t 41) (.const (.int .u64 6))⟩,
  ⟨some 43,none,.mov (t 0)⟩,⟨some 44,none,.mov (t 5)⟩,⟨some 45,none,.mov (t 8)⟩,⟨some 46,none,.bin .add (t 44) (t 45)⟩,⟨some 47,none,.idxS (t 43) (t 46)⟩,⟨some 48,none,.conv .i64 (t 47)⟩,
  ⟨some 49,none,.bin .and (t 48) (ci 63)⟩,⟨some 50,none,.bin .or (t 42) (t 49)⟩,⟨some 7,none,.mov (t 50)⟩]))
 (.ops [⟨some 39,none,.mov (t 8)⟩,⟨some 40,none,.bin .add (t 39) (ci 1)⟩,⟨some 8,none,.mov (t 40)⟩]))))))
 (.seq (.seq (.ops [⟨some 51,none,.mov (t 7)⟩,⟨some 52,none,.pcall C_quiltref57_valid [(t 51)]⟩,
  ⟨some 53,none,.not (t 52)⟩,⟨some 54,none,.mov (t 53)⟩,⟨some 55,some (54,false),.mov (t 7)⟩,⟨some 56,some (54,false),.pcall C_quiltref57_utf8 [(t 55)]⟩,⟨some 57,some (54,false),.mov (t 0)⟩,⟨some 58,some (54,false),.mov (t 5)⟩,
  ⟨some 59,some (54,false),.mov (t 5)⟩,⟨some 60,some (54,false),.mov (t 6)⟩,⟨some 61,some (54,false),.bin .add (t 59) (t 60)⟩,⟨some 62,some (54,false),.slS (t 57) (some (t 58)) (some (t 61))⟩,⟨some 63,some (54,false),.bin .neq (t 56) (t 62)⟩,⟨some 64,none,.pick (t 54) (.const (.bool true)) (t 63)⟩])
 (.cond (t 64) (.seq (.ops [⟨some 65,none,.mov (t 4)⟩,
  ⟨some 2,none,.mov (t 65)⟩,⟨some 3,none,.mov (.const (.bool false))⟩])
 .ret)
 .skip))
 (.seq (.ops [⟨some 66,none,.mov (t 4)⟩,⟨some 67,none,.mov (t 7)⟩,⟨some 68,none,.bslice 1 [.int .i64 0] 1 [(0,1,(t 67))]⟩,⟨some 69,none,.app 1 8 (t 66) (t 68)⟩,⟨some 4,none,.mov (t 69)⟩])
 (.ops [⟨some 70,none,.mov (t 5)⟩,
  ⟨some 71,none,.mov (t 6)⟩,⟨some 72,none,.bin .add (t 70) (t 71)⟩,⟨some 5,none,.mov (t 72)⟩])))))))))))))
 (.seq (.ops [⟨some 73,none,.mov (t 4)⟩,⟨some 2,none,.mov (t 73)⟩,⟨some 3,none,.mov (.const (.bool true))⟩])
 .ret)))),[.tmp 2,.tmp 3]⟩
/-- quilt/quiltref57.text -/
def ir_quiltref57_text : IF := ⟨(.seq (.ops [⟨some 2,none,.mov (.const (.string ⟨#[]⟩))⟩])
 (.seq (.ops [⟨some 5,none,.bslice 1 [.int .u8 0] 0 []⟩,⟨some 3,none,.mov (t 5)⟩])
 (.seq (.seq (.ops [⟨some 4,none,.mov (ci 0)⟩])
 (.block 0 (.loop (.seq (.seq (.ops [⟨some 6,none,.mov (t 4)⟩,⟨some 7,none,.mov (t 0)⟩,⟨some 8,none,.lenL (t 7)⟩,⟨some 9,none,.bin .lss (t 6) (t 8)⟩])
 (.cond (t 9) .skip
 (.exit 0)))
 (.seq (.block 1 (.ops [⟨some 12,none,.mov (t 3)⟩,⟨some 13,none,.mov (t 0)⟩,
  ⟨some 14,none,.mov (t 4)⟩,⟨some 15,none,.idxL 1 (t 13) (t 14)⟩,⟨some 16,none,.load1 (t 15)⟩,⟨some 17,none,.pcall C_quiltref57_utf8 [(t 16)]⟩,⟨some 18,none,.app 1 1 (t 12) (t 17)⟩,⟨some 3,none,.mov (t 18)⟩]))
 (.ops [⟨some 10,none,.mov (t 4)⟩,
  ⟨some 11,none,.bin .add (t 10) (ci 1)⟩,⟨some 4,none,.mov (t 11)⟩]))))))
 (.seq (.ops [⟨some 19,none,.mov (t 3)⟩,⟨some 20,none,.b2s (t 19)⟩,⟨some 2,none,.mov (t 20)⟩])
 .ret)))),[.tmp 2]⟩
/-- quilt/quiltref57.latin -/
def ir_quiltref57_latin : IF := ⟨(.seq (.ops [⟨some 2,none,.mov (.const (.slice none 0 0))⟩])
 (.seq (.ops [⟨some 5,none,.bslice 1 [.int .i64 0] 0 []⟩,⟨some 3,none,.mov (t 5)⟩])
 (.seq (.seq (.ops [⟨some 4,none,.mov (ci 0)⟩])
 (.block 0 (.loop (.seq (.seq (.ops [⟨some 6,none,.mov (t 4)⟩,⟨some 7,none,.mov (t 0)⟩,⟨some 8,none,.lenS (t 7)⟩,⟨some 9,none,.bin .lss (t 6) (t 8)⟩])
 (.cond (t 9) .skip
 (.exit 0)))
 (.seq (.block 1 (.ops [⟨some 12,none,.mov (t 3)⟩,⟨some 13,none,.mov (t 0)⟩,
  ⟨some 14,none,.mov (t 4)⟩,⟨some 15,none,.idxS (t 13) (t 14)⟩,⟨some 16,none,.conv .i64 (t 15)⟩,⟨some 17,none,.bslice 1 [.int .i64 0] 1 [(0,1,(t 16))]⟩,⟨some 18,none,.app 1 8 (t 12) (t 17)⟩,⟨some 3,none,.mov (t 18)⟩]))
 (.ops [⟨some 10,none,.mov (t 4)⟩,
  ⟨some 11,none,.bin .add (t 10) (ci 1)⟩,⟨some 4,none,.mov (t 11)⟩]))))))
 (.seq (.ops [⟨some 19,none,.mov (t 3)⟩,⟨some 2,none,.mov (t 19)⟩])
 .ret)))),[.tmp 2]⟩
/-- quilt/quiltref57.two -/
def ir_quiltref57_two : IF := ⟨(.seq (.ops [⟨some 2,none,.mov (.const (.string ⟨#[]⟩))⟩])
 (.seq (.ops [⟨some 3,none,.mov (t 0)⟩,⟨some 4,none,.bin .rem (t 3) (ci 256)⟩,⟨some 5,none,.conv .u8 (t 4)⟩,⟨some 6,none,.mov (t 0)⟩,⟨some 7,none,.bin .quo (t 6) (ci 256)⟩,⟨some 8,none,.conv .u8 (t 7)⟩,
  ⟨some 9,none,.bslice 1 [.int .u8 0] 2 [(0,1,(t 5)),(1,1,(t 8))]⟩,⟨some 10,none,.b2s (t 9)⟩,⟨some 2,none,.mov (t 10)⟩])
 .ret)),[.tmp 2]⟩
/-- quilt/quiltref57.units -/
def ir_quiltref57_units : IF := ⟨(.seq (.ops [⟨some 2,none,.mov (.const (.string ⟨#[]⟩))⟩])
 (.seq (.seq (.ops [⟨some 6,none,.mov (t 0)⟩,⟨some 7,none,.lenL (t 6)⟩,⟨some 8,none,.bin .eql (t 7) (ci 0)⟩])
 (.cond (t 8) (.seq (.ops [⟨some 2,none,.mov (.const (.string ⟨#[]⟩))⟩])
 .ret)
 .skip))
 (.seq (.ops [⟨some 9,none,.bslice 1 [.int .u8 0] 2 [(0,1,(.const (.int .u8 255))),(1,1,(.const (.int .u8 254)))]⟩,⟨some 3,none,.mov (t 9)⟩])
 (.seq (.seq (.ops [⟨some 4,none,.mov (ci 0)⟩])
 (.block 0 (.loop (.seq (.seq (.ops [⟨some 10,none,.mov (t 4)⟩,⟨some 11,none,.mov (t 0)⟩,⟨some 12,none,.lenL (t 11)⟩,
  ⟨some 13,none,.bin .lss (t 10) (t 12)⟩])
 (.cond (t 13) .skip
 (.exit 0)))
 (.seq (.block 1 (.seq (.ops [⟨some 16,none,.mov (t 0)⟩,⟨some 17,none,.mov (t 4)⟩,⟨some 18,none,.idxL 1 (t 16) (t 17)⟩,⟨some 19,none,.load1 (t 18)⟩,⟨some 5,none,.mov (t 19)⟩])
 (.seq (.seq (.ops [⟨some 20,none,.mov (t 5)⟩,⟨some 21,none,.bin .geq (t 20) (ci 65536)⟩])
 (.jn (.cond (t 21) (.seq (.ops [⟨some 22,none,.mov (t 3)⟩,
  ⟨some 23,none,.mov (t 5)⟩,⟨some 24,none,.bin .sub (t 23) (ci 65536)⟩,⟨some 25,none,.bin .quo (t 24) (ci 1024)⟩,⟨some 26,none,.bin .add (ci 55296) (t 25)⟩,⟨some 27,none,.pcall C_quiltref57_two [(t 26)]⟩,⟨some 28,none,.app 1 1 (t 22) (t 27)⟩,
  ⟨some 3,none,.mov (t 28)⟩])
 (.ops [⟨some 29,none,.mov (t 5)⟩,⟨some 30,none,.bin .sub (t 29) (ci 65536)⟩,⟨some 31,none,.bin .rem (t 30) (ci 1024)⟩,⟨some 32,none,.bin .add (ci 56320) (t 31)⟩,⟨some 5,none,.mov (t 32)⟩]))
 .skip)))
 (.ops [⟨some 33,none,.mov (t 3)⟩,⟨some 34,none,.mov (t 5)⟩,
  ⟨some 35,none,.pcall C_quiltref57_two [(t 34)]⟩,⟨some 36,none,.app 1 1 (t 33) (t 35)⟩,⟨some 3,none,.mov (t 36)⟩]))))
 (.ops [⟨some 14,none,.mov (t 4)⟩,⟨some 15,none,.bin .add (t 14) (ci 1)⟩,⟨some 4,none,.mov (t 15)⟩]))))))
 (.seq (.ops [⟨some 37,none,.mov (t 3)⟩,⟨some 38,none,.b2s (t 37)⟩,
  ⟨some 2,none,.mov (t 38)⟩])
 .ret))))),[.tmp 2]⟩
/-- quilt/quiltref57.limited -/
def ir_quiltref57_limited : IF := ⟨(.seq (.ops [⟨some 2,none,.mov (.const (.string ⟨#[]⟩))⟩,⟨some 3,none,.mov (ci 0)⟩])
 (.seq (.seq (.ops [⟨some 4,none,.mov (t 0)⟩,⟨some 5,none,.lenS (t 4)⟩,⟨some 6,none,.bin .gtr (t 5) (ci 65536)⟩])
 (.cond (t 6) (.seq (.ops [⟨some 2,none,.mov (.const (.string ⟨#[]⟩))⟩,⟨some 3,none,.mov (ci 4)⟩])
 .ret)
 .skip))
 (.seq (.ops [⟨some 7,none,.mov (t 0)⟩,⟨some 2,none,.mov (t 7)⟩,
  ⟨some 3,none,.mov (ci 0)⟩])
 .ret))),[.tmp 2,.tmp 3]⟩
/-- quilt/quiltref57.refused -/
def ir_quiltref57_refused : IF := ⟨(.seq (.ops [⟨some 4,none,.mov (ci 0)⟩])
 (.seq (.seq (.ops [⟨some 5,none,.mov (t 0)⟩,⟨some 6,none,.bin .lss (t 5) (ci 1)⟩,⟨some 7,none,.mov (t 6)⟩,⟨some 8,some (7,false),.mov (t 0)⟩,⟨some 9,some (7,false),.bin .gtr (t 8) (ci 3)⟩,⟨some 10,none,.pick (t 7) (.const (.bool true)) (t 9)⟩])
 (.cond (t 10) (.seq (.ops [⟨some 4,none,.mov (ci 8)⟩])
 .ret)
 .skip))
 (.seq (.seq (.ops [⟨some 11,none,.mov (t 1)⟩,
  ⟨some 12,none,.lenS (t 11)⟩,⟨some 13,none,.bin .gtr (t 12) (ci 65536)⟩])
 (.cond (t 13) (.seq (.ops [⟨some 4,none,.mov (ci 4)⟩])
 .ret)
 .skip))
 (.seq (.ops [⟨some 4,none,.mov (ci 0)⟩])
 .ret)))),[.tmp 4]⟩

end Qk

/-
  Chapter 57: small functions of the reference.
-/
namespace Qk
open Go Go.RowKit

theorem d_limited : Does ir_quiltref57_limited C_quiltref57_limited := by
 intro (s : List UInt8) _
 show awp _ _ _ (entry [.str s])
 by_cases h : 65536 < s.length
 ·have E : decide ((65536 : Int) < s.length) = true := dec_t (by omega)
  repeat ((conv => whnf); first | refine cond_t (by first | (simp only [E,eq_self]; done) | fail) ?_ | refine cond_f (by first | (simp only [E,cond_true,cond_false,Bool.not_true,Bool.not_false,eq_self,decide_true,decide_false]; done) | fail) ?_ | refine And.intro (by omega) ?_ | refine And.intro ⟨rfl,by omega,by omega⟩ ?_ | refine And.intro ⟨rfl,by decide,by omega,by omega⟩ ?_)
  refine ⟨_,(by first | exact SubSt.refl _ | exact SubTop.refl _),?_⟩
  show tupS ([],4) = tupS (if 65536 < s.length then ([],4) else (s,0))
  rw [if_pos h]
 ·have E : decide ((65536 : Int) < s.length) = false := dec_f (by omega)
  repeat ((conv => whnf); first | refine cond_t (by first | (simp only [E]; done) | fail) ?_ | refine cond_f (by first | (simp only [E,eq_self]; done) | fail) ?_ | refine And.intro (by omega) ?_ | refine And.intro ⟨rfl,by omega,by omega⟩ ?_ | refine And.intro ⟨rfl,by decide,by omega,by omega⟩ ?_)
  refine ⟨_,(by first | exact SubSt.refl _ | exact SubTop.refl _),?_⟩
  show tupS (s,0) = tupS (if 65536 < s.length then ([],4) else (s,0))
  rw [if_neg h]

theorem d_valid : Does ir_quiltref57_valid C_quiltref57_valid := by
 intro (n : Int) _
 show awp _ _ _ (entry [.int .i64 n])
 rcases Bool.eq_false_or_eq_true (decide (0 ≤ n)) with h1 | h1 <;> rcases Bool.eq_false_or_eq_true (decide (n < 1114112)) with h2 | h2 <;> rcases Bool.eq_false_or_eq_true (decide (n < 55296)) with h3 | h3
 all_goals
  repeat ((conv => whnf); first | refine cond_t (by first | (simp only [h1, h2, h3,cond_true,eq_self]; done) | fail) ?_ | refine cond_f (by first | (simp only [h1, h2, h3,cond_true,eq_self]; done) | fail) ?_ | refine And.intro (by omega) ?_ | refine And.intro ⟨rfl,by omega,by omega⟩ ?_ | refine And.intro ⟨rfl,by decide,by omega,by omega⟩ ?_)
  refine ⟨_,(by first | exact SubSt.refl _ | exact SubTop.refl _),?_⟩
  show AV.bool _ = AV.bool (scB n)
  unfold scB
  simp only [h1,h2,h3,cond_true,cond_false,Bool.true_and,Bool.false_and,Bool.true_or,Bool.false_or,Bool.and_true]

theorem d_refused : Does ir_quiltref57_refused C_quiltref57_refused := by
 rintro ⟨n,s⟩ _
 show awp _ _ _ (entry [.int .i64 n,.str s])
 have res : ∀ z : Int,z = (if n < 1 ∨ 3 < n then 8 else if 65536 < s.length then 4 else 0) → AV.int .i64 z = C_quiltref57_refused.res (n,s) := fun z hz => by rw [hz]; rfl
 by_cases h1 : n < 1
 ·have E1 : decide (n < 1) = true := dec_t h1
  repeat ((conv => whnf); first | refine cond_t (by first | (simp only [E1,eq_self]; done) | fail) ?_ | refine cond_f (by first | (simp only [E1,cond_true,cond_false,Bool.not_true,Bool.not_false,eq_self,decide_true,decide_false]; done) | fail) ?_ | refine And.intro (by omega) ?_ | refine And.intro ⟨rfl,by omega,by omega⟩ ?_ | refine And.intro ⟨rfl,by decide,by omega,by omega⟩ ?_)
  refine ⟨_,(by first | exact SubSt.refl _ | exact SubTop.refl _),?_⟩
  exact res 8 (by rw [if_pos (.inl h1)])
 have E1 : decide (n < 1) = false := dec_f h1
 by_cases h2 : 3 < n
 ·have E2 : decide (3 < n) = true := dec_t h2
  repeat ((conv => whnf); first | refine cond_t (by first | (simp only [E1, E2,cond_false,eq_self]; done) | fail) ?_ | refine cond_f (by first | (simp only [E1, eq_self]; done) | fail) ?_ | refine And.intro (by omega) ?_ | refine And.intro ⟨rfl,by omega,by omega⟩ ?_ | refine And.intro ⟨rfl,by decide,by omega,by omega⟩ ?_)
  refine ⟨_,(by first | exact SubSt.refl _ | exact SubTop.refl _),?_⟩
  exact res 8 (by rw [if_pos (.inr h2)])
 have E2 : decide (3 < n) = false := dec_f h2
 have h12 : ¬ (n < 1 ∨ 3 < n) := fun h => h.elim h1 h2
 by_cases h : 65536 < s.length
 ·have E : decide ((65536 : Int) < s.length) = true := dec_t (by omega)
  repeat ((conv => whnf); first | refine cond_t (by first | (simp only [E1, E2, E,cond_false,eq_self]; done) | fail) ?_ | refine cond_f (by first | (simp only [E1, E2, cond_false,eq_self]; done) | fail) ?_ | refine And.intro (by omega) ?_ | refine And.intro ⟨rfl,by omega,by omega⟩ ?_ | refine And.intro ⟨rfl,by decide,by omega,by omega⟩ ?_)
  refine ⟨_,(by first | exact SubSt.refl _ | exact SubTop.refl _),?_⟩
  exact res 4 (by rw [if_neg h12,if_pos h])
 ·have E : decide ((65536 : Int) < s.length) = false := dec_f (by omega)
  repeat ((conv => whnf); first | refine cond_t (by first | (simp only [E1, E2, E,cond_false]; done) | fail) ?_ | refine cond_f (by first | (simp only [E1, E2, E,cond_false,eq_self]; done) | fail) ?_ | refine And.intro (by omega) ?_ | refine And.intro ⟨rfl,by omega,by omega⟩ ?_ | refine And.intro ⟨rfl,by decide,by omega,by omega⟩ ?_)
  refine ⟨_,(by first | exact SubSt.refl _ | exact SubTop.refl _),?_⟩
  exact res 0 (by rw [if_neg h12,if_neg h])

set_option maxRecDepth 4000 in
theorem d_length : Does ir_quiltref57_length C_quiltref57_length := by
 intro (b : UInt8) _
 show awp _ _ _ (entry [.int .u8 b.toNat])
 obtain ⟨z,hz⟩ : ∃ z : Int,z = (b.toNat : Int) := ⟨_,rfl⟩
 rw [← hz]
 have res : ∀ m : Nat,m = refLen b.toNat → AV.int .i64 (m : Int) = C_quiltref57_length.res b := fun m hm => by rw [hm]; rfl
 unfold refLen at res
 by_cases h1 : b.toNat < 128
 ·have E1 : decide (z < 128) = true := dec_t (by omega)
  repeat ((conv => whnf); first | refine cond_t (by first | (simp only [E1,eq_self]; done) | fail) ?_ | refine cond_f (by first | (simp only [E1,cond_true,cond_false,Bool.not_true,Bool.not_false,eq_self,decide_true,decide_false]; done) | fail) ?_ | refine And.intro (by omega) ?_ | refine And.intro ⟨rfl,by omega,by omega⟩ ?_ | refine And.intro ⟨rfl,by decide,by omega,by omega⟩ ?_)
  refine ⟨_,(by first | exact SubSt.refl _ | exact SubTop.refl _),?_⟩
  exact res 1 (by rw [if_pos h1])
 have E1 : decide (z < 128) = false := dec_f (by omega)
 by_cases h2 : b.toNat < 224
 ·have E2 : decide (z < 224) = true := dec_t (by omega)
  repeat ((conv => whnf); first | refine cond_t (by first | (simp only [E1, E2,eq_self]; done) | fail) ?_ | refine cond_f (by first | (simp only [E1, eq_self]; done) | fail) ?_ | refine And.intro (by omega) ?_ | refine And.intro ⟨rfl,by omega,by omega⟩ ?_ | refine And.intro ⟨rfl,by decide,by omega,by omega⟩ ?_)
  refine ⟨_,(by first | exact SubSt.refl _ | exact SubTop.refl _),?_⟩
  exact res 2 (by rw [if_neg h1,if_pos h2])
 have E2 : decide (z < 224) = false := dec_f (by omega)
 by_cases h3 : b.toNat < 240
 ·have E3 : decide (z < 240) = true := dec_t (by omega)
  repeat ((conv => whnf); first | refine cond_t (by first | (simp only [E1, E2, E3,eq_self]; done) | fail) ?_ | refine cond_f (by first | (simp only [E1, E2, eq_self]; done) | fail) ?_ | refine And.intro (by omega) ?_ | refine And.intro ⟨rfl,by omega,by omega⟩ ?_ | refine And.intro ⟨rfl,by decide,by omega,by omega⟩ ?_)
  refine ⟨_,(by first | exact SubSt.refl _ | exact SubTop.refl _),?_⟩
  exact res 3 (by rw [if_neg h1,if_neg h2,if_pos h3])
 ·have E3 : decide (z < 240) = false := dec_f (by omega)
  repeat ((conv => whnf); first | refine cond_t (by first | (simp only [E1, E2, E3]; done) | fail) ?_ | refine cond_f (by first | (simp only [E1, E2, E3,eq_self]; done) | fail) ?_ | refine And.intro (by omega) ?_ | refine And.intro ⟨rfl,by omega,by omega⟩ ?_ | refine And.intro ⟨rfl,by decide,by omega,by omega⟩ ?_)
  refine ⟨_,(by first | exact SubSt.refl _ | exact SubTop.refl _),?_⟩
  exact res 4 (by rw [if_neg h1,if_neg h2,if_neg h3])

end Qk

/-
  Chapter 57: the reference's words and ISO 8859-1.
-/
namespace Qk
open Go Go.RowKit

theorem intsN_len (l : List Nat) : (intsN l).length = l.length := List.length_map _
theorem nnl_intsN (l : List Nat) : NNL (intsN l) := nnl_plain (by
 intro c hc
 obtain ⟨w,_,rfl⟩ := List.mem_map.1 hc
 exact plain_int _ _)
theorem one_intsN (l : List Nat) : AllOne (intsN l) := by
 intro c hc
 obtain ⟨w,_,rfl⟩ := List.mem_map.1 hc
 rfl
theorem intsN_app (a b : List Nat) : intsN (a ++ b) = intsN a ++ intsN b := List.map_append

set_option maxRecDepth 4000 in
theorem d_latin : Does ir_quiltref57_latin C_quiltref57_latin := by
 intro (s : List UInt8) hs
 replace hs : s.length ≤ 1000000000 := hs
 show awp _ _ _ (entry [.str s])
 refine ⟨Nat,fun k => k ≤ s.length,fun k => mks [(0,.str s),(3,.sl 0 0 k),(4,.int .i64 k)] [(0,.ls false 1 (intsN ((s.take k).map UInt8.toNat)))] 1,fun k => s.length - k,0,Nat.zero_le _,?_,?_⟩
 ·refine sub_ren [0] rfl (by decide) ⟨⟨_,rfl,rfl⟩,⟨_,rfl,⟨0,rfl,eSl ?_⟩⟩,⟨_,rfl,rfl⟩,trivial⟩ ⟨⟨0,_,rfl,rfl,?_⟩,trivial⟩
  ·rfl
  ·exact ⟨_,rfl,eN (nnl_intsN _) rfl⟩
 ·intro k hk
  replace hk : k ≤ s.length := hk
  show awp _ _ _ (mks [(0,.str s),(3,.sl 0 0 k),(4,.int .i64 k)] [(0,.ls false 1 (intsN ((s.take k).map UInt8.toNat)))] 1)
  refine cond_split (fun h => ?_) (fun h => ?_)
  ·have hT : (k : Int) < s.length := of_decide_eq_true h
   have hlt : k < s.length := by omega
   have hb := (s.getD (k : Int).toNat 0).toNat_lt
   have hll : (intsN ((s.take k).map UInt8.toNat)).length = k := by rw [intsN_len,List.length_map,List.length_take]; omega
   have e1 : intsN ((s.take k).map UInt8.toNat) ++ [AV.int .i64 ((s.getD (k : Int).toNat 0).toNat : Int)] = intsN ((s.take (k + 1)).map UInt8.toNat) := by
    rw [List.take_succ_eq_append_getElem hlt,List.map_append,intsN_app,Int.toNat_natCast]
    congr 1
    simp [intsN,List.getD,hlt]
   refine And.intro ⟨by omega,by omega⟩ ?_
   refine And.intro ⟨by omega,by omega⟩ ?_
   refine And.intro ⟨(show (0 : Nat) ≠ 1 by decide),rfl,rfl,rfl,(show _ = k * 1 by rw [hll]; omega),(show (0 + 1) * 1 ≤ 1 by decide),(one_intsN [(s.getD (k : Int).toNat 0).toNat]),(show (k + 1) * 8 ≤ 140737488355328 by omega)⟩ ⟨_,rfl,?_⟩
   refine And.intro (by omega) ?_
   refine ⟨k + 1,(show k + 1 ≤ s.length by omega),(show s.length - (k + 1) < s.length - k by omega),?_⟩
   refine sub_ren [2] rfl (by decide) ⟨⟨_,rfl,rfl⟩,⟨_,rfl,⟨2,rfl,eSl ?_⟩⟩,⟨_,rfl,eI (by omega)⟩,trivial⟩ ⟨⟨2,_,rfl,rfl,?_⟩,trivial⟩
   ·rfl
   ·exact ⟨_,rfl,eN (nnl_intsN _) e1⟩
  ·have hF : ¬ (k : Int) < s.length := of_decide_eq_false h
   have he : k = s.length := by omega
   have hml : (intsN (s.map UInt8.toNat)).length = s.length := by rw [intsN_len,List.length_map]
   refine ⟨_,sub_frz [0] (env := [(2,.ilist 1 s.length (intsN (s.map UInt8.toNat)))]) (heap := []) (nx := 1) ?_ trivial (Nat.le_refl 1),?_⟩
   ·exact ⟨⟨_,rfl,.inr (.inr ⟨0,0,false,intsN (s.map UInt8.toNat),by rw [he],by decide,by rw [he,List.take_length]; rfl,by rw [hml]; omega,by rw [Nat.zero_mul,List.drop_zero,List.take_of_length_le (by rw [hml]; omega)],nnl_intsN _⟩)⟩,trivial⟩
   ·show AV.ilist 1 s.length (intsN (s.map UInt8.toNat)) = .ilist 1 (s.map UInt8.toNat).length (intsN (s.map UInt8.toNat))
    rw [List.length_map]

end Qk

/-
  Chapter 57: the reference's UTF-8 of a code point, and its unit of UTF-16.
-/
namespace Qk
open Go Go.RowKit

theorem tdN (a n : Nat) : ((a : Int).tdiv (n : Int)) = ((a / n : Nat) : Int) := by rw [Int.tdiv_eq_ediv_of_nonneg (by omega)]; rfl
theorem tmN (a n : Nat) : ((a : Int).tmod (n : Int)) = ((a % n : Nat) : Int) := by rw [Int.tmod_eq_emod_of_nonneg (by omega)]; rfl
theorem cell8 {z : Int} {n : Nat} (hn : n < 256) (h : z = n) : AV.int .u8 (z % 256) = AV.int .u8 ((n.toUInt8).toNat : Int) := by rw [toNat_u8 hn]; subst h; congr 1; omega

theorem d_two : Does ir_quiltref57_two C_quiltref57_two := by
 intro (c : Nat) hc
 replace hc : c < 65536 := hc
 show awp _ _ _ (entry [.int .i64 (c : Int)])
 have q : (c : Int).tdiv 256 = ((c / 256 : Nat) : Int) := tdN c 256
 have r : (c : Int).tmod 256 = ((c % 256 : Nat) : Int) := tmN c 256
 refine And.intro (show (256 : Int) ≠ 0 by decide) ?_
 refine And.intro (show (256 : Int) ≠ 0 by decide) ?_
 refine And.intro ⟨by omega,by omega⟩ ?_
 refine And.intro rfl ⟨two c,⟨?_,rfl⟩,?_⟩
 ·show [AV.int .u8 ((c : Int).tmod 256 % 256),AV.int .u8 ((c : Int).tdiv 256 % 256)] = [AV.int .u8 (c.toUInt8.toNat : Int),AV.int .u8 ((c / 256).toUInt8.toNat : Int)]
  have e : c.toUInt8 = (c % 256).toUInt8 := by
   apply UInt8.toNat_inj.1
   show (UInt8.ofNat c).toNat = (UInt8.ofNat (c % 256)).toNat
   simp
  rw [e,cell8 (n := c % 256) (by omega) r,cell8 (n := c / 256) (by omega) q]
 ·refine ⟨_,(by first | exact SubSt.refl _ | exact SubTop.refl _),?_⟩
  rfl

set_option maxRecDepth 8000 in
theorem d_utf8 : Does ir_quiltref57_utf8 C_quiltref57_utf8 := by
 intro (c : Nat) hc
 replace hc : Sc c := hc
 have hc2 := hc
 unfold Sc at hc2
 show awp _ _ _ (entry [.int .i64 (c : Int)])
 obtain ⟨z,hz⟩ : ∃ z : Int,z = (c : Int) := ⟨_,rfl⟩
 rw [← hz]
 have q1 : z.tdiv 64 = ((c / 64 : Nat) : Int) := by rw [hz]; exact tdN c 64
 have r1 : z.tmod 64 = ((c % 64 : Nat) : Int) := by rw [hz]; exact tmN c 64
 have q2 : z.tdiv 4096 = ((c / 4096 : Nat) : Int) := by rw [hz]; exact tdN c 4096
 have q3 : z.tdiv 262144 = ((c / 262144 : Nat) : Int) := by rw [hz]; exact tdN c 262144
 have r2 : (z.tdiv 64).tmod 64 = ((c / 64 % 64 : Nat) : Int) := by rw [q1]; exact tmN _ 64
 have r3 : (z.tdiv 4096).tmod 64 = ((c / 4096 % 64 : Nat) : Int) := by rw [q2]; exact tmN _ 64
 by_cases h1 : c < 128
 ·have E1 : decide (z < 128) = true := dec_t (by omega)
  repeat ((conv => whnf); first | refine cond_t (by first | (simp only [E1,eq_self]; done) | fail) ?_ | refine cond_f (by first | (simp only [E1,cond_true,cond_false,Bool.not_true,Bool.not_false,eq_self,decide_true,decide_false]; done) | fail) ?_ | refine And.intro (by omega) ?_ | refine And.intro ⟨rfl,by omega,by omega⟩ ?_ | refine And.intro ⟨rfl,by decide,by omega,by omega⟩ ?_)
  refine ⟨enc c,⟨?_,by rw [enc_one h1]; rfl⟩,?_⟩
  ·rw [enc_one h1]
   show [AV.int .u8 (z % 256)] = [AV.int .u8 (c.toUInt8.toNat : Int)]
   rw [cell8 (n := c) (by omega) hz]
  ·refine ⟨_,(by first | exact SubSt.refl _ | exact SubTop.refl _),?_⟩
   rfl
 have E1 : decide (z < 128) = false := dec_f (by omega)
 by_cases h2 : c < 2048
 ·have E2 : decide (z < 2048) = true := dec_t (by omega)
  repeat ((conv => whnf); first | refine cond_t (by first | (simp only [E1, E2,eq_self]; done) | fail) ?_ | refine cond_f (by first | (simp only [E1, eq_self]; done) | fail) ?_ | refine And.intro (by omega) ?_ | refine And.intro ⟨rfl,by omega,by omega⟩ ?_ | refine And.intro ⟨rfl,by decide,by omega,by omega⟩ ?_)
  refine ⟨enc c,⟨?_,by rw [enc_two (by omega) h2]; rfl⟩,?_⟩
  ·rw [enc_two (by omega) h2]
   show [AV.int .u8 ((192 + z.tdiv 64) % 256),AV.int .u8 ((128 + z.tmod 64) % 256)] = [AV.int .u8 ((192 + c / 64).toUInt8.toNat : Int),AV.int .u8 ((128 + c % 64).toUInt8.toNat : Int)]
   rw [cell8 (n := 192 + c / 64) (by omega) (by omega),cell8 (n := 128 + c % 64) (by omega) (by omega)]
  ·refine ⟨_,(by first | exact SubSt.refl _ | exact SubTop.refl _),?_⟩
   rfl
 have E2 : decide (z < 2048) = false := dec_f (by omega)
 by_cases h3 : c < 65536
 ·have E3 : decide (z < 65536) = true := dec_t (by omega)
  repeat ((conv => whnf); first | refine cond_t (by first | (simp only [E1, E2, E3,eq_self]; done) | fail) ?_ | refine cond_f (by first | (simp only [E1, E2, eq_self]; done) | fail) ?_ | refine And.intro (by omega) ?_ | refine And.intro ⟨rfl,by omega,by omega⟩ ?_ | refine And.intro ⟨rfl,by decide,by omega,by omega⟩ ?_)
  refine ⟨enc c,⟨?_,by rw [enc_three (by omega) h3 hc]; rfl⟩,?_⟩
  ·rw [enc_three (by omega) h3 hc]
   show [AV.int .u8 ((224 + z.tdiv 4096) % 256),AV.int .u8 ((128 + (z.tdiv 64).tmod 64) % 256),AV.int .u8 ((128 + z.tmod 64) % 256)] = [AV.int .u8 ((224 + c / 4096).toUInt8.toNat : Int),AV.int .u8 ((128 + c / 64 % 64).toUInt8.toNat : Int),AV.int .u8 ((128 + c % 64).toUInt8.toNat : Int)]
   rw [cell8 (n := 224 + c / 4096) (by omega) (by omega),cell8 (n := 128 + c / 64 % 64) (by omega) (by omega),cell8 (n := 128 + c % 64) (by omega) (by omega)]
  ·refine ⟨_,(by first | exact SubSt.refl _ | exact SubTop.refl _),?_⟩
   rfl
 have E3 : decide (z < 65536) = false := dec_f (by omega)
 repeat ((conv => whnf); first | refine cond_t (by first | (simp only [E1, E2, E3]; done) | fail) ?_ | refine cond_f (by first | (simp only [E1, E2, E3,eq_self]; done) | fail) ?_ | refine And.intro (by omega) ?_ | refine And.intro ⟨rfl,by omega,by omega⟩ ?_ | refine And.intro ⟨rfl,by decide,by omega,by omega⟩ ?_)
 refine ⟨enc c,⟨?_,by rw [enc_four (by omega) (by omega)]; rfl⟩,?_⟩
 ·rw [enc_four (by omega) (by omega)]
  show [AV.int .u8 ((240 + z.tdiv 262144) % 256),AV.int .u8 ((128 + (z.tdiv 4096).tmod 64) % 256),AV.int .u8 ((128 + (z.tdiv 64).tmod 64) % 256),AV.int .u8 ((128 + z.tmod 64) % 256)] = [AV.int .u8 ((240 + c / 262144).toUInt8.toNat : Int),AV.int .u8 ((128 + c / 4096 % 64).toUInt8.toNat : Int),AV.int .u8 ((128 + c / 64 % 64).toUInt8.toNat : Int),AV.int .u8 ((128 + c % 64).toUInt8.toNat : Int)]
  rw [cell8 (n := 240 + c / 262144) (by omega) (by omega),cell8 (n := 128 + c / 4096 % 64) (by omega) (by omega),cell8 (n := 128 + c / 64 % 64) (by omega) (by omega),cell8 (n := 128 + c % 64) (by omega) (by omega)]
 ·refine ⟨_,(by first | exact SubSt.refl _ | exact SubTop.refl _),?_⟩
  rfl

end Qk

/-
  Chapter 57, plain: what the reference puts together of bytes.
-/
namespace Qk
open Go

theorem wrap64 {n : Nat} (h : n < 9223372036854775808) : IntKind.i64.wrap (n : Int) = n := by
 have e : (n : Int) % 18446744073709551616 = n := by omega
 show (if (true && decide ((n : Int) % 18446744073709551616 ≥ 9223372036854775808)) = true then (n : Int) % 18446744073709551616 - 18446744073709551616 else (n : Int) % 18446744073709551616) = n
 rw [e,decide_eq_false (by omega)]
 rfl
theorem and_mask {a b : Nat} (k : Nat) (ha : a < 1000000) (hb : b = 2 ^ k - 1) (hb2 : b < 1000000) : andI .i64 (a : Int) (b : Int) = ((a % 2 ^ k : Nat) : Int) := by
 show IntKind.i64.wrap (((BitVec.ofInt 64 (a : Int) &&& BitVec.ofInt 64 (b : Int)).toNat : Nat) : Int) = _
 rw [BitVec.ofInt_natCast,BitVec.ofInt_natCast,BitVec.toNat_and,BitVec.toNat_ofNat,BitVec.toNat_ofNat,Nat.mod_eq_of_lt (by omega),Nat.mod_eq_of_lt (by omega),hb,Nat.and_two_pow_sub_one_eq_mod]
 have := Nat.mod_le a (2 ^ k)
 rw [wrap64 (by omega)]
theorem or_six {a b : Nat} (ha : a < 100000000) (hb : b < 256) : orI .i64 (shlI .i64 (a : Int) 6) (andI .i64 (b : Int) 63) = ((a * 64 + b % 64 : Nat) : Int) := by
 have e1 : shlI .i64 (a : Int) 6 = ((a * 64 : Nat) : Int) := by
  show IntKind.i64.wrap ((a : Int) * 64) = _
  have : ((a : Int) * 64) = ((a * 64 : Nat) : Int) := by simp
  rw [this,wrap64 (by omega)]
 have e3 : andI .i64 (b : Int) 63 = ((b % 64 : Nat) : Int) := and_mask (b := 63) 6 (by omega) rfl (by omega)
 rw [e1,e3]
 show IntKind.i64.wrap (((BitVec.ofInt 64 ((a * 64 : Nat) : Int) ||| BitVec.ofInt 64 ((b % 64 : Nat) : Int)).toNat : Nat) : Int) = _
 rw [BitVec.ofInt_natCast,BitVec.ofInt_natCast,BitVec.toNat_or,BitVec.toNat_ofNat,BitVec.toNat_ofNat,Nat.mod_eq_of_lt (by omega),Nat.mod_eq_of_lt (by omega)]
 have e2 : a * 64 ||| b % 64 = a * 64 + b % 64 := by
  have := Nat.shiftLeft_add_eq_or_of_lt (b := b % 64) (i := 6) (by omega) a
  rw [Nat.shiftLeft_eq] at this
  exact this.symm
 rw [e2,wrap64 (by omega)]

/-- What is put together of so many bytes. -/
def accP (s : List UInt8) (i n : Nat) : Nat → Nat
 | 0 => if n = 1 then (s.getD i 0).toNat else (s.getD i 0).toNat % 2 ^ (7 - n)
 | k + 1 => accP s i n k * 64 + (s.getD (i + (k + 1)) 0).toNat % 64
theorem accP_0 (s : List UInt8) (i n : Nat) : accP s i n 0 < 256 := by
 have := (s.getD i 0).toNat_lt
 unfold accP
 split
 ·omega
 ·have := Nat.mod_le (s.getD i 0).toNat (2 ^ (7 - n))
  omega
theorem accP_lt (s : List UInt8) (i n : Nat) {k : Nat} (h : k ≤ 3) : accP s i n k < 67108864 := by
 have h0 := accP_0 s i n
 have e1 : accP s i n 1 = accP s i n 0 * 64 + (s.getD (i + 1) 0).toNat % 64 := rfl
 have e2 : accP s i n 2 = accP s i n 1 * 64 + (s.getD (i + 2) 0).toNat % 64 := rfl
 have e3 : accP s i n 3 = accP s i n 2 * 64 + (s.getD (i + 3) 0).toNat % 64 := rfl
 match k,h with
 | 0,_ => omega
 | 1,_ => omega
 | 2,_ => omega
 | 3,_ => omega
theorem getD_drop (s : List UInt8) (i k : Nat) : (s.drop i).getD k 0 = s.getD (i + k) 0 := by
 simp only [List.getD_eq_getElem?_getD,List.getElem?_drop]
theorem refLen_is (b : Nat) : refLen b = 1 ∨ refLen b = 2 ∨ refLen b = 3 ∨ refLen b = 4 := by
 unfold refLen
 split
 ·exact .inl rfl
 ·split
  ·exact .inr (.inl rfl)
  ·split
   ·exact .inr (.inr (.inl rfl))
   ·exact .inr (.inr (.inr rfl))
theorem refC_acc (s : List UInt8) (i : Nat) {n : Nat} (hn : n = 1 ∨ n = 2 ∨ n = 3 ∨ n = 4) : refC (s.drop i) n = accP s i n (n - 1) := by
 rcases hn with rfl | rfl | rfl | rfl
 ·simp [refC,accP]
 ·simp [refC,accP]
 ·simp [refC,accP]
 ·simp [refC,accP]
theorem mask_of {s : List UInt8} {i n : Nat} (hn : n = 2 ∨ n = 3 ∨ n = 4) : andI .i64 ((s.getD i 0).toNat : Int) (shrI .i64 63 ((n : Int) - 1)) = ((accP s i n 0 : Nat) : Int) := by
 have hb := (s.getD i 0).toNat_lt
 rcases hn with rfl | rfl | rfl
 ·exact and_mask (b := 31) 5 (by omega) rfl (by omega)
 ·exact and_mask (b := 15) 4 (by omega) rfl (by omega)
 ·exact and_mask (b := 7) 3 (by omega) rfl (by omega)

/-- The step of the reference at a place. -/
theorem pt_step {s : List UInt8} {i : Nat} (h : i < s.length) {n : Nat} (hn : n = refLen (s.getD i 0).toNat) :
  (s.length < i + n → Bad (s.drop i)) ∧
  (i + n ≤ s.length → ¬ (Sc (accP s i n (n - 1)) ∧ enc (accP s i n (n - 1)) = (s.drop i).take n) → Bad (s.drop i)) ∧
  (i + n ≤ s.length → Sc (accP s i n (n - 1)) → enc (accP s i n (n - 1)) = (s.drop i).take n → ¬ Bad (s.drop i) ∧ (Lib.decodeL (s.drop i)) = (accP s i n (n - 1),n)) := by
 have hl : s.drop i ≠ [] := by
  intro e
  have := congrArg List.length e
  rw [List.length_drop] at this
  simp at this
  omega
 have hg : (s.drop i).getD 0 0 = s.getD i 0 := getD_drop s i 0
 have hr := ref_step hl
 have hlen : (s.drop i).length = s.length - i := List.length_drop
 rw [hg,← hn,refC_acc s i (by rw [hn]; exact refLen_is _),hlen] at hr
 refine ⟨fun h1 => ?_,fun h1 h2 => ?_,fun h1 h2 h3 => ?_⟩
 ·by_cases hb : Bad (s.drop i)
  ·exact hb
  ·have := (hr.1 hb).2.1
   omega
 ·by_cases hb : Bad (s.drop i)
  ·exact hb
  ·have := hr.1 hb
   refine absurd ⟨?_,?_⟩ h2
   ·rw [this.2.2.1]; exact this.2.2.2.1
   ·rw [this.2.2.1]; exact this.2.2.2.2
 ·have hb : ¬ Bad (s.drop i) := fun hb => hr.2 hb (by omega) h2 h3
  have := hr.1 hb
  exact ⟨hb,Prod.ext this.2.2.1.symm this.1⟩

end Qk

/-
  Chapter 57: the reference's text of code points, and their data in UTF-16.
-/
namespace Qk
open Go Go.RowKit

theorem intsN_get {l : List Nat} {k : Nat} (h : k < l.length) : (intsN l)[k]? = some (.int .i64 ((l.getD k 0 : Nat) : Int)) := by
 simp [intsN,h]
theorem txt_snoc (a : List Nat) (c : Nat) : txt (a ++ [c]) = txt a ++ enc c := by unfold txt; rw [List.flatMap_append]; simp
theorem take_snocN {l : List Nat} {k : Nat} (h : k < l.length) : l.take (k + 1) = l.take k ++ [l.getD k 0] := by
 rw [List.take_succ_eq_append_getElem h]; simp [h]
theorem txt_le (cs : List Nat) : (txt cs).length ≤ 4 * cs.length := txt_len cs

set_option maxRecDepth 4000 in
theorem d_text : Does ir_quiltref57_text C_quiltref57_text := by
 intro (l : List Nat) hl
 obtain ⟨hl,hsc⟩ : l.length ≤ 1000000000 ∧ ∀ c ∈ l,Sc c := hl
 show awp _ _ _ (entry [listN l])
 refine ⟨Nat,fun k => k ≤ l.length,fun k => mks [(0,listN l),(3,.sl 0 0 (txt (l.take k)).length),(4,.int .i64 k)] [(0,.ls false 1 (bys (txt (l.take k))))] 1,fun k => l.length - k,0,Nat.zero_le _,?_,?_⟩
 ·refine sub_ren [0] rfl (by decide) ⟨⟨_,rfl,rfl⟩,⟨_,rfl,⟨0,rfl,eSl ?_⟩⟩,⟨_,rfl,rfl⟩,trivial⟩ ⟨⟨0,_,rfl,rfl,?_⟩,trivial⟩
  ·rfl
  ·exact ⟨_,rfl,eN (nnl_bys _) rfl⟩
 ·intro k hk
  replace hk : k ≤ l.length := hk
  obtain ⟨n,hn⟩ : ∃ n,n = (txt (l.take k)).length := ⟨_,rfl⟩
  show awp _ _ _ (mks [(0,.ilist 1 l.length (intsN l)),(3,.sl 0 0 (txt (l.take k)).length),(4,.int .i64 k)] [(0,.ls false 1 (bys (txt (l.take k))))] 1)
  rw [← hn]
  have hn4 : n ≤ 4 * k := by rw [hn]; have := txt_le (l.take k); rw [List.length_take] at this; omega
  refine cond_split (fun h => ?_) (fun h => ?_)
  ·have hT : (k : Int) < l.length := of_decide_eq_true h
   have hlt : k < l.length := by omega
   have hc : Sc (l.getD k 0) := hsc _ (by simp [List.getD,hlt])
   have he := enc_len (l.getD k 0)
   refine And.intro ⟨rfl,by decide,by omega,by omega⟩ ?_
   refine ⟨_,(show (intsN l)[(k : Int).toNat * 1]? = some (.int .i64 ((l.getD k 0 : Nat) : Int)) by rw [Int.toNat_natCast,Nat.mul_one]; exact intsN_get hlt),?_⟩
   refine ⟨l.getD k 0,rfl,hc,?_⟩
   refine And.intro ⟨rfl,rfl,rfl,(show (bys (txt (l.take k))).length = n * 1 by rw [bys_length]; omega),(show (n + (enc (l.getD k 0)).length) * 1 ≤ 140737488355328 by omega)⟩ ⟨_,rfl,?_⟩
   refine And.intro (by omega) ?_
   have e1 : bys (txt (l.take k)) ++ ((enc (l.getD k 0)).map fun b => AV.int .u8 (b.toNat : Int)) = bys (txt (l.take (k + 1))) := by
    rw [take_snocN hlt,txt_snoc]; unfold bys; rw [List.map_append]
   have e2 : n + (enc (l.getD k 0)).length = (txt (l.take (k + 1))).length := by
    rw [take_snocN hlt,txt_snoc,List.length_append,← hn]
   refine ⟨k + 1,(show k + 1 ≤ l.length by omega),(show l.length - (k + 1) < l.length - k by omega),?_⟩
   refine sub_ren [1] rfl (by decide) ⟨⟨_,rfl,rfl⟩,⟨_,rfl,⟨1,rfl,eSl ?_⟩⟩,⟨_,rfl,eI (by omega)⟩,trivial⟩ ⟨⟨1,_,rfl,rfl,?_⟩,trivial⟩
   ·exact e2
   ·exact ⟨_,rfl,eN (nnl_bys _) e1⟩
  ·have hF : ¬ (k : Int) < l.length := of_decide_eq_false h
   have he : k = l.length := by omega
   have hlk : l.take k = l := List.take_of_length_le (by omega)
   refine And.intro rfl ⟨txt l,⟨?_,?_⟩,?_⟩
   ·show ((bys (txt (l.take k))).drop 0).take n = bys (txt l)
    rw [hlk,List.drop_zero,List.take_of_length_le (by rw [bys_length,hn,hlk]; exact Nat.le_refl _)]
   ·rw [hn,hlk]
   ·refine ⟨_,(by first | exact SubSt.refl _ | exact SubTop.refl _),?_⟩
    rfl

def unitsS (l : List Nat) : List UInt8 := 255 :: 254 :: l.flatMap wide
theorem unitsS_snoc (a : List Nat) (c : Nat) : unitsS (a ++ [c]) = unitsS a ++ wide c := by unfold unitsS; rw [List.flatMap_append]; simp
theorem unitsS_len (a : List Nat) : (unitsS a).length ≤ 2 + 4 * a.length := by
 have h := flat_wide_len a
 have h5 : bigN a ≤ a.length := List.countP_le_length
 show (a.flatMap wide).length + 1 + 1 ≤ _
 omega

set_option maxRecDepth 4000 in
theorem d_rUnits : Does ir_quiltref57_units C_quiltref57_units := by
 intro (l : List Nat) hl
 obtain ⟨hl,hsc⟩ : l.length ≤ 1000000000 ∧ ∀ c ∈ l,Sc c := hl
 show awp _ _ _ (entry [.ilist 1 l.length (intsN l)])
 by_cases h0 : l = []
 ·have E : decide ((l.length : Int) = 0) = true := dec_t (by rw [h0]; rfl)
  refine cond_t E ?_
  refine ⟨_,(by first | exact SubSt.refl _ | exact SubTop.refl _),?_⟩
  show AV.str [] = .str (if l = [] then [] else 255 :: 254 :: l.flatMap wide)
  rw [if_pos h0]
 have hp : 0 < l.length := List.length_pos_iff.2 h0
 have E : decide ((l.length : Int) = 0) = false := dec_f (by omega)
 refine cond_f E ?_
 refine ⟨Nat,fun k => k ≤ l.length,fun k => mks [(0,.ilist 1 l.length (intsN l)),(3,.sl 0 0 (unitsS (l.take k)).length),(4,.int .i64 k)] [(0,.ls false 1 (bys (unitsS (l.take k))))] 1,fun k => l.length - k,0,Nat.zero_le _,?_,?_⟩
 ·refine sub_ren [0] rfl (by decide) ⟨⟨_,rfl,rfl⟩,⟨_,rfl,⟨0,rfl,eSl ?_⟩⟩,⟨_,rfl,rfl⟩,trivial⟩ ⟨⟨0,_,rfl,rfl,?_⟩,trivial⟩
  ·rfl
  ·exact ⟨_,rfl,eN (nnl_bys _) rfl⟩
 ·intro k hk
  replace hk : k ≤ l.length := hk
  obtain ⟨n,hn⟩ : ∃ n,n = (unitsS (l.take k)).length := ⟨_,rfl⟩
  show awp _ _ _ (mks [(0,.ilist 1 l.length (intsN l)),(3,.sl 0 0 (unitsS (l.take k)).length),(4,.int .i64 k)] [(0,.ls false 1 (bys (unitsS (l.take k))))] 1)
  rw [← hn]
  have hn4 : n ≤ 2 + 4 * k := by rw [hn]; have := unitsS_len (l.take k); rw [List.length_take] at this; omega
  refine cond_split (fun h => ?_) (fun h => ?_)
  ·have hT : (k : Int) < l.length := of_decide_eq_true h
   have hlt : k < l.length := by omega
   obtain ⟨c,hcd⟩ : ∃ c,c = l.getD k 0 := ⟨_,rfl⟩
   have hc : Sc c := by rw [hcd]; exact hsc _ (by simp [List.getD,hlt])
   have hc2 := hc
   unfold Sc at hc2
   refine And.intro ⟨rfl,by decide,by omega,by omega⟩ ?_
   refine ⟨_,(show (intsN l)[(k : Int).toNat * 1]? = some (.int .i64 (c : Int)) by rw [Int.toNat_natCast,Nat.mul_one,hcd]; exact intsN_get hlt),?_⟩
   have e1 : bys (unitsS (l.take k)) ++ bys (wide c) = bys (unitsS (l.take (k + 1))) := by
    rw [take_snocN hlt,unitsS_snoc,← hcd]; unfold bys; rw [List.map_append]
   have e2 : n + (wide c).length = (unitsS (l.take (k + 1))).length := by
    rw [take_snocN hlt,unitsS_snoc,List.length_append,← hn,← hcd]
   have hbl : (bys (unitsS (l.take k))).length = n * 1 := by rw [bys_length]; omega
   by_cases hb : c < 65536
   ·have E1 : decide ((65536 : Int) ≤ c) = false := dec_f (by omega)
    have hw : wide c = two c := if_pos hb
    refine jn_plain ?_
    refine cond_f E1 ?_
    refine ⟨c,rfl,hb,?_⟩
    refine And.intro ⟨rfl,rfl,rfl,hbl,(show (n + (two c).length) * 1 ≤ 140737488355328 by show (n + 2) * 1 ≤ _; omega)⟩ ⟨_,rfl,?_⟩
    refine And.intro (by omega) ?_
    refine ⟨k + 1,(show k + 1 ≤ l.length by omega),(show l.length - (k + 1) < l.length - k by omega),?_⟩
    refine sub_ren [1] rfl (by decide) ⟨⟨_,rfl,rfl⟩,⟨_,rfl,⟨1,rfl,eSl ?_⟩⟩,⟨_,rfl,eI (by omega)⟩,trivial⟩ ⟨⟨1,_,rfl,rfl,?_⟩,trivial⟩
    ·show n + (two c).length = _
     rw [← e2,hw]
    ·exact ⟨_,rfl,eN (nnl_bys _) (by rw [← e1,hw]; rfl)⟩
   ·have E1 : decide ((65536 : Int) ≤ c) = true := dec_t (by omega)
    have q : ((c : Int) - 65536).tdiv 1024 = (((c - 65536) / 1024 : Nat) : Int) := by
     have : (c : Int) - 65536 = ((c - 65536 : Nat) : Int) := by omega
     rw [this]; exact tdN _ 1024
    have r : ((c : Int) - 65536).tmod 1024 = (((c - 65536) % 1024 : Nat) : Int) := by
     have : (c : Int) - 65536 = ((c - 65536 : Nat) : Int) := by omega
     rw [this]; exact tmN _ 1024
    have hw : wide c = two (55296 + (c - 65536) / 1024) ++ two (56320 + (c - 65536) % 1024) := if_neg hb
    refine jn_plain ?_
    refine cond_t E1 ?_
    refine And.intro ⟨by omega,by omega⟩ ?_
    refine And.intro (show (1024 : Int) ≠ 0 by decide) ?_
    refine And.intro ⟨by omega,by omega⟩ ?_
    refine And.intro ⟨by omega,by omega⟩ ?_
    refine ⟨55296 + (c - 65536) / 1024,(show [AV.int .i64 _] = [AV.int .i64 _] by congr 2; omega),(show 55296 + (c - 65536) / 1024 < 65536 by omega),?_⟩
    refine And.intro ⟨rfl,rfl,rfl,hbl,(show (n + 2) * 1 ≤ 140737488355328 by omega)⟩ ⟨_,rfl,?_⟩
    refine And.intro ⟨by omega,by omega⟩ ?_
    refine And.intro (show (1024 : Int) ≠ 0 by decide) ?_
    refine And.intro ⟨by omega,by omega⟩ ?_
    refine ⟨56320 + (c - 65536) % 1024,(show [AV.int .i64 _] = [AV.int .i64 _] by congr 2; omega),(show 56320 + (c - 65536) % 1024 < 65536 by omega),?_⟩
    refine And.intro ⟨rfl,rfl,rfl,(show (bys (unitsS (l.take k)) ++ bys (two _)).length = (n + 2) * 1 by rw [List.length_append,hbl]; show n * 1 + 2 = _; omega),(show (n + 2 + 2) * 1 ≤ 140737488355328 by omega)⟩ ⟨_,rfl,?_⟩
    refine And.intro (by omega) ?_
    refine ⟨k + 1,(show k + 1 ≤ l.length by omega),(show l.length - (k + 1) < l.length - k by omega),?_⟩
    refine sub_ren [2] rfl (by decide) ⟨⟨_,rfl,rfl⟩,⟨_,rfl,⟨2,rfl,eSl ?_⟩⟩,⟨_,rfl,eI (by omega)⟩,trivial⟩ ⟨⟨2,_,rfl,rfl,?_⟩,trivial⟩
    ·have t2 : ∀ x,(two x).length = 2 := fun _ => rfl
     have e3 : n + 2 + 2 = (unitsS (l.take (k + 1))).length := by rw [← e2,hw,List.length_append,t2,t2]
     exact e3
    ·refine ⟨_,rfl,eN (nnl_bys _) ?_⟩
     rw [← e1,hw]
     show (bys _ ++ bys (two _)) ++ bys (two _) = bys _ ++ bys (two _ ++ two _)
     unfold bys
     rw [List.map_append,List.append_assoc]
     rfl
  ·have hF : ¬ (k : Int) < l.length := of_decide_eq_false h
   have he : k = l.length := by omega
   have hlk : l.take k = l := List.take_of_length_le (by omega)
   refine And.intro rfl ⟨unitsS l,⟨?_,?_⟩,?_⟩
   ·show ((bys (unitsS (l.take k))).drop 0).take n = bys (unitsS l)
    rw [hlk,List.drop_zero,List.take_of_length_le (by rw [bys_length,hn,hlk]; exact Nat.le_refl _)]
   ·rw [hn,hlk]
   ·refine ⟨_,(by first | exact SubSt.refl _ | exact SubTop.refl _),?_⟩
    show AV.str (unitsS l) = .str (if l = [] then [] else 255 :: 254 :: l.flatMap wide)
    rw [if_neg h0]
    rfl

end Qk

/-
  Chapter 57: the reference's code points.
-/
namespace Qk
open Go Go.RowKit

theorem scB_t {c : Nat} (h : Sc c) : scB (c : Int) = true := by
 unfold Sc at h
 unfold scB
 rw [decide_eq_true (show (0 : Int) ≤ c by omega),decide_eq_true (show (c : Int) < 1114112 by omega)]
 rcases h with h | h
 ·rw [decide_eq_true (show (c : Int) < 55296 by omega)]; rfl
 ·rw [decide_eq_true (show (57343 : Int) < c by omega),Bool.or_true]; rfl
theorem scB_f {c : Nat} (h : ¬ Sc c) : scB (c : Int) = false := by
 unfold Sc at h
 unfold scB
 by_cases h2 : c < 1114112
 ·rw [decide_eq_false (show ¬ (c : Int) < 55296 by omega),decide_eq_false (show ¬ (57343 : Int) < c by omega)]
  simp
 ·rw [decide_eq_false (show ¬ (c : Int) < 1114112 by omega)]
  simp

def PI (s : List UInt8) (cs : List Nat) (i : Nat) : Prop := i ≤ s.length ∧ cs.length ≤ i ∧ preL s = cs ++ preL (s.drop i) ∧ Lib.validD s = Lib.validD (s.drop i)
def PS (s : List UInt8) (cs : List Nat) (i : Nat) : St := mks [(0,.str s),(4,.sl 0 0 cs.length),(5,.int .i64 i)] [(0,.ls false 1 (intsN cs))] 1
def PS2 (s : List UInt8) (cs : List Nat) (i n k : Nat) (a : Int) : St := mks [(0,.str s),(4,.sl 0 0 cs.length),(5,.int .i64 i),(6,.int .i64 n),(7,.int .i64 a),(8,.int .i64 k)] [(0,.ls false 1 (intsN cs))] 1
def PS1 (s : List UInt8) (cs : List Nat) (i n a : Nat) : St := mks [(0,.str s),(4,.sl 0 0 cs.length),(5,.int .i64 i),(6,.int .i64 n),(7,.int .i64 a)] [(0,.ls false 1 (intsN cs))] 1

theorem PI_bad {s : List UInt8} {cs : List Nat} {i : Nat} (h : PI s cs i) (hlt : i < s.length) (hb : Bad (s.drop i)) : preL s = cs ∧ Lib.validD s = false := by
 have hl : s.drop i ≠ [] := by
  intro e
  have := congrArg List.length e
  rw [List.length_drop] at this
  simp at this
  omega
 obtain ⟨_,_,h3,h4⟩ := h
 rw [preL_bad hb,List.append_nil] at h3
 rw [validD_bad hl hb] at h4
 exact ⟨h3,h4⟩
theorem PI_next {s : List UInt8} {cs : List Nat} {i c n : Nat} (h : PI s cs i) (hlt : i < s.length) (hn : 1 ≤ n) (hle : i + n ≤ s.length) (hb : ¬ Bad (s.drop i)) (hd : Lib.decodeL (s.drop i) = (c,n)) : PI s (cs ++ [c]) (i + n) := by
 have hl : s.drop i ≠ [] := by
  intro e
  have := congrArg List.length e
  rw [List.length_drop] at this
  simp at this
  omega
 obtain ⟨_,h2,h3,h4⟩ := h
 refine ⟨hle,by rw [List.length_append]; show cs.length + 1 ≤ _; omega,?_,?_⟩
 ·rw [h3,preL_step hl hb,hd]
  simp [List.drop_drop]
 ·rw [h4,validD_good hl hb,hd]
  simp [List.drop_drop]

theorem ret_sub {cs : List Nat} {b : Bool} {S : St} (h0 : S.env 2 = some (.sl 0 0 cs.length)) (h1 : S.env 3 = some (.bool b)) (hH : S.heap 0 = some (.ls false 1 (intsN cs))) (hn : S.next ≤ 1) :
  SubTop S (mks [(2,.ilist 1 cs.length (intsN cs)),(3,.bool b)] [] 1) :=
 sub_frz [0] (env := [(2,.ilist 1 cs.length (intsN cs)),(3,.bool b)]) (heap := []) (nx := 1)
  ⟨⟨_,h0,.inr (.inr ⟨0,0,false,intsN cs,rfl,by decide,hH,by rw [intsN_len]; omega,by rw [Nat.zero_mul,List.drop_zero,List.take_of_length_le (by rw [intsN_len]; omega)],nnl_intsN _⟩)⟩,⟨_,h1,rfl⟩,trivial⟩ trivial hn
theorem pts_res {s : List UInt8} {cs : List Nat} {b : Bool} (he : preL s = cs) (hv : Lib.validD s = b) : AV.tup [listN cs,.bool b] = C_quiltref57_Points.res s := by
 subst he hv
 rfl
theorem allOne1' {a : AV} (h : a.isOne = true) : AllOne [a] := by
 intro x hx
 rw [List.mem_singleton.1 hx]; exact h
set_option maxRecDepth 4000 in
theorem d_Points : Does ir_quiltref57_Points C_quiltref57_Points := by
 intro (s : List UInt8) hs
 replace hs : s.length ≤ 1000000000 := hs
 show awp _ _ _ (entry [.str s])
 refine ⟨List Nat × Nat,fun x => PI s x.1 x.2,fun x => PS s x.1 x.2,fun x => s.length - x.2,([],0),⟨Nat.zero_le _,Nat.le_refl _,by simp,by simp⟩,?_,?_⟩
 ·show SubSt _ _ (PS s [] 0)
  refine sub_ren [0] rfl (by decide) ⟨⟨_,rfl,rfl⟩,⟨_,rfl,⟨0,rfl,eSl ?_⟩⟩,⟨_,rfl,rfl⟩,trivial⟩ ⟨⟨0,_,rfl,rfl,?_⟩,trivial⟩
  ·rfl
  ·exact ⟨_,rfl,eN (nnl_intsN _) rfl⟩
 ·rintro ⟨cs,i⟩ hI
  have hI : PI s cs i := hI
  obtain ⟨hi,hci, -, -⟩ := id hI
  show awp _ _ _ (PS s cs i)
  refine cond_split (fun h => ?_) (fun h => ?_)
  ·have hT : (i : Int) < s.length := of_decide_eq_true h
   have hlt : i < s.length := by omega
   obtain ⟨n,hn⟩ : ∃ n,n = refLen (s.getD i 0).toNat := ⟨_,rfl⟩
   have hst := pt_step hlt hn
   have hn4 := refLen_is (s.getD i 0).toNat
   rw [← hn] at hn4
   have hb := (s.getD i 0).toNat_lt
   refine And.intro ⟨by omega,by omega⟩ ?_
   refine ⟨s.getD i 0,rfl,trivial,?_⟩
   have res : C_quiltref57_length.res (s.getD i 0) = .int .i64 (n : Int) := by rw [hn]; rfl
   rewrite [res]
   clear res
   refine And.intro ⟨by omega,by omega⟩ ?_
   by_cases hgt : s.length < i + n
   ·have C1 : decide ((s.length : Int) < (i : Int) + (n : Int)) = true := dec_t (by omega)
    refine cond_t C1 ?_
    have hB := PI_bad hI hlt (hst.1 hgt)
    exact ⟨_,ret_sub (cs := cs) (b := false) rfl rfl rfl (Nat.le_refl 1),pts_res hB.1 hB.2⟩
   have C1 : decide ((s.length : Int) < (i : Int) + (n : Int)) = false := dec_f (by omega)
   refine cond_f C1 ?_
   refine And.intro ⟨by omega,by omega⟩ ?_
   refine And.intro ⟨(show (-9223372036854775808 : Int) ≤ ((s.getD i 0).toNat : Int) by omega),(show ((s.getD i 0).toNat : Int) ≤ 9223372036854775807 by omega)⟩ ?_
   refine jn_at (X := Unit) (fun _ => PS1 s cs i n (accP s i n 0)) (fun _ => True) ?_ ?_
   ·by_cases h1 : n = 1
    ·have C2 : decide ((1 : Int) < (n : Int)) = false := dec_f (by omega)
     refine cond_f C2 ?_
     refine ⟨(),trivial,?_⟩
     show SubSt _ _ (PS1 s cs i n (accP s i n 0))
     refine sub_ren [0] rfl (by decide) ⟨⟨_,rfl,rfl⟩,⟨_,rfl,⟨0,rfl,eSl ?_⟩⟩,⟨_,rfl,rfl⟩,⟨_,rfl,eI (by omega)⟩,⟨_,rfl,eI ?_⟩,trivial⟩ ⟨⟨0,_,rfl,rfl,?_⟩,trivial⟩
     ·rfl
     ·show ((s.getD i 0).toNat : Int) = ((accP s i n 0 : Nat) : Int)
      rw [accP,if_pos h1]
     ·exact ⟨_,rfl,eN (nnl_intsN _) rfl⟩
    ·have C2 : decide ((1 : Int) < (n : Int)) = true := dec_t (by omega)
     refine cond_t C2 ?_
     refine And.intro ⟨by omega,by omega⟩ ?_
     refine And.intro (by omega) ?_
     refine ⟨(),trivial,?_⟩
     show SubSt _ _ (PS1 s cs i n (accP s i n 0))
     refine sub_ren [0] rfl (by decide) ⟨⟨_,rfl,rfl⟩,⟨_,rfl,⟨0,rfl,eSl ?_⟩⟩,⟨_,rfl,rfl⟩,⟨_,rfl,eI (by omega)⟩,⟨_,rfl,eI ?_⟩,trivial⟩ ⟨⟨0,_,rfl,rfl,?_⟩,trivial⟩
     ·rfl
     ·exact mask_of (hn4.resolve_left h1)
     ·exact ⟨_,rfl,eN (nnl_intsN _) rfl⟩
   ·rintro - -
    show awp _ _ _ (PS1 s cs i n (accP s i n 0))
    refine ⟨Nat,fun k => 1 ≤ k ∧ k ≤ n,fun k => PS2 s cs i n k (accP s i n (k - 1)),fun k => n - k,1,⟨Nat.le_refl 1,by omega⟩,?_,?_⟩
    ·show SubSt _ _ (PS2 s cs i n 1 (accP s i n 0))
     refine sub_ren [0] rfl (by decide) ⟨⟨_,rfl,rfl⟩,⟨_,rfl,⟨0,rfl,eSl ?_⟩⟩,⟨_,rfl,rfl⟩,⟨_,rfl,rfl⟩,⟨_,rfl,rfl⟩,⟨_,rfl,rfl⟩,trivial⟩ ⟨⟨0,_,rfl,rfl,?_⟩,trivial⟩
     ·rfl
     ·exact ⟨_,rfl,eN (nnl_intsN _) rfl⟩
    ·intro k hk
     obtain ⟨hk1,hkn⟩ : 1 ≤ k ∧ k ≤ n := hk
     obtain ⟨j,rfl⟩ : ∃ j,k = j + 1 := ⟨k - 1,by omega⟩
     obtain ⟨a,ha⟩ : ∃ a,a = accP s i n j := ⟨_,rfl⟩
     have hal : a < 67108864 := by rw [ha]; exact accP_lt s i n (by omega)
     obtain ⟨A,hA⟩ : ∃ A : Int,A = ((accP s i n j : Nat) : Int) := ⟨_,rfl⟩
     have hAa : A = (a : Int) := by rw [hA,ha]
     show awp _ _ _ (PS2 s cs i n (j + 1) ((accP s i n j : Nat) : Int))
     rewrite [← hA]
     refine cond_split (fun h => ?_) (fun h => ?_)
     ·have hT : ((j + 1 : Nat) : Int) < (n : Int) := of_decide_eq_true h
      have hb2 := (s.getD (i + (j + 1)) 0).toNat_lt
      have eix : ((i : Int) + ((j + 1 : Nat) : Int)).toNat = i + (j + 1) := by omega
      refine And.intro (by omega) ?_
      refine And.intro ⟨by omega,by omega⟩ ?_
      refine And.intro ⟨by omega,by omega⟩ ?_
      refine And.intro ⟨(show (-9223372036854775808 : Int) ≤ ((s.getD ((i : Int) + ((j + 1 : Nat) : Int)).toNat 0).toNat : Int) by omega),(show ((s.getD ((i : Int) + ((j + 1 : Nat) : Int)).toNat 0).toNat : Int) ≤ 9223372036854775807 by rw [eix]; omega)⟩ ?_
      refine And.intro (by omega) ?_
      refine ⟨j + 2,⟨by omega,by omega⟩,(show n - (j + 2) < n - (j + 1) by omega),?_⟩
      show SubSt _ _ (PS2 s cs i n (j + 2) (accP s i n (j + 1)))
      refine sub_ren [0] rfl (by decide) ⟨⟨_,rfl,rfl⟩,⟨_,rfl,⟨0,rfl,eSl ?_⟩⟩,⟨_,rfl,rfl⟩,⟨_,rfl,rfl⟩,⟨_,rfl,eI ?_⟩,⟨_,rfl,eI (by omega)⟩,trivial⟩ ⟨⟨0,_,rfl,rfl,?_⟩,trivial⟩
      ·rfl
      ·show orI .i64 (shlI .i64 A 6) (andI .i64 ((s.getD ((i : Int) + ((j + 1 : Nat) : Int)).toNat 0).toNat : Int) 63) = ((accP s i n (j + 1) : Nat) : Int)
       rw [eix,hAa,or_six (by omega) hb2,ha]
       rfl
      ·exact ⟨_,rfl,eN (nnl_intsN _) rfl⟩
     ·have hF : ¬ ((j + 1 : Nat) : Int) < (n : Int) := of_decide_eq_false h
      have hjn : j = n - 1 := by omega
      subst hjn
      have hsl : (s.drop (i : Int).toNat).take (((i : Int) + (n : Int)).toNat - (i : Int).toNat) = (s.drop i).take n := by
       have e : ((i : Int) + (n : Int)).toNat = i + n := by omega
       rw [e,Int.toNat_natCast,Nat.add_sub_cancel_left]
      refine ⟨A,rfl,trivial,?_⟩
      have args : [AV.int .i64 A] = [AV.int .i64 (a : Int)] := by rw [hAa]
      refine (Classical.em (Sc a)).elim (fun hsc => ?_) (fun hsc => ?_)
      ·have V : scB A = true := by rw [hAa]; exact scB_t hsc
       have V' : (!scB A) = false := by rw [V]; rfl
       repeat ((conv => whnf); first | refine ⟨a,args,hsc,?_⟩ | refine And.intro ⟨by omega,by omega,by omega⟩ ?_ | refine cond_t (by first | (simp only [V',cond_false]; done) | fail) ?_ | refine cond_f (by first | (simp only [V',cond_false,eq_self]; done) | fail) ?_ | refine And.intro (by omega) ?_ | refine And.intro ⟨rfl,by omega,by omega⟩ ?_ | refine And.intro ⟨rfl,by decide,by omega,by omega⟩ ?_)
       refine (Classical.em (enc a = (s.drop i).take n)).elim (fun hen => ?_) (fun hen => ?_)
       ·have C4 : (bif !scB A then true else !decide (enc a = (s.drop (i : Int).toNat).take (((i : Int) + (n : Int)).toNat - (i : Int).toNat))) = false := by rw [V,hsl,decide_eq_true hen]; rfl
        refine cond_f C4 ?_
        have hg := hst.2.2 (by omega) (by rw [← ha]; exact hsc) (by rw [← ha]; exact hen)
        rw [← ha] at hg
        refine And.intro ⟨(show (0 : Nat) ≠ 1 by decide),rfl,rfl,rfl,(show _ = cs.length * 1 by rw [intsN_len]; omega),(show (0 + 1) * 1 ≤ 1 by decide),(show AllOne [AV.int .i64 A] from allOne1' rfl),(show (cs.length + 1) * 8 ≤ 140737488355328 by omega)⟩ ⟨_,rfl,?_⟩
        refine And.intro ⟨by omega,by omega⟩ ?_
        have hn := PI_next hI hlt (by omega) (by omega) hg.1 hg.2
        refine ⟨(cs ++ [a],i + n),hn,(show s.length - (i + n) < s.length - i by omega),?_⟩
        show SubSt _ _ (PS s (cs ++ [a]) (i + n))
        refine sub_ren [2] rfl (by decide) ⟨⟨_,rfl,rfl⟩,⟨_,rfl,⟨2,rfl,eSl ?_⟩⟩,⟨_,rfl,eI (by omega)⟩,trivial⟩ ⟨⟨2,_,rfl,rfl,?_⟩,trivial⟩
        ·show cs.length + 1 = (cs ++ [a]).length; rw [List.length_append]; rfl
        ·exact ⟨_,rfl,eN (nnl_intsN _) (by rw [intsN_app]; show intsN cs ++ [AV.int .i64 A] = _; rw [hAa]; rfl)⟩
       ·have C4 : (bif !scB A then true else !decide (enc a = (s.drop (i : Int).toNat).take (((i : Int) + (n : Int)).toNat - (i : Int).toNat))) = true := by rw [V,hsl,decide_eq_false hen]; rfl
        refine cond_t C4 ?_
        have hB := PI_bad hI hlt (hst.2.1 (by omega) (by rw [← ha]; exact fun h => hen h.2))
        exact ⟨_,ret_sub (cs := cs) (b := false) rfl rfl rfl (Nat.le_refl 1),pts_res hB.1 hB.2⟩
      ·have V' : (!scB A) = true := by rw [hAa,scB_f hsc]; rfl
       repeat ((conv => whnf); first | refine cond_t (by first | (simp only [V',eq_self]; done) | fail) ?_ | refine cond_f (by first | (simp only [V',cond_true,cond_false,Bool.not_true,Bool.not_false,eq_self,decide_true,decide_false]; done) | fail) ?_ | refine And.intro (by omega) ?_ | refine And.intro ⟨rfl,by omega,by omega⟩ ?_ | refine And.intro ⟨rfl,by decide,by omega,by omega⟩ ?_)
       have hB := PI_bad hI hlt (hst.2.1 (by omega) (by rw [← ha]; exact fun h => hsc h.1))
       exact ⟨_,ret_sub (cs := cs) (b := false) rfl rfl rfl (Nat.le_refl 1),pts_res hB.1 hB.2⟩
  ·have hF : ¬ (i : Int) < s.length := of_decide_eq_false h
   have he : i = s.length := by omega
   have hd : s.drop i = [] := by rw [he,List.drop_length]
   obtain ⟨_,_,h3,h4⟩ := hI
   rw [hd] at h3 h4
   exact ⟨_,ret_sub (cs := cs) (b := true) rfl rfl rfl (Nat.le_refl 1),pts_res (by rw [h3,preL_nil,List.append_nil]) h4⟩

end Qk
