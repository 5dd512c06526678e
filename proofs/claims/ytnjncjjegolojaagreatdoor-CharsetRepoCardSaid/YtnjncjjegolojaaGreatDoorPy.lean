/-
  Chapter 57: the reference of the two directions, the law.
-/
import Derived.Test.YtnjncjjegolojaaGreatDoorPg
import Derived.Test.YtnjncjjegolojaaGreatDoorPp
import Derived.Test.YtnjncjjegolojaaGreatDoorPh
import Derived.Test.YtnjncjjegolojaaGreatDoorPq
import Derived.Test.YtnjncjjegolojaaGreatDoorPu

/-
  Chapter 57, plain: what was taken from a working copy is given back, and the other way round.
-/
namespace Qk
open Go Go.RowKit

theorem strip_cons {b : UInt8} (h : b ≠ 13) : ∀ (x : List UInt8),stripCR (b :: x) = b :: stripCR x
 | [] => rfl
 | c :: r => by rw [stripCR,if_neg (fun e => h e.1)]
theorem strip_cnt : ∀ (t : List UInt8),t.length ≤ t.count 10 + (stripCR t).length
 | [] => Nat.le_refl _
 | [b] => by show 1 ≤ _ + 1; omega
 | b :: c :: r => by
  unfold stripCR
  by_cases h : b = 13 ∧ c = 10
  ·obtain ⟨rfl,rfl⟩ := h
   rw [if_pos ⟨rfl,rfl⟩,List.count_cons_of_ne (by decide),List.count_cons_self]
   have := strip_cnt r
   simp only [List.length_cons]
   omega
  ·rw [if_neg h]
   have h1 := strip_cnt (c :: r)
   have h2 := List.count_le_count_cons (a := (10 : UInt8)) (b := b) (l := c :: r)
   simp only [List.length_cons] at h1 ⊢
   omega
end Qk

/-
  Chapter 57, plain: line endings as the reference takes them.
-/
namespace Qk
open Go

/-- Without the CR ahead of each LF, if there is no other CR or LF. -/
def wo : List UInt8 → Option (List UInt8)
 | [] => some []
 | [b] => if b = 10 ∨ b = 13 then none else some [b]
 | b :: c :: r => if b = 10 then none else if b = 13 then (if c = 10 then (wo r).map (10 :: ·) else none) else (wo (c :: r)).map (b :: ·)
theorem wo_lf (r : List UInt8) : wo (10 :: r) = none := by
 cases r with
 | nil => rfl
 | cons c r => rw [wo,if_pos rfl]
theorem wo_cr {r : List UInt8} (h : r.getD 0 0 ≠ 10) : wo (13 :: r) = none := by
 cases r with
 | nil => rfl
 | cons c r =>
  have h' : ¬ c = 10 := h
  rw [wo,if_neg (by decide),if_pos rfl,if_neg h']
theorem wo_crlf (r : List UInt8) : wo (13 :: 10 :: r) = (wo r).map (10 :: ·) := by rw [wo,if_neg (by decide),if_pos rfl,if_pos rfl]
theorem wo_other {b : UInt8} (h1 : b ≠ 10) (h2 : b ≠ 13) (r : List UInt8) : wo (b :: r) = (wo r).map (b :: ·) := by
 cases r with
 | nil =>
  have h3 : ¬ (b = 10 ∨ b = 13) := fun h => h.elim h1 h2
  show (if b = 10 ∨ b = 13 then none else some [b]) = _
  rw [if_neg h3]; rfl
 | cons c r => rw [wo,if_neg h1,if_neg h2]
theorem strip_other {b : UInt8} (h : b ≠ 13) (r : List UInt8) : stripCR (b :: r) = b :: stripCR r := strip_cons h r
theorem strip_crlf (r : List UInt8) : stripCR (13 :: 10 :: r) = 10 :: stripCR r := by rw [stripCR,if_pos ⟨rfl,rfl⟩]
theorem strip_cr {r : List UInt8} (h : r.getD 0 0 ≠ 10) : stripCR (13 :: r) = 13 :: stripCR r := by
 cases r with
 | nil => rfl
 | cons c r =>
  have h' : ¬ ((13 : UInt8) = 13 ∧ c = 10) := fun e => h e.2
  rw [stripCR,if_neg h']
theorem wo_ok : ∀ (n : Nat) (s : List UInt8),s.length ≤ n → wo s = if s.count 10 + (stripCR s).length = s.length ∧ (13 : UInt8) ∉ stripCR s then some (stripCR s) else none
 | _,[],_ => rfl
 | 0,_ :: _,h => by simp at h
 | n + 1,b :: r,h => by
  have hl : r.length ≤ n := by simp at h; omega
  by_cases h10 : b = 10
  ·subst h10
   have h1 := strip_cnt r
   have h2 : (10 :: r : List UInt8).count 10 = r.count 10 + 1 := by simp
   rw [wo_lf,if_neg]
   rintro ⟨h3,_⟩
   rw [strip_other (by decide),h2] at h3
   simp only [List.length_cons] at h3
   omega
  by_cases h13 : b = 13
  ·subst h13
   by_cases hr : r.getD 0 0 = 10
   ·match r,hl,hr with
    | c :: r',hl,hr =>
     have hc : c = 10 := hr
     subst hc
     have ih := wo_ok n r' (by simp at hl; omega)
     have h2 : (13 :: 10 :: r' : List UInt8).count 10 = r'.count 10 + 1 := by simp
     rw [wo_crlf,ih,strip_crlf,h2]
     by_cases hc : r'.count 10 + (stripCR r').length = r'.length ∧ (13 : UInt8) ∉ stripCR r'
     ·rw [if_pos hc,if_pos ⟨by simp only [List.length_cons]; omega,by simp [hc.2]⟩]; rfl
     ·rw [if_neg hc,if_neg (fun h => hc ⟨by have := h.1; simp only [List.length_cons] at this; omega,fun e => h.2 (List.mem_cons_of_mem _ e)⟩)]; rfl
   ·rw [wo_cr hr,strip_cr hr,if_neg (fun h => h.2 (by simp))]
  ·have ih := wo_ok n r hl
   have h2 : (b :: r).count 10 = r.count 10 := by rw [List.count_cons_of_ne h10]
   rw [wo_other h10 h13,ih,strip_other h13,h2]
   by_cases hc : r.count 10 + (stripCR r).length = r.length ∧ (13 : UInt8) ∉ stripCR r
   ·rw [if_pos hc,if_pos ⟨by simp only [List.length_cons]; omega,by simp [hc.2,Ne.symm h13]⟩]; rfl
   ·rw [if_neg hc,if_neg (fun h => hc ⟨by have := h.1; simp only [List.length_cons] at this; omega,fun e => h.2 (List.mem_cons_of_mem _ e)⟩)]; rfl
def woS (s : List UInt8) : List UInt8 × Bool := match wo s with | some t => (t,true) | none => ([],false)
theorem woS_some {s t : List UInt8} (h : wo s = some t) : woS s = (t,true) := by unfold woS; rw [h]
theorem woS_none {s : List UInt8} (h : wo s = none) : woS s = ([],false) := by unfold woS; rw [h]
theorem toLf_2 (s : List UInt8) : toLfS 2 s = if (woS s).2 then ((woS s).1,0) else ([],24) := by
 have hw := wo_ok _ s (Nat.le_refl _)
 have hl := stripCR_len s
 have e0 : toLfS 2 s = if (s.count 10 : Int) = (s.length : Int) - (stripCR s).length then (if (13 : UInt8) ∈ stripCR s then ([],24) else (stripCR s,0)) else ([],24) := by
  unfold toLfS
  rw [if_neg (by decide),if_pos rfl,ra_strip]
 rw [e0]
 by_cases h1 : (s.count 10 : Int) = (s.length : Int) - (stripCR s).length
 ·by_cases h2 : (13 : UInt8) ∈ stripCR s
  ·rw [woS_none (by rw [hw,if_neg (fun h => h.2 h2)]),if_pos h1,if_pos h2]; rfl
  ·rw [woS_some (t := stripCR s) (by rw [hw,if_pos ⟨by omega,h2⟩]),if_pos h1,if_neg h2]; rfl
 ·rw [woS_none (by rw [hw,if_neg (fun h => h1 (by have := h.1; omega))]),if_neg h1]; rfl
theorem toLf_0 (s : List UInt8) : toLfS 0 s = (s,0) := if_pos rfl
theorem toLf_1 (s : List UInt8) : toLfS 1 s = if (13 : UInt8) ∈ s then ([],24) else (s,0) := by
 unfold toLfS; rw [if_neg (by decide),if_neg (by decide)]
theorem addCR_snoc (s : List UInt8) (b : UInt8) : addCR (s ++ [b]) = addCR s ++ (if b = 10 then [13,10] else [b]) := by
 unfold addCR; rw [List.flatMap_append]; simp
theorem known_is {a : Att} {d : List UInt8} (h : knownS a d = 0) : (0 ≤ a.set ∧ a.set ≤ 3) ∧ (0 ≤ a.eol ∧ a.eol ≤ 2) ∧ d.length ≤ 65536 := by
 unfold knownS at h
 split at h
 ·cases h
 ·split at h
  ·cases h
  ·rename_i h1 h2
   omega

end Qk

/-
  Chapter 57: contracts of the reference of the two directions.
-/
namespace Qk
open Go Go.RowKit

def C_quiltref57_unknown : PC := ⟨Att × List UInt8,fun x => [.agg (attA x.1),.str x.2],fun _ => True,fun x => .int .i64 (knownS x.1 x.2)⟩
def C_quiltref57_clean : PC := ⟨List UInt8,fun s => [.str s],fun s => s.length ≤ 1000000000,fun s => .bool (!decide ((13 : UInt8) ∈ s))⟩
def C_quiltref57_without : PC := ⟨List UInt8,fun s => [.str s],fun s => s.length ≤ 1000000000,fun s => tupB (woS s)⟩
def C_quiltref57_ToRepo : PC := ⟨List Att × List UInt8 × List UInt8,fun x => [attsA x.1,.str x.2.1,.str x.2.2],fun x => okA x.1 ∧ x.2.1.length ≤ 1000000000 ∧ x.2.2.length ≤ 1000000000,fun x => tupS (toRepoS x.1 x.2.1 x.2.2)⟩
def C_quiltref57_FromRepo : PC := ⟨List Att × List UInt8 × List UInt8,fun x => [attsA x.1,.str x.2.1,.str x.2.2],fun x => okA x.1 ∧ x.2.1.length ≤ 1000000000 ∧ x.2.2.length ≤ 1000000000,fun x => tupS (fromRepoS x.1 x.2.1 x.2.2)⟩
def repB (s : List UInt8) (n : Nat) : List UInt8 := (List.replicate n s).flatten
def C_strings_Repeat : PC := ⟨List UInt8 × Int,fun p => [.str p.1,.int .i64 p.2],fun p => 0 ≤ p.2 ∧ p.2 ≤ 1000000000 ∧ p.1.length ≤ 1000,fun p => .str (repB p.1 p.2.toNat)⟩
def C_quiltlaw57_CharsetRepo : PC := ⟨List Att × List UInt8 × List UInt8,fun x => [attsA x.1,.str x.2.1,.str x.2.2],fun x => x.1.length ≤ 9223372036854775807,fun _ => .bool true⟩
def C_quiltlaw57_CharsetLong : PC := ⟨Att × List UInt8 × Nat,fun x => [.agg (attA x.1),.str x.2.1,.int .u32 (x.2.2 : Int)],fun x => x.2.2 < 4294967296,fun _ => .bool true⟩

end Qk

/-
  Chapter 57: the reference of the two directions, and the laws of it, in the executor's form (printed).
-/
namespace Qk
open Go Go.RowKit

/-- quilt/quiltref57.unknown -/
def ir_quiltref57_unknown : IF := ⟨(.seq (.ops [⟨some 2,none,.box (t 0)⟩,⟨some 4,none,.mov (ci 0)⟩])
 (.seq (.seq (.ops [⟨some 5,none,.fldA 1 (t 2)⟩,⟨some 6,none,.load1 (t 5)⟩,⟨some 7,none,.bin .lss (t 6) (ci 0)⟩,⟨some 8,none,.mov (t 7)⟩,⟨some 9,some (8,false),.fldA 1 (t 2)⟩,
  ⟨some 10,some (8,false),.load1 (t 9)⟩,⟨some 11,some (8,false),.bin .gtr (t 10) (ci 3)⟩,⟨some 12,none,.pick (t 8) (.const (.bool true)) (t 11)⟩,⟨some 13,none,.mov (t 12)⟩,⟨some 14,some (13,false),.fldA 2 (t 2)⟩,⟨some 15,some (13,false),.load1 (t 14)⟩,
  ⟨some 16,some (13,false),.bin .lss (t 15) (ci 0)⟩,⟨some 17,none,.pick (t 13) (.const (.bool true)) (t 16)⟩,⟨some 18,none,.mov (t 17)⟩,⟨some 19,some (18,false),.fldA 2 (t 2)⟩,⟨some 20,some (18,false),.load1 (t 19)⟩,⟨some 21,some (18,false),.bin .gtr (t 20) (ci 2)⟩,
  ⟨some 22,none,.pick (t 18) (.const (.bool true)) (t 21)⟩])
 (.cond (t 22) (.seq (.ops [⟨some 4,none,.mov (ci 8)⟩])
 .ret)
 .skip))
 (.seq (.seq (.ops [⟨some 23,none,.mov (t 1)⟩,⟨some 24,none,.lenS (t 23)⟩,⟨some 25,none,.bin .gtr (t 24) (ci 65536)⟩])
 (.cond (t 25) (.seq (.ops [⟨some 4,none,.mov (ci 4)⟩])
 .ret)
 .skip))
 (.seq (.ops [⟨some 4,none,.mov (ci 0)⟩])
 .ret)))),[.tmp 4]⟩
/-- quilt/quiltref57.clean -/
def ir_quiltref57_clean : IF := ⟨(.seq (.ops [⟨some 2,none,.mov (.const (.bool false))⟩])
 (.seq (.seq (.ops [⟨some 3,none,.mov (ci 0)⟩])
 (.block 0 (.loop (.seq (.seq (.ops [⟨some 4,none,.mov (t 3)⟩,⟨some 5,none,.mov (t 0)⟩,⟨some 6,none,.lenS (t 5)⟩,⟨some 7,none,.bin .lss (t 4) (t 6)⟩])
 (.cond (t 7) .skip
 (.exit 0)))
 (.seq (.block 1 (.seq (.ops [⟨some 10,none,.mov (t 0)⟩,⟨some 11,none,.mov (t 3)⟩,⟨some 12,none,.idxS (t 10) (t 11)⟩,
  ⟨some 13,none,.bin .eql (t 12) (.const (.int .u8 13))⟩])
 (.cond (t 13) (.seq (.ops [⟨some 2,none,.mov (.const (.bool false))⟩])
 .ret)
 .skip)))
 (.ops [⟨some 8,none,.mov (t 3)⟩,⟨some 9,none,.bin .add (t 8) (ci 1)⟩,⟨some 3,none,.mov (t 9)⟩]))))))
 (.seq (.ops [⟨some 2,none,.mov (.const (.bool true))⟩])
 .ret))),[.tmp 2]⟩
/-- quilt/quiltref57.without -/
def ir_quiltref57_without : IF := ⟨(.seq (.ops [⟨some 2,none,.mov (.const (.string ⟨#[]⟩))⟩,⟨some 3,none,.mov (.const (.bool false))⟩])
 (.seq (.ops [⟨some 6,none,.bslice 1 [.int .u8 0] 0 []⟩,⟨some 4,none,.mov (t 6)⟩])
 (.seq (.seq (.ops [⟨some 5,none,.mov (ci 0)⟩])
 (.block 0 (.loop (.seq (.seq (.ops [⟨some 7,none,.mov (t 5)⟩,⟨some 8,none,.mov (t 0)⟩,⟨some 9,none,.lenS (t 8)⟩,⟨some 10,none,.bin .lss (t 7) (t 9)⟩])
 (.cond (t 10) .skip
 (.exit 0)))
 (.seq (.block 1 (.seq (.seq (.ops [⟨some 13,none,.mov (t 0)⟩,
  ⟨some 14,none,.mov (t 5)⟩,⟨some 15,none,.idxS (t 13) (t 14)⟩,⟨some 16,none,.bin .eql (t 15) (.const (.int .u8 10))⟩])
 (.cond (t 16) (.seq (.ops [⟨some 2,none,.mov (.const (.string ⟨#[]⟩))⟩,⟨some 3,none,.mov (.const (.bool false))⟩])
 .ret)
 .skip))
 (.seq (.seq (.ops [⟨some 17,none,.mov (t 0)⟩,⟨some 18,none,.mov (t 5)⟩,⟨some 19,none,.idxS (t 17) (t 18)⟩,
  ⟨some 20,none,.bin .eql (t 19) (.const (.int .u8 13))⟩])
 (.jn (.cond (t 20) (.seq (.ops [⟨some 21,none,.mov (t 5)⟩,⟨some 22,none,.bin .add (t 21) (ci 1)⟩,⟨some 5,none,.mov (t 22)⟩])
 (.seq (.ops [⟨some 23,none,.mov (t 5)⟩,⟨some 24,none,.mov (t 0)⟩,⟨some 25,none,.lenS (t 24)⟩,⟨some 26,none,.bin .eql (t 23) (t 25)⟩,
  ⟨some 27,none,.mov (t 26)⟩,⟨some 28,some (27,false),.mov (t 0)⟩,⟨some 29,some (27,false),.mov (t 5)⟩,⟨some 30,some (27,false),.idxS (t 28) (t 29)⟩,⟨some 31,some (27,false),.bin .neq (t 30) (.const (.int .u8 10))⟩,⟨some 32,none,.pick (t 27) (.const (.bool true)) (t 31)⟩])
 (.cond (t 32) (.seq (.ops [⟨some 2,none,.mov (.const (.string ⟨#[]⟩))⟩,
  ⟨some 3,none,.mov (.const (.bool false))⟩])
 .ret)
 .skip)))
 .skip)))
 (.ops [⟨some 33,none,.mov (t 4)⟩,⟨some 34,none,.mov (t 0)⟩,⟨some 35,none,.mov (t 5)⟩,⟨some 36,none,.idxS (t 34) (t 35)⟩,⟨some 37,none,.bslice 1 [.int .u8 0] 1 [(0,1,(t 36))]⟩,⟨some 38,none,.app 1 1 (t 33) (t 37)⟩,
  ⟨some 4,none,.mov (t 38)⟩]))))
 (.ops [⟨some 11,none,.mov (t 5)⟩,⟨some 12,none,.bin .add (t 11) (ci 1)⟩,⟨some 5,none,.mov (t 12)⟩]))))))
 (.seq (.ops [⟨some 39,none,.mov (t 4)⟩,⟨some 40,none,.b2s (t 39)⟩,⟨some 2,none,.mov (t 40)⟩,⟨some 3,none,.mov (.const (.bool true))⟩])
 .ret)))),[.tmp 2,.tmp 3]⟩


/-- quilt/quiltref57.ToRepo -/
def ir_quiltref57_ToRepo : IF := ⟨(.seq (.ops [⟨some 6,none,.mov (.const (.string ⟨#[]⟩))⟩,⟨some 7,none,.mov (ci 0)⟩])
 (.seq (.ops [⟨some 13,none,.mov (t 0)⟩,⟨some 14,none,.mov (t 1)⟩,⟨some 15,none,.pcall C_quiltref57_Find [(t 13),(t 14)]⟩,⟨some 8,none,.alloc [.str [],.int .i64 0,.int .i64 0]⟩,⟨none,none,.storN 3 (t 8) (t 15)⟩])
 (.seq (.seq (.ops [⟨some 16,none,.loadN 3 (t 8)⟩,
  ⟨some 17,none,.mov (t 2)⟩,⟨some 18,none,.pcall C_quiltref57_unknown [(t 16),(t 17)]⟩,⟨some 9,none,.mov (t 18)⟩])
 (.seq (.ops [⟨some 19,none,.mov (t 9)⟩,⟨some 20,none,.bin .neq (t 19) (ci 0)⟩])
 (.cond (t 20) (.seq (.ops [⟨some 21,none,.mov (t 9)⟩,⟨some 6,none,.mov (.const (.string ⟨#[]⟩))⟩,⟨some 7,none,.mov (t 21)⟩])
 .ret)
 .skip)))
 (.seq (.seq (.ops [⟨some 22,none,.fldA 1 (t 8)⟩,
  ⟨some 23,none,.load1 (t 22)⟩,⟨some 24,none,.bin .gtr (t 23) (ci 0)⟩])
 (.jn (.cond (t 24) (.seq (.ops [⟨some 26,none,.fldA 1 (t 8)⟩,⟨some 27,none,.load1 (t 26)⟩,⟨some 28,none,.mov (t 2)⟩,⟨some 29,none,.pcall C_quiltref57_Decode [(t 27),(t 28)]⟩,⟨some 25,none,.mov (t 29)⟩,
  ⟨some 30,none,.extr (t 25) 0⟩,⟨some 31,none,.extr (t 25) 1⟩,⟨some 10,none,.mov (t 30)⟩,⟨some 11,none,.mov (t 31)⟩])
 (.seq (.seq (.ops [⟨some 32,none,.mov (t 11)⟩,⟨some 33,none,.bin .neq (t 32) (ci 0)⟩])
 (.cond (t 33) (.seq (.ops [⟨some 34,none,.mov (t 11)⟩,⟨some 6,none,.mov (.const (.string ⟨#[]⟩))⟩,
  ⟨some 7,none,.mov (t 34)⟩])
 .ret)
 .skip))
 (.ops [⟨some 35,none,.mov (t 10)⟩,⟨some 2,none,.mov (t 35)⟩])))
 .skip)))
 (.seq (.ops [⟨some 36,none,.fldA 2 (t 8)⟩,⟨some 37,none,.load1 (t 36)⟩,⟨some 38,none,.bin .eql (t 37) (ci 0)⟩,⟨some 39,none,.mov (t 38)⟩,⟨some 40,some (39,false),.fldA 2 (t 8)⟩,
  ⟨some 41,some (39,false),.load1 (t 40)⟩,⟨some 42,some (39,false),.bin .eql (t 41) (ci 1)⟩,⟨some 43,some (39,false),.mov (t 42)⟩,⟨some 44,some (43,true),.mov (t 2)⟩,⟨some 45,some (43,true),.pcall C_quiltref57_clean [(t 44)]⟩,⟨some 46,some (39,false),.pick (t 43) (t 45) (.const (.bool false))⟩,
  ⟨some 47,none,.pick (t 39) (.const (.bool true)) (t 46)⟩,⟨some 12,none,.mov (t 47)⟩])
 (.seq (.seq (.ops [⟨some 48,none,.fldA 2 (t 8)⟩,⟨some 49,none,.load1 (t 48)⟩,⟨some 50,none,.bin .eql (t 49) (ci 2)⟩])
 (.jn (.cond (t 50) (.ops [⟨some 52,none,.mov (t 2)⟩,⟨some 53,none,.pcall C_quiltref57_without [(t 52)]⟩,⟨some 51,none,.mov (t 53)⟩,
  ⟨some 54,none,.extr (t 51) 0⟩,⟨some 55,none,.extr (t 51) 1⟩,⟨some 2,none,.mov (t 54)⟩,⟨some 12,none,.mov (t 55)⟩])
 .skip)))
 (.seq (.seq (.ops [⟨some 56,none,.mov (t 12)⟩,⟨some 57,none,.not (t 56)⟩])
 (.cond (t 57) (.seq (.ops [⟨some 6,none,.mov (.const (.string ⟨#[]⟩))⟩,⟨some 7,none,.mov (ci 24)⟩])
 .ret)
 .skip))
 (.seq (.ops [⟨some 58,none,.mov (t 2)⟩,
  ⟨some 6,none,.mov (t 58)⟩,⟨some 7,none,.mov (ci 0)⟩])
 .ret)))))))),[.tmp 6,.tmp 7]⟩
/-- quilt/quiltref57.FromRepo -/
def ir_quiltref57_FromRepo : IF := ⟨(.seq (.ops [⟨some 6,none,.mov (.const (.string ⟨#[]⟩))⟩,⟨some 7,none,.mov (ci 0)⟩])
 (.seq (.ops [⟨some 12,none,.mov (t 0)⟩,⟨some 13,none,.mov (t 1)⟩,⟨some 14,none,.pcall C_quiltref57_Find [(t 12),(t 13)]⟩,⟨some 8,none,.alloc [.str [],.int .i64 0,.int .i64 0]⟩,⟨none,none,.storN 3 (t 8) (t 14)⟩])
 (.seq (.seq (.ops [⟨some 15,none,.loadN 3 (t 8)⟩,
  ⟨some 16,none,.mov (t 2)⟩,⟨some 17,none,.pcall C_quiltref57_unknown [(t 15),(t 16)]⟩,⟨some 9,none,.mov (t 17)⟩])
 (.seq (.ops [⟨some 18,none,.mov (t 9)⟩,⟨some 19,none,.bin .neq (t 18) (ci 0)⟩])
 (.cond (t 19) (.seq (.ops [⟨some 20,none,.mov (t 9)⟩,⟨some 6,none,.mov (.const (.string ⟨#[]⟩))⟩,⟨some 7,none,.mov (t 20)⟩])
 .ret)
 .skip)))
 (.seq (.jn (.seq (.ops [⟨some 21,none,.fldA 2 (t 8)⟩,
  ⟨some 22,none,.load1 (t 21)⟩,⟨some 23,none,.bin .gtr (t 22) (ci 0)⟩,⟨some 24,none,.mov (t 23)⟩,⟨some 25,some (24,true),.mov (t 2)⟩,⟨some 26,some (24,true),.pcall C_quiltref57_clean [(t 25)]⟩,⟨some 27,some (24,true),.not (t 26)⟩,
  ⟨some 28,none,.pick (t 24) (t 27) (.const (.bool false))⟩])
 (.cond (t 28) (.seq (.ops [⟨some 6,none,.mov (.const (.string ⟨#[]⟩))⟩,⟨some 7,none,.mov (ci 24)⟩])
 .ret)
 .skip)))
 (.seq (.seq (.ops [⟨some 29,none,.fldA 2 (t 8)⟩,⟨some 30,none,.load1 (t 29)⟩,⟨some 31,none,.bin .eql (t 30) (ci 2)⟩])
 (.jn (.cond (t 31) (.seq (.ops [⟨some 32,none,.bslice 1 [.int .u8 0] 0 []⟩,⟨some 10,none,.mov (t 32)⟩])
 (.seq (.seq (.ops [⟨some 11,none,.mov (ci 0)⟩])
 (.block 0 (.loop (.seq (.seq (.ops [⟨some 33,none,.mov (t 11)⟩,⟨some 34,none,.mov (t 2)⟩,
  ⟨some 35,none,.lenS (t 34)⟩,⟨some 36,none,.bin .lss (t 33) (t 35)⟩])
 (.cond (t 36) .skip
 (.exit 0)))
 (.seq (.block 1 (.seq (.seq (.ops [⟨some 39,none,.mov (t 2)⟩,⟨some 40,none,.mov (t 11)⟩,⟨some 41,none,.idxS (t 39) (t 40)⟩,⟨some 42,none,.bin .eql (t 41) (.const (.int .u8 10))⟩])
 (.jn (.cond (t 42) (.ops [⟨some 43,none,.mov (t 10)⟩,⟨some 44,none,.bslice 1 [.int .u8 0] 1 [(0,1,(.const (.int .u8 13)))]⟩,
  ⟨some 45,none,.app 1 1 (t 43) (t 44)⟩,⟨some 10,none,.mov (t 45)⟩])
 .skip)))
 (.ops [⟨some 46,none,.mov (t 10)⟩,⟨some 47,none,.mov (t 2)⟩,⟨some 48,none,.mov (t 11)⟩,⟨some 49,none,.idxS (t 47) (t 48)⟩,⟨some 50,none,.bslice 1 [.int .u8 0] 1 [(0,1,(t 49))]⟩,
  ⟨some 51,none,.app 1 1 (t 46) (t 50)⟩,⟨some 10,none,.mov (t 51)⟩])))
 (.ops [⟨some 37,none,.mov (t 11)⟩,⟨some 38,none,.bin .add (t 37) (ci 1)⟩,⟨some 11,none,.mov (t 38)⟩]))))))
 (.ops [⟨some 52,none,.mov (t 10)⟩,⟨some 53,none,.b2s (t 52)⟩,⟨some 2,none,.mov (t 53)⟩])))
 .skip)))
 (.seq (.seq (.ops [⟨some 54,none,.mov (t 2)⟩,
  ⟨some 55,none,.lenS (t 54)⟩,⟨some 56,none,.bin .gtr (t 55) (ci 65536)⟩])
 (.cond (t 56) (.seq (.ops [⟨some 6,none,.mov (.const (.string ⟨#[]⟩))⟩,⟨some 7,none,.mov (ci 4)⟩])
 .ret)
 .skip))
 (.seq (.seq (.ops [⟨some 57,none,.fldA 1 (t 8)⟩,⟨some 58,none,.load1 (t 57)⟩,⟨some 59,none,.bin .gtr (t 58) (ci 0)⟩])
 (.cond (t 59) (.seq (.ops [⟨some 60,none,.fldA 1 (t 8)⟩,⟨some 61,none,.load1 (t 60)⟩,
  ⟨some 62,none,.mov (t 2)⟩,⟨some 63,none,.pcall C_quiltref57_Encode [(t 61),(t 62)]⟩,⟨some 64,none,.extr (t 63) 0⟩,⟨some 65,none,.extr (t 63) 1⟩,⟨some 6,none,.mov (t 64)⟩,⟨some 7,none,.mov (t 65)⟩])
 .ret)
 .skip))
 (.seq (.ops [⟨some 66,none,.mov (t 2)⟩,
  ⟨some 6,none,.mov (t 66)⟩,⟨some 7,none,.mov (ci 0)⟩])
 .ret)))))))),[.tmp 6,.tmp 7]⟩
/-- quilt/quiltlaw57.CharsetRepo -/
def ir_quiltlaw57_CharsetRepo : IF := ⟨(.seq (.ops [⟨some 6,none,.mov (.const (.bool false))⟩])
 (.seq (.seq (.ops [⟨some 15,none,.mov (t 0)⟩,⟨some 16,none,.pcall C_quiltref57_Great [(t 15)]⟩,⟨some 17,none,.mov (t 16)⟩,⟨some 18,some (17,false),.mov (t 1)⟩,⟨some 19,some (17,false),.lenS (t 18)⟩,⟨some 20,some (17,false),.bin .gtr (t 19) (ci 60)⟩,
  ⟨some 21,none,.pick (t 17) (.const (.bool true)) (t 20)⟩,⟨some 22,none,.mov (t 21)⟩,⟨some 23,some (22,false),.mov (t 2)⟩,⟨some 24,some (22,false),.lenS (t 23)⟩,⟨some 25,some (22,false),.bin .gtr (t 24) (ci 300)⟩,⟨some 26,none,.pick (t 22) (.const (.bool true)) (t 25)⟩])
 (.cond (t 26) (.seq (.ops [⟨some 27,none,.pcall C_quiltlaw57_awake []⟩,
  ⟨some 6,none,.mov (t 27)⟩])
 .ret)
 .skip))
 (.seq (.ops [⟨some 29,none,.mov (t 0)⟩,⟨some 30,none,.mov (t 1)⟩,⟨some 31,none,.mov (t 2)⟩,⟨some 32,none,.pcall C_charset_ToRepo [(t 29),(t 30),(t 31)]⟩,⟨some 28,none,.mov (t 32)⟩,⟨some 33,none,.extr (t 28) 0⟩,
  ⟨some 34,none,.extr (t 28) 1⟩,⟨some 7,none,.mov (t 33)⟩,⟨some 8,none,.mov (t 34)⟩])
 (.seq (.ops [⟨some 36,none,.mov (t 0)⟩,⟨some 37,none,.mov (t 1)⟩,⟨some 38,none,.mov (t 2)⟩,⟨some 39,none,.pcall C_quiltref57_ToRepo [(t 36),(t 37),(t 38)]⟩,
  ⟨some 35,none,.mov (t 39)⟩,⟨some 40,none,.extr (t 35) 0⟩,⟨some 41,none,.extr (t 35) 1⟩,⟨some 9,none,.mov (t 40)⟩,⟨some 10,none,.mov (t 41)⟩])
 (.seq (.ops [⟨some 43,none,.mov (t 0)⟩,⟨some 44,none,.mov (t 1)⟩,
  ⟨some 45,none,.mov (t 2)⟩,⟨some 46,none,.pcall C_charset_FromRepo [(t 43),(t 44),(t 45)]⟩,⟨some 42,none,.mov (t 46)⟩,⟨some 47,none,.extr (t 42) 0⟩,⟨some 48,none,.extr (t 42) 1⟩,⟨some 11,none,.mov (t 47)⟩,
  ⟨some 12,none,.mov (t 48)⟩])
 (.seq (.ops [⟨some 50,none,.mov (t 0)⟩,⟨some 51,none,.mov (t 1)⟩,⟨some 52,none,.mov (t 2)⟩,⟨some 53,none,.pcall C_quiltref57_FromRepo [(t 50),(t 51),(t 52)]⟩,⟨some 49,none,.mov (t 53)⟩,⟨some 54,none,.extr (t 49) 0⟩,
  ⟨some 55,none,.extr (t 49) 1⟩,⟨some 13,none,.mov (t 54)⟩,⟨some 14,none,.mov (t 55)⟩])
 (.seq (.ops [⟨some 56,none,.mov (t 7)⟩,⟨some 57,none,.mov (t 9)⟩,⟨some 58,none,.bin .eql (t 56) (t 57)⟩,⟨some 59,none,.mov (t 58)⟩,
  ⟨some 60,some (59,true),.mov (t 8)⟩,⟨some 61,some (59,true),.mov (t 10)⟩,⟨some 62,some (59,true),.bin .eql (t 60) (t 61)⟩,⟨some 63,none,.pick (t 59) (t 62) (.const (.bool false))⟩,⟨some 64,none,.mov (t 63)⟩,⟨some 65,some (64,true),.mov (t 11)⟩,
  ⟨some 66,some (64,true),.mov (t 13)⟩,⟨some 67,some (64,true),.bin .eql (t 65) (t 66)⟩,⟨some 68,none,.pick (t 64) (t 67) (.const (.bool false))⟩,⟨some 69,none,.mov (t 68)⟩,⟨some 70,some (69,true),.mov (t 12)⟩,⟨some 71,some (69,true),.mov (t 14)⟩,
  ⟨some 72,some (69,true),.bin .eql (t 70) (t 71)⟩,⟨some 73,none,.pick (t 69) (t 72) (.const (.bool false))⟩,⟨some 74,none,.mov (t 73)⟩,⟨some 75,some (74,true),.pcall C_quiltlaw57_awake []⟩,⟨some 76,none,.pick (t 74) (t 75) (.const (.bool false))⟩,⟨some 6,none,.mov (t 76)⟩])
 .ret))))))),[.tmp 6]⟩
/-- quilt/quiltlaw57.CharsetLong -/
def ir_quiltlaw57_CharsetLong : IF := ⟨(.seq (.ops [⟨some 3,none,.box (t 0)⟩,⟨some 6,none,.mov (.const (.bool false))⟩])
 (.seq (.seq (.ops [⟨some 25,none,.mov (t 1)⟩,⟨some 26,none,.lenS (t 25)⟩,⟨some 27,none,.bin .eql (t 26) (ci 0)⟩,⟨some 28,none,.mov (t 27)⟩,⟨some 29,some (28,false),.mov (t 1)⟩,
  ⟨some 30,some (28,false),.lenS (t 29)⟩,⟨some 31,some (28,false),.bin .gtr (t 30) (ci 8)⟩,⟨some 32,none,.pick (t 28) (.const (.bool true)) (t 31)⟩,⟨some 33,none,.mov (t 32)⟩,⟨some 34,some (33,false),.fldA 0 (t 3)⟩,⟨some 35,some (33,false),.load1 (t 34)⟩,
  ⟨some 36,some (33,false),.lenS (t 35)⟩,⟨some 37,some (33,false),.bin .gtr (t 36) (ci 40)⟩,⟨some 38,none,.pick (t 33) (.const (.bool true)) (t 37)⟩])
 (.cond (t 38) (.seq (.ops [⟨some 39,none,.pcall C_quiltlaw57_awake []⟩,⟨some 6,none,.mov (t 39)⟩])
 .ret)
 .skip))
 (.seq (.ops [⟨some 40,none,.mov (t 1)⟩,⟨some 41,none,.mov (t 2)⟩,⟨some 42,none,.bin .rem (t 41) (.const (.int .u32 70001))⟩,
  ⟨some 43,none,.conv .i64 (t 42)⟩,⟨some 44,none,.mov (t 1)⟩,⟨some 45,none,.lenS (t 44)⟩,⟨some 46,none,.bin .quo (t 43) (t 45)⟩,⟨some 47,none,.pcall C_strings_Repeat [(t 40),(t 46)]⟩,⟨some 7,none,.mov (t 47)⟩])
 (.seq (.ops [⟨some 49,none,.fldA 1 (t 3)⟩,
  ⟨some 50,none,.load1 (t 49)⟩,⟨some 51,none,.mov (t 7)⟩,⟨some 52,none,.pcall C_charset_Decode [(t 50),(t 51)]⟩,⟨some 48,none,.mov (t 52)⟩,⟨some 53,none,.extr (t 48) 0⟩,⟨some 54,none,.extr (t 48) 1⟩,
  ⟨some 8,none,.mov (t 53)⟩,⟨some 9,none,.mov (t 54)⟩])
 (.seq (.ops [⟨some 56,none,.fldA 1 (t 3)⟩,⟨some 57,none,.load1 (t 56)⟩,⟨some 58,none,.mov (t 7)⟩,⟨some 59,none,.pcall C_quiltref57_Decode [(t 57),(t 58)]⟩,⟨some 55,none,.mov (t 59)⟩,
  ⟨some 60,none,.extr (t 55) 0⟩,⟨some 61,none,.extr (t 55) 1⟩,⟨some 10,none,.mov (t 60)⟩,⟨some 11,none,.mov (t 61)⟩])
 (.seq (.ops [⟨some 63,none,.fldA 1 (t 3)⟩,⟨some 64,none,.load1 (t 63)⟩,⟨some 65,none,.mov (t 7)⟩,
  ⟨some 66,none,.pcall C_charset_Encode [(t 64),(t 65)]⟩,⟨some 62,none,.mov (t 66)⟩,⟨some 67,none,.extr (t 62) 0⟩,⟨some 68,none,.extr (t 62) 1⟩,⟨some 12,none,.mov (t 67)⟩,⟨some 13,none,.mov (t 68)⟩])
 (.seq (.ops [⟨some 70,none,.fldA 1 (t 3)⟩,
  ⟨some 71,none,.load1 (t 70)⟩,⟨some 72,none,.mov (t 7)⟩,⟨some 73,none,.pcall C_quiltref57_Encode [(t 71),(t 72)]⟩,⟨some 69,none,.mov (t 73)⟩,⟨some 74,none,.extr (t 69) 0⟩,⟨some 75,none,.extr (t 69) 1⟩,
  ⟨some 14,none,.mov (t 74)⟩,⟨some 15,none,.mov (t 75)⟩])
 (.seq (.ops [⟨some 76,none,.loadN 3 (t 3)⟩,⟨some 77,none,.bslice 3 [.str [],.int .i64 0,.int .i64 0] 1 [(0,3,(t 76))]⟩,⟨some 16,none,.mov (t 77)⟩])
 (.seq (.ops [⟨some 79,none,.mov (t 16)⟩,⟨some 80,none,.mov (t 7)⟩,⟨some 81,none,.pcall C_charset_ToRepo [(t 79),(.const (.string ⟨#[97]⟩)),(t 80)]⟩,
  ⟨some 78,none,.mov (t 81)⟩,⟨some 82,none,.extr (t 78) 0⟩,⟨some 83,none,.extr (t 78) 1⟩,⟨some 17,none,.mov (t 82)⟩,⟨some 18,none,.mov (t 83)⟩])
 (.seq (.ops [⟨some 85,none,.mov (t 16)⟩,⟨some 86,none,.mov (t 7)⟩,
  ⟨some 87,none,.pcall C_quiltref57_ToRepo [(t 85),(.const (.string ⟨#[97]⟩)),(t 86)]⟩,⟨some 84,none,.mov (t 87)⟩,⟨some 88,none,.extr (t 84) 0⟩,⟨some 89,none,.extr (t 84) 1⟩,⟨some 19,none,.mov (t 88)⟩,⟨some 20,none,.mov (t 89)⟩])
 (.seq (.ops [⟨some 91,none,.mov (t 16)⟩,
  ⟨some 92,none,.mov (t 7)⟩,⟨some 93,none,.pcall C_charset_FromRepo [(t 91),(.const (.string ⟨#[97]⟩)),(t 92)]⟩,⟨some 90,none,.mov (t 93)⟩,⟨some 94,none,.extr (t 90) 0⟩,⟨some 95,none,.extr (t 90) 1⟩,⟨some 21,none,.mov (t 94)⟩,
  ⟨some 22,none,.mov (t 95)⟩])
 (.seq (.ops [⟨some 97,none,.mov (t 16)⟩,⟨some 98,none,.mov (t 7)⟩,⟨some 99,none,.pcall C_quiltref57_FromRepo [(t 97),(.const (.string ⟨#[97]⟩)),(t 98)]⟩,⟨some 96,none,.mov (t 99)⟩,⟨some 100,none,.extr (t 96) 0⟩,⟨some 101,none,.extr (t 96) 1⟩,
  ⟨some 23,none,.mov (t 100)⟩,⟨some 24,none,.mov (t 101)⟩])
 (.seq (.ops [⟨some 102,none,.mov (t 8)⟩,⟨some 103,none,.mov (t 10)⟩,⟨some 104,none,.bin .eql (t 102) (t 103)⟩,⟨some 105,none,.mov (t 104)⟩,⟨some 106,some (105,true),.mov (t 9)⟩,
  ⟨some 107,some (105,true),.mov (t 11)⟩,⟨some 108,some (105,true),.bin .eql (t 106) (t 107)⟩,⟨some 109,none,.pick (t 105) (t 108) (.const (.bool false))⟩,⟨some 110,none,.mov (t 109)⟩,⟨some 111,some (110,true),.mov (t 12)⟩,⟨some 112,some (110,true),.mov (t 14)⟩,
  ⟨some 113,some (110,true),.bin .eql (t 111) (t 112)⟩,⟨some 114,none,.pick (t 110) (t 113) (.const (.bool false))⟩,⟨some 115,none,.mov (t 114)⟩,⟨some 116,some (115,true),.mov (t 13)⟩,⟨some 117,some (115,true),.mov (t 15)⟩,⟨some 118,some (115,true),.bin .eql (t 116) (t 117)⟩,
  ⟨some 119,none,.pick (t 115) (t 118) (.const (.bool false))⟩,⟨some 120,none,.mov (t 119)⟩,⟨some 121,some (120,true),.mov (t 17)⟩,⟨some 122,some (120,true),.mov (t 19)⟩,⟨some 123,some (120,true),.bin .eql (t 121) (t 122)⟩,⟨some 124,none,.pick (t 120) (t 123) (.const (.bool false))⟩,
  ⟨some 125,none,.mov (t 124)⟩,⟨some 126,some (125,true),.mov (t 18)⟩,⟨some 127,some (125,true),.mov (t 20)⟩,⟨some 128,some (125,true),.bin .eql (t 126) (t 127)⟩,⟨some 129,none,.pick (t 125) (t 128) (.const (.bool false))⟩,⟨some 130,none,.mov (t 129)⟩,
  ⟨some 131,some (130,true),.mov (t 21)⟩,⟨some 132,some (130,true),.mov (t 23)⟩,⟨some 133,some (130,true),.bin .eql (t 131) (t 132)⟩,⟨some 134,none,.pick (t 130) (t 133) (.const (.bool false))⟩,⟨some 135,none,.mov (t 134)⟩,⟨some 136,some (135,true),.mov (t 22)⟩,
  ⟨some 137,some (135,true),.mov (t 24)⟩,⟨some 138,some (135,true),.bin .eql (t 136) (t 137)⟩,⟨some 139,none,.pick (t 135) (t 138) (.const (.bool false))⟩,⟨some 140,none,.mov (t 139)⟩,⟨some 141,some (140,true),.pcall C_quiltlaw57_awake []⟩,⟨some 142,none,.pick (t 140) (t 141) (.const (.bool false))⟩,
  ⟨some 6,none,.mov (t 142)⟩])
 .ret))))))))))))),[.tmp 6]⟩

end Qk

/-
  Chapter 57: the reference's small functions of the two directions.
-/
namespace Qk
open Go Go.RowKit

set_option maxRecDepth 4000 in
theorem d_unknown : Does ir_quiltref57_unknown C_quiltref57_unknown := by
 rintro ⟨a,d⟩ _
 show awp _ _ _ (entry [.agg (attA a),.str d])
 have res : ∀ z : Int,z = knownS a d → AV.int .i64 z = C_quiltref57_unknown.res (a,d) := fun z hz => by rw [hz]; rfl
 unfold knownS at res
 by_cases h1 : a.set < 0
 ·have E1 : decide (a.set < 0) = true := dec_t h1
  repeat ((conv => whnf); first | refine ⟨_,rfl,?_⟩ | refine cond_t (by first | (simp only [E1,eq_self]; done) | fail) ?_ | refine cond_f (by first | (simp only [E1,cond_true,cond_false,Bool.not_true,Bool.not_false,eq_self,decide_true,decide_false]; done) | fail) ?_ | refine And.intro (by omega) ?_ | refine And.intro ⟨rfl,by omega,by omega⟩ ?_ | refine And.intro ⟨rfl,by decide,by omega,by omega⟩ ?_)
  refine ⟨_,(by first | exact SubSt.refl _ | exact SubTop.refl _),?_⟩
  exact res 8 (by rw [if_pos (.inl (.inl h1))])
 have E1 : decide (a.set < 0) = false := dec_f h1
 by_cases h2 : 3 < a.set
 ·have E2 : decide (3 < a.set) = true := dec_t h2
  repeat ((conv => whnf); first | refine ⟨_,rfl,?_⟩ | refine cond_t (by first | (simp only [E1, E2,cond_false,eq_self]; done) | fail) ?_ | refine cond_f (by first | (simp only [E1, eq_self]; done) | fail) ?_ | refine And.intro (by omega) ?_ | refine And.intro ⟨rfl,by omega,by omega⟩ ?_ | refine And.intro ⟨rfl,by decide,by omega,by omega⟩ ?_)
  refine ⟨_,(by first | exact SubSt.refl _ | exact SubTop.refl _),?_⟩
  exact res 8 (by rw [if_pos (.inl (.inr h2))])
 have E2 : decide (3 < a.set) = false := dec_f h2
 by_cases h3 : a.eol < 0
 ·have E3 : decide (a.eol < 0) = true := dec_t h3
  repeat ((conv => whnf); first | refine ⟨_,rfl,?_⟩ | refine cond_t (by first | (simp only [E1, E2, E3,cond_false,eq_self]; done) | fail) ?_ | refine cond_f (by first | (simp only [E1, E2, cond_false,eq_self]; done) | fail) ?_ | refine And.intro (by omega) ?_ | refine And.intro ⟨rfl,by omega,by omega⟩ ?_ | refine And.intro ⟨rfl,by decide,by omega,by omega⟩ ?_)
  refine ⟨_,(by first | exact SubSt.refl _ | exact SubTop.refl _),?_⟩
  exact res 8 (by rw [if_pos (.inr (.inl h3))])
 have E3 : decide (a.eol < 0) = false := dec_f h3
 by_cases h4 : 2 < a.eol
 ·have E4 : decide (2 < a.eol) = true := dec_t h4
  repeat ((conv => whnf); first | refine ⟨_,rfl,?_⟩ | refine cond_t (by first | (simp only [E1, E2, E3, E4,cond_false,eq_self]; done) | fail) ?_ | refine cond_f (by first | (simp only [E1, E2, E3, cond_false,eq_self]; done) | fail) ?_ | refine And.intro (by omega) ?_ | refine And.intro ⟨rfl,by omega,by omega⟩ ?_ | refine And.intro ⟨rfl,by decide,by omega,by omega⟩ ?_)
  refine ⟨_,(by first | exact SubSt.refl _ | exact SubTop.refl _),?_⟩
  exact res 8 (by rw [if_pos (.inr (.inr h4))])
 have E4 : decide (2 < a.eol) = false := dec_f h4
 have h14 : ¬ ((a.set < 0 ∨ 3 < a.set) ∨ a.eol < 0 ∨ 2 < a.eol) := fun h => h.elim (fun h => h.elim h1 h2) (fun h => h.elim h3 h4)
 by_cases h5 : 65536 < d.length
 ·have E5 : decide ((65536 : Int) < d.length) = true := dec_t (by omega)
  repeat ((conv => whnf); first | refine ⟨_,rfl,?_⟩ | refine cond_t (by first | (simp only [E1, E2, E3, E4, E5,cond_false,eq_self]; done) | fail) ?_ | refine cond_f (by first | (simp only [E1, E2, E3, E4, cond_false,eq_self]; done) | fail) ?_ | refine And.intro (by omega) ?_ | refine And.intro ⟨rfl,by omega,by omega⟩ ?_ | refine And.intro ⟨rfl,by decide,by omega,by omega⟩ ?_)
  refine ⟨_,(by first | exact SubSt.refl _ | exact SubTop.refl _),?_⟩
  exact res 4 (by rw [if_neg h14,if_pos h5])
 ·have E5 : decide ((65536 : Int) < d.length) = false := dec_f (by omega)
  repeat ((conv => whnf); first | refine ⟨_,rfl,?_⟩ | refine cond_t (by first | (simp only [E1, E2, E3, E4, E5,cond_false]; done) | fail) ?_ | refine cond_f (by first | (simp only [E1, E2, E3, E4, E5,cond_false,eq_self]; done) | fail) ?_ | refine And.intro (by omega) ?_ | refine And.intro ⟨rfl,by omega,by omega⟩ ?_ | refine And.intro ⟨rfl,by decide,by omega,by omega⟩ ?_)
  refine ⟨_,(by first | exact SubSt.refl _ | exact SubTop.refl _),?_⟩
  exact res 0 (by rw [if_neg h14,if_neg h5])

theorem mem_takeS {s : List UInt8} {k : Nat} {c : UInt8} (h : k < s.length) : c ∈ s.take (k + 1) ↔ c ∈ s.take k ∨ s.getD k 0 = c := by
 rw [List.take_succ_eq_append_getElem h,List.mem_append,List.mem_singleton]
 have : s.getD k 0 = s[k] := by simp [h]
 rw [this]
 exact ⟨fun h => h.imp id Eq.symm,fun h => h.imp id Eq.symm⟩
theorem eq_u8 {b : UInt8} {n : Nat} (hn : n < 256) : ((b.toNat : Int) = (n : Int)) ↔ b = n.toUInt8 := by
 constructor
 ·intro h
  apply UInt8.toNat_inj.1
  rw [toNat_u8 hn]
  omega
 ·rintro rfl
  rw [toNat_u8 hn]

set_option maxRecDepth 4000 in
theorem d_clean : Does ir_quiltref57_clean C_quiltref57_clean := by
 intro (s : List UInt8) hs
 replace hs : s.length ≤ 1000000000 := hs
 show awp _ _ _ (entry [.str s])
 refine ⟨Nat,fun k => k ≤ s.length ∧ (13 : UInt8) ∉ s.take k,fun k => mks [(0,.str s),(3,.int .i64 k)] [] 0,fun k => s.length - k,0,⟨Nat.zero_le _,by simp⟩,?_,?_⟩
 ·exact sub_to ⟨rfl,rfl,trivial⟩ rfl (Nat.le_refl 0)
 ·rintro k ⟨hk,hno⟩
  show awp _ _ _ (mks [(0,.str s),(3,.int .i64 k)] [] 0)
  refine cond_split (fun h => ?_) (fun h => ?_)
  ·have hT : (k : Int) < s.length := of_decide_eq_true h
   have hlt : k < s.length := by omega
   refine And.intro ⟨by omega,by omega⟩ ?_
   have hiff : (((s.getD (k : Int).toNat 0).toNat : Int) = 13) ↔ s.getD k 0 = 13 := eq_u8 (b := s.getD k 0) (n := 13) (by omega)
   by_cases hb : s.getD k 0 = 13
   ·refine cond_t (dec_t (hiff.2 hb)) ?_
    refine ⟨_,(by first | exact SubSt.refl _ | exact SubTop.refl _),?_⟩
    show AV.bool false = .bool (!decide ((13 : UInt8) ∈ s))
    rw [decide_eq_true (List.mem_of_mem_take ((mem_takeS hlt).2 (.inr hb)))]
    rfl
   ·refine cond_f (dec_f (fun e => hb (hiff.1 e))) ?_
    refine And.intro (by omega) ?_
    refine ⟨k + 1,⟨by omega,fun h => ((mem_takeS hlt).1 h).elim hno hb⟩,(show s.length - (k + 1) < s.length - k by omega),?_⟩
    exact sub_to ⟨rfl,rfl,trivial⟩ rfl (Nat.le_refl 0)
  ·have hF : ¬ (k : Int) < s.length := of_decide_eq_false h
   refine ⟨_,(by first | exact SubSt.refl _ | exact SubTop.refl _),?_⟩
   show AV.bool true = .bool (!decide ((13 : UInt8) ∈ s))
   rw [List.take_of_length_le (by omega)] at hno
   rw [decide_eq_false hno]
   rfl

theorem map_map' {o : Option (List UInt8)} {x y : List UInt8} : (o.map (y ++ ·)).map (x ++ ·) = o.map ((x ++ y) ++ ·) := by
 cases o with
 | none => rfl
 | some t => simp
def WS (s out : List UInt8) (i : Nat) : St := mks [(0,.str s),(4,.sl 0 0 out.length),(5,.int .i64 i)] [(0,.ls false 1 (bys out))] 1
theorem drop_get {s : List UInt8} {i : Nat} (h : i < s.length) : s.drop i = s.getD i 0 :: s.drop (i + 1) := by
 rw [List.drop_eq_getElem_cons h]; simp [h]

set_option maxRecDepth 4000 in
set_option maxHeartbeats 1000000 in
theorem d_without : Does ir_quiltref57_without C_quiltref57_without := by
 intro (s : List UInt8) hs
 replace hs : s.length ≤ 1000000000 := hs
 show awp _ _ _ (entry [.str s])
 refine ⟨List UInt8 × Nat,fun x => x.2 ≤ s.length ∧ x.1.length ≤ x.2 ∧ wo s = (wo (s.drop x.2)).map (x.1 ++ ·),fun x => WS s x.1 x.2,fun x => s.length - x.2,([],0),⟨Nat.zero_le _,Nat.le_refl _,by show wo s = (wo s).map ([] ++ ·); cases wo s <;> rfl⟩,?_,?_⟩
 ·show SubSt _ _ (WS s [] 0)
  refine sub_ren [0] rfl (by decide) ⟨⟨_,rfl,rfl⟩,⟨_,rfl,⟨0,rfl,eSl ?_⟩⟩,⟨_,rfl,rfl⟩,trivial⟩ ⟨⟨0,_,rfl,rfl,?_⟩,trivial⟩
  ·rfl
  ·exact ⟨_,rfl,eN (nnl_bys _) rfl⟩
 ·rintro ⟨out,i⟩ ⟨hi,hol,hw⟩
  dsimp only at hi hol hw
  show awp _ _ _ (WS s out i)
  have none_res : wo (s.drop i) = none → AV.tup [.str [],.bool false] = C_quiltref57_without.res s := fun h => by
   show _ = tupB (woS s)
   rw [woS_none (by rw [hw,h]; rfl)]; rfl
  refine cond_split (fun h => ?_) (fun h => ?_)
  ·have hT : (i : Int) < s.length := of_decide_eq_true h
   have hlt : i < s.length := by omega
   have hdg := drop_get hlt
   refine And.intro ⟨by omega,by omega⟩ ?_
   have hif10 : (((s.getD (i : Int).toNat 0).toNat : Int) = 10) ↔ s.getD i 0 = 10 := eq_u8 (b := s.getD i 0) (n := 10) (by omega)
   have hif13 : (((s.getD (i : Int).toNat 0).toNat : Int) = 13) ↔ s.getD i 0 = 13 := eq_u8 (b := s.getD i 0) (n := 13) (by omega)
   by_cases h10 : s.getD i 0 = 10
   ·refine cond_t (dec_t (hif10.2 h10)) ?_
    refine ⟨_,(by first | exact SubSt.refl _ | exact SubTop.refl _),?_⟩
    exact none_res (by rw [hdg,h10,wo_lf])
   refine cond_f (dec_f (fun e => h10 (hif10.1 e))) ?_
   refine And.intro ⟨by omega,by omega⟩ ?_
   refine jn_at (X := Nat) (fun j => WS s out j) (fun j => i ≤ j ∧ j < s.length ∧ wo (s.drop i) = (wo (s.drop (j + 1))).map ([s.getD j 0] ++ ·)) ?_ ?_
   ·by_cases h13 : s.getD i 0 = 13
    ·refine cond_t (dec_t (hif13.2 h13)) ?_
     refine And.intro ⟨by omega,by omega⟩ ?_
     by_cases hend : i + 1 = s.length
     ·have C1 : decide ((i : Int) + 1 = (s.length : Int)) = true := dec_t (by omega)
      repeat ((conv => whnf); first | refine cond_t (by first | (simp only [C1,eq_self]; done) | fail) ?_ | refine cond_f (by first | (simp only [C1,cond_true,cond_false,Bool.not_true,Bool.not_false,eq_self,decide_true,decide_false]; done) | fail) ?_ | refine And.intro (by omega) ?_ | refine And.intro ⟨rfl,by omega,by omega⟩ ?_ | refine And.intro ⟨rfl,by decide,by omega,by omega⟩ ?_)
      refine ⟨_,(by first | exact SubSt.refl _ | exact SubTop.refl _),?_⟩
      exact none_res (by rw [hdg,h13,List.drop_eq_nil_of_le (by omega),wo_cr (by decide)])
     have C1 : decide ((i : Int) + 1 = (s.length : Int)) = false := dec_f (by omega)
     have e1 : ((i : Int) + 1).toNat = i + 1 := by omega
     have hif : (((s.getD ((i : Int) + 1).toNat 0).toNat : Int) = 10) ↔ s.getD (i + 1) 0 = 10 := by rw [e1]; exact eq_u8 (b := s.getD (i + 1) 0) (n := 10) (by omega)
     by_cases hn : s.getD (i + 1) 0 = 10
     ·have C2 : (!decide (((s.getD ((i : Int) + 1).toNat 0).toNat : Int) = 10)) = false := by rw [dec_t (hif.2 hn)]; rfl
      repeat ((conv => whnf); first | refine cond_t (by first | (simp only [C1, C2,cond_false]; done) | fail) ?_ | refine cond_f (by first | (simp only [C1, C2,cond_false,eq_self]; done) | fail) ?_ | refine And.intro (by omega) ?_ | refine And.intro ⟨rfl,by omega,by omega⟩ ?_ | refine And.intro ⟨rfl,by decide,by omega,by omega⟩ ?_)
      refine ⟨i + 1,⟨by omega,by omega,?_⟩,?_⟩
      ·rw [hdg,h13,drop_get (i := i + 1) (by omega),hn,wo_crlf]; rfl
      ·show SubSt _ _ (WS s out (i + 1))
       refine sub_ren [0] rfl (by decide) ⟨⟨_,rfl,rfl⟩,⟨_,rfl,⟨0,rfl,eSl ?_⟩⟩,⟨_,rfl,eI (by omega)⟩,trivial⟩ ⟨⟨0,_,rfl,rfl,?_⟩,trivial⟩
       ·rfl
       ·exact ⟨_,rfl,eN (nnl_bys _) rfl⟩
     ·have C2 : (!decide (((s.getD ((i : Int) + 1).toNat 0).toNat : Int) = 10)) = true := by rw [dec_f (fun e => hn (hif.1 e))]; rfl
      repeat ((conv => whnf); first | refine cond_t (by first | (simp only [C1, C2,cond_false,eq_self]; done) | fail) ?_ | refine cond_f (by first | (simp only [C1, eq_self]; done) | fail) ?_ | refine And.intro (by omega) ?_ | refine And.intro ⟨rfl,by omega,by omega⟩ ?_ | refine And.intro ⟨rfl,by decide,by omega,by omega⟩ ?_)
      refine ⟨_,(by first | exact SubSt.refl _ | exact SubTop.refl _),?_⟩
      exact none_res (by rw [hdg,h13,wo_cr (by rw [getD_drop]; exact hn)])
    ·refine cond_f (dec_f (fun e => h13 (hif13.1 e))) ?_
     refine ⟨i,⟨Nat.le_refl _,hlt,?_⟩,?_⟩
     ·rw [hdg,wo_other h10 h13]; rfl
     ·show SubSt _ _ (WS s out i)
      refine sub_ren [0] rfl (by decide) ⟨⟨_,rfl,rfl⟩,⟨_,rfl,⟨0,rfl,eSl ?_⟩⟩,⟨_,rfl,rfl⟩,trivial⟩ ⟨⟨0,_,rfl,rfl,?_⟩,trivial⟩
      ·rfl
      ·exact ⟨_,rfl,eN (nnl_bys _) rfl⟩
   ·rintro j ⟨hij,hjl,hwj⟩
    show awp _ _ _ (WS s out j)
    refine And.intro ⟨by omega,by omega⟩ ?_
    refine And.intro ⟨(show (0 : Nat) ≠ 1 by decide),rfl,rfl,rfl,(show (bys out).length = out.length * 1 by rw [bys_length]; omega),(show (0 + 1) * 1 ≤ 1 by decide),(show AllOne [AV.int .u8 _] from allOne1' rfl),(show (out.length + 1) * 1 ≤ 140737488355328 by omega)⟩ ⟨_,rfl,?_⟩
    refine And.intro ⟨by omega,by omega⟩ ?_
    refine ⟨(out ++ [s.getD j 0],j + 1),⟨by dsimp only; omega,by rw [List.length_append]; show out.length + 1 ≤ j + 1; omega,by rw [hw,hwj,map_map']⟩,(show s.length - (j + 1) < s.length - i by omega),?_⟩
    show SubSt _ _ (WS s (out ++ [s.getD j 0]) (j + 1))
    refine sub_ren [2] rfl (by decide) ⟨⟨_,rfl,rfl⟩,⟨_,rfl,⟨2,rfl,eSl ?_⟩⟩,⟨_,rfl,eI (by omega)⟩,trivial⟩ ⟨⟨2,_,rfl,rfl,?_⟩,trivial⟩
    ·show out.length + 1 = (out ++ [_]).length; rw [List.length_append]; rfl
    ·refine ⟨_,rfl,eN (nnl_bys _) ?_⟩
     have e0 : (j : Int).toNat = j := Int.toNat_natCast j
     unfold bys
     rw [List.map_append]
     show _ ++ [AV.int .u8 ((s.getD (j : Int).toNat 0).toNat : Int)] = _
     rw [e0]; rfl
  ·have hF : ¬ (i : Int) < s.length := of_decide_eq_false h
   have hd : s.drop i = [] := List.drop_eq_nil_of_le (by omega)
   rw [hd] at hw
   refine And.intro rfl ⟨out,⟨?_,rfl⟩,?_⟩
   ·show ((bys out).drop 0).take out.length = bys out
    rw [List.drop_zero,List.take_of_length_le (by rw [bys_length]; omega)]
   ·refine ⟨_,(by first | exact SubSt.refl _ | exact SubTop.refl _),?_⟩
    show AV.tup [.str out,.bool true] = tupB (woS s)
    rw [woS_some (t := out) (by rw [hw]; show some (out ++ []) = some out; rw [List.append_nil])]
    rfl

end Qk

/-
  Chapter 57: the reference's ToRepo.
-/
namespace Qk
open Go Go.RowKit

def RS (a : Att) (d : List UInt8) : St := mks [(2,.str d),(8,.ref 0 0)] [(0,.cl false (attA a))] 1

set_option maxRecDepth 4000 in
set_option maxHeartbeats 1000000 in
theorem d_rToRepo : Does ir_quiltref57_ToRepo C_quiltref57_ToRepo := by
 rintro ⟨l,path,data⟩ ⟨hl,hp,hd⟩
 dsimp only at hp hd
 show awp _ _ _ (entry [attsA l,.str path,.str data])
 refine ⟨(l,path),rfl,⟨hl,hp⟩,?_⟩
 obtain ⟨a,ha⟩ : ∃ a,a = findS l path := ⟨_,rfl⟩
 have hres : C_quiltref57_Find.res (l,path) = .agg (attA a) := by rw [ha]; rfl
 rewrite [hres]
 refine And.intro ⟨rfl,one_attA a⟩ ?_
 refine And.intro (Nat.le_refl 3) ?_
 refine ⟨_,lay_all rfl,?_⟩
 refine ⟨attA a,⟨rfl,rfl⟩,?_⟩
 refine And.intro (nn_agg (nnl_attA a)) ?_
 refine ⟨(a,data),rfl,trivial,?_⟩
 by_cases hk : knownS a data = 0
 case neg =>
  refine cond_t (by show (!decide (knownS a data = 0)) = true; rw [dec_f hk]; rfl) ?_
  refine ⟨_,(by first | exact SubSt.refl _ | exact SubTop.refl _),?_⟩
  show tupS ([],knownS a data) = tupS (toRepoS l path data)
  unfold toRepoS; rw [← ha,if_pos hk]
 have hS : toRepoS l path data = if a.set ≠ 0 then (if (decodeS a.set data).2 ≠ 0 then ([],(decodeS a.set data).2) else toLfS a.eol (decodeS a.set data).1) else toLfS a.eol data := by
  unfold toRepoS; rw [← ha,if_neg (by rw [hk]; exact fun h => h rfl)]
 obtain ⟨⟨hs0,hs3⟩,⟨he0,he2⟩,hdl⟩ := known_is hk
 refine cond_f (by show (!decide (knownS a data = 0)) = false; rw [dec_t hk]; rfl) ?_
 refine ⟨_,rfl,?_⟩
 refine jn_at (X := List UInt8) (fun d => RS a d) (fun d => toRepoS l path data = toLfS a.eol d ∧ d.length ≤ 1000000000) ?_ ?_
 ·by_cases h0 : a.set = 0
  ·refine cond_f (dec_f (show ¬ 0 < a.set by omega)) ?_
   refine ⟨data,⟨by rw [hS,if_neg (fun h => h h0)],hd⟩,?_⟩
   show SubSt _ _ (RS a data)
   refine sub_ren [0] rfl (by decide) ⟨⟨_,rfl,rfl⟩,⟨_,rfl,⟨0,rfl,rfl⟩⟩,trivial⟩ ⟨⟨0,_,rfl,rfl,?_⟩,trivial⟩
   exact ⟨_,rfl,eN (nnl_attA _) rfl⟩
  ·refine cond_t (dec_t (show 0 < a.set by omega)) ?_
   refine ⟨_,rfl,?_⟩
   refine ⟨(a.set,data),rfl,hd,?_⟩
   obtain ⟨t,e,ht⟩ : ∃ t e,decodeS a.set data = (t,e) := ⟨_,_,rfl⟩
   have htl := decodeS_len a.set data
   rw [ht] at htl
   have hr2 : C_quiltref57_Decode.res (a.set,data) = .tup [.str t,.int .i64 e] := by show tupS (decodeS a.set data) = _; rw [ht]; rfl
   rewrite [hr2]
   rw [ht,if_pos h0] at hS
   refine ⟨_,rfl,?_⟩
   refine ⟨_,rfl,?_⟩
   by_cases he : e = 0
   ·refine cond_f (by show (!decide (e = 0)) = false; rw [dec_t he]; rfl) ?_
    refine ⟨t,⟨by rw [hS,if_neg (fun h => h he)],by dsimp only at htl; omega⟩,?_⟩
    show SubSt _ _ (RS a t)
    refine sub_ren [0] rfl (by decide) ⟨⟨_,rfl,rfl⟩,⟨_,rfl,⟨0,rfl,rfl⟩⟩,trivial⟩ ⟨⟨0,_,rfl,rfl,?_⟩,trivial⟩
    exact ⟨_,rfl,eN (nnl_attA _) rfl⟩
   ·refine cond_t (by show (!decide (e = 0)) = true; rw [dec_f he]; rfl) ?_
    refine ⟨_,(by first | exact SubSt.refl _ | exact SubTop.refl _),?_⟩
    show tupS ([],e) = tupS (toRepoS l path data)
    rw [hS,if_pos he]
 ·rintro d ⟨hR,hdd⟩
  show awp _ _ _ (RS a d)
  have he : a.eol = 0 ∨ a.eol = 1 ∨ a.eol = 2 := by omega
  rcases he with he | he | he
  ·have E0 : decide (a.eol = 0) = true := dec_t he
   have E2 : decide (a.eol = 2) = false := dec_f (by omega)
   repeat ((conv => whnf); first | refine ⟨_,rfl,?_⟩ | refine cond_t (by first | (simp only [E0,eq_self]; done) | fail) ?_ | refine cond_f (by first | (simp only [E0,cond_true,cond_false,Bool.not_true,Bool.not_false,eq_self,decide_true,decide_false]; done) | fail) ?_ | refine And.intro (by omega) ?_ | refine And.intro ⟨rfl,by omega,by omega⟩ ?_ | refine And.intro ⟨rfl,by decide,by omega,by omega⟩ ?_)
   refine jn_plain ?_
   repeat ((conv => whnf); first | refine ⟨_,rfl,?_⟩ | refine cond_t (by first | (simp only [E2]; done) | fail) ?_ | refine cond_f (by first | (simp only [E2,eq_self]; done) | fail) ?_ | refine And.intro (by omega) ?_ | refine And.intro ⟨rfl,by omega,by omega⟩ ?_ | refine And.intro ⟨rfl,by decide,by omega,by omega⟩ ?_)
   refine ⟨_,(by first | exact SubSt.refl _ | exact SubTop.refl _),?_⟩
   show tupS (d,0) = tupS (toRepoS l path data)
   rw [hR,he,toLf_0]
  ·have E0 : decide (a.eol = 0) = false := dec_f (by omega)
   have E1 : decide (a.eol = 1) = true := dec_t he
   have E2 : decide (a.eol = 2) = false := dec_f (by omega)
   repeat ((conv => whnf); first | refine ⟨d,rfl,hdd,?_⟩ | refine ⟨_,rfl,?_⟩ | refine cond_t (by first | (simp only [E0, E1,eq_self]; done) | fail) ?_ | refine cond_f (by first | (simp only [E0, eq_self]; done) | fail) ?_ | refine And.intro (by omega) ?_ | refine And.intro ⟨rfl,by omega,by omega⟩ ?_ | refine And.intro ⟨rfl,by decide,by omega,by omega⟩ ?_)
   refine jn_plain ?_
   by_cases h13 : (13 : UInt8) ∈ d
   ·have E3 : decide ((13 : UInt8) ∈ d) = true := dec_t h13
    repeat ((conv => whnf); first | refine ⟨_,rfl,?_⟩ | refine cond_t (by first | (simp only [E0, E1, E2, E3,cond_true,cond_false,Bool.not_true,Bool.not_false,eq_self]; done) | fail) ?_ | refine cond_f (by first | (simp only [E2, eq_self]; done) | fail) ?_ | refine And.intro (by omega) ?_ | refine And.intro ⟨rfl,by omega,by omega⟩ ?_ | refine And.intro ⟨rfl,by decide,by omega,by omega⟩ ?_)
    refine ⟨_,(by first | exact SubSt.refl _ | exact SubTop.refl _),?_⟩
    show tupS ([],24) = tupS (toRepoS l path data)
    rw [hR,he,toLf_1,if_pos h13]
   ·have E3 : decide ((13 : UInt8) ∈ d) = false := dec_f h13
    repeat ((conv => whnf); first | refine ⟨_,rfl,?_⟩ | refine cond_t (by first | (simp only [E0, E1, E2, E3,cond_true,cond_false,Bool.not_true,Bool.not_false]; done) | fail) ?_ | refine cond_f (by first | (simp only [E0, E1, E2, E3,cond_true,cond_false,Bool.not_true,Bool.not_false,eq_self]; done) | fail) ?_ | refine And.intro (by omega) ?_ | refine And.intro ⟨rfl,by omega,by omega⟩ ?_ | refine And.intro ⟨rfl,by decide,by omega,by omega⟩ ?_)
    refine ⟨_,(by first | exact SubSt.refl _ | exact SubTop.refl _),?_⟩
    show tupS (d,0) = tupS (toRepoS l path data)
    rw [hR,he,toLf_1,if_neg h13]
  ·have E0 : decide (a.eol = 0) = false := dec_f (by omega)
   have E1 : decide (a.eol = 1) = false := dec_f (by omega)
   have E2 : decide (a.eol = 2) = true := dec_t he
   have hR2 : toRepoS l path data = if (woS d).2 then ((woS d).1,0) else ([],24) := by rw [hR,he,toLf_2]
   repeat ((conv => whnf); first | refine ⟨_,rfl,?_⟩ | refine cond_t (by first | (simp only [E0, E1]; done) | fail) ?_ | refine cond_f (by first | (simp only [E0, E1,eq_self]; done) | fail) ?_ | refine And.intro (by omega) ?_ | refine And.intro ⟨rfl,by omega,by omega⟩ ?_ | refine And.intro ⟨rfl,by decide,by omega,by omega⟩ ?_)
   refine jn_plain ?_
   repeat ((conv => whnf); first | refine ⟨d,rfl,hdd,?_⟩ | refine ⟨_,rfl,?_⟩ | refine cond_t (by first | (simp only [E2,eq_self]; done) | fail) ?_ | refine cond_f (by first | (simp only [E0, E1, E2,cond_true,cond_false,Bool.not_true,Bool.not_false,eq_self,decide_true,decide_false]; done) | fail) ?_ | refine And.intro (by omega) ?_ | refine And.intro ⟨rfl,by omega,by omega⟩ ?_ | refine And.intro ⟨rfl,by decide,by omega,by omega⟩ ?_)
   rcases Bool.eq_false_or_eq_true (woS d).2 with h2 | h2
   ·rw [if_pos h2] at hR2
    refine cond_f (show (!(woS d).2) = false by rw [h2]; rfl) ?_
    refine ⟨_,(by first | exact SubSt.refl _ | exact SubTop.refl _),?_⟩
    show tupS ((woS d).1,0) = tupS (toRepoS l path data)
    rw [hR2]
   ·rw [if_neg (by rw [h2]; decide)] at hR2
    refine cond_t (show (!(woS d).2) = true by rw [h2]; rfl) ?_
    refine ⟨_,(by first | exact SubSt.refl _ | exact SubTop.refl _),?_⟩
    show tupS ([],24) = tupS (toRepoS l path data)
    rw [hR2]

end Qk

/-
  Chapter 57: the reference's FromRepo.
-/
namespace Qk
open Go Go.RowKit

theorem addCR_take {s : List UInt8} {k : Nat} (h : k < s.length) : addCR (s.take (k + 1)) = addCR (s.take k) ++ (if s.getD k 0 = 10 then [13,10] else [s.getD k 0]) := by
 have e : s.take (k + 1) = s.take k ++ [s.getD k 0] := by rw [List.take_succ_eq_append_getElem h]; simp [h]
 rw [e,addCR_snoc]
def eolD (e : Int) (d : List UInt8) : List UInt8 := if e = 2 then addCR d else d
theorem fromLf_cr {e : Int} {d : List UInt8} (h : 0 < e) (h13 : (13 : UInt8) ∈ d) : fromLfS e d = ([],24) := by
 unfold fromLfS; rw [if_neg (by omega),if_pos h13]
theorem fromLf_ok {e : Int} {d : List UInt8} (h : 0 ≤ e) (hd : d.length ≤ 65536) (h13 : ¬ (0 < e ∧ (13 : UInt8) ∈ d)) : fromLfS e d = limP (eolD e d) := by
 unfold fromLfS limP eolD
 by_cases h0 : e = 0
 ·rw [if_pos h0,if_neg (show ¬ e = 2 by omega),if_neg (by omega)]
 ·rw [if_neg h0,if_neg (fun h => h13 ⟨by omega,h⟩),ra_add]
  by_cases h2 : e = 2
  ·rw [if_pos h2,if_pos h2]
  ·rw [if_neg h2,if_neg h2]

def RL (a : Att) (d out : List UInt8) (k : Nat) : St := mks [(2,.str d),(8,.ref 0 0),(10,.sl 1 0 out.length),(11,.int .i64 k)] [(0,.cl false (attA a)),(1,.ls false 1 (bys out))] 2

set_option maxRecDepth 4000 in
set_option maxHeartbeats 1000000 in
theorem d_rFromRepo : Does ir_quiltref57_FromRepo C_quiltref57_FromRepo := by
 rintro ⟨l,path,data⟩ ⟨hl,hp,hd⟩
 dsimp only at hp hd
 show awp _ _ _ (entry [attsA l,.str path,.str data])
 refine ⟨(l,path),rfl,⟨hl,hp⟩,?_⟩
 obtain ⟨a,ha⟩ : ∃ a,a = findS l path := ⟨_,rfl⟩
 have hres : C_quiltref57_Find.res (l,path) = .agg (attA a) := by rw [ha]; rfl
 rewrite [hres]
 refine And.intro ⟨rfl,one_attA a⟩ ?_
 refine And.intro (Nat.le_refl 3) ?_
 refine ⟨_,lay_all rfl,?_⟩
 refine ⟨attA a,⟨rfl,rfl⟩,?_⟩
 refine And.intro (nn_agg (nnl_attA a)) ?_
 refine ⟨(a,data),rfl,trivial,?_⟩
 by_cases hk : knownS a data = 0
 case neg =>
  refine cond_t (by show (!decide (knownS a data = 0)) = true; rw [dec_f hk]; rfl) ?_
  refine ⟨_,(by first | exact SubSt.refl _ | exact SubTop.refl _),?_⟩
  show tupS ([],knownS a data) = tupS (fromRepoS l path data)
  unfold fromRepoS; rw [← ha,if_pos hk]
 have hS : fromRepoS l path data = if (fromLfS a.eol data).2 ≠ 0 ∨ a.set = 0 then fromLfS a.eol data else encodeS a.set (fromLfS a.eol data).1 := by
  unfold fromRepoS; rw [← ha,if_neg (by rw [hk]; exact fun h => h rfl)]
 obtain ⟨⟨hs0,hs3⟩,⟨he0,he2⟩,hdl⟩ := known_is hk
 refine cond_f (by show (!decide (knownS a data = 0)) = false; rw [dec_t hk]; rfl) ?_
 refine jn_at (X := Unit) (fun _ => RS a data) (fun _ => ¬ (0 < a.eol ∧ (13 : UInt8) ∈ data)) ?_ ?_
 ·refine ⟨_,rfl,?_⟩
  by_cases hcr : 0 < a.eol ∧ (13 : UInt8) ∈ data
  ·have E0 : decide (0 < a.eol) = true := dec_t hcr.1
   have E3 : decide ((13 : UInt8) ∈ data) = true := dec_t hcr.2
   repeat ((conv => whnf); first | refine ⟨data,rfl,hd,?_⟩ | refine ⟨_,rfl,?_⟩ | refine cond_t (by first | (simp only [E0, E3,cond_true,Bool.not_true,Bool.not_false,eq_self]; done) | fail) ?_ | refine cond_f (by first | (simp only [E0, E3,cond_true,cond_false,Bool.not_true,Bool.not_false,eq_self,decide_true,decide_false]; done) | fail) ?_ | refine And.intro (by omega) ?_ | refine And.intro ⟨rfl,by omega,by omega⟩ ?_ | refine And.intro ⟨rfl,by decide,by omega,by omega⟩ ?_)
   refine ⟨_,(by first | exact SubSt.refl _ | exact SubTop.refl _),?_⟩
   show tupS ([],24) = tupS (fromRepoS l path data)
   rw [hS,fromLf_cr hcr.1 hcr.2,if_pos (.inl (by decide))]
  rcases Bool.eq_false_or_eq_true (decide (0 < a.eol)) with E0 | E0
  ·have h13 : ¬ (13 : UInt8) ∈ data := fun h => hcr ⟨of_decide_eq_true E0,h⟩
   have E3 : decide ((13 : UInt8) ∈ data) = false := dec_f h13
   repeat ((conv => whnf); first | refine ⟨data,rfl,hd,?_⟩ | refine cond_t (by first | (simp only [E0, E3,cond_true,Bool.not_true,Bool.not_false,eq_self]; done) | fail) ?_ | refine cond_f (by first | (simp only [E0, E3,cond_true,Bool.not_true,Bool.not_false,eq_self]; done) | fail) ?_ | refine And.intro (by omega) ?_ | refine And.intro ⟨rfl,by omega,by omega⟩ ?_ | refine And.intro ⟨rfl,by decide,by omega,by omega⟩ ?_)
   refine ⟨(),hcr,?_⟩
   show SubSt _ _ (RS a data)
   refine sub_ren [0] rfl (by decide) ⟨⟨_,rfl,rfl⟩,⟨_,rfl,⟨0,rfl,rfl⟩⟩,trivial⟩ ⟨⟨0,_,rfl,rfl,?_⟩,trivial⟩
   exact ⟨_,rfl,eN (nnl_attA _) rfl⟩
  ·repeat ((conv => whnf); first | refine cond_t (by first | (simp only [E0]; done) | fail) ?_ | refine cond_f (by first | (simp only [E0,eq_self]; done) | fail) ?_ | refine And.intro (by omega) ?_ | refine And.intro ⟨rfl,by omega,by omega⟩ ?_ | refine And.intro ⟨rfl,by decide,by omega,by omega⟩ ?_)
   refine ⟨(),hcr,?_⟩
   show SubSt _ _ (RS a data)
   refine sub_ren [0] rfl (by decide) ⟨⟨_,rfl,rfl⟩,⟨_,rfl,⟨0,rfl,rfl⟩⟩,trivial⟩ ⟨⟨0,_,rfl,rfl,?_⟩,trivial⟩
   exact ⟨_,rfl,eN (nnl_attA _) rfl⟩
 ·rintro - hcr
  have hlf := fromLf_ok he0 hdl hcr
  rw [hlf] at hS
  have hel : (eolD a.eol data).length ≤ 1000000000 := by
   have := addCR_len data
   unfold eolD
   split <;> omega
  show awp _ _ _ (RS a data)
  refine ⟨_,rfl,?_⟩
  refine jn_at (X := Unit) (fun _ => RS a (eolD a.eol data)) (fun _ => True) ?_ ?_
  ·by_cases h2 : a.eol = 2
   ·have hE : eolD a.eol data = addCR data := if_pos h2
    refine cond_t (dec_t h2) ?_
    refine ⟨Nat,fun k => k ≤ data.length,fun k => RL a data (addCR (data.take k)) k,fun k => data.length - k,0,Nat.zero_le _,?_,?_⟩
    ·show SubSt _ _ (RL a data [] 0)
     refine sub_ren [0,1] rfl (by decide) ⟨⟨_,rfl,rfl⟩,⟨_,rfl,⟨0,rfl,rfl⟩⟩,⟨_,rfl,⟨1,rfl,eSl ?_⟩⟩,⟨_,rfl,rfl⟩,trivial⟩ ⟨⟨0,_,rfl,rfl,?_⟩,⟨1,_,rfl,rfl,?_⟩,trivial⟩
     ·rfl
     ·exact ⟨_,rfl,eN (nnl_attA _) rfl⟩
     ·exact ⟨_,rfl,eN (nnl_bys _) rfl⟩
    ·intro k hk
     replace hk : k ≤ data.length := hk
     obtain ⟨out,ho⟩ : ∃ out,out = addCR (data.take k) := ⟨_,rfl⟩
     have hol : out.length ≤ 2 * k := by rw [ho]; have := addCR_len (data.take k); rw [List.length_take] at this; omega
     show awp _ _ _ (RL a data (addCR (data.take k)) k)
     rewrite [← ho]
     refine cond_split (fun h => ?_) (fun h => ?_)
     ·have hT : (k : Int) < data.length := of_decide_eq_true h
      have hlt : k < data.length := by omega
      have hnx := addCR_take hlt
      rw [← ho] at hnx
      have e0 : (k : Int).toNat = k := Int.toNat_natCast k
      have hif : (((data.getD (k : Int).toNat 0).toNat : Int) = 10) ↔ data.getD k 0 = 10 := eq_u8 (b := data.getD k 0) (n := 10) (by omega)
      refine And.intro ⟨by omega,by omega⟩ ?_
      refine jn_at (X := List UInt8) (fun o => RL a data o k) (fun o => o.length ≤ 2 * k + 1 ∧ addCR (data.take (k + 1)) = o ++ [data.getD k 0]) ?_ ?_
      ·by_cases h10 : data.getD k 0 = 10
       ·rw [if_pos h10] at hnx
        refine cond_t (dec_t (hif.2 h10)) ?_
        refine And.intro ⟨(show (1 : Nat) ≠ 2 by decide),rfl,rfl,rfl,(show (bys out).length = out.length * 1 by rw [bys_length]; omega),(show (0 + 1) * 1 ≤ 1 by decide),(show AllOne [AV.int .u8 13] from allOne1' rfl),(show (out.length + 1) * 1 ≤ 140737488355328 by omega)⟩ ⟨_,rfl,?_⟩
        refine ⟨out ++ [13],⟨by rw [List.length_append]; show out.length + 1 ≤ _; omega,by rw [hnx,h10,List.append_assoc]; rfl⟩,?_⟩
        show SubSt _ _ (RL a data (out ++ [13]) k)
        refine sub_ren [0,3] rfl (by decide) ⟨⟨_,rfl,rfl⟩,⟨_,rfl,⟨0,rfl,rfl⟩⟩,⟨_,rfl,⟨3,rfl,eSl ?_⟩⟩,⟨_,rfl,rfl⟩,trivial⟩ ⟨⟨0,_,rfl,rfl,?_⟩,⟨3,_,rfl,rfl,?_⟩,trivial⟩
        ·show out.length + 1 = (out ++ [13]).length; rw [List.length_append]; rfl
        ·exact ⟨_,rfl,eN (nnl_attA _) rfl⟩
        ·exact ⟨_,rfl,eN (nnl_bys _) (by unfold bys; rw [List.map_append]; rfl)⟩
       ·rw [if_neg h10] at hnx
        refine cond_f (dec_f (fun e => h10 (hif.1 e))) ?_
        refine ⟨out,⟨by omega,hnx⟩,?_⟩
        show SubSt _ _ (RL a data out k)
        refine sub_ren [0,1] rfl (by decide) ⟨⟨_,rfl,rfl⟩,⟨_,rfl,⟨0,rfl,rfl⟩⟩,⟨_,rfl,⟨1,rfl,eSl ?_⟩⟩,⟨_,rfl,rfl⟩,trivial⟩ ⟨⟨0,_,rfl,rfl,?_⟩,⟨1,_,rfl,rfl,?_⟩,trivial⟩
        ·rfl
        ·exact ⟨_,rfl,eN (nnl_attA _) rfl⟩
        ·exact ⟨_,rfl,eN (nnl_bys _) rfl⟩
      ·rintro o ⟨h1,h3⟩
       show awp _ _ _ (RL a data o k)
       refine And.intro ⟨by omega,by omega⟩ ?_
       refine And.intro ⟨(show (1 : Nat) ≠ 2 by decide),rfl,rfl,rfl,(show (bys o).length = o.length * 1 by rw [bys_length]; omega),(show (0 + 1) * 1 ≤ 1 by decide),(show AllOne [AV.int .u8 _] from allOne1' rfl),(show (o.length + 1) * 1 ≤ 140737488355328 by omega)⟩ ⟨_,rfl,?_⟩
       refine And.intro ⟨by omega,by omega⟩ ?_
       refine ⟨k + 1,(show k + 1 ≤ data.length by omega),(show data.length - (k + 1) < data.length - k by omega),?_⟩
       show SubSt _ _ (RL a data (addCR (data.take (k + 1))) (k + 1))
       rewrite [h3]
       refine sub_ren [0,3] rfl (by decide) ⟨⟨_,rfl,rfl⟩,⟨_,rfl,⟨0,rfl,rfl⟩⟩,⟨_,rfl,⟨3,rfl,eSl ?_⟩⟩,⟨_,rfl,eI (by omega)⟩,trivial⟩ ⟨⟨0,_,rfl,rfl,?_⟩,⟨3,_,rfl,rfl,?_⟩,trivial⟩
       ·show o.length + 1 = (o ++ [_]).length; rw [List.length_append]; rfl
       ·exact ⟨_,rfl,eN (nnl_attA _) rfl⟩
       ·refine ⟨_,rfl,eN (nnl_bys _) ?_⟩
        unfold bys
        rw [List.map_append]
        show _ ++ [AV.int .u8 ((data.getD (k : Int).toNat 0).toNat : Int)] = _
        rw [e0]; rfl
     ·have hF : ¬ (k : Int) < data.length := of_decide_eq_false h
      have hlk : data.take k = data := List.take_of_length_le (by omega)
      rw [hlk] at ho
      refine And.intro rfl ⟨out,⟨?_,rfl⟩,?_⟩
      ·show ((bys out).drop 0).take out.length = bys out
       rw [List.drop_zero,List.take_of_length_le (by rw [bys_length]; omega)]
      ·refine ⟨(),trivial,?_⟩
       rewrite [hE,← ho]
       show SubSt _ _ (RS a out)
       refine sub_ren [0] rfl (by decide) ⟨⟨_,rfl,rfl⟩,⟨_,rfl,⟨0,rfl,rfl⟩⟩,trivial⟩ ⟨⟨0,_,rfl,rfl,?_⟩,trivial⟩
       exact ⟨_,rfl,eN (nnl_attA _) rfl⟩
   ·have hE : eolD a.eol data = data := if_neg h2
    refine cond_f (dec_f h2) ?_
    refine ⟨(),trivial,?_⟩
    rewrite [hE]
    show SubSt _ _ (RS a data)
    refine sub_ren [0] rfl (by decide) ⟨⟨_,rfl,rfl⟩,⟨_,rfl,⟨0,rfl,rfl⟩⟩,trivial⟩ ⟨⟨0,_,rfl,rfl,?_⟩,trivial⟩
    exact ⟨_,rfl,eN (nnl_attA _) rfl⟩
  ·rintro - -
   obtain ⟨d,hdd⟩ : ∃ d,d = eolD a.eol data := ⟨_,rfl⟩
   rw [← hdd] at hS hel
   show awp _ _ _ (RS a (eolD a.eol data))
   rewrite [← hdd]
   unfold limP at hS
   by_cases h65 : 65536 < d.length
   ·rw [if_pos h65,if_pos (.inl (by decide))] at hS
    refine cond_t (dec_t (show (65536 : Int) < d.length by omega)) ?_
    refine ⟨_,(by first | exact SubSt.refl _ | exact SubTop.refl _),?_⟩
    show tupS ([],4) = tupS (fromRepoS l path data)
    rw [hS]
   rw [if_neg h65] at hS
   refine cond_f (dec_f (show ¬ (65536 : Int) < d.length by omega)) ?_
   refine ⟨_,rfl,?_⟩
   by_cases h0 : a.set = 0
   ·rw [if_pos (.inr h0)] at hS
    refine cond_f (dec_f (show ¬ 0 < a.set by omega)) ?_
    refine ⟨_,(by first | exact SubSt.refl _ | exact SubTop.refl _),?_⟩
    show tupS (d,0) = tupS (fromRepoS l path data)
    rw [hS]
   ·rw [if_neg (fun h => h.elim (fun h => h rfl) h0)] at hS
    refine cond_t (dec_t (show 0 < a.set by omega)) ?_
    refine ⟨_,rfl,?_⟩
    refine ⟨(a.set,d),rfl,hel,?_⟩
    refine ⟨_,rfl,?_⟩
    refine ⟨_,rfl,?_⟩
    refine ⟨_,(by first | exact SubSt.refl _ | exact SubTop.refl _),?_⟩
    show tupS (encodeS a.set d) = tupS (fromRepoS l path data)
    rw [hS]

end Qk

/-
  Chapter 57: the law that the two directions are the reference's.
-/
namespace Qk
open Go Go.RowKit

set_option maxRecDepth 4000 in
set_option maxHeartbeats 2000000 in
theorem d_CharsetRepo : Does ir_quiltlaw57_CharsetRepo C_quiltlaw57_CharsetRepo := by
 rintro ⟨l,path,data⟩ hl
 replace hl : l.length ≤ 9223372036854775807 := hl
 show awp _ _ _ (entry [attsA l,.str path,.str data])
 rcases Bool.eq_false_or_eq_true (greatS l) with hg | hg
 ·repeat ((conv => whnf); first | refine ⟨l,rfl,hl,?_⟩ | refine cond_t (by first | (simp only [hg,eq_self]; done) | fail) ?_ | refine cond_f (by first | (simp only [hg,cond_true,cond_false,Bool.not_true,Bool.not_false,eq_self,decide_true,decide_false]; done) | fail) ?_ | refine And.intro (by omega) ?_ | refine And.intro ⟨rfl,by omega,by omega⟩ ?_ | refine And.intro ⟨rfl,by decide,by omega,by omega⟩ ?_)
  refine ⟨(),rfl,trivial,?_⟩
  refine ⟨_,(by first | exact SubSt.refl _ | exact SubTop.refl _),?_⟩
  rfl
 by_cases h60 : 60 < path.length
 ·have E2 : decide ((60 : Int) < path.length) = true := dec_t (by omega)
  repeat ((conv => whnf); first | refine ⟨l,rfl,hl,?_⟩ | refine cond_t (by first | (simp only [hg, E2,cond_false,eq_self]; done) | fail) ?_ | refine cond_f (by first | (simp only [hg, eq_self]; done) | fail) ?_ | refine And.intro (by omega) ?_ | refine And.intro ⟨rfl,by omega,by omega⟩ ?_ | refine And.intro ⟨rfl,by decide,by omega,by omega⟩ ?_)
  refine ⟨(),rfl,trivial,?_⟩
  refine ⟨_,(by first | exact SubSt.refl _ | exact SubTop.refl _),?_⟩
  rfl
 have E2 : decide ((60 : Int) < path.length) = false := dec_f (by omega)
 by_cases h300 : 300 < data.length
 ·have E : decide ((300 : Int) < data.length) = true := dec_t (by omega)
  repeat ((conv => whnf); first | refine ⟨l,rfl,hl,?_⟩ | refine cond_t (by first | (simp only [hg, E2, E,cond_false,eq_self]; done) | fail) ?_ | refine cond_f (by first | (simp only [hg, E2, cond_false,eq_self]; done) | fail) ?_ | refine And.intro (by omega) ?_ | refine And.intro ⟨rfl,by omega,by omega⟩ ?_ | refine And.intro ⟨rfl,by decide,by omega,by omega⟩ ?_)
  refine ⟨(),rfl,trivial,?_⟩
  refine ⟨_,(by first | exact SubSt.refl _ | exact SubTop.refl _),?_⟩
  rfl
 have E : decide ((300 : Int) < data.length) = false := dec_f (by omega)
 have hok : okA l ∧ path.length ≤ 1000000000 ∧ data.length ≤ 1000000000 := by
  unfold greatS at hg
  rw [Bool.or_eq_false_iff] at hg
  have h20 := of_decide_eq_false hg.2
  refine ⟨⟨by omega,fun a ha => ?_⟩,by omega,by omega⟩
  have := List.any_eq_false.1 hg.1 a ha
  have h40 : ¬ 40 < a.g.length := fun h => this (decide_eq_true h)
  omega
 obtain ⟨s,e,hs⟩ : ∃ s e,toRepoS l path data = (s,e) := ⟨_,_,rfl⟩
 obtain ⟨u,f,hu⟩ : ∃ s e,fromRepoS l path data = (s,e) := ⟨_,_,rfl⟩
 have r1 : C_charset_ToRepo.res (l,path,data) = .tup [.str s,.int .i64 e] := by show tupS (toRepoS l path data) = _; rw [hs]; rfl
 have r2 : C_quiltref57_ToRepo.res (l,path,data) = .tup [.str s,.int .i64 e] := by show tupS (toRepoS l path data) = _; rw [hs]; rfl
 have r3 : C_charset_FromRepo.res (l,path,data) = .tup [.str u,.int .i64 f] := by show tupS (fromRepoS l path data) = _; rw [hu]; rfl
 have r4 : C_quiltref57_FromRepo.res (l,path,data) = .tup [.str u,.int .i64 f] := by show tupS (fromRepoS l path data) = _; rw [hu]; rfl
 have E3 : decide (s = s) = true := dec_t rfl
 have E4 : decide (e = e) = true := dec_t rfl
 have E5 : decide (u = u) = true := dec_t rfl
 have E6 : decide (f = f) = true := dec_t rfl
 repeat ((conv => whnf); first | refine ⟨l,rfl,hl,?_⟩ | refine cond_t (by first | (simp only [hg, E2, E,cond_false]; done) | fail) ?_ | refine cond_f (by first | (simp only [hg, E2, E,cond_false,eq_self]; done) | fail) ?_ | refine And.intro (by omega) ?_ | refine And.intro ⟨rfl,by omega,by omega⟩ ?_ | refine And.intro ⟨rfl,by decide,by omega,by omega⟩ ?_)
 refine ⟨(l,path,data),rfl,hok,?_⟩
 rewrite [r1]
 refine ⟨_,rfl,?_⟩
 refine ⟨_,rfl,?_⟩
 refine ⟨(l,path,data),rfl,hok,?_⟩
 rewrite [r2]
 refine ⟨_,rfl,?_⟩
 refine ⟨_,rfl,?_⟩
 refine ⟨(l,path,data),rfl,hok,?_⟩
 rewrite [r3]
 refine ⟨_,rfl,?_⟩
 refine ⟨_,rfl,?_⟩
 refine ⟨(l,path,data),rfl,hok,?_⟩
 rewrite [r4]
 refine ⟨_,rfl,?_⟩
 refine ⟨_,rfl,?_⟩
 repeat ((conv => whnf); first | refine ⟨(),rfl,trivial,?_⟩ | refine cond_t (by first | (simp only [cond_true,eq_self,decide_true]; done) | fail) ?_ | refine cond_f (by first | (simp only [E3, E4, E5, E6,cond_true,cond_false,Bool.not_true,Bool.not_false,eq_self,decide_true,decide_false]; done) | fail) ?_ | refine And.intro (by omega) ?_ | refine And.intro ⟨rfl,by omega,by omega⟩ ?_ | refine And.intro ⟨rfl,by decide,by omega,by omega⟩ ?_)
 refine ⟨_,(by first | exact SubSt.refl _ | exact SubTop.refl _),?_⟩
 show AV.bool _ = AV.bool true
 simp only []
 rfl

end Qk
