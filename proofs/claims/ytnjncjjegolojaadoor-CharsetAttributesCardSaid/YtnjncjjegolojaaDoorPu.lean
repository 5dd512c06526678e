/-
  Chapter 57: the reference of the attributes, the law.
-/
import Derived.Test.YtnjncjjegolojaaDoorPi
import Derived.Test.YtnjncjjegolojaaDoorPh
import Derived.Test.YtnjncjjegolojaaDoorPg
import Derived.Test.YtnjncjjegolojaaDoorPr
import Derived.Test.YtnjncjjegolojaaDoorPs

/-
  Chapter 57: contracts of the reference's attributes.
-/
namespace Qk
open Go Go.RowKit

def strL (l : List (List UInt8)) : AV := .ilist 1 l.length (strs l)
def idxW (l : List (List UInt8)) (w : List UInt8) : Int := if w ∈ l then (l.idxOf w : Int) else -1
def setW : List (List UInt8) := [[97, 110, 121], [117, 116, 102, 56], [108, 97, 116, 105, 110, 49], [117, 116, 102, 49, 54]]
def eolW : List (List UInt8) := [[114, 97, 119], [108, 102], [99, 114, 108, 102]]
/-- The attribute that the reference reads of a line. -/
def refAtt (s : List UInt8) : Att × Bool :=
  match splB 32 s with
  | [g, c, e] => (⟨g, idxW setW c, idxW eolW e⟩, (decide (checkG g = 0) && decide (0 ≤ idxW setW c)) && decide (0 ≤ idxW eolW e))
  | _ => (Att.zero, false)
def C_quiltref57_index : PC := ⟨List (List UInt8) × List UInt8, fun x => [strL x.1, .str x.2], fun x => x.1.length ≤ 1000000000, fun x => .int .i64 (idxW x.1 x.2)⟩
def C_quiltref57_split : PC := ⟨List UInt8 × UInt8, fun x => [.str x.1, .int .u8 x.2.toNat], fun x => x.1.length ≤ 1000000000, fun x => strL (splB x.2 x.1)⟩
def C_quiltref57_attribute : PC := ⟨List UInt8, fun s => [.str s], fun s => s.length ≤ 1000000000, fun s => .tup [.agg (attA (refAtt s).1), .bool (refAtt s).2]⟩
def C_quiltref57_Attributes : PC := ⟨List UInt8, fun s => [.str s], fun s => s.length ≤ 1000000000, fun s => .tup [attsA (attributesS s).1, .int .i64 (attributesS s).2.1, .int .i64 (attributesS s).2.2]⟩
def C_quiltref57_Find : PC := ⟨List Att × List UInt8, fun x => [attsA x.1, .str x.2], fun x => okA x.1 ∧ x.2.length ≤ 1000000000, fun x => .agg (attA (findS x.1 x.2))⟩
def C_quiltref57_Same : PC := ⟨List Att × List Att, fun x => [attsA x.1, attsA x.2], fun x => x.1.length ≤ 1000000000 ∧ x.2.length ≤ 1000000000, fun x => .bool (decide (x.1 = x.2))⟩
def C_quiltlaw57_CharsetAttributes : PC := ⟨List UInt8 × List Att × List UInt8, fun x => [.str x.1, attsA x.2.1, .str x.2.2], fun x => x.2.1.length ≤ 9223372036854775807, fun _ => .bool true⟩

end Qk

/-
  Chapter 57, plain: the attributes that the reference reads.
-/
namespace Qk
open Go

theorem idxW_no {l : List (List UInt8)} {w : List UInt8} (h : w ∉ l) : idxW l w = -1 := if_neg h
theorem idxW_at {l : List (List UInt8)} {w : List UInt8} {k : Nat} (h : k < l.length) (hw : l[k] = w) (hno : w ∉ l.take k) : idxW l w = k := by
  have hm : w ∈ l := by rw [← hw]; exact List.getElem_mem h
  unfold idxW
  rw [if_pos hm]
  have e : l = l.take k ++ w :: l.drop (k + 1) := by
    rw [← hw, ← List.drop_eq_getElem_cons h, List.take_append_drop]
  have hlen : (l.take k).length = k := by rw [List.length_take]; omega
  have h2 : l.idxOf w = k := by
    rw [e, List.idxOf_append, if_neg hno, hlen]
    simp
  rw [h2]
theorem idxW_set (c : List UInt8) : (setOf c).isSome = decide (0 ≤ idxW setW c) ∧ ∀ n, setOf c = some n → idxW setW c = n := by
  unfold setOf
  by_cases h0 : c = [97, 110, 121]
  · subst h0; exact ⟨rfl, fun n e => by cases e; rfl⟩
  rw [if_neg h0]
  by_cases h1 : c = [117, 116, 102, 56]
  · subst h1; exact ⟨rfl, fun n e => by cases e; rfl⟩
  rw [if_neg h1]
  by_cases h2 : c = [108, 97, 116, 105, 110, 49]
  · subst h2; exact ⟨rfl, fun n e => by cases e; rfl⟩
  rw [if_neg h2]
  by_cases h3 : c = [117, 116, 102, 49, 54]
  · subst h3; exact ⟨rfl, fun n e => by cases e; rfl⟩
  rw [if_neg h3]
  have e : idxW setW c = -1 := idxW_no (by
    unfold setW
    simp only [List.mem_cons, List.not_mem_nil, or_false]
    rintro (h | h | h | h)
    · exact h0 h
    · exact h1 h
    · exact h2 h
    · exact h3 h)
  rw [e]
  exact ⟨rfl, fun n e => by cases e⟩
theorem idxW_eol (c : List UInt8) : (eolOf c).isSome = decide (0 ≤ idxW eolW c) ∧ ∀ n, eolOf c = some n → idxW eolW c = n := by
  unfold eolOf
  by_cases h0 : c = [114, 97, 119]
  · subst h0; exact ⟨rfl, fun n e => by cases e; rfl⟩
  rw [if_neg h0]
  by_cases h1 : c = [108, 102]
  · subst h1; exact ⟨rfl, fun n e => by cases e; rfl⟩
  rw [if_neg h1]
  by_cases h2 : c = [99, 114, 108, 102]
  · subst h2; exact ⟨rfl, fun n e => by cases e; rfl⟩
  rw [if_neg h2]
  have e : idxW eolW c = -1 := idxW_no (by
    unfold eolW
    simp only [List.mem_cons, List.not_mem_nil, or_false]
    rintro (h | h | h)
    · exact h0 h
    · exact h1 h
    · exact h2 h)
  rw [e]
  exact ⟨rfl, fun n e => by cases e⟩
theorem refAtt_ok (s : List UInt8) : (refAtt s).2 = (attributeS s).2 ∧ ((attributeS s).2 = true → (refAtt s).1 = (attributeS s).1) := by
  unfold refAtt attributeS
  generalize splB 32 s = l
  rcases l with _ | ⟨g, _ | ⟨c, _ | ⟨e, _ | ⟨x, r⟩⟩⟩⟩
  · exact ⟨rfl, fun e => (by cases e)⟩
  · exact ⟨rfl, fun e => (by cases e)⟩
  · exact ⟨rfl, fun e => (by cases e)⟩
  · have hc := idxW_set c
    have hl := idxW_eol e
    dsimp only
    by_cases h : checkG g = 0
    · rw [if_neg (fun h2 => h2 h), decide_eq_true h, Bool.true_and]
      dsimp only
      refine ⟨by rw [hc.1, hl.1], fun h2 => ?_⟩
      have h3 := Bool.and_eq_true_iff.1 h2
      obtain ⟨n, hn⟩ := Option.isSome_iff_exists.1 h3.1
      obtain ⟨m, hm⟩ := Option.isSome_iff_exists.1 h3.2
      rw [hc.2 n hn, hl.2 m hm, hn, hm]; rfl
    · rw [if_pos h, decide_eq_false h]
      exact ⟨by simp, fun e => (by cases e)⟩
  · exact ⟨rfl, fun e => (by cases e)⟩

theorem splB_ne (c : UInt8) : ∀ (u : List UInt8), splB c u ≠ []
  | [] => by simp [splB]
  | b :: t => by
    unfold splB
    split
    · simp
    · split <;> simp
theorem splB_snoc (c : UInt8) : ∀ (u : List UInt8), splB c (u ++ [c]) = splB c u ++ [[]]
  | [] => by simp [splB]
  | b :: t => by
    have ih := splB_snoc c t
    rw [List.cons_append]
    unfold splB
    by_cases h : b = c
    · rw [if_pos h, if_pos h, ih]; rfl
    · rw [if_neg h, if_neg h, ih]
      have hne := splB_ne c t
      revert hne
      cases splB c t with
      | nil => exact fun h => absurd rfl h
      | cons p ps => exact fun _ => rfl
theorem linesS_snoc : ∀ (l : List (List UInt8)) (out : List Att) (n : Nat), linesS (l ++ [[]]) out n = linesS l out n
  | [], out, n => by
    simp [linesS]
  | line :: r, out, n => by
    rw [List.cons_append, linesS, linesS, linesS_snoc r, linesS_snoc r]
theorem lines_trim (s : List UInt8) : linesS (splB 10 s) [] 0 = linesS (splB 10 (Lib.trimSuffix s [10])) [] 0 := by
  unfold Lib.trimSuffix
  split
  · rename_i h
    have e : ∃ u, s = u ++ [10] := by
      unfold Lib.hasSuffix at h
      have h2 := List.isSuffixOf_iff_suffix.1 h
      obtain ⟨u, hu⟩ := h2
      exact ⟨u, hu.symm⟩
    obtain ⟨u, rfl⟩ := e
    have e2 : (u ++ [10]).take ((u ++ [10]).length - [(10 : UInt8)].length) = u := by
      rw [List.length_append]
      simp
    rw [e2, splB_snoc, linesS_snoc]
  · rfl

end Qk

/-
  Chapter 57: the reference of the attributes, and its law, in the executor's form (printed).
-/
namespace Qk
open Go Go.RowKit

/-- quilt/quiltref57.split -/
def ir_quiltref57_split : IF := ⟨(.seq (.ops [⟨(some 4), none, .mov (.const (.slice none 0 0))⟩])
  (.seq (.ops [⟨(some 8), none, .bslice 1 [.str []] 0 []⟩,
    ⟨(some 5), none, .mov (t 8)⟩])
  (.seq (.ops [⟨(some 6), none, .mov (ci 0)⟩])
  (.seq (.seq (.ops [⟨(some 7), none, .mov (ci 0)⟩])
  (.block 0 (.loop (.seq (.seq (.ops [⟨(some 9), none, .mov (t 7)⟩,
    ⟨(some 10), none, .mov (t 0)⟩,
    ⟨(some 11), none, .lenS (t 10)⟩,
    ⟨(some 12), none, .bin .leq (t 9) (t 11)⟩])
  (.cond (t 12) .skip
  (.exit 0)))
  (.seq (.block 1 (.jn (.seq (.ops [⟨(some 15), none, .mov (t 7)⟩,
    ⟨(some 16), none, .mov (t 0)⟩,
    ⟨(some 17), none, .lenS (t 16)⟩,
    ⟨(some 18), none, .bin .eql (t 15) (t 17)⟩,
    ⟨(some 19), none, .mov (t 18)⟩,
    ⟨(some 20), (some (19, false)), .mov (t 0)⟩,
    ⟨(some 21), (some (19, false)), .mov (t 7)⟩,
    ⟨(some 22), (some (19, false)), .idxS (t 20) (t 21)⟩,
    ⟨(some 23), (some (19, false)), .mov (t 1)⟩,
    ⟨(some 24), (some (19, false)), .bin .eql (t 22) (t 23)⟩,
    ⟨(some 25), none, .pick (t 19) (.const (.bool true)) (t 24)⟩])
  (.cond (t 25) (.seq (.ops [⟨(some 26), none, .mov (t 5)⟩,
    ⟨(some 27), none, .mov (t 0)⟩,
    ⟨(some 28), none, .mov (t 6)⟩,
    ⟨(some 29), none, .mov (t 7)⟩,
    ⟨(some 30), none, .slS (t 27) (some (t 28)) (some (t 29))⟩,
    ⟨(some 31), none, .bslice 1 [.str []] 1 [(0, 1, (t 30))]⟩,
    ⟨(some 32), none, .app 1 16 (t 26) (t 31)⟩,
    ⟨(some 5), none, .mov (t 32)⟩])
  (.ops [⟨(some 33), none, .mov (t 7)⟩,
    ⟨(some 34), none, .bin .add (t 33) (ci 1)⟩,
    ⟨(some 6), none, .mov (t 34)⟩]))
  .skip))))
  (.ops [⟨(some 13), none, .mov (t 7)⟩,
    ⟨(some 14), none, .bin .add (t 13) (ci 1)⟩,
    ⟨(some 7), none, .mov (t 14)⟩]))))))
  (.seq (.ops [⟨(some 35), none, .mov (t 5)⟩,
    ⟨(some 4), none, .mov (t 35)⟩])
  .ret))))), [.tmp 4]⟩
/-- quilt/quiltref57.index -/
def ir_quiltref57_index : IF := ⟨(.seq (.ops [⟨(some 4), none, .mov (ci 0)⟩])
  (.seq (.seq (.ops [⟨(some 5), none, .mov (ci 0)⟩])
  (.block 0 (.loop (.seq (.seq (.ops [⟨(some 6), none, .mov (t 5)⟩,
    ⟨(some 7), none, .mov (t 0)⟩,
    ⟨(some 8), none, .lenL (t 7)⟩,
    ⟨(some 9), none, .bin .lss (t 6) (t 8)⟩])
  (.cond (t 9) .skip
  (.exit 0)))
  (.seq (.block 1 (.seq (.ops [⟨(some 12), none, .mov (t 0)⟩,
    ⟨(some 13), none, .mov (t 5)⟩,
    ⟨(some 14), none, .idxL 1 (t 12) (t 13)⟩,
    ⟨(some 15), none, .load1 (t 14)⟩,
    ⟨(some 16), none, .mov (t 1)⟩,
    ⟨(some 17), none, .bin .eql (t 15) (t 16)⟩])
  (.cond (t 17) (.seq (.ops [⟨(some 18), none, .mov (t 5)⟩,
    ⟨(some 4), none, .mov (t 18)⟩])
  .ret)
  .skip)))
  (.ops [⟨(some 10), none, .mov (t 5)⟩,
    ⟨(some 11), none, .bin .add (t 10) (ci 1)⟩,
    ⟨(some 5), none, .mov (t 11)⟩]))))))
  (.seq (.ops [⟨(some 4), none, .mov (ci (-1))⟩])
  .ret))), [.tmp 4]⟩
/-- quilt/quiltref57.attribute -/
def ir_quiltref57_attribute : IF := ⟨(.seq (.ops [⟨(some 2), none, .alloc [.str [], .int .i64 0, .int .i64 0]⟩,
    ⟨(some 3), none, .mov (.const (.bool false))⟩])
  (.seq (.ops [⟨(some 7), none, .mov (t 0)⟩,
    ⟨(some 8), none, .pcall C_quiltref57_split [(t 7), (.const (.int .u8 32))]⟩,
    ⟨(some 4), none, .mov (t 8)⟩])
  (.seq (.seq (.ops [⟨(some 9), none, .mov (t 4)⟩,
    ⟨(some 10), none, .lenL (t 9)⟩,
    ⟨(some 11), none, .bin .neq (t 10) (ci 3)⟩])
  (.cond (t 11) (.seq (.ops [⟨(some 12), none, .build 3 [.str [], .int .i64 0, .int .i64 0] []⟩,
    ⟨none, none, .storN 3 (t 2) (t 12)⟩,
    ⟨(some 3), none, .mov (.const (.bool false))⟩])
  .ret)
  .skip))
  (.seq (.rops [(0, 2), (0, 3), (0, 5), (2, 5), (3, 5), (4, 5), (0, 7), (5, 7), (0, 8), (5, 8)] [⟨(some 13), none, .bslice 1 [.str []] 4 [(0, 1, (.const (.string ⟨#[97, 110, 121]⟩))), (1, 1, (.const (.string ⟨#[117, 116, 102, 56]⟩))), (2, 1, (.const (.string ⟨#[108, 97, 116, 105, 110, 49]⟩))), (3, 1, (.const (.string ⟨#[117, 116, 102, 49, 54]⟩)))]⟩,
    ⟨(some 14), none, .mov (t 4)⟩,
    ⟨(some 15), none, .idxL 1 (t 14) (ci 1)⟩,
    ⟨(some 16), none, .load1 (t 15)⟩,
    ⟨(some 17), none, .pcall C_quiltref57_index [(t 13), (t 16)]⟩,
    ⟨(some 18), none, .bslice 1 [.str []] 3 [(0, 1, (.const (.string ⟨#[114, 97, 119]⟩))), (1, 1, (.const (.string ⟨#[108, 102]⟩))), (2, 1, (.const (.string ⟨#[99, 114, 108, 102]⟩)))]⟩,
    ⟨(some 19), none, .mov (t 4)⟩,
    ⟨(some 20), none, .idxL 1 (t 19) (ci 2)⟩,
    ⟨(some 21), none, .load1 (t 20)⟩,
    ⟨(some 22), none, .pcall C_quiltref57_index [(t 18), (t 21)]⟩,
    ⟨(some 5), none, .mov (t 17)⟩,
    ⟨(some 6), none, .mov (t 22)⟩])
  (.seq (.ops [⟨(some 23), none, .mov (t 4)⟩,
    ⟨(some 24), none, .idxL 1 (t 23) (ci 0)⟩,
    ⟨(some 25), none, .load1 (t 24)⟩,
    ⟨(some 26), none, .mov (t 5)⟩,
    ⟨(some 27), none, .mov (t 6)⟩,
    ⟨(some 28), none, .build 3 [.str [], .int .i64 0, .int .i64 0] [(0, 1, (t 25)), (1, 1, (t 26)), (2, 1, (t 27))]⟩,
    ⟨(some 29), none, .mov (t 4)⟩,
    ⟨(some 30), none, .idxL 1 (t 29) (ci 0)⟩,
    ⟨(some 31), none, .load1 (t 30)⟩,
    ⟨(some 32), none, .pcall C_quiltref32_Check [(t 31)]⟩,
    ⟨(some 33), none, .bin .eql (t 32) (ci 0)⟩,
    ⟨(some 34), none, .mov (t 33)⟩,
    ⟨(some 35), (some (34, true)), .mov (t 5)⟩,
    ⟨(some 36), (some (34, true)), .bin .geq (t 35) (ci 0)⟩,
    ⟨(some 37), none, .pick (t 34) (t 36) (.const (.bool false))⟩,
    ⟨(some 38), none, .mov (t 37)⟩,
    ⟨(some 39), (some (38, true)), .mov (t 6)⟩,
    ⟨(some 40), (some (38, true)), .bin .geq (t 39) (ci 0)⟩,
    ⟨(some 41), none, .pick (t 38) (t 40) (.const (.bool false))⟩,
    ⟨none, none, .storN 3 (t 2) (t 28)⟩,
    ⟨(some 3), none, .mov (t 41)⟩])
  .ret))))), [.cell 2 true 3, .tmp 3]⟩
/-- quilt/quiltref57.Attributes -/
def ir_quiltref57_Attributes : IF := ⟨(.seq (.ops [⟨(some 2), none, .mov (.const (.slice none 0 0))⟩,
    ⟨(some 3), none, .mov (ci 0)⟩,
    ⟨(some 4), none, .mov (ci 0)⟩])
  (.seq (.ops [⟨(some 10), none, .bslice 3 [.str [], .int .i64 0, .int .i64 0] 0 []⟩,
    ⟨(some 5), none, .mov (t 10)⟩])
  (.seq (.seq (.ops [⟨(some 11), none, .mov (t 0)⟩,
    ⟨(some 12), none, .lenS (t 11)⟩,
    ⟨(some 13), none, .bin .gtr (t 12) (ci 65536)⟩])
  (.cond (t 13) (.seq (.ops [⟨(some 14), none, .mov (t 5)⟩,
    ⟨(some 2), none, .mov (t 14)⟩,
    ⟨(some 3), none, .mov (ci 0)⟩,
    ⟨(some 4), none, .mov (ci 4)⟩])
  .ret)
  .skip))
  (.seq (.ops [⟨(some 15), none, .mov (t 0)⟩,
    ⟨(some 16), none, .pcall C_quiltref57_split [(t 15), (.const (.int .u8 10))]⟩,
    ⟨(some 6), none, .mov (t 16)⟩])
  (.seq (.seq (.ops [⟨(some 7), none, .mov (ci 0)⟩])
  (.block 0 (.loop (.seq (.seq (.ops [⟨(some 17), none, .mov (t 7)⟩,
    ⟨(some 18), none, .mov (t 6)⟩,
    ⟨(some 19), none, .lenL (t 18)⟩,
    ⟨(some 20), none, .bin .lss (t 17) (t 19)⟩])
  (.cond (t 20) .skip
  (.exit 0)))
  (.seq (.jn (.block 1 (.seq (.seq (.ops [⟨(some 23), none, .mov (t 6)⟩,
    ⟨(some 24), none, .mov (t 7)⟩,
    ⟨(some 25), none, .idxL 1 (t 23) (t 24)⟩,
    ⟨(some 26), none, .load1 (t 25)⟩,
    ⟨(some 27), none, .bin .eql (t 26) (.const (.string ⟨#[]⟩))⟩,
    ⟨(some 28), none, .mov (t 27)⟩,
    ⟨(some 29), (some (28, false)), .mov (t 6)⟩,
    ⟨(some 30), (some (28, false)), .mov (t 7)⟩,
    ⟨(some 31), (some (28, false)), .idxL 1 (t 29) (t 30)⟩,
    ⟨(some 32), (some (28, false)), .load1 (t 31)⟩,
    ⟨(some 33), (some (28, false)), .idxS (t 32) (ci 0)⟩,
    ⟨(some 34), (some (28, false)), .bin .eql (t 33) (.const (.int .u8 35))⟩,
    ⟨(some 35), none, .pick (t 28) (.const (.bool true)) (t 34)⟩])
  (.cond (t 35) (.exit 1)
  .skip))
  (.seq (.ops [⟨(some 37), none, .mov (t 6)⟩,
    ⟨(some 38), none, .mov (t 7)⟩,
    ⟨(some 39), none, .idxL 1 (t 37) (t 38)⟩,
    ⟨(some 40), none, .load1 (t 39)⟩,
    ⟨(some 41), none, .pcall C_quiltref57_attribute [(t 40)]⟩,
    ⟨(some 36), none, .mov (t 41)⟩,
    ⟨(some 42), none, .extr (t 36) 0⟩,
    ⟨(some 43), none, .extr (t 36) 1⟩,
    ⟨(some 8), none, .alloc [.str [], .int .i64 0, .int .i64 0]⟩,
    ⟨none, none, .storN 3 (t 8) (t 42)⟩,
    ⟨(some 9), none, .mov (t 43)⟩])
  (.seq (.seq (.ops [⟨(some 44), none, .mov (t 9)⟩,
    ⟨(some 45), none, .not (t 44)⟩])
  (.cond (t 45) (.seq (.ops [⟨(some 46), none, .bslice 3 [.str [], .int .i64 0, .int .i64 0] 0 []⟩,
    ⟨(some 47), none, .mov (t 7)⟩,
    ⟨(some 48), none, .bin .add (t 47) (ci 1)⟩,
    ⟨(some 2), none, .mov (t 46)⟩,
    ⟨(some 3), none, .mov (t 48)⟩,
    ⟨(some 4), none, .mov (ci 3)⟩])
  .ret)
  .skip))
  (.seq (.seq (.ops [⟨(some 49), none, .mov (t 5)⟩,
    ⟨(some 50), none, .lenL (t 49)⟩,
    ⟨(some 51), none, .bin .eql (t 50) (ci 100)⟩])
  (.cond (t 51) (.seq (.ops [⟨(some 52), none, .bslice 3 [.str [], .int .i64 0, .int .i64 0] 0 []⟩,
    ⟨(some 53), none, .mov (t 7)⟩,
    ⟨(some 54), none, .bin .add (t 53) (ci 1)⟩,
    ⟨(some 2), none, .mov (t 52)⟩,
    ⟨(some 3), none, .mov (t 54)⟩,
    ⟨(some 4), none, .mov (ci 4)⟩])
  .ret)
  .skip))
  (.ops [⟨(some 55), none, .mov (t 5)⟩,
    ⟨(some 56), none, .loadN 3 (t 8)⟩,
    ⟨(some 57), none, .bslice 3 [.str [], .int .i64 0, .int .i64 0] 1 [(0, 3, (t 56))]⟩,
    ⟨(some 58), none, .app 3 32 (t 55) (t 57)⟩,
    ⟨(some 5), none, .mov (t 58)⟩])))))))
  (.ops [⟨(some 21), none, .mov (t 7)⟩,
    ⟨(some 22), none, .bin .add (t 21) (ci 1)⟩,
    ⟨(some 7), none, .mov (t 22)⟩]))))))
  (.seq (.ops [⟨(some 59), none, .mov (t 5)⟩,
    ⟨(some 2), none, .mov (t 59)⟩,
    ⟨(some 3), none, .mov (ci 0)⟩,
    ⟨(some 4), none, .mov (ci 0)⟩])
  .ret)))))), [.tmp 2, .tmp 3, .tmp 4]⟩
/-- quilt/quiltref57.Find -/
def ir_quiltref57_Find : IF := ⟨(.seq (.ops [⟨(some 4), none, .alloc [.str [], .int .i64 0, .int .i64 0]⟩])
  (.seq (.seq (.ops [⟨(some 6), none, .mov (t 0)⟩,
    ⟨(some 7), none, .lenL (t 6)⟩,
    ⟨(some 8), none, .bin .sub (t 7) (ci 1)⟩,
    ⟨(some 5), none, .mov (t 8)⟩])
  (.block 0 (.loop (.seq (.seq (.ops [⟨(some 9), none, .mov (t 5)⟩,
    ⟨(some 10), none, .bin .geq (t 9) (ci 0)⟩])
  (.cond (t 10) .skip
  (.exit 0)))
  (.seq (.block 1 (.seq (.ops [⟨(some 13), none, .mov (t 0)⟩,
    ⟨(some 14), none, .mov (t 5)⟩,
    ⟨(some 15), none, .idxL 3 (t 13) (t 14)⟩,
    ⟨(some 16), none, .fldA 0 (t 15)⟩,
    ⟨(some 17), none, .load1 (t 16)⟩,
    ⟨(some 18), none, .mov (t 1)⟩,
    ⟨(some 19), none, .pcall C_quiltref32_Match [(t 17), (t 18)]⟩])
  (.cond (t 19) (.seq (.ops [⟨(some 20), none, .mov (t 0)⟩,
    ⟨(some 21), none, .mov (t 5)⟩,
    ⟨(some 22), none, .idxL 3 (t 20) (t 21)⟩,
    ⟨(some 23), none, .loadN 3 (t 22)⟩,
    ⟨none, none, .storN 3 (t 4) (t 23)⟩])
  .ret)
  .skip)))
  (.ops [⟨(some 11), none, .mov (t 5)⟩,
    ⟨(some 12), none, .bin .sub (t 11) (ci 1)⟩,
    ⟨(some 5), none, .mov (t 12)⟩]))))))
  (.seq (.ops [⟨(some 24), none, .build 3 [.str [], .int .i64 0, .int .i64 0] []⟩,
    ⟨none, none, .storN 3 (t 4) (t 24)⟩])
  .ret))), [.cell 4 true 3]⟩
/-- quilt/quiltref57.Same -/
def ir_quiltref57_Same : IF := ⟨(.seq (.ops [⟨(some 4), none, .mov (.const (.bool false))⟩])
  (.seq (.seq (.ops [⟨(some 6), none, .mov (t 0)⟩,
    ⟨(some 7), none, .lenL (t 6)⟩,
    ⟨(some 8), none, .mov (t 1)⟩,
    ⟨(some 9), none, .lenL (t 8)⟩,
    ⟨(some 10), none, .bin .neq (t 7) (t 9)⟩])
  (.cond (t 10) (.seq (.ops [⟨(some 4), none, .mov (.const (.bool false))⟩])
  .ret)
  .skip))
  (.seq (.seq (.ops [⟨(some 5), none, .mov (ci 0)⟩])
  (.block 0 (.loop (.seq (.seq (.ops [⟨(some 11), none, .mov (t 5)⟩,
    ⟨(some 12), none, .mov (t 0)⟩,
    ⟨(some 13), none, .lenL (t 12)⟩,
    ⟨(some 14), none, .bin .lss (t 11) (t 13)⟩])
  (.cond (t 14) .skip
  (.exit 0)))
  (.seq (.block 1 (.seq (.ops [⟨(some 17), none, .mov (t 0)⟩,
    ⟨(some 18), none, .mov (t 5)⟩,
    ⟨(some 19), none, .idxL 3 (t 17) (t 18)⟩,
    ⟨(some 20), none, .loadN 3 (t 19)⟩,
    ⟨(some 21), none, .mov (t 1)⟩,
    ⟨(some 22), none, .mov (t 5)⟩,
    ⟨(some 23), none, .idxL 3 (t 21) (t 22)⟩,
    ⟨(some 24), none, .loadN 3 (t 23)⟩,
    ⟨(some 25), none, .aeq true [some none, some (some .i64), some (some .i64)] (t 20) (t 24)⟩])
  (.cond (t 25) (.seq (.ops [⟨(some 4), none, .mov (.const (.bool false))⟩])
  .ret)
  .skip)))
  (.ops [⟨(some 15), none, .mov (t 5)⟩,
    ⟨(some 16), none, .bin .add (t 15) (ci 1)⟩,
    ⟨(some 5), none, .mov (t 16)⟩]))))))
  (.seq (.ops [⟨(some 4), none, .mov (.const (.bool true))⟩])
  .ret)))), [.tmp 4]⟩
/-- quilt/quiltlaw57.CharsetAttributes -/
def ir_quiltlaw57_CharsetAttributes : IF := ⟨(.seq (.ops [⟨(some 6), none, .mov (.const (.bool false))⟩])
  (.seq (.seq (.ops [⟨(some 13), none, .mov (t 0)⟩,
    ⟨(some 14), none, .lenS (t 13)⟩,
    ⟨(some 15), none, .bin .gtr (t 14) (ci 300)⟩,
    ⟨(some 16), none, .mov (t 15)⟩,
    ⟨(some 17), (some (16, false)), .mov (t 1)⟩,
    ⟨(some 18), (some (16, false)), .pcall C_quiltref57_Great [(t 17)]⟩,
    ⟨(some 19), none, .pick (t 16) (.const (.bool true)) (t 18)⟩,
    ⟨(some 20), none, .mov (t 19)⟩,
    ⟨(some 21), (some (20, false)), .mov (t 2)⟩,
    ⟨(some 22), (some (20, false)), .lenS (t 21)⟩,
    ⟨(some 23), (some (20, false)), .bin .gtr (t 22) (ci 60)⟩,
    ⟨(some 24), none, .pick (t 20) (.const (.bool true)) (t 23)⟩])
  (.cond (t 24) (.seq (.ops [⟨(some 25), none, .pcall C_quiltlaw57_awake []⟩,
    ⟨(some 6), none, .mov (t 25)⟩])
  .ret)
  .skip))
  (.seq (.ops [⟨(some 27), none, .mov (t 0)⟩,
    ⟨(some 28), none, .pcall C_charset_Attributes [(t 27)]⟩,
    ⟨(some 26), none, .mov (t 28)⟩,
    ⟨(some 29), none, .extr (t 26) 0⟩,
    ⟨(some 30), none, .extr (t 26) 1⟩,
    ⟨(some 31), none, .extr (t 26) 2⟩,
    ⟨(some 7), none, .mov (t 29)⟩,
    ⟨(some 8), none, .mov (t 30)⟩,
    ⟨(some 9), none, .mov (t 31)⟩])
  (.seq (.ops [⟨(some 33), none, .mov (t 0)⟩,
    ⟨(some 34), none, .pcall C_quiltref57_Attributes [(t 33)]⟩,
    ⟨(some 32), none, .mov (t 34)⟩,
    ⟨(some 35), none, .extr (t 32) 0⟩,
    ⟨(some 36), none, .extr (t 32) 1⟩,
    ⟨(some 37), none, .extr (t 32) 2⟩,
    ⟨(some 10), none, .mov (t 35)⟩,
    ⟨(some 11), none, .mov (t 36)⟩,
    ⟨(some 12), none, .mov (t 37)⟩])
  (.seq (.ops [⟨(some 38), none, .mov (t 7)⟩,
    ⟨(some 39), none, .mov (t 10)⟩,
    ⟨(some 40), none, .pcall C_quiltref57_Same [(t 38), (t 39)]⟩,
    ⟨(some 41), none, .mov (t 40)⟩,
    ⟨(some 42), (some (41, true)), .mov (t 8)⟩,
    ⟨(some 43), (some (41, true)), .mov (t 11)⟩,
    ⟨(some 44), (some (41, true)), .bin .eql (t 42) (t 43)⟩,
    ⟨(some 45), none, .pick (t 41) (t 44) (.const (.bool false))⟩,
    ⟨(some 46), none, .mov (t 45)⟩,
    ⟨(some 47), (some (46, true)), .mov (t 9)⟩,
    ⟨(some 48), (some (46, true)), .mov (t 12)⟩,
    ⟨(some 49), (some (46, true)), .bin .eql (t 47) (t 48)⟩,
    ⟨(some 50), none, .pick (t 46) (t 49) (.const (.bool false))⟩,
    ⟨(some 51), none, .mov (t 50)⟩,
    ⟨(some 52), (some (51, true)), .mov (t 1)⟩,
    ⟨(some 53), (some (51, true)), .mov (t 2)⟩,
    ⟨(some 54), (some (51, true)), .pcall C_charset_Find [(t 52), (t 53)]⟩,
    ⟨(some 55), (some (51, true)), .mov (t 1)⟩,
    ⟨(some 56), (some (51, true)), .mov (t 2)⟩,
    ⟨(some 57), (some (51, true)), .pcall C_quiltref57_Find [(t 55), (t 56)]⟩,
    ⟨(some 58), (some (51, true)), .aeq false [some none, some (some .i64), some (some .i64)] (t 54) (t 57)⟩,
    ⟨(some 59), none, .pick (t 51) (t 58) (.const (.bool false))⟩,
    ⟨(some 60), none, .mov (t 59)⟩,
    ⟨(some 61), (some (60, true)), .pcall C_quiltlaw57_awake []⟩,
    ⟨(some 62), none, .pick (t 60) (t 61) (.const (.bool false))⟩,
    ⟨(some 6), none, .mov (t 62)⟩])
  .ret))))), [.tmp 6]⟩

end Qk

/-
  Chapter 57, plain: splitting at a byte.
-/
namespace Qk
open Go

theorem splB_app {c : UInt8} : ∀ {a : List UInt8} (b : List UInt8), c ∉ a → splB c (a ++ c :: b) = a :: splB c b
  | [], b, _ => by
    show splB c (c :: b) = _
    unfold splB
    rw [if_pos rfl]
    cases b <;> rfl
  | x :: a, b, h => by
    have h1 : ¬ x = c := fun e => h (by rw [e]; simp)
    have ih := splB_app (c := c) (a := a) b (fun e => h (List.mem_cons_of_mem _ e))
    rw [List.cons_append, splB, if_neg h1, ih]
def SJ (c : UInt8) (s : List UInt8) (i fr : Nat) (done : List (List UInt8)) : Prop :=
  (i ≤ s.length ∧ fr ≤ i ∧ c ∉ (s.drop fr).take (i - fr) ∧ splB c s = done ++ splB c (s.drop fr)) ∨ (i = s.length + 1 ∧ splB c s = done)
theorem SJ_end {c : UInt8} {s : List UInt8} {fr : Nat} {done : List (List UInt8)} (h : SJ c s s.length fr done) : SJ c s (s.length + 1) (s.length + 1) (done ++ [(s.drop fr).take (s.length - fr)]) := by
  rcases h with ⟨_, h2, h3, h4⟩ | ⟨h1, _⟩
  case inr => omega
  refine .inr ⟨rfl, ?_⟩
  have e : (s.drop fr).take (s.length - fr) = s.drop fr := List.take_of_length_le (by rw [List.length_drop]; omega)
  rw [e] at h3 ⊢
  rw [h4, splB_miss h3]
theorem SJ_hit {c : UInt8} {s : List UInt8} {i fr : Nat} {done : List (List UInt8)} (h : SJ c s i fr done) (hlt : i < s.length) (hc : s.getD i 0 = c) : SJ c s (i + 1) (i + 1) (done ++ [(s.drop fr).take (i - fr)]) := by
  rcases h with ⟨_, h2, h3, h4⟩ | ⟨h1, _⟩
  case inr => omega
  refine .inl ⟨by omega, Nat.le_refl _, by simp, ?_⟩
  have e2 : s.drop fr = (s.drop fr).take (i - fr) ++ c :: s.drop (i + 1) := by
    have h5 : (s.drop fr).drop (i - fr) = c :: s.drop (i + 1) := by
      rw [List.drop_drop, show fr + (i - fr) = i from by omega, List.drop_eq_getElem_cons hlt]
      congr 1
      rw [← hc]; simp [List.getD, hlt]
    rw [← h5, List.take_append_drop]
  rw [h4, List.append_assoc]
  congr 1
  have e3 := splB_app (s.drop (i + 1)) h3
  rw [← e2] at e3
  rw [e3]; rfl
theorem SJ_miss {c : UInt8} {s : List UInt8} {i fr : Nat} {done : List (List UInt8)} (h : SJ c s i fr done) (hlt : i < s.length) (hc : ¬ s.getD i 0 = c) : SJ c s (i + 1) fr done := by
  rcases h with ⟨_, h2, h3, h4⟩ | ⟨h1, _⟩
  case inr => omega
  refine .inl ⟨by omega, by omega, ?_, h4⟩
  have h5 : (s.drop fr).take (i + 1 - fr) = (s.drop fr).take (i - fr) ++ [s.getD i 0] := by
    rw [show i + 1 - fr = (i - fr) + 1 from by omega, List.take_succ_eq_append_getElem (by rw [List.length_drop]; omega)]
    congr 2
    rw [List.getElem_drop]
    simp [List.getD, show fr + (i - fr) = i from by omega, hlt]
  rw [h5]
  intro hm
  rcases List.mem_append.1 hm with hm | hm
  · exact h3 hm
  · exact hc (List.mem_singleton.1 hm).symm

end Qk

/-
  Chapter 57: the reference's splitting and looking up of words.
-/
namespace Qk
open Go Go.RowKit

def PSt (s : List UInt8) (c : UInt8) (i fr : Nat) (done : List (List UInt8)) : St := mks [(0, .str s), (1, .int .u8 c.toNat), (5, .sl 0 0 done.length), (6, .int .i64 fr), (7, .int .i64 i)] [(0, .ls false 1 (strs done))] 1

set_option maxRecDepth 4000 in
set_option maxHeartbeats 1000000 in
theorem d_rsplit : Does ir_quiltref57_split C_quiltref57_split := by
  rintro ⟨s, c⟩ hs
  replace hs : s.length ≤ 1000000000 := hs
  show awp _ _ _ (entry [.str s, .int .u8 c.toNat])
  refine ⟨Nat × Nat × List (List UInt8), fun x => x.1 ≤ s.length + 1 ∧ x.2.2.length ≤ x.1 ∧ SJ c s x.1 x.2.1 x.2.2, fun x => PSt s c x.1 x.2.1 x.2.2, fun x => s.length + 1 - x.1, (0, 0, []), ⟨Nat.zero_le _, Nat.le_refl _, .inl ⟨Nat.zero_le _, Nat.le_refl _, by simp, rfl⟩⟩, ?_, ?_⟩
  · show SubSt _ _ (PSt s c 0 0 [])
    refine sub_ren [0] rfl (by decide) ⟨⟨_, rfl, rfl⟩, ⟨_, rfl, rfl⟩, ⟨_, rfl, ⟨0, rfl, eSl ?_⟩⟩, ⟨_, rfl, rfl⟩, ⟨_, rfl, rfl⟩, trivial⟩ ⟨⟨0, _, rfl, rfl, ?_⟩, trivial⟩
    · rfl
    · exact ⟨_, rfl, eN (nnl_strs _) rfl⟩
  · rintro ⟨i, fr, done⟩ ⟨hi, hdl, hinv⟩
    dsimp only at hi hdl hinv
    show awp _ _ _ (PSt s c i fr done)
    refine cond_split (fun h => ?_) (fun h => ?_)
    · have hT : (i : Int) ≤ s.length := of_decide_eq_true h
      have hle : i ≤ s.length := by omega
      have hfr : fr ≤ i := by
        rcases hinv with ⟨_, h2, _, _⟩ | ⟨h1, _⟩
        · exact h2
        · omega
      have e0 : (i : Int).toNat = i := Int.toNat_natCast i
      have e1 : (fr : Int).toNat = fr := Int.toNat_natCast fr
      have hp : (s.drop (fr : Int).toNat).take ((i : Int).toNat - (fr : Int).toNat) = (s.drop fr).take (i - fr) := by rw [e0, e1]
      refine jn_at (X := Nat × List (List UInt8)) (fun x => PSt s c i x.1 x.2) (fun x => x.2.length ≤ i + 1 ∧ SJ c s (i + 1) x.1 x.2) ?_ ?_
      · rcases Bool.eq_false_or_eq_true (decide ((i : Int) = s.length)) with c1 | c1
        · have hlen : i = s.length := by have := of_decide_eq_true c1; omega
          repeat ((conv => whnf); first | refine And.intro ⟨by omega, by omega, by omega⟩ ?_ | refine And.intro ⟨(show (0 : Nat) ≠ 1 by decide), rfl, rfl, rfl, (show (strs done).length = done.length * 1 by rw [strs_length]; exact (Nat.mul_one _).symm), (show (0 + 1) * 1 ≤ 1 by decide), (allOne1 rfl), (show (done.length + 1) * 16 ≤ 140737488355328 by omega)⟩ ?_ | refine cond_t (by first | (simp only [c1, eq_self]; done) | fail) ?_ | refine cond_f (by first | (simp only [c1, cond_true, cond_false, Bool.not_true, Bool.not_false, eq_self, decide_true, decide_false]; done) | fail) ?_ | refine And.intro (by omega) ?_ | refine And.intro ⟨rfl, by omega, by omega⟩ ?_ | refine And.intro ⟨rfl, by decide, by omega, by omega⟩ ?_)
          refine ⟨_, rfl, ?_⟩
          refine And.intro (by omega) ?_
          subst hlen
          refine ⟨(s.length + 1, done ++ [(s.drop fr).take (s.length - fr)]), ⟨by rw [List.length_append]; show done.length + 1 ≤ _; omega, SJ_end hinv⟩, ?_⟩
          show SubSt _ _ (PSt s c s.length (s.length + 1) (done ++ [(s.drop fr).take (s.length - fr)]))
          refine sub_ren [2] rfl (by decide) ⟨⟨_, rfl, rfl⟩, ⟨_, rfl, rfl⟩, ⟨_, rfl, ⟨2, rfl, eSl ?_⟩⟩, ⟨_, rfl, eI (by omega)⟩, ⟨_, rfl, rfl⟩, trivial⟩ ⟨⟨2, _, rfl, rfl, ?_⟩, trivial⟩
          · show done.length + 1 = (done ++ [_]).length; simp
          · refine ⟨_, rfl, eN (nnl_strs _) ?_⟩
            rw [strs_app, ← hp]; rfl
        · have hlt : i < s.length := by have := of_decide_eq_false c1; omega
          by_cases h2 : s.getD i 0 = c
          · have c3 : decide (((s.getD (i : Int).toNat 0).toNat : Int) = (c.toNat : Int)) = true := by rw [e0, h2]; exact decide_eq_true rfl
            repeat ((conv => whnf); first | refine And.intro ⟨by omega, by omega⟩ ?_ | refine And.intro ⟨by omega, by omega, by omega⟩ ?_ | refine And.intro ⟨(show (0 : Nat) ≠ 1 by decide), rfl, rfl, rfl, (show (strs done).length = done.length * 1 by rw [strs_length]; exact (Nat.mul_one _).symm), (show (0 + 1) * 1 ≤ 1 by decide), (allOne1 rfl), (show (done.length + 1) * 16 ≤ 140737488355328 by omega)⟩ ?_ | refine cond_t (by first | (simp only [c1,  c3, cond_false, eq_self]; done) | fail) ?_ | refine cond_f (by first | (simp only [c1,  eq_self]; done) | fail) ?_ | refine And.intro (by omega) ?_ | refine And.intro ⟨rfl, by omega, by omega⟩ ?_ | refine And.intro ⟨rfl, by decide, by omega, by omega⟩ ?_)
            refine ⟨_, rfl, ?_⟩
            refine And.intro (by omega) ?_
            refine ⟨(i + 1, done ++ [(s.drop fr).take (i - fr)]), ⟨by rw [List.length_append]; show done.length + 1 ≤ _; omega, SJ_hit hinv hlt h2⟩, ?_⟩
            show SubSt _ _ (PSt s c i (i + 1) (done ++ [(s.drop fr).take (i - fr)]))
            refine sub_ren [2] rfl (by decide) ⟨⟨_, rfl, rfl⟩, ⟨_, rfl, rfl⟩, ⟨_, rfl, ⟨2, rfl, eSl ?_⟩⟩, ⟨_, rfl, eI (by omega)⟩, ⟨_, rfl, rfl⟩, trivial⟩ ⟨⟨2, _, rfl, rfl, ?_⟩, trivial⟩
            · show done.length + 1 = (done ++ [_]).length; simp
            · refine ⟨_, rfl, eN (nnl_strs _) ?_⟩
              rw [strs_app, ← hp]; rfl
          · have c3 : decide (((s.getD (i : Int).toNat 0).toNat : Int) = (c.toNat : Int)) = false := by
              rw [e0]
              exact decide_eq_false (fun e => h2 (UInt8.toNat_inj.1 (by omega)))
            repeat ((conv => whnf); first | refine And.intro ⟨by omega, by omega⟩ ?_ | refine cond_t (by first | (simp only [c1,  c3, cond_false]; done) | fail) ?_ | refine cond_f (by first | (simp only [c1,  c3, cond_false, eq_self]; done) | fail) ?_ | refine And.intro (by omega) ?_ | refine And.intro ⟨rfl, by omega, by omega⟩ ?_ | refine And.intro ⟨rfl, by decide, by omega, by omega⟩ ?_)
            refine ⟨(fr, done), ⟨by show done.length ≤ _; omega, SJ_miss hinv hlt h2⟩, ?_⟩
            show SubSt _ _ (PSt s c i fr done)
            refine sub_ren [0] rfl (by decide) ⟨⟨_, rfl, rfl⟩, ⟨_, rfl, rfl⟩, ⟨_, rfl, ⟨0, rfl, eSl ?_⟩⟩, ⟨_, rfl, rfl⟩, ⟨_, rfl, rfl⟩, trivial⟩ ⟨⟨0, _, rfl, rfl, ?_⟩, trivial⟩
            · rfl
            · exact ⟨_, rfl, eN (nnl_strs _) rfl⟩
      · rintro ⟨fr', done'⟩ ⟨h1, h2⟩
        dsimp only at h1 h2
        show awp _ _ _ (PSt s c i fr' done')
        refine And.intro (by omega) ?_
        refine ⟨(i + 1, fr', done'), ⟨by dsimp only; omega, h1, h2⟩, (show s.length + 1 - (i + 1) < s.length + 1 - i by omega), ?_⟩
        show SubSt _ _ (PSt s c (i + 1) fr' done')
        refine sub_ren [0] rfl (by decide) ⟨⟨_, rfl, rfl⟩, ⟨_, rfl, rfl⟩, ⟨_, rfl, ⟨0, rfl, eSl ?_⟩⟩, ⟨_, rfl, rfl⟩, ⟨_, rfl, eI (by omega)⟩, trivial⟩ ⟨⟨0, _, rfl, rfl, ?_⟩, trivial⟩
        · rfl
        · exact ⟨_, rfl, eN (nnl_strs _) rfl⟩
    · have hF : ¬ (i : Int) ≤ s.length := of_decide_eq_false h
      have hd : splB c s = done := by
        rcases hinv with ⟨h1, _⟩ | ⟨_, h2⟩
        · omega
        · exact h2
      refine ⟨_, sub_frz [0] (env := [(4, .ilist 1 done.length (strs done))]) (heap := []) (nx := 1) ?_ trivial (Nat.le_refl 1), ?_⟩
      · exact ⟨⟨_, rfl, .inr (.inr ⟨0, 0, false, strs done, rfl, by decide, rfl, by rw [strs_length]; omega, by rw [Nat.zero_mul, List.drop_zero, List.take_of_length_le (by rw [strs_length]; omega)], nnl_strs _⟩)⟩, trivial⟩
      · show AV.ilist 1 done.length (strs done) = strL (splB c s)
        rw [hd]; rfl

set_option maxRecDepth 4000 in
theorem d_index57 : Does ir_quiltref57_index C_quiltref57_index := by
  rintro ⟨l, w⟩ hl
  replace hl : l.length ≤ 1000000000 := hl
  show awp _ _ _ (entry [strL l, .str w])
  refine ⟨Nat, fun k => k ≤ l.length ∧ w ∉ l.take k, fun k => mks [(0, strL l), (1, .str w), (5, .int .i64 k)] [] 0, fun k => l.length - k, 0, ⟨Nat.zero_le _, by simp⟩, ?_, ?_⟩
  · exact sub_to ⟨rfl, rfl, rfl, trivial⟩ rfl (Nat.le_refl 0)
  · rintro k ⟨hk, hno⟩
    show awp _ _ _ (mks [(0, .ilist 1 l.length (strs l)), (1, .str w), (5, .int .i64 k)] [] 0)
    refine cond_split (fun h => ?_) (fun h => ?_)
    · have hT : (k : Int) < l.length := of_decide_eq_true h
      have hlt : k < l.length := by omega
      refine And.intro ⟨rfl, by decide, by omega, by omega⟩ ?_
      refine ⟨_, (show (strs l)[(k : Int).toNat * 1]? = some (.str (l.getD k [])) by rw [Int.toNat_natCast, Nat.mul_one]; exact strs_get hlt), ?_⟩
      have hg : l.getD k [] = l[k] := by simp [hlt]
      by_cases hw : l.getD k [] = w
      · refine cond_t (dec_t hw) ?_
        refine ⟨_, (by first | exact SubSt.refl _ | exact SubTop.refl _), ?_⟩
        show AV.int .i64 (k : Int) = .int .i64 (idxW l w)
        rw [idxW_at hlt (by rw [← hg]; exact hw) hno]
      · refine cond_f (dec_f hw) ?_
        refine And.intro (by omega) ?_
        refine ⟨k + 1, ⟨by omega, ?_⟩, (show l.length - (k + 1) < l.length - k by omega), ?_⟩
        · rw [List.take_succ_eq_append_getElem hlt]
          intro hm
          rcases List.mem_append.1 hm with hm | hm
          · exact hno hm
          · rw [hg] at hw
            exact hw (List.mem_singleton.1 hm).symm
        · exact sub_to ⟨rfl, rfl, rfl, trivial⟩ rfl (Nat.le_refl 0)
    · have hF : ¬ (k : Int) < l.length := of_decide_eq_false h
      refine ⟨_, (by first | exact SubSt.refl _ | exact SubTop.refl _), ?_⟩
      show AV.int .i64 (-1) = .int .i64 (idxW l w)
      rw [List.take_of_length_le (by omega)] at hno
      rw [idxW_no hno]

end Qk

/-
  Chapter 57: the reference's attribute of a line and of a path; two lists of attributes.
-/
namespace Qk
open Go Go.RowKit

theorem flatA_at {l : List Att} {k : Nat} {a : Att} (h : l[k]? = some a) : ((flatA l).drop (k * 3)).take 3 = attA a := flat_take (n := 3) (f := attA) (fun _ => rfl) l k a h
theorem flatA_g {l : List Att} {k : Nat} {a : Att} (h : l[k]? = some a) : (flatA l)[k * 3 + 0]? = some (.str a.g) := by
  have h1 := congrArg (fun x : List AV => x[0]?) (flatA_at h)
  simp only [List.getElem?_take, List.getElem?_drop] at h1
  exact h1

set_option maxRecDepth 4000 in
theorem d_rFind : Does ir_quiltref57_Find C_quiltref57_Find := by
  rintro ⟨l, path⟩ ⟨⟨hl, hg⟩, hp⟩
  dsimp only at hl hg hp
  show awp _ _ _ (entry [attsA l, .str path])
  refine And.intro ⟨(show (-9223372036854775808 : Int) ≤ (l.length : Int) - 1 by omega), (show (l.length : Int) - 1 ≤ 9223372036854775807 by omega)⟩ ?_
  refine ⟨Nat, fun k => k ≤ l.length ∧ findS l path = findS (l.take k) path, fun k => mks [(0, attsA l), (1, .str path), (4, .ref 0 0), (5, .int .i64 ((k : Int) - 1))] [(0, .cl false (attA Att.zero))] 1, fun k => k, l.length, ⟨Nat.le_refl _, by rw [List.take_length]⟩, ?_, ?_⟩
  · refine sub_ren [0] rfl (by decide) ⟨⟨_, rfl, rfl⟩, ⟨_, rfl, rfl⟩, ⟨_, rfl, ⟨0, rfl, rfl⟩⟩, ⟨_, rfl, rfl⟩, trivial⟩ ⟨⟨0, _, rfl, rfl, ?_⟩, trivial⟩
    exact ⟨_, rfl, eN (nnl_attA _) rfl⟩
  · rintro k ⟨hk, hf⟩
    show awp _ _ _ (mks [(0, attsA l), (1, .str path), (4, .ref 0 0), (5, .int .i64 ((k : Int) - 1))] [(0, .cl false (attA Att.zero))] 1)
    refine cond_split (fun h => ?_) (fun h => ?_)
    · have hT : (0 : Int) ≤ (k : Int) - 1 := of_decide_eq_true h
      obtain ⟨j, rfl⟩ : ∃ j, k = j + 1 := ⟨k - 1, by omega⟩
      have hlt : j < l.length := by omega
      obtain ⟨a, ha⟩ : ∃ a, a = l[j]'hlt := ⟨_, rfl⟩
      have hai : l[j]? = some a := by rw [List.getElem?_eq_getElem hlt, ha]
      have hft := find_take (path := path) hlt
      rw [← ha] at hft
      have e0 : (((j + 1 : Nat) : Int) - 1).toNat = j := by omega
      refine And.intro ⟨rfl, by decide, by omega, by omega⟩ ?_
      refine ⟨_, (show (flatA l)[(((j + 1 : Nat) : Int) - 1).toNat * 3 + 0]? = some (.str a.g) by rw [e0]; exact flatA_g hai), ?_⟩
      refine ⟨(a.g, path), rfl, ⟨hg a (by rw [ha]; exact List.getElem_mem _), hp⟩, ?_⟩
      rcases Bool.eq_false_or_eq_true (matchG a.g path) with hm | hm
      · rw [if_pos hm] at hft
        refine cond_t hm ?_
        refine And.intro ⟨rfl, by decide, by omega, by omega⟩ ?_
        refine And.intro (nnl_flatA l) ?_
        refine ⟨attA a, ⟨by rw [e0]; exact (flatA_at hai).symm, rfl⟩, ?_⟩
        refine And.intro ⟨rfl, one_attA a⟩ ?_
        refine And.intro (Nat.le_refl 3) ?_
        refine ⟨_, lay_all rfl, ?_⟩
        refine ⟨_, (by first | exact SubSt.refl _ | exact SubTop.refl _), ?_⟩
        refine ⟨_, ⟨rfl, rfl, Nat.zero_le _⟩, ?_⟩
        show AV.agg (attA a) = AV.agg (attA (findS l path))
        rw [hf, hft]
      · rw [if_neg (by rw [hm]; decide)] at hft
        refine cond_f hm ?_
        refine And.intro (by omega) ?_
        refine ⟨j, ⟨by omega, by rw [hf, hft]⟩, (show j < j + 1 by omega), ?_⟩
        refine sub_ren [0] rfl (by decide) ⟨⟨_, rfl, rfl⟩, ⟨_, rfl, rfl⟩, ⟨_, rfl, ⟨0, rfl, rfl⟩⟩, ⟨_, rfl, eI (by omega)⟩, trivial⟩ ⟨⟨0, _, rfl, rfl, ?_⟩, trivial⟩
        exact ⟨_, rfl, eN (nnl_attA _) rfl⟩
    · have hF : ¬ (0 : Int) ≤ (k : Int) - 1 := of_decide_eq_false h
      have he : k = 0 := by omega
      subst he
      refine And.intro rfl ?_
      refine And.intro ⟨rfl, one_attA Att.zero⟩ ?_
      refine And.intro (Nat.le_refl 3) ?_
      refine ⟨_, lay_all rfl, ?_⟩
      refine ⟨_, (by first | exact SubSt.refl _ | exact SubTop.refl _), ?_⟩
      refine ⟨_, ⟨rfl, rfl, Nat.zero_le _⟩, ?_⟩
      show AV.agg (attA Att.zero) = AV.agg (attA (findS l path))
      rw [hf]; rfl

set_option maxRecDepth 4000 in
theorem d_Same : Does ir_quiltref57_Same C_quiltref57_Same := by
  rintro ⟨a, b⟩ ⟨hal, hbl⟩
  dsimp only at hal hbl
  show awp _ _ _ (entry [attsA a, attsA b])
  by_cases hlen : a.length = b.length
  case neg =>
    refine cond_t (show (!decide ((a.length : Int) = (b.length : Int))) = true by rw [decide_eq_false (by omega)]; rfl) ?_
    refine ⟨_, (by first | exact SubSt.refl _ | exact SubTop.refl _), ?_⟩
    show AV.bool false = .bool (decide (a = b))
    rw [decide_eq_false (fun h => hlen (by rw [h]))]
  refine cond_f (show (!decide ((a.length : Int) = (b.length : Int))) = false by rw [decide_eq_true (by omega)]; rfl) ?_
  refine ⟨Nat, fun k => k ≤ a.length ∧ a.take k = b.take k, fun k => mks [(0, attsA a), (1, attsA b), (5, .int .i64 k)] [] 0, fun k => a.length - k, 0, ⟨Nat.zero_le _, rfl⟩, ?_, ?_⟩
  · exact sub_to ⟨rfl, rfl, rfl, trivial⟩ rfl (Nat.le_refl 0)
  · rintro k ⟨hk, heq⟩
    show awp _ _ _ (mks [(0, attsA a), (1, attsA b), (5, .int .i64 k)] [] 0)
    refine cond_split (fun h => ?_) (fun h => ?_)
    · have hT : (k : Int) < a.length := of_decide_eq_true h
      have hlt : k < a.length := by omega
      have hlt2 : k < b.length := by omega
      obtain ⟨x, hx⟩ : ∃ x, x = a[k]'hlt := ⟨_, rfl⟩
      obtain ⟨y, hy⟩ : ∃ y, y = b[k]'hlt2 := ⟨_, rfl⟩
      have hxi : a[k]? = some x := by rw [List.getElem?_eq_getElem hlt, hx]
      have hyi : b[k]? = some y := by rw [List.getElem?_eq_getElem hlt2, hy]
      have e0 : (k : Int).toNat = k := Int.toNat_natCast k
      refine And.intro ⟨rfl, by decide, by omega, by omega⟩ ?_
      refine And.intro (nnl_flatA a) ?_
      refine ⟨attA x, ⟨by rw [e0]; exact (flatA_at hxi).symm, rfl⟩, ?_⟩
      refine And.intro ⟨rfl, by decide, by omega, by omega⟩ ?_
      refine And.intro (nnl_flatA b) ?_
      refine ⟨attA y, ⟨by rw [e0]; exact (flatA_at hyi).symm, rfl⟩, ?_⟩
      refine ⟨decide (x = y), eq_att x y, ?_⟩
      by_cases hxy : x = y
      · refine cond_f (show (!decide (x = y)) = false by rw [decide_eq_true hxy]; rfl) ?_
        refine And.intro (by omega) ?_
        refine ⟨k + 1, ⟨by omega, ?_⟩, (show a.length - (k + 1) < a.length - k by omega), ?_⟩
        · rw [List.take_succ_eq_append_getElem hlt, List.take_succ_eq_append_getElem hlt2, heq, ← hx, ← hy, hxy]
        · exact sub_to ⟨rfl, rfl, rfl, trivial⟩ rfl (Nat.le_refl 0)
      · refine cond_t (show (!decide (x = y)) = true by rw [decide_eq_false hxy]; rfl) ?_
        refine ⟨_, (by first | exact SubSt.refl _ | exact SubTop.refl _), ?_⟩
        show AV.bool false = .bool (decide (a = b))
        rw [decide_eq_false (fun h => hxy (by subst h; rw [hx, hy]))]
    · have hF : ¬ (k : Int) < a.length := of_decide_eq_false h
      refine ⟨_, (by first | exact SubSt.refl _ | exact SubTop.refl _), ?_⟩
      show AV.bool true = .bool (decide (a = b))
      rw [List.take_of_length_le (by omega), List.take_of_length_le (by omega)] at heq
      rw [decide_eq_true heq]

end Qk

/-
  Chapter 57: the reference's attribute of a line.
-/
namespace Qk
open Go Go.RowKit

theorem refAtt_no {s : List UInt8} (h : (splB 32 s).length ≠ 3) : refAtt s = (Att.zero, false) := by
  unfold refAtt
  generalize splB 32 s = l at h
  rcases l with _ | ⟨g, _ | ⟨c, _ | ⟨e, _ | ⟨x, r⟩⟩⟩⟩
  · rfl
  · rfl
  · rfl
  · exact absurd rfl h
  · rfl
theorem three_of {l : List (List UInt8)} (h : l.length = 3) : ∃ g c e, l = [g, c, e] := by
  rcases l with _ | ⟨g, _ | ⟨c, _ | ⟨e, _ | ⟨x, r⟩⟩⟩⟩
  · cases h
  · cases h
  · cases h
  · exact ⟨g, c, e, rfl⟩
  · simp at h

set_option maxRecDepth 4000 in
set_option maxHeartbeats 1000000 in
theorem d_rattribute : Does ir_quiltref57_attribute C_quiltref57_attribute := by
  intro (s : List UInt8) hs
  replace hs : s.length ≤ 1000000000 := hs
  show awp _ _ _ (entry [.str s])
  obtain ⟨l, hl⟩ : ∃ l, l = splB 32 s := ⟨_, rfl⟩
  have hres : C_quiltref57_split.res (s, 32) = .ilist 1 l.length (strs l) := by rw [hl]; rfl
  have hll := splB_len 32 s
  rw [← hl] at hll
  refine ⟨(s, 32), rfl, hs, ?_⟩
  rewrite [hres]
  by_cases h3 : l.length = 3
  case neg =>
    refine cond_t (show (!decide ((l.length : Int) = 3)) = true by rw [decide_eq_false (by omega)]; rfl) ?_
    refine And.intro rfl ?_
    refine And.intro ⟨rfl, one_attA Att.zero⟩ ?_
    refine And.intro (Nat.le_refl 3) ?_
    refine ⟨_, lay_all rfl, ?_⟩
    refine ⟨_, (by first | exact SubSt.refl _ | exact SubTop.refl _), ?_⟩
    refine ⟨_, ⟨rfl, rfl, Nat.zero_le _⟩, ?_⟩
    show AV.tup [.agg (attA Att.zero), .bool false] = .tup [.agg (attA (refAtt s).1), .bool (refAtt s).2]
    rw [refAtt_no (by rw [← hl]; exact h3)]
  refine cond_f (show (!decide ((l.length : Int) = 3)) = false by rw [decide_eq_true (by omega)]; rfl) ?_
  obtain ⟨g, c, e, rfl⟩ := three_of h3
  have hgl : g.length ≤ 1000000000 := by have := hll.1 g (by simp); omega
  have hR : refAtt s = (⟨g, idxW setW c, idxW eolW e⟩, (decide (checkG g = 0) && decide (0 ≤ idxW setW c)) && decide (0 ≤ idxW eolW e)) := by
    unfold refAtt
    rw [← hl]
  obtain ⟨u, hu⟩ : ∃ u, u = idxW setW c := ⟨_, rfl⟩
  obtain ⟨v, hv⟩ : ∃ v, v = idxW eolW e := ⟨_, rfl⟩
  obtain ⟨k, hk⟩ : ∃ k, k = checkG g := ⟨_, rfl⟩
  have hr1 : C_quiltref57_index.res (setW, c) = .int .i64 u := by rw [hu]; rfl
  have hr2 : C_quiltref57_index.res (eolW, e) = .int .i64 v := by rw [hv]; rfl
  have hr3 : C_quiltref32_Check.res g = .int .i64 k := by rw [hk]; rfl
  rw [← hu, ← hv, ← hk] at hR
  have b1 : (1 : Int) < ([g, c, e].length : Nat) := by show (1 : Int) < 3; decide
  have b2 : (2 : Int) < ([g, c, e].length : Nat) := by show (2 : Int) < 3; decide
  have b0 : (0 : Int) < ([g, c, e].length : Nat) := by show (0 : Int) < 3; decide
  refine And.intro ⟨rfl, by decide, by decide, b1⟩ ?_
  refine ⟨_, rfl, ?_⟩
  refine ⟨by decide, nnl_strs setW, (setW, c), rfl, (show (4 : Nat) ≤ 1000000000 by decide), plain_int _ _, ?_⟩
  rewrite [hr1]
  refine And.intro ⟨rfl, by decide, by decide, b2⟩ ?_
  refine ⟨_, rfl, ?_⟩
  refine ⟨by decide, nnl_strs eolW, (eolW, e), rfl, (show (3 : Nat) ≤ 1000000000 by decide), plain_int _ _, ?_⟩
  rewrite [hr2]
  refine And.intro rfl ?_
  refine And.intro ⟨rfl, by decide, by decide, b0⟩ ?_
  refine ⟨_, rfl, ?_⟩
  refine And.intro rfl ?_
  refine And.intro ⟨rfl, by decide, by decide, b0⟩ ?_
  refine ⟨_, rfl, ?_⟩
  refine ⟨g, rfl, hgl, ?_⟩
  rewrite [hr3]
  rcases Bool.eq_false_or_eq_true (decide (k = 0)) with E1 | E1 <;> rcases Bool.eq_false_or_eq_true (decide (0 ≤ u)) with E2 | E2 <;> rcases Bool.eq_false_or_eq_true (decide (0 ≤ v)) with E3 | E3
  all_goals
    repeat ((conv => whnf); first | refine cond_t (by first | (simp only [E1,  E2,  cond_true, eq_self]; done) | fail) ?_ | refine cond_f (by first | (simp only [E1,  E2,  cond_true, eq_self]; done) | fail) ?_ | refine And.intro (by omega) ?_ | refine And.intro ⟨rfl, by omega, by omega⟩ ?_ | refine And.intro ⟨rfl, by decide, by omega, by omega⟩ ?_)
    refine And.intro ⟨rfl, one_attA ⟨g, u, v⟩⟩ ?_
    refine And.intro (Nat.le_refl 3) ?_
    refine ⟨_, lay_all rfl, ?_⟩
    refine ⟨_, (by first | exact SubSt.refl _ | exact SubTop.refl _), ?_⟩
    refine ⟨_, ⟨rfl, rfl, Nat.zero_le _⟩, ?_⟩
    show AV.tup [.agg (attA ⟨g, u, v⟩), .bool _] = .tup [.agg (attA (refAtt s).1), .bool (refAtt s).2]
    rw [hR, E1, E2, E3]
    simp only [cond_true, Bool.and_true, Bool.and_false]

end Qk

/-
  Chapter 57: the reference's attributes of a text.
-/
namespace Qk
open Go Go.RowKit

theorem reta_sub {m nx : Nat} {out : List Att} {i e : Int} {S : St} (h0 : S.env 2 = some (.sl m 0 out.length)) (h1 : S.env 3 = some (.int .i64 i)) (h2 : S.env 4 = some (.int .i64 e)) (hH : S.heap m = some (.ls false 3 (flatA out))) (hn : S.next ≤ nx) :
    SubTop S (mks [(2, attsA out), (3, .int .i64 i), (4, .int .i64 e)] [] nx) :=
  sub_frz [m] (env := [(2, attsA out), (3, .int .i64 i), (4, .int .i64 e)]) (heap := []) (nx := nx)
    ⟨⟨_, h0, .inr (.inr ⟨m, 0, false, flatA out, rfl, by simp, hH, by rw [flatA_len]; omega, by rw [Nat.zero_mul, List.drop_zero, List.take_of_length_le (by rw [flatA_len]; omega)], nnl_flatA _⟩)⟩, ⟨_, h1, rfl⟩, ⟨_, h2, rfl⟩, trivial⟩ trivial hn
theorem atts_res {s : List UInt8} {out : List Att} {i e : Int} (h : attributesS s = (out, i, e)) : AV.tup [attsA out, .int .i64 i, .int .i64 e] = C_quiltref57_Attributes.res s := by
  show _ = AV.tup [attsA (attributesS s).1, .int .i64 (attributesS s).2.1, .int .i64 (attributesS s).2.2]
  rw [h]

def AtS (s : List UInt8) (parts : List (List UInt8)) (out : List Att) (k : Nat) : St := mks [(0, .str s), (5, .sl 0 0 out.length), (6, .ilist 1 parts.length (strs parts)), (7, .int .i64 k)] [(0, .ls false 3 (flatA out))] 1

set_option maxRecDepth 4000 in
set_option maxHeartbeats 2000000 in
theorem d_rAttributes : Does ir_quiltref57_Attributes C_quiltref57_Attributes := by
  intro (s : List UInt8) hs
  replace hs : s.length ≤ 1000000000 := hs
  show awp _ _ _ (entry [.str s])
  by_cases h65 : 65536 < s.length
  · have A1 : decide ((65536 : Int) < s.length) = true := dec_t (by omega)
    refine cond_t A1 ?_
    exact ⟨_, reta_sub (m := 0) (nx := 1) (out := []) (i := 0) (e := 4) rfl rfl rfl rfl (Nat.le_refl 1), atts_res (if_pos h65)⟩
  have A1 : decide ((65536 : Int) < s.length) = false := dec_f (by omega)
  refine cond_f A1 ?_
  obtain ⟨l, hl⟩ : ∃ l, l = splB 10 s := ⟨_, rfl⟩
  have hres : C_quiltref57_split.res (s, 10) = .ilist 1 l.length (strs l) := by rw [hl]; rfl
  have hll := splB_len 10 s
  rw [← hl] at hll
  have hA : attributesS s = linesS l [] 0 := by unfold attributesS; rw [if_neg h65, ← lines_trim, ← hl]
  refine ⟨(s, 10), rfl, hs, ?_⟩
  rewrite [hres]
  refine ⟨List Att × Nat, fun x => x.2 ≤ l.length ∧ x.1.length ≤ 100 ∧ attributesS s = linesS (l.drop x.2) x.1 x.2, fun x => AtS s l x.1 x.2, fun x => l.length - x.2, ([], 0), ⟨Nat.zero_le _, Nat.zero_le _, hA⟩, ?_, ?_⟩
  · show SubSt _ _ (AtS s l [] 0)
    refine sub_ren [0] rfl (by decide) ⟨⟨_, rfl, rfl⟩, ⟨_, rfl, ⟨0, rfl, eSl ?_⟩⟩, ⟨_, rfl, rfl⟩, ⟨_, rfl, rfl⟩, trivial⟩ ⟨⟨0, _, rfl, rfl, ?_⟩, trivial⟩
    · rfl
    · exact ⟨_, rfl, eN (nnl_flatA _) rfl⟩
  · rintro ⟨out, k⟩ ⟨hk, hol, hR⟩
    dsimp only at hk hol hR
    show awp _ _ _ (AtS s l out k)
    refine cond_split (fun h => ?_) (fun h => ?_)
    · have hT : (k : Int) < l.length := of_decide_eq_true h
      have hlt : k < l.length := by omega
      obtain ⟨p, hp⟩ : ∃ p, p = l.getD k [] := ⟨_, rfl⟩
      have hpg : l[k] = p := by rw [hp]; simp [hlt]
      have hpl : p.length ≤ 1000000000 := by have := hll.1 p (by rw [← hpg]; exact List.getElem_mem _); omega
      have hkl : k ≤ 1000000001 := by have := hll.2; omega
      have hcell : (strs l)[(k : Int).toNat * 1]? = some (.str p) := by rw [Int.toNat_natCast, Nat.mul_one, hp]; exact strs_get hlt
      have hdr : l.drop k = p :: l.drop (k + 1) := by rw [List.drop_eq_getElem_cons hlt, hpg]
      rw [hdr, linesS] at hR
      refine jn_at (X := List Att) (fun o => AtS s l o k) (fun o => o.length ≤ 100 ∧ attributesS s = linesS (l.drop (k + 1)) o (k + 1)) ?_ ?_
      · by_cases hp0 : p = []
        · have C1 : decide (p = (ByteArray.mk #[]).data.toList) = true := dec_t hp0
          rw [if_pos (.inl hp0)] at hR
          repeat ((conv => whnf); first | refine cond_t (by first | (simp only [C1, eq_self]; done) | fail) ?_ | refine cond_f (by first | (simp only [C1, cond_true, cond_false, Bool.not_true, Bool.not_false, eq_self, decide_true, decide_false]; done) | fail) ?_ | refine And.intro (by omega) ?_ | refine And.intro ⟨rfl, by omega, by omega⟩ ?_ | refine And.intro ⟨rfl, by decide, by omega, by omega⟩ ?_ | refine ⟨_, hcell, ?_⟩)
          refine ⟨out, ⟨hol, hR⟩, ?_⟩
          show SubSt _ _ (AtS s l out k)
          refine sub_ren [0] rfl (by decide) ⟨⟨_, rfl, rfl⟩, ⟨_, rfl, ⟨0, rfl, eSl ?_⟩⟩, ⟨_, rfl, rfl⟩, ⟨_, rfl, rfl⟩, trivial⟩ ⟨⟨0, _, rfl, rfl, ?_⟩, trivial⟩
          · rfl
          · exact ⟨_, rfl, eN (nnl_flatA _) rfl⟩
        have hpp : 0 < p.length := List.length_pos_iff.2 hp0
        have C1 : decide (p = (ByteArray.mk #[]).data.toList) = false := dec_f hp0
        by_cases h35 : p.getD 0 0 = 35
        · have C2 : decide (((p.getD (0 : Int).toNat 0).toNat : Int) = 35) = true := dec_t (by show ((p.getD 0 0).toNat : Int) = 35; rw [h35]; rfl)
          rw [if_pos (.inr h35)] at hR
          repeat ((conv => whnf); first | refine cond_t (by first | (simp only [C1,  C2, cond_false, eq_self]; done) | fail) ?_ | refine cond_f (by first | (simp only [C1,  eq_self]; done) | fail) ?_ | refine And.intro (by omega) ?_ | refine And.intro ⟨rfl, by omega, by omega⟩ ?_ | refine And.intro ⟨rfl, by decide, by omega, by omega⟩ ?_ | refine ⟨_, hcell, ?_⟩)
          refine ⟨out, ⟨hol, hR⟩, ?_⟩
          show SubSt _ _ (AtS s l out k)
          refine sub_ren [0] rfl (by decide) ⟨⟨_, rfl, rfl⟩, ⟨_, rfl, ⟨0, rfl, eSl ?_⟩⟩, ⟨_, rfl, rfl⟩, ⟨_, rfl, rfl⟩, trivial⟩ ⟨⟨0, _, rfl, rfl, ?_⟩, trivial⟩
          · rfl
          · exact ⟨_, rfl, eN (nnl_flatA _) rfl⟩
        have C2 : decide (((p.getD (0 : Int).toNat 0).toNat : Int) = 35) = false := dec_f (fun h => h35 (UInt8.toNat_inj.1 (by have h2 : ((p.getD 0 0).toNat : Int) = 35 := h; show (p.getD 0 0).toNat = 35; omega)))
        rw [if_neg (fun h => h.elim hp0 h35)] at hR
        obtain ⟨a, b, hab⟩ : ∃ a b, refAtt p = (a, b) := ⟨_, _, rfl⟩
        have hok := refAtt_ok p
        rw [hab] at hok
        dsimp only at hok
        rw [← hok.1] at hR
        have hres2 : C_quiltref57_attribute.res p = .tup [.agg (attA a), .bool b] := by show AV.tup [.agg (attA (refAtt p).1), .bool (refAtt p).2] = _; rw [hab]
        repeat ((conv => whnf); first | refine cond_t (by first | (simp only [C1,  C2, cond_false]; done) | fail) ?_ | refine cond_f (by first | (simp only [C1,  C2, cond_false, eq_self]; done) | fail) ?_ | refine And.intro (by omega) ?_ | refine And.intro ⟨rfl, by omega, by omega⟩ ?_ | refine And.intro ⟨rfl, by decide, by omega, by omega⟩ ?_ | refine ⟨_, hcell, ?_⟩)
        refine ⟨p, rfl, hpl, ?_⟩
        rewrite [hres2]
        refine ⟨_, rfl, ?_⟩
        refine ⟨_, rfl, ?_⟩
        refine And.intro ⟨rfl, one_attA a⟩ ?_
        refine And.intro (Nat.le_refl 3) ?_
        refine ⟨_, lay_all rfl, ?_⟩
        cases b with
        | false =>
          rw [if_pos rfl] at hR
          refine And.intro ⟨by omega, by omega⟩ ?_
          exact ⟨_, reta_sub (m := 2) (nx := 3) (out := []) (i := (k : Int) + 1) (e := 3) rfl rfl rfl rfl (Nat.le_refl 3), atts_res (by rw [hR]; rfl)⟩
        | true =>
          rw [if_neg (by decide)] at hR
          by_cases h100 : out.length = 100
          · rw [if_pos h100] at hR
            refine cond_t (dec_t (show (out.length : Int) = 100 by omega)) ?_
            refine And.intro ⟨by omega, by omega⟩ ?_
            exact ⟨_, reta_sub (m := 2) (nx := 3) (out := []) (i := (k : Int) + 1) (e := 4) rfl rfl rfl rfl (Nat.le_refl 3), atts_res (by rw [hR]; rfl)⟩
          rw [if_neg h100, ← hok.2 hok.1.symm] at hR
          refine cond_f (dec_f (show ¬ (out.length : Int) = 100 by omega)) ?_
          refine ⟨attA a, ⟨rfl, rfl⟩, ?_⟩
          refine And.intro ⟨(show (0 : Nat) ≠ 2 by decide), rfl, rfl, rfl, flatA_len out, (show (0 + 1) * 3 ≤ 3 by decide), one_attA a, (show (out.length + 1) * 32 ≤ 140737488355328 by omega)⟩ ⟨_, rfl, ?_⟩
          refine ⟨out ++ [a], ⟨by rw [List.length_append]; show out.length + 1 ≤ 100; omega, hR⟩, ?_⟩
          show SubSt _ _ (AtS s l (out ++ [a]) k)
          refine sub_ren [3] rfl (by decide) ⟨⟨_, rfl, rfl⟩, ⟨_, rfl, ⟨3, rfl, eSl ?_⟩⟩, ⟨_, rfl, rfl⟩, ⟨_, rfl, rfl⟩, trivial⟩ ⟨⟨3, _, rfl, rfl, ?_⟩, trivial⟩
          · show out.length + 1 = (out ++ [a]).length; rw [List.length_append]; rfl
          · refine ⟨_, rfl, eN (nnl_flatA _) ?_⟩
            show flatA out ++ attA a = flatA (out ++ [a])
            unfold flatA
            rw [List.flatMap_append]
            simp
      · rintro o ⟨h1, h2⟩
        show awp _ _ _ (AtS s l o k)
        refine And.intro ⟨by omega, by omega⟩ ?_
        refine ⟨(o, k + 1), ⟨by dsimp only; omega, h1, h2⟩, (show l.length - (k + 1) < l.length - k by omega), ?_⟩
        show SubSt _ _ (AtS s l o (k + 1))
        refine sub_ren [0] rfl (by decide) ⟨⟨_, rfl, rfl⟩, ⟨_, rfl, ⟨0, rfl, eSl ?_⟩⟩, ⟨_, rfl, rfl⟩, ⟨_, rfl, eI (by omega)⟩, trivial⟩ ⟨⟨0, _, rfl, rfl, ?_⟩, trivial⟩
        · rfl
        · exact ⟨_, rfl, eN (nnl_flatA _) rfl⟩
    · have hF : ¬ (k : Int) < l.length := of_decide_eq_false h
      have hd : l.drop k = [] := List.drop_eq_nil_of_le (by omega)
      rw [hd, linesS] at hR
      exact ⟨_, reta_sub (m := 0) (nx := 1) (out := out) (i := 0) (e := 0) rfl rfl rfl rfl (Nat.le_refl 1), atts_res hR⟩

end Qk

/-
  Chapter 57: the law that the attributes are the reference's.
-/
namespace Qk
open Go Go.RowKit

theorem lines_len : ∀ (l : List (List UInt8)) (out : List Att) (n : Nat), out.length ≤ 100 → (linesS l out n).1.length ≤ 100
  | [], out, n, h => by rw [linesS]; exact h
  | line :: r, out, n, h => by
    rw [linesS]
    split
    · exact lines_len r out (n + 1) h
    · split
      · exact Nat.zero_le _
      · split
        · exact Nat.zero_le _
        · exact lines_len r _ (n + 1) (by rw [List.length_append]; show out.length + 1 ≤ 100; omega)
theorem attributes_len (s : List UInt8) : (attributesS s).1.length ≤ 100 := by
  unfold attributesS
  split
  · exact Nat.zero_le _
  · exact lines_len _ _ _ (Nat.zero_le _)

set_option maxRecDepth 4000 in
set_option maxHeartbeats 2000000 in
theorem d_CharsetAttributes : Does ir_quiltlaw57_CharsetAttributes C_quiltlaw57_CharsetAttributes := by
  rintro ⟨s, l, path⟩ hl
  replace hl : l.length ≤ 9223372036854775807 := hl
  show awp _ _ _ (entry [.str s, attsA l, .str path])
  by_cases h300 : 300 < s.length
  · have E : decide ((300 : Int) < s.length) = true := dec_t (by omega)
    repeat ((conv => whnf); first | refine cond_t (by first | (simp only [E, eq_self]; done) | fail) ?_ | refine cond_f (by first | (simp only [E, cond_true, cond_false, Bool.not_true, Bool.not_false, eq_self, decide_true, decide_false]; done) | fail) ?_ | refine And.intro (by omega) ?_ | refine And.intro ⟨rfl, by omega, by omega⟩ ?_ | refine And.intro ⟨rfl, by decide, by omega, by omega⟩ ?_)
    refine ⟨(), rfl, trivial, ?_⟩
    refine ⟨_, (by first | exact SubSt.refl _ | exact SubTop.refl _), ?_⟩
    rfl
  have E : decide ((300 : Int) < s.length) = false := dec_f (by omega)
  rcases Bool.eq_false_or_eq_true (greatS l) with hg | hg
  · repeat ((conv => whnf); first | refine ⟨l, rfl, hl, ?_⟩ | refine cond_t (by first | (simp only [E,  hg, cond_false, eq_self]; done) | fail) ?_ | refine cond_f (by first | (simp only [E,  eq_self]; done) | fail) ?_ | refine And.intro (by omega) ?_ | refine And.intro ⟨rfl, by omega, by omega⟩ ?_ | refine And.intro ⟨rfl, by decide, by omega, by omega⟩ ?_)
    refine ⟨(), rfl, trivial, ?_⟩
    refine ⟨_, (by first | exact SubSt.refl _ | exact SubTop.refl _), ?_⟩
    rfl
  by_cases h60 : 60 < path.length
  · have E2 : decide ((60 : Int) < path.length) = true := dec_t (by omega)
    repeat ((conv => whnf); first | refine ⟨l, rfl, hl, ?_⟩ | refine cond_t (by first | (simp only [E,  hg,  E2, cond_false, eq_self]; done) | fail) ?_ | refine cond_f (by first | (simp only [E,  hg,  cond_false, eq_self]; done) | fail) ?_ | refine And.intro (by omega) ?_ | refine And.intro ⟨rfl, by omega, by omega⟩ ?_ | refine And.intro ⟨rfl, by decide, by omega, by omega⟩ ?_)
    refine ⟨(), rfl, trivial, ?_⟩
    refine ⟨_, (by first | exact SubSt.refl _ | exact SubTop.refl _), ?_⟩
    rfl
  have E2 : decide ((60 : Int) < path.length) = false := dec_f (by omega)
  have hs : s.length ≤ 1000000000 := by omega
  have hok : okA l ∧ path.length ≤ 1000000000 := by
    unfold greatS at hg
    rw [Bool.or_eq_false_iff] at hg
    have h20 := of_decide_eq_false hg.2
    refine ⟨⟨by omega, fun a ha => ?_⟩, by omega⟩
    have := List.any_eq_false.1 hg.1 a ha
    have h40 : ¬ 40 < a.g.length := fun h => this (decide_eq_true h)
    omega
  obtain ⟨out, i, e, ho⟩ : ∃ out i e, attributesS s = (out, i, e) := ⟨_, _, _, rfl⟩
  obtain ⟨a, ha⟩ : ∃ a, findS l path = a := ⟨_, rfl⟩
  have hol : out.length ≤ 1000000000 := by
    have := attributes_len s
    rw [ho] at this
    exact Nat.le_trans this (by decide)
  have r1 : C_charset_Attributes.res s = .tup [attsA out, .int .i64 i, .int .i64 e] := by show AV.tup [attsA (attributesS s).1, .int .i64 (attributesS s).2.1, .int .i64 (attributesS s).2.2] = _; rw [ho]
  have r2 : C_quiltref57_Attributes.res s = .tup [attsA out, .int .i64 i, .int .i64 e] := by show AV.tup [attsA (attributesS s).1, .int .i64 (attributesS s).2.1, .int .i64 (attributesS s).2.2] = _; rw [ho]
  have r3 : C_charset_Find.res (l, path) = .agg (attA a) := by show AV.agg (attA (findS l path)) = _; rw [ha]
  have r4 : C_quiltref57_Find.res (l, path) = .agg (attA a) := by show AV.agg (attA (findS l path)) = _; rw [ha]
  have r5 : C_quiltref57_Same.res (out, out) = .bool true := by show AV.bool (decide (out = out)) = _; rw [decide_eq_true rfl]
  have E3 : decide (i = i) = true := dec_t rfl
  have E4 : decide (e = e) = true := dec_t rfl
  repeat ((conv => whnf); first | refine ⟨l, rfl, hl, ?_⟩ | refine cond_t (by first | (simp only [E,  hg,  E2, cond_false]; done) | fail) ?_ | refine cond_f (by first | (simp only [E,  hg,  E2, cond_false, eq_self]; done) | fail) ?_ | refine And.intro (by omega) ?_ | refine And.intro ⟨rfl, by omega, by omega⟩ ?_ | refine And.intro ⟨rfl, by decide, by omega, by omega⟩ ?_)
  refine ⟨s, rfl, hs, ?_⟩
  rewrite [r1]
  refine ⟨_, rfl, ?_⟩
  refine ⟨_, rfl, ?_⟩
  refine ⟨_, rfl, ?_⟩
  refine ⟨s, rfl, hs, ?_⟩
  rewrite [r2]
  refine ⟨_, rfl, ?_⟩
  refine ⟨_, rfl, ?_⟩
  refine ⟨_, rfl, ?_⟩
  refine ⟨(out, out), rfl, ⟨hol, hol⟩, ?_⟩
  rewrite [r5]
  repeat ((conv => whnf); first | refine cond_t (by first | (simp only [ cond_true, eq_self, decide_true]; done) | fail) ?_ | refine cond_f (by first | (simp only [E3,  E4, cond_true, cond_false, Bool.not_true, Bool.not_false, eq_self, decide_true, decide_false]; done) | fail) ?_ | refine And.intro (by omega) ?_ | refine And.intro ⟨rfl, by omega, by omega⟩ ?_ | refine And.intro ⟨rfl, by decide, by omega, by omega⟩ ?_)
  refine ⟨(l, path), rfl, hok, ?_⟩
  rewrite [r3]
  repeat ((conv => whnf); first | refine cond_t (by first | (simp only [ cond_true, eq_self, decide_true]; done) | fail) ?_ | refine cond_f (by first | (simp only [E3,  E4, cond_true, cond_false, Bool.not_true, Bool.not_false, eq_self, decide_true, decide_false]; done) | fail) ?_ | refine And.intro (by omega) ?_ | refine And.intro ⟨rfl, by omega, by omega⟩ ?_ | refine And.intro ⟨rfl, by decide, by omega, by omega⟩ ?_)
  refine ⟨(l, path), rfl, hok, ?_⟩
  rewrite [r4]
  repeat ((conv => whnf); first | refine cond_t (by first | (simp only [ cond_true, eq_self, decide_true]; done) | fail) ?_ | refine cond_f (by first | (simp only [E3,  E4, cond_true, cond_false, Bool.not_true, Bool.not_false, eq_self, decide_true, decide_false]; done) | fail) ?_ | refine And.intro (by omega) ?_ | refine And.intro ⟨rfl, by omega, by omega⟩ ?_ | refine And.intro ⟨rfl, by decide, by omega, by omega⟩ ?_)
  refine ⟨true, eq_att' rfl, ?_⟩
  repeat ((conv => whnf); first | refine ⟨(), rfl, trivial, ?_⟩ | refine cond_t (by first | (simp only [ cond_true, cond_false, Bool.not_true, eq_self, decide_true]; done) | fail) ?_ | refine cond_f (by first | (simp only [E3,  E4, cond_true, cond_false, Bool.not_true, Bool.not_false, eq_self, decide_true, decide_false]; done) | fail) ?_ | refine And.intro (by omega) ?_ | refine And.intro ⟨rfl, by omega, by omega⟩ ?_ | refine And.intro ⟨rfl, by decide, by omega, by omega⟩ ?_)
  refine ⟨_, (by first | exact SubSt.refl _ | exact SubTop.refl _), ?_⟩
  show AV.bool _ = AV.bool true
  simp only [cond_true, cond_false]
  rfl

end Qk
