/-
  Chapter 32: the reference: parsing.
-/
import Derived.Test.YtnjncjjegolojaaGreatDoorPf
import Derived.Test.YtnjncjjegolojaaGreatDoorPd
import Derived.Test.YtnjncjjegolojaaGreatDoorPe

/-
  Chapter 32: what the functions of the reference give.
-/
namespace Qk
open Go Go.RowKit

/-- The elements that can be read, up to the first that cannot. -/
def elsP : Nat → List UInt8 → List El × Bool
 | _,[] => ([],true)
 | 0,_ :: _ => ([],false)
 | f + 1,c :: r => match elL (c :: r) with
  | none => ([],false)
  | some (e,rest) => (e :: (elsP f rest).1,(elsP f rest).2)
theorem elsP_ok : ∀ (f : Nat) (r : List UInt8),elsL f r = if (elsP f r).2 then some (elsP f r).1 else none
 | _,[] => by simp [elsL,elsP]
 | 0,_ :: _ => by simp [elsL,elsP]
 | f + 1,c :: r => by
  rw [elsL,elsP]
  cases elL (c :: r) with
  | none => rfl
  | some x =>
   obtain ⟨e,rest⟩ := x
   dsimp only
   rw [elsP_ok f rest]
   cases (elsP f rest).2 <;> rfl
def parseP (s : List UInt8) : Comp × Bool := if s = [42,42] then (⟨true,[]⟩,true) else (⟨false,(elsP s.length s).1⟩,(elsP s.length s).2 && !decide (s = []))
theorem parseP_ok (s : List UInt8) : compL s = if (parseP s).2 then some (parseP s).1 else none := by
 unfold compL parseP
 by_cases h : s = [42,42]
 ·rw [if_pos h,if_pos h]; rfl
 ·rw [if_neg h,if_neg h]
  by_cases h2 : s = []
  ·rw [if_pos h2,decide_eq_true h2]; simp
  ·rw [if_neg h2,decide_eq_false h2,elsP_ok]
   cases (elsP s.length s).2 <;> rfl
def compsP : List (List UInt8) → List Comp × Bool
 | [] => ([],true)
 | s :: r => match (parseP s).2 with
  | false => ([],false)
  | true => ((parseP s).1 :: (compsP r).1,(compsP r).2)
theorem compsP_ok : ∀ (ps : List (List UInt8)),compsL ps = if (compsP ps).2 then some (compsP ps).1 else none
 | [] => rfl
 | s :: r => by
  rw [compsL,compsP,parseP_ok s]
  cases (parseP s).2 with
  | false => rfl
  | true =>
   dsimp only
   rw [if_pos rfl,compsP_ok r]
   cases (compsP r).2 <;> rfl
/-- What the reference reads of a glob. -/
def globP (g : List UInt8) : List Comp × Bool := ((compsP (partsL g)).1,(compsP (partsL g)).2 && (!decide (partsL g = []) && decide (g.length ≤ 200)))
theorem globP_ok (g : List UInt8) : globL g = if (globP g).2 then some (globP g).1 else none := by
 unfold globL globP
 by_cases hl : 200 < g.length
 ·have h1 : decide (g.length ≤ 200) = false := decide_eq_false (by omega)
  rw [if_pos hl,h1]; simp
 ·have h1 : decide (g.length ≤ 200) = true := decide_eq_true (by omega)
  rw [if_neg hl,h1]
  by_cases hg : g = []
  ·subst hg; rfl
  ·have e : partsL g = splitS g := by unfold partsL; rw [if_neg hg]
   have hne : ¬ splitS g = [] := splitS_ne g
   rw [e,compsP_ok,decide_eq_false hne]
   cases (compsP (splitS g)).2 <;> rfl
theorem globP_cases (g : List UInt8) : (∃ l,globL g = some l ∧ globP g = (l,true)) ∨ (globL g = none ∧ (globP g).2 = false) := by
 have h := globP_ok g
 cases h2 : (globP g).2 with
 | false => rw [h2] at h; exact .inr ⟨h,rfl⟩
 | true => rw [h2] at h; exact .inl ⟨_,h,by rw [← h2]⟩

def C_quiltref32_parse : PC := ⟨List UInt8,fun s => [.str s],fun s => s.length ≤ 1000000000,fun s => .tup [.agg (rCpA (parseP s).1),.bool (parseP s).2]⟩
def C_quiltref32_glob : PC := ⟨List UInt8,fun g => [.str g],fun g => g.length ≤ 1000000000,fun g => .tup [rCpsA (globP g).1,.bool (globP g).2]⟩
def C_quiltref32_component1 : PC := ⟨List El × List UInt8,fun x => [rElsA x.1,.str x.2],fun x => x.1.length ≤ 1000000 ∧ x.2.length ≤ 1000000000,fun x => .bool (gm El.isStar El.fit x.1 x.2)⟩
end Qk

/-
  Chapter 32: sets of places as rows of bools: closing, stepping.
-/
namespace Qk

def stB (l : List Bool) (j : Nat) : Prop := l.getD j false = true
theorem stB_lt {l : List Bool} {j : Nat} (h : stB l j) : j < l.length := by
 unfold stB at h
 by_cases hj : j < l.length
 ·exact hj
 ·simp [List.getD,hj] at h
theorem stB_set {l : List Bool} {k j : Nat} (hk : k < l.length) : stB (l.set k true) j ↔ j = k ∨ stB l j := by
 unfold stB
 by_cases h : j = k
 ·subst h; simp [List.getD,hk]
 ·simp [List.getD,List.getElem?_set_ne (Ne.symm h),h]
theorem stB_none {n j : Nat} : ¬ stB (List.replicate n false) j := by
 unfold stB
 by_cases h : j < n <;> simp [List.getD,h]

section
variable {ε : Type} {star : ε → Bool} {l : List ε}
def rchB (star : ε → Bool) (l : List ε) (i j : Nat) : Prop := i ≤ j ∧ ∀ k,i ≤ k → k < j → ∃ e,l[k]? = some e ∧ star e = true
theorem rchB_le {i j : Nat} (hi : i ≤ l.length) (h : rchB star l i j) : j ≤ l.length := by
 by_cases hj : j ≤ l.length
 ·exact hj
 ·obtain ⟨e,he,_⟩ := h.2 l.length hi (by omega)
  rw [List.getElem?_eq_none (Nat.le_refl _)] at he; cases he
end

section
variable {ε σ : Type} [Inhabited ε]
/-- Closing, up to a place. -/
def clB (star : ε → Bool) (l : List ε) (now : List Bool) : Nat → List Bool
 | 0 => now
 | k + 1 => if (clB star l now k).getD k false && star (l.getD k default) then (clB star l now k).set (k + 1) true else clB star l now k
/-- A step, up to a place. -/
def spB (star : ε → Bool) (fit : ε → σ → Bool) (l : List ε) (now : List Bool) (c : σ) : Nat → List Bool
 | 0 => List.replicate (l.length + 1) false
 | k + 1 => if now.getD k false && star (l.getD k default) then (spB star fit l now c k).set k true else
  if now.getD k false && fit (l.getD k default) c then (spB star fit l now c k).set (k + 1) true else spB star fit l now c k
def runB (star : ε → Bool) (fit : ε → σ → Bool) (l : List ε) : List Bool → List σ → List Bool
 | now,[] => clB star l now l.length
 | now,c :: s => runB star fit l (spB star fit l (clB star l now l.length) c l.length) s
variable {star : ε → Bool} {fit : ε → σ → Bool} {l : List ε} {now : List Bool}
theorem getD_at {k : Nat} (h : k < l.length) : l.getD k default = l[k]'h := by simp [List.getD,h]
theorem clB_len (k : Nat) : (clB star l now k).length = now.length := by
 induction k with
 | zero => rfl
 | succ k ih => rw [clB]; split <;> simp [ih]
theorem clB_iff (hn : now.length = l.length + 1) : ∀ (k : Nat),k ≤ l.length → ∀ j,stB (clB star l now k) j ↔ ∃ i,stB now i ∧ rchB star l i j ∧ (i = j ∨ j ≤ k)
 | 0,_,j => by
  constructor
  ·intro h; exact ⟨j,h,⟨Nat.le_refl _,fun k h1 h2 => absurd h1 (by omega)⟩,.inl rfl⟩
  ·rintro ⟨i,h,hr,(rfl | h0)⟩
   ·exact h
   ·have := hr.1
    have : i = j := by omega
    subst this; exact h
 | k + 1,hk,j => by
  have ih := clB_iff hn k (by omega)
  have hlt : k < l.length := by omega
  have hg := getD_at (l := l) hlt
  rw [clB]
  split
  ·rename_i hc
   rw [Bool.and_eq_true,hg] at hc
   rw [stB_set (by rw [clB_len]; omega),ih j]
   constructor
   ·rintro (rfl | ⟨i,h1,h2,h3⟩)
    ·obtain ⟨i,h1,h2,_⟩ := (ih k).1 hc.1
     refine ⟨i,h1,⟨by have := h2.1; omega,fun q h3 h4 => ?_⟩,.inr (Nat.le_refl _)⟩
     by_cases hq : q = k
     ·subst hq; exact ⟨_,List.getElem?_eq_getElem hlt,hc.2⟩
     ·exact h2.2 q h3 (by omega)
    ·exact ⟨i,h1,h2,h3.imp id (fun h => by omega)⟩
   ·rintro ⟨i,h1,h2,h3⟩
    by_cases hj : j = k + 1
    ·exact .inl hj
    ·exact .inr ⟨i,h1,h2,h3.imp id (fun h => by omega)⟩
  ·rename_i hc
   rw [ih j]
   constructor
   ·rintro ⟨i,h1,h2,h3⟩; exact ⟨i,h1,h2,h3.imp id (fun h => by omega)⟩
   ·rintro ⟨i,h1,h2,h3⟩
    refine ⟨i,h1,h2,?_⟩
    rcases h3 with h3 | h3
    ·exact .inl h3
    ·by_cases hj : j = k + 1
     ·subst hj
      by_cases hi : i = k + 1
      ·exact .inl hi
      ·exfalso
       apply hc
       obtain ⟨e,he,hs⟩ := h2.2 k (by have := h2.1; omega) (by omega)
       rw [List.getElem?_eq_getElem hlt] at he; cases he
       rw [Bool.and_eq_true,hg]
       exact ⟨(ih k).2 ⟨i,h1,⟨by have := h2.1; omega,fun q h4 h5 => h2.2 q h4 (by omega)⟩,.inr (Nat.le_refl _)⟩,hs⟩
     ·exact .inr (by omega)
/-- The closed row. -/
theorem clB_all (hn : now.length = l.length + 1) (j : Nat) : stB (clB star l now l.length) j ↔ ∃ i,stB now i ∧ rchB star l i j := by
 rw [clB_iff hn _ (Nat.le_refl _)]
 constructor
 ·rintro ⟨i,h1,h2,_⟩; exact ⟨i,h1,h2⟩
 ·rintro ⟨i,h1,h2⟩
  exact ⟨i,h1,h2,.inr (rchB_le (by have := stB_lt h1; omega) h2)⟩
theorem spB_len (c : σ) (k : Nat) : (spB star fit l now c k).length = l.length + 1 := by
 induction k with
 | zero => simp [spB]
 | succ k ih => rw [spB]; split; · simp [ih]
                split <;> simp [ih]
theorem spB_iff (c : σ) : ∀ (k : Nat),k ≤ l.length → ∀ j,stB (spB star fit l now c k) j ↔ ∃ i e,i < k ∧ stB now i ∧ l[i]? = some e ∧ ((star e = true ∧ j = i) ∨ (star e = false ∧ fit e c = true ∧ j = i + 1))
 | 0,_,j => by
  constructor
  ·intro h; exact absurd h stB_none
  ·rintro ⟨i,e,h,_⟩; omega
 | k + 1,hk,j => by
  have ih := spB_iff c k (by omega) j
  have hlt : k < l.length := by omega
  have hg := getD_at (l := l) hlt
  have hat : l[k]? = some (l[k]'hlt) := List.getElem?_eq_getElem hlt
  have wide : (∃ i e,i < k ∧ stB now i ∧ l[i]? = some e ∧ ((star e = true ∧ j = i) ∨ (star e = false ∧ fit e c = true ∧ j = i + 1))) →
    ∃ i e,i < k + 1 ∧ stB now i ∧ l[i]? = some e ∧ ((star e = true ∧ j = i) ∨ (star e = false ∧ fit e c = true ∧ j = i + 1)) := fun ⟨i,e,h1,h2⟩ => ⟨i,e,by omega,h2⟩
  rw [spB,hg]
  split
  ·rename_i hc
   rw [Bool.and_eq_true] at hc
   rw [stB_set (by rw [spB_len]; omega),ih]
   constructor
   ·rintro (rfl | h)
    ·exact ⟨j,_,by omega,hc.1,hat,.inl ⟨hc.2,rfl⟩⟩
    ·exact wide h
   ·rintro ⟨i,e,h1,h2,h3,h4⟩
    by_cases hik : i = k
    ·subst hik
     rw [hat] at h3; cases h3
     rcases h4 with ⟨_,h5⟩ | ⟨h5,_⟩
     ·exact .inl h5
     ·rw [hc.2] at h5; cases h5
    ·exact .inr ⟨i,e,by omega,h2,h3,h4⟩
  ·rename_i hc
   split
   ·rename_i hd
    rw [Bool.and_eq_true] at hd
    have hns : star (l[k]'hlt) = false := by
     cases hs : star (l[k]'hlt) with
     | false => rfl
     | true => exact absurd (by rw [Bool.and_eq_true]; exact ⟨hd.1,hs⟩) hc
    rw [stB_set (by rw [spB_len]; omega),ih]
    constructor
    ·rintro (rfl | h)
     ·exact ⟨k,_,by omega,hd.1,hat,.inr ⟨hns,hd.2,rfl⟩⟩
     ·exact wide h
    ·rintro ⟨i,e,h1,h2,h3,h4⟩
     by_cases hik : i = k
     ·subst hik
      rw [hat] at h3; cases h3
      rcases h4 with ⟨h5,_⟩ | ⟨_,_,h5⟩
      ·rw [hns] at h5; cases h5
      ·exact .inl h5
     ·exact .inr ⟨i,e,by omega,h2,h3,h4⟩
   ·rename_i hd
    rw [ih]
    constructor
    ·exact wide
    ·rintro ⟨i,e,h1,h2,h3,h4⟩
     by_cases hik : i = k
     ·subst hik
      rw [hat] at h3; cases h3
      rcases h4 with ⟨h5,_⟩ | ⟨_,h5,_⟩
      ·exact absurd (by rw [Bool.and_eq_true]; exact ⟨h2,h5⟩) hc
      ·exact absurd (by rw [Bool.and_eq_true]; exact ⟨h2,h5⟩) hd
     ·exact ⟨i,e,by omega,h2,h3,h4⟩
theorem spB_all (c : σ) (j : Nat) : stB (spB star fit l now c l.length) j ↔ ∃ i e,stB now i ∧ l[i]? = some e ∧ ((star e = true ∧ j = i) ∨ (star e = false ∧ fit e c = true ∧ j = i + 1)) := by
 rw [spB_iff c _ (Nat.le_refl _)]
 constructor
 ·rintro ⟨i,e,_,h⟩; exact ⟨i,e,h⟩
 ·rintro ⟨i,e,h⟩; exact ⟨i,e,(List.getElem?_eq_some_iff.1 h.2.1).1,h⟩
theorem runB_len : ∀ (s : List σ) (now : List Bool),now.length = l.length + 1 → (runB star fit l now s).length = l.length + 1
 | [],now,h => by rw [runB,clB_len,h]
 | c :: s,now,_ => by rw [runB]; exact runB_len s _ (spB_len _ _)
/-- What is reached at the end. -/
theorem runB_any : ∀ (s : List σ) (now : List Bool),now.length = l.length + 1 → (stB (runB star fit l now s) l.length ↔ anyAt star fit l (stB now) s)
 | s,now,hn => by
  have hcl := clB_all (star := star) (l := l) hn
  have h1 : anyAt star fit l (stB now) s ↔ anyAt star fit l (stB (clB star l now l.length)) s :=
   anyAt_close l _ _ s (fun i hi => (hcl i).2 ⟨i,hi,Nat.le_refl _,fun k h1 h2 => absurd h1 (by omega)⟩) (fun j hj => by
    obtain ⟨i,h1,h2⟩ := (hcl j).1 hj
    exact ⟨i,h1,h2.1,h2.2⟩)
  have hclosed : Closed star l (stB (clB star l now l.length)) := by
   intro i e hi he hs
   obtain ⟨q,h1,h2⟩ := (hcl i).1 hi
   refine (hcl (i + 1)).2 ⟨q,h1,by have := h2.1; omega,fun k h3 h4 => ?_⟩
   by_cases hk : k = i
   ·subst hk; exact ⟨e,he,hs⟩
   ·exact h2.2 k h3 (by omega)
  rw [h1]
  match s with
  | [] =>
   rw [runB,anyAt_endC l _ hclosed (fun i hi => by have := stB_lt hi; rw [clB_len] at this; omega)]
  | c :: s =>
   rw [runB,runB_any s _ (spB_len _ _)]
   exact (anyAt_closed (star := star) (fit := fit) l (stB (clB star l now l.length)) (stB (spB star fit l (clB star l now l.length) c l.length)) c s hclosed (fun j => spB_all (star := star) (fit := fit) c j)).symm
/-- The row at the beginning. -/
def startB (n : Nat) : List Bool := (List.replicate (n + 1) false).set 0 true
theorem startB_len (n : Nat) : (startB n).length = n + 1 := by simp [startB]
theorem startB_iff (n j : Nat) : stB (startB n) j ↔ j = 0 := by
 unfold startB
 rw [stB_set (by simp)]
 constructor
 ·rintro (h | h)
  ·exact h
  ·exact absurd h stB_none
 ·exact .inl
theorem runB_gm (s : List σ) : (runB star fit l (startB l.length) s).getD l.length false = gm star fit l s := by
 have h := runB_any (star := star) (fit := fit) (l := l) s _ (startB_len _)
 have e : stB (startB l.length) = fun i => i = 0 := by funext j; exact propext (startB_iff _ _)
 rw [e,anyAt_start] at h
 unfold stB at h
 cases h2 : gm star fit l s with
 | true => exact h.2 h2
 | false =>
  cases h3 : (runB star fit l (startB l.length) s).getD l.length false with
  | false => rfl
  | true => rw [h.1 h3] at h2; cases h2
end

end Qk

/-
  Chapter 32: what the functions of the reference give.
-/
namespace Qk
open Go Go.RowKit

/-- Where one is among the patterns behind the components of a path. -/
def afterB (l : List Comp) (ps : List (List UInt8)) : List Bool := runB Comp.any Comp.fit l (startB l.length) ps
def F_quiltref32_after : FC := ⟨List Comp × List (List UInt8),fun x => [rCpsA x.1,.ilist 1 x.2.length (strs x.2)],fun x => x.1.length ≤ 1000000 ∧ x.2.length ≤ 2000000000 ∧ (∀ c ∈ x.1,c.els.length ≤ 1000000) ∧ ∀ s ∈ x.2,s.length ≤ 1000000000,1,fun x => x.1.length + 1,fun x => boos (afterB x.1 x.2)⟩

end Qk

/-
  Chapter 32: the forms of the reference (printed by a program).
-/
namespace Qk
open Go Go.RowKit

/-- quilt/quiltref32.Split -/
def irq_Split : IF := ⟨(.seq (.ops [⟨some 2,none,.mov (.const (.slice none 0 0))⟩])
 (.seq (.ops [⟨some 6,none,.bslice 1 [.str []] 0 []⟩,⟨some 3,none,.mov (t 6)⟩])
 (.seq (.seq (.ops [⟨some 7,none,.mov (t 0)⟩,⟨some 8,none,.bin .eql (t 7) (.const (.string ⟨#[]⟩))⟩])
 (.cond (t 8) (.seq (.ops [⟨some 9,none,.mov (t 3)⟩,⟨some 2,none,.mov (t 9)⟩])
 .ret)
 .skip))
 (.seq (.ops [⟨some 4,none,.mov (ci 0)⟩])
 (.seq (.seq (.ops [⟨some 5,none,.mov (ci 0)⟩])
 (.block 0 (.loop (.seq (.seq (.ops [⟨some 10,none,.mov (t 5)⟩,⟨some 11,none,.mov (t 0)⟩,⟨some 12,none,.lenS (t 11)⟩,
  ⟨some 13,none,.bin .leq (t 10) (t 12)⟩])
 (.cond (t 13) .skip
 (.exit 0)))
 (.seq (.block 1 (.jn (.seq (.ops [⟨some 16,none,.mov (t 5)⟩,⟨some 17,none,.mov (t 0)⟩,⟨some 18,none,.lenS (t 17)⟩,⟨some 19,none,.bin .eql (t 16) (t 18)⟩,⟨some 20,none,.mov (t 19)⟩,⟨some 21,some (20,false),.mov (t 0)⟩,
  ⟨some 22,some (20,false),.mov (t 5)⟩,⟨some 23,some (20,false),.idxS (t 21) (t 22)⟩,⟨some 24,some (20,false),.bin .eql (t 23) (.const (.int .u8 47))⟩,⟨some 25,none,.pick (t 20) (.const (.bool true)) (t 24)⟩])
 (.cond (t 25) (.seq (.ops [⟨some 26,none,.mov (t 3)⟩,⟨some 27,none,.mov (t 0)⟩,⟨some 28,none,.mov (t 4)⟩,
  ⟨some 29,none,.mov (t 5)⟩,⟨some 30,none,.slS (t 27) (some (t 28)) (some (t 29))⟩,⟨some 31,none,.bslice 1 [.str []] 1 [(0,1,(t 30))]⟩,⟨some 32,none,.app 1 16 (t 26) (t 31)⟩,⟨some 3,none,.mov (t 32)⟩])
 (.ops [⟨some 33,none,.mov (t 5)⟩,⟨some 34,none,.bin .add (t 33) (ci 1)⟩,
  ⟨some 4,none,.mov (t 34)⟩]))
 .skip))))
 (.ops [⟨some 14,none,.mov (t 5)⟩,⟨some 15,none,.bin .add (t 14) (ci 1)⟩,⟨some 5,none,.mov (t 15)⟩]))))))
 (.seq (.ops [⟨some 35,none,.mov (t 3)⟩,⟨some 2,none,.mov (t 35)⟩])
 .ret)))))),[.tmp 2]⟩
/-- quilt/quiltref32.one -/
def irq_one : IF := ⟨(.seq (.ops [⟨some 2,none,.mov (.const (.int .u8 0))⟩,⟨some 3,none,.mov (ci 0)⟩])
 (.seq (.seq (.ops [⟨some 4,none,.mov (t 0)⟩,⟨some 5,none,.bin .eql (t 4) (.const (.string ⟨#[]⟩))⟩])
 (.cond (t 5) (.seq (.ops [⟨some 2,none,.mov (.const (.int .u8 0))⟩,⟨some 3,none,.mov (ci 0)⟩])
 .ret)
 .skip))
 (.seq (.seq (.ops [⟨some 6,none,.mov (t 0)⟩,⟨some 7,none,.idxS (t 6) (ci 0)⟩,⟨some 8,none,.bin .neq (t 7) (.const (.int .u8 92))⟩])
 (.cond (t 8) (.seq (.ops [⟨some 9,none,.mov (t 0)⟩,
  ⟨some 10,none,.idxS (t 9) (ci 0)⟩,⟨some 2,none,.mov (t 10)⟩,⟨some 3,none,.mov (ci 1)⟩])
 .ret)
 .skip))
 (.seq (.seq (.ops [⟨some 11,none,.mov (t 0)⟩,⟨some 12,none,.lenS (t 11)⟩,⟨some 13,none,.bin .lss (t 12) (ci 2)⟩])
 (.cond (t 13) (.seq (.ops [⟨some 2,none,.mov (.const (.int .u8 0))⟩,⟨some 3,none,.mov (ci 0)⟩])
 .ret)
 .skip))
 (.seq (.ops [⟨some 14,none,.mov (t 0)⟩,
  ⟨some 15,none,.idxS (t 14) (ci 1)⟩,⟨some 2,none,.mov (t 15)⟩,⟨some 3,none,.mov (ci 2)⟩])
 .ret))))),[.tmp 2,.tmp 3]⟩


/-- quilt/quiltref32.class -/
def irq_class : IF := ⟨(.seq (.ops [⟨some 2,none,.alloc (repl 258 [.bool false])⟩,⟨some 3,none,.mov (ci 0)⟩])
 (.seq (.ops [⟨some 16,none,.build 258 (repl 258 [.bool false]) []⟩,⟨some 4,none,.alloc (repl 258 [.bool false])⟩,⟨none,none,.storN 258 (t 4) (t 16)⟩])
 (.seq (.ops [⟨some 5,none,.mov (ci 1)⟩])
 (.seq (.jn (.ops [⟨some 17,none,.mov (t 5)⟩,⟨some 18,none,.mov (t 0)⟩,⟨some 19,none,.lenS (t 18)⟩,
  ⟨some 20,none,.bin .lss (t 17) (t 19)⟩,⟨some 21,none,.mov (t 20)⟩,⟨some 22,some (21,true),.mov (t 0)⟩,⟨some 23,some (21,true),.mov (t 5)⟩,⟨some 24,some (21,true),.idxS (t 22) (t 23)⟩,⟨some 25,some (21,true),.bin .eql (t 24) (.const (.int .u8 33))⟩,
  ⟨some 26,none,.pick (t 21) (t 25) (.const (.bool false))⟩,⟨some 6,none,.mov (t 26)⟩]))
 (.seq (.seq (.ops [⟨some 27,none,.mov (t 6)⟩])
 (.jn (.cond (t 27) (.ops [⟨some 28,none,.mov (t 5)⟩,⟨some 29,none,.bin .add (t 28) (ci 1)⟩,⟨some 5,none,.mov (t 29)⟩])
 .skip)))
 (.seq (.ops [⟨some 7,none,.mov (ci 0)⟩])
 (.seq (.block 0 (.loop (.seq (.seq (.ops [⟨some 30,none,.mov (t 5)⟩,⟨some 31,none,.mov (t 0)⟩,⟨some 32,none,.lenS (t 31)⟩,
  ⟨some 33,none,.bin .lss (t 30) (t 32)⟩,⟨some 34,none,.mov (t 33)⟩,⟨some 35,some (34,true),.mov (t 0)⟩,⟨some 36,some (34,true),.mov (t 5)⟩,⟨some 37,some (34,true),.idxS (t 35) (t 36)⟩,⟨some 38,some (34,true),.bin .neq (t 37) (.const (.int .u8 93))⟩,
  ⟨some 39,none,.pick (t 34) (t 38) (.const (.bool false))⟩])
 (.cond (t 39) .skip
 (.exit 0)))
 (.block 1 (.seq (.ops [⟨some 41,none,.mov (t 0)⟩,⟨some 42,none,.mov (t 5)⟩,⟨some 43,none,.slS (t 41) (some (t 42)) none⟩,⟨some 44,none,.pcall C_quiltref32_one [(t 43)]⟩,⟨some 40,none,.mov (t 44)⟩,⟨some 45,none,.extr (t 40) 0⟩,
  ⟨some 46,none,.extr (t 40) 1⟩,⟨some 8,none,.mov (t 45)⟩,⟨some 9,none,.mov (t 46)⟩])
 (.seq (.seq (.ops [⟨some 47,none,.mov (t 9)⟩,⟨some 48,none,.bin .eql (t 47) (ci 0)⟩])
 (.cond (t 48) (.seq (.ops [⟨some 49,none,.loadN 258 (t 4)⟩,⟨none,none,.storN 258 (t 2) (t 49)⟩,⟨some 3,none,.mov (ci 0)⟩])
 .ret)
 .skip))
 (.seq (.ops [⟨some 50,none,.mov (t 5)⟩,
  ⟨some 51,none,.mov (t 9)⟩,⟨some 52,none,.bin .add (t 50) (t 51)⟩,⟨some 5,none,.mov (t 52)⟩])
 (.seq (.ops [⟨some 53,none,.mov (t 8)⟩,⟨some 10,none,.mov (t 53)⟩])
 (.seq (.jn (.seq (.ops [⟨some 54,none,.mov (t 5)⟩,⟨some 55,none,.bin .add (t 54) (ci 1)⟩,⟨some 56,none,.mov (t 0)⟩,
  ⟨some 57,none,.lenS (t 56)⟩,⟨some 58,none,.bin .lss (t 55) (t 57)⟩,⟨some 59,none,.mov (t 58)⟩,⟨some 60,some (59,true),.mov (t 0)⟩,⟨some 61,some (59,true),.mov (t 5)⟩,⟨some 62,some (59,true),.idxS (t 60) (t 61)⟩,
  ⟨some 63,some (59,true),.bin .eql (t 62) (.const (.int .u8 45))⟩,⟨some 64,none,.pick (t 59) (t 63) (.const (.bool false))⟩,⟨some 65,none,.mov (t 64)⟩,⟨some 66,some (65,true),.mov (t 0)⟩,⟨some 67,some (65,true),.mov (t 5)⟩,⟨some 68,some (65,true),.bin .add (t 67) (ci 1)⟩,
  ⟨some 69,some (65,true),.idxS (t 66) (t 68)⟩,⟨some 70,some (65,true),.bin .neq (t 69) (.const (.int .u8 93))⟩,⟨some 71,none,.pick (t 65) (t 70) (.const (.bool false))⟩])
 (.cond (t 71) (.seq (.ops [⟨some 73,none,.mov (t 0)⟩,⟨some 74,none,.mov (t 5)⟩,⟨some 75,none,.bin .add (t 74) (ci 1)⟩,⟨some 76,none,.slS (t 73) (some (t 75)) none⟩,
  ⟨some 77,none,.pcall C_quiltref32_one [(t 76)]⟩,⟨some 72,none,.mov (t 77)⟩,⟨some 78,none,.extr (t 72) 0⟩,⟨some 79,none,.extr (t 72) 1⟩,⟨some 11,none,.mov (t 78)⟩,⟨some 12,none,.mov (t 79)⟩])
 (.seq (.seq (.ops [⟨some 80,none,.mov (t 12)⟩,
  ⟨some 81,none,.bin .eql (t 80) (ci 0)⟩,⟨some 82,none,.mov (t 81)⟩,⟨some 83,some (82,false),.mov (t 11)⟩,⟨some 84,some (82,false),.mov (t 8)⟩,⟨some 85,some (82,false),.bin .lss (t 83) (t 84)⟩,⟨some 86,none,.pick (t 82) (.const (.bool true)) (t 85)⟩])
 (.cond (t 86) (.seq (.ops [⟨some 87,none,.loadN 258 (t 4)⟩,
  ⟨none,none,.storN 258 (t 2) (t 87)⟩,⟨some 3,none,.mov (ci 0)⟩])
 .ret)
 .skip))
 (.seq (.ops [⟨some 88,none,.mov (t 11)⟩,⟨some 10,none,.mov (t 88)⟩])
 (.ops [⟨some 89,none,.mov (t 5)⟩,⟨some 90,none,.bin .add (t 89) (ci 1)⟩,⟨some 91,none,.mov (t 12)⟩,⟨some 92,none,.bin .add (t 90) (t 91)⟩,
  ⟨some 5,none,.mov (t 92)⟩]))))
 .skip)))
 (.seq (.seq (.ops [⟨some 93,none,.mov (t 8)⟩,⟨some 94,none,.conv .i64 (t 93)⟩,⟨some 13,none,.mov (t 94)⟩])
 (.block 2 (.loop (.seq (.seq (.ops [⟨some 95,none,.mov (t 13)⟩,⟨some 96,none,.mov (t 10)⟩,⟨some 97,none,.conv .i64 (t 96)⟩,⟨some 98,none,.bin .leq (t 95) (t 97)⟩])
 (.cond (t 98) .skip
 (.exit 2)))
 (.seq (.block 3 (.ops [⟨some 101,none,.mov (t 13)⟩,
  ⟨some 102,none,.fldA 2 (t 4)⟩,⟨some 103,none,.idxA 1 256 (t 102) (t 101)⟩,⟨none,none,.stor1 (t 103) (.const (.bool true))⟩]))
 (.ops [⟨some 99,none,.mov (t 13)⟩,⟨some 100,none,.bin .add (t 99) (ci 1)⟩,⟨some 13,none,.mov (t 100)⟩]))))))
 (.ops [⟨some 104,none,.mov (t 7)⟩,⟨some 105,none,.bin .add (t 104) (ci 1)⟩,
  ⟨some 7,none,.mov (t 105)⟩])))))))))))
 (.seq (.seq (.ops [⟨some 106,none,.mov (t 5)⟩,⟨some 107,none,.mov (t 0)⟩,⟨some 108,none,.lenS (t 107)⟩,⟨some 109,none,.bin .geq (t 106) (t 108)⟩,⟨some 110,none,.mov (t 109)⟩,⟨some 111,some (110,false),.mov (t 7)⟩,
  ⟨some 112,some (110,false),.bin .eql (t 111) (ci 0)⟩,⟨some 113,none,.pick (t 110) (.const (.bool true)) (t 112)⟩])
 (.cond (t 113) (.seq (.ops [⟨some 114,none,.loadN 258 (t 4)⟩,⟨none,none,.storN 258 (t 2) (t 114)⟩,⟨some 3,none,.mov (ci 0)⟩])
 .ret)
 .skip))
 (.seq (.ops [⟨some 14,none,.mov (.const (.bool false))⟩])
 (.seq (.seq (.ops [⟨some 15,none,.mov (ci 0)⟩])
 (.block 4 (.loop (.seq (.seq (.ops [⟨some 115,none,.mov (t 15)⟩,⟨some 116,none,.bin .lss (t 115) (ci 256)⟩])
 (.cond (t 116) .skip
 (.exit 4)))
 (.seq (.block 5 (.seq (.ops [⟨some 119,none,.mov (t 15)⟩,⟨some 120,none,.mov (t 15)⟩,
  ⟨some 121,none,.fldA 2 (t 4)⟩,⟨some 122,none,.idxA 1 256 (t 121) (t 120)⟩,⟨some 123,none,.load1 (t 122)⟩,⟨some 124,none,.mov (t 6)⟩,⟨some 125,none,.beq true (t 123) (t 124)⟩,⟨some 126,none,.mov (t 125)⟩,
  ⟨some 127,some (126,true),.mov (t 15)⟩,⟨some 128,some (126,true),.bin .neq (t 127) (ci 47)⟩,⟨some 129,none,.pick (t 126) (t 128) (.const (.bool false))⟩,⟨some 130,none,.fldA 2 (t 4)⟩,⟨some 131,none,.idxA 1 256 (t 130) (t 119)⟩,⟨none,none,.stor1 (t 131) (t 129)⟩])
 (.ops [⟨some 132,none,.mov (t 14)⟩,
  ⟨some 133,none,.mov (t 132)⟩,⟨some 134,some (133,false),.mov (t 15)⟩,⟨some 135,some (133,false),.fldA 2 (t 4)⟩,⟨some 136,some (133,false),.idxA 1 256 (t 135) (t 134)⟩,⟨some 137,some (133,false),.load1 (t 136)⟩,⟨some 138,none,.pick (t 133) (.const (.bool true)) (t 137)⟩,
  ⟨some 14,none,.mov (t 138)⟩])))
 (.ops [⟨some 117,none,.mov (t 15)⟩,⟨some 118,none,.bin .add (t 117) (ci 1)⟩,⟨some 15,none,.mov (t 118)⟩]))))))
 (.seq (.seq (.ops [⟨some 139,none,.mov (t 14)⟩,⟨some 140,none,.not (t 139)⟩])
 (.cond (t 140) (.seq (.ops [⟨some 141,none,.loadN 258 (t 4)⟩,⟨none,none,.storN 258 (t 2) (t 141)⟩,⟨some 3,none,.mov (ci 0)⟩])
 .ret)
 .skip))
 (.seq (.ops [⟨some 142,none,.loadN 258 (t 4)⟩,
  ⟨some 143,none,.mov (t 5)⟩,⟨some 144,none,.bin .add (t 143) (ci 1)⟩,⟨none,none,.storN 258 (t 2) (t 142)⟩,⟨some 3,none,.mov (t 144)⟩])
 .ret)))))))))))),[.cell 2 true 258,.tmp 3]⟩
def H_quiltref32_class : HTran := inl 1 irq_class.code irq_class.res
/-- quilt/quiltref32.parse -/
def irq_parse : IF := ⟨(.seq (.ops [⟨some 2,none,.alloc [.bool false,.raw (.slice none 0 0)]⟩,⟨some 3,none,.mov (.const (.bool false))⟩])
 (.seq (.jn (.ops [⟨some 11,none,.build 2 [.bool false,.raw (.slice none 0 0)] []⟩,⟨some 4,none,.alloc [.bool false,.raw (.slice none 0 0)]⟩,⟨none,none,.storN 2 (t 4) (t 11)⟩]))
 (.seq (.seq (.ops [⟨some 12,none,.mov (t 0)⟩,⟨some 13,none,.bin .eql (t 12) (.const (.string ⟨#[42,42]⟩))⟩])
 (.cond (t 13) (.seq (.ops [⟨some 14,none,.fldA 0 (t 4)⟩,⟨none,none,.stor1 (t 14) (.const (.bool true))⟩])
 (.seq (.ops [⟨some 15,none,.loadN 2 (t 4)⟩,
  ⟨none,none,.storN 2 (t 2) (t 15)⟩,⟨some 3,none,.mov (.const (.bool true))⟩])
 .ret))
 .skip))
 (.seq (.seq (.ops [⟨some 5,none,.mov (ci 0)⟩])
 (.block 0 (.loop (.seq (.seq (.ops [⟨some 16,none,.mov (t 5)⟩,⟨some 17,none,.mov (t 0)⟩,⟨some 18,none,.lenS (t 17)⟩,⟨some 19,none,.bin .lss (t 16) (t 18)⟩])
 (.cond (t 19) .skip
 (.exit 0)))
 (.block 1 (.seq (.jn (.ops [⟨some 20,none,.build 258 (repl 258 [.bool false]) []⟩,⟨some 6,none,.alloc (repl 258 [.bool false])⟩,
  ⟨none,none,.storN 258 (t 6) (t 20)⟩]))
 (.seq (.ops [⟨some 7,none,.mov (ci 1)⟩])
 (.seq (.seq (.ops [⟨some 21,none,.mov (t 0)⟩,⟨some 22,none,.mov (t 5)⟩,⟨some 23,none,.idxS (t 21) (t 22)⟩])
 (.block 2 (.seq (.ops [⟨some 37,none,.bin .eql (t 23) (.const (.int .u8 42))⟩,⟨some 36,none,.mov (t 37)⟩])
 (.jn (.cond (t 36) (.ops [⟨some 38,none,.fldA 0 (t 6)⟩,⟨none,none,.stor1 (t 38) (.const (.bool true))⟩])
 (.seq (.ops [⟨some 40,none,.bin .eql (t 23) (.const (.int .u8 63))⟩,⟨some 39,none,.mov (t 40)⟩])
 (.jn (.cond (t 39) (.seq (.ops [⟨some 8,none,.mov (ci 0)⟩])
 (.block 3 (.loop (.seq (.seq (.ops [⟨some 41,none,.mov (t 8)⟩,
  ⟨some 42,none,.bin .lss (t 41) (ci 256)⟩])
 (.cond (t 42) .skip
 (.exit 3)))
 (.seq (.block 4 (.ops [⟨some 45,none,.mov (t 8)⟩,⟨some 46,none,.mov (t 8)⟩,⟨some 47,none,.bin .neq (t 46) (ci 47)⟩,⟨some 48,none,.fldA 2 (t 6)⟩,⟨some 49,none,.idxA 1 256 (t 48) (t 45)⟩,⟨none,none,.stor1 (t 49) (t 47)⟩]))
 (.ops [⟨some 43,none,.mov (t 8)⟩,
  ⟨some 44,none,.bin .add (t 43) (ci 1)⟩,⟨some 8,none,.mov (t 44)⟩]))))))
 (.seq (.ops [⟨some 51,none,.bin .eql (t 23) (.const (.int .u8 91))⟩,⟨some 50,none,.mov (t 51)⟩])
 (.jn (.cond (t 50) (.sops [.op ⟨some 53,none,.mov (t 0)⟩,
  .op ⟨some 54,none,.mov (t 5)⟩,
  .op ⟨some 55,none,.slS (t 53) (some (t 54)) none⟩,
  .call none (some 56) H_quiltref32_class [(t 55)],
  .op ⟨some 52,none,.mov (t 56)⟩,
  .op ⟨some 57,none,.extr (t 52) 0⟩,
  .op ⟨some 58,none,.extr (t 52) 1⟩,
  .op ⟨none,none,.storN 258 (t 6) (t 57)⟩,
  .op ⟨some 7,none,.mov (t 58)⟩])
 (.seq (.ops [⟨some 25,none,.mov (t 0)⟩,⟨some 26,none,.mov (t 5)⟩,⟨some 27,none,.slS (t 25) (some (t 26)) none⟩,⟨some 28,none,.pcall C_quiltref32_one [(t 27)]⟩,
  ⟨some 24,none,.mov (t 28)⟩,⟨some 29,none,.extr (t 24) 0⟩,⟨some 30,none,.extr (t 24) 1⟩,⟨some 9,none,.mov (t 29)⟩,⟨some 10,none,.mov (t 30)⟩])
 (.seq (.ops [⟨some 31,none,.mov (t 10)⟩,⟨some 7,none,.mov (t 31)⟩])
 (.seq (.ops [⟨some 32,none,.fldA 1 (t 6)⟩,
  ⟨none,none,.stor1 (t 32) (.const (.bool true))⟩])
 (.ops [⟨some 33,none,.mov (t 9)⟩,⟨some 34,none,.fldA 2 (t 6)⟩,⟨some 35,none,.idxA 1 256 (t 34) (t 33)⟩,⟨none,none,.stor1 (t 35) (.const (.bool true))⟩])))))))))))))))
 (.seq (.seq (.ops [⟨some 59,none,.mov (t 7)⟩,⟨some 60,none,.bin .eql (t 59) (ci 0)⟩])
 (.cond (t 60) (.seq (.ops [⟨some 61,none,.loadN 2 (t 4)⟩,⟨none,none,.storN 2 (t 2) (t 61)⟩,
  ⟨some 3,none,.mov (.const (.bool false))⟩])
 .ret)
 .skip))
 (.seq (.ops [⟨some 62,none,.fldA 1 (t 4)⟩,⟨some 63,none,.load1 (t 62)⟩,⟨some 64,none,.loadN 258 (t 6)⟩,⟨some 65,none,.bslice 258 (repl 258 [.bool false]) 1 [(0,258,(t 64))]⟩,⟨some 66,none,.app 258 258 (t 63) (t 65)⟩,⟨some 67,none,.fldA 1 (t 4)⟩,
  ⟨none,none,.stor1 (t 67) (t 66)⟩])
 (.ops [⟨some 68,none,.mov (t 5)⟩,⟨some 69,none,.mov (t 7)⟩,⟨some 70,none,.bin .add (t 68) (t 69)⟩,⟨some 5,none,.mov (t 70)⟩])))))))))))
 (.seq (.ops [⟨some 71,none,.loadN 2 (t 4)⟩,⟨some 72,none,.mov (t 0)⟩,⟨some 73,none,.lenS (t 72)⟩,
  ⟨some 74,none,.bin .gtr (t 73) (ci 0)⟩,⟨none,none,.storN 2 (t 2) (t 71)⟩,⟨some 3,none,.mov (t 74)⟩])
 .ret))))),[.cell 2 true 2,.tmp 3]⟩
/-- quilt/quiltref32.glob -/
def irq_glob : IF := ⟨(.seq (.ops [⟨some 2,none,.mov (.const (.slice none 0 0))⟩,⟨some 3,none,.mov (.const (.bool false))⟩])
 (.seq (.ops [⟨some 9,none,.bslice 2 [.bool false,.raw (.slice none 0 0)] 0 []⟩,⟨some 4,none,.mov (t 9)⟩])
 (.seq (.ops [⟨some 10,none,.mov (t 0)⟩,⟨some 11,none,.pcallF F_quiltref32_Split [(t 10)]⟩,⟨some 5,none,.mov (t 11)⟩])
 (.seq (.seq (.ops [⟨some 6,none,.mov (ci 0)⟩])
 (.block 0 (.loop (.seq (.seq (.ops [⟨some 12,none,.mov (t 6)⟩,⟨some 13,none,.mov (t 5)⟩,
  ⟨some 14,none,.lenL (t 13)⟩,⟨some 15,none,.bin .lss (t 12) (t 14)⟩])
 (.cond (t 15) .skip
 (.exit 0)))
 (.seq (.block 1 (.seq (.ops [⟨some 19,none,.mov (t 5)⟩,⟨some 20,none,.mov (t 6)⟩,⟨some 21,none,.idxL 1 (t 19) (t 20)⟩,⟨some 22,none,.load1 (t 21)⟩,⟨some 23,none,.pcall C_quiltref32_parse [(t 22)]⟩,
  ⟨some 18,none,.mov (t 23)⟩,⟨some 24,none,.extr (t 18) 0⟩,⟨some 25,none,.extr (t 18) 1⟩,⟨some 7,none,.alloc [.bool false,.raw (.slice none 0 0)]⟩,⟨none,none,.storN 2 (t 7) (t 24)⟩,⟨some 8,none,.mov (t 25)⟩])
 (.seq (.seq (.ops [⟨some 26,none,.mov (t 8)⟩,
  ⟨some 27,none,.not (t 26)⟩])
 (.cond (t 27) (.seq (.ops [⟨some 28,none,.mov (t 4)⟩,⟨some 2,none,.mov (t 28)⟩,⟨some 3,none,.mov (.const (.bool false))⟩])
 .ret)
 .skip))
 (.ops [⟨some 29,none,.mov (t 4)⟩,⟨some 30,none,.loadN 2 (t 7)⟩,⟨some 31,none,.bslice 2 [.bool false,.raw (.slice none 0 0)] 1 [(0,2,(t 30))]⟩,⟨some 32,none,.app 2 32 (t 29) (t 31)⟩,
  ⟨some 4,none,.mov (t 32)⟩]))))
 (.ops [⟨some 16,none,.mov (t 6)⟩,⟨some 17,none,.bin .add (t 16) (ci 1)⟩,⟨some 6,none,.mov (t 17)⟩]))))))
 (.seq (.ops [⟨some 33,none,.mov (t 4)⟩,⟨some 34,none,.mov (t 5)⟩,⟨some 35,none,.lenL (t 34)⟩,⟨some 36,none,.bin .gtr (t 35) (ci 0)⟩,
  ⟨some 37,none,.mov (t 36)⟩,⟨some 38,some (37,true),.mov (t 0)⟩,⟨some 39,some (37,true),.lenS (t 38)⟩,⟨some 40,some (37,true),.bin .leq (t 39) (ci 200)⟩,⟨some 41,none,.pick (t 37) (t 40) (.const (.bool false))⟩,⟨some 2,none,.mov (t 33)⟩,
  ⟨some 3,none,.mov (t 41)⟩])
 .ret))))),[.tmp 2,.tmp 3]⟩

end Qk

/-
  Chapter 32: the reference: splitting, a byte.
-/
namespace Qk
open Go Go.RowKit

theorem allOne1 {a : AV} (h : a.isOne = true) : AllOne [a] := by
 intro x hx
 rw [List.mem_singleton.1 hx]; exact h
theorem strs_app (a b : List (List UInt8)) : strs (a ++ b) = strs a ++ strs b := by simp [strs]

set_option maxHeartbeats 1000000 in
theorem d_ref_Split : DoesF irq_Split F_quiltref32_Split := by
 intro (s : List UInt8) hs
 replace hs : s.length ≤ 1000000000 := hs
 refine cond_split (fun h => ?_) (fun h => ?_)
 ·have he : s = [] := of_decide_eq_true h
  refine ⟨_,(by first | exact SubSt.refl _ | exact SubTop.refl _),?_⟩
  have e : partsL s = [] := by rw [partsL,if_pos he]
  refine ⟨0,false,?_,?_,plain_strs _⟩
  ·show AV.sl 0 0 0 = AV.sl 0 0 (partsL s).length
   rw [e]; rfl
  ·show some (AO.ls false 1 []) = some (AO.ls false 1 (strs (partsL s)))
   rw [e]; rfl
 ·have hne : ¬ s = [] := of_decide_eq_false h
  have e : partsL s = splitS s := by rw [partsL,if_neg hne]
  refine ⟨Nat × Nat × List (List UInt8),fun x => x.1 ≤ s.length + 1 ∧ x.2.2.length ≤ x.1 ∧ ((x.1 ≤ s.length ∧ x.2.1 ≤ x.1 ∧ NoSl ((s.drop x.2.1).take (x.1 - x.2.1)) ∧ splitS s = x.2.2 ++ splitS (s.drop x.2.1)) ∨ (x.1 = s.length + 1 ∧ x.2.2 = splitS s)),
   fun x => mks [(0,.str s),(3,.sl 0 0 x.2.2.length),(4,.int .i64 x.2.1),(5,.int .i64 x.1)] [(0,.ls false 1 (strs x.2.2))] 1,fun x => s.length + 1 - x.1,(0,0,[]),⟨Nat.zero_le _,Nat.le_refl _,.inl ⟨Nat.zero_le _,Nat.le_refl _,(fun c hc => by simp at hc),rfl⟩⟩,?_,?_⟩
  ·refine sub_ren [0] rfl (by decide) ⟨⟨_,rfl,rfl⟩,⟨_,rfl,⟨0,rfl,rfl⟩⟩,⟨_,rfl,rfl⟩,⟨_,rfl,rfl⟩,trivial⟩ ⟨⟨0,_,rfl,rfl,?_⟩,trivial⟩
   exact ⟨_,rfl,eN nnl_nil rfl⟩
  ·rintro ⟨i,fr,done⟩ ⟨hi,hdl,hinv⟩
   dsimp only at hi hdl hinv
   show awp _ _ _ (mks [(0,.str s),(3,.sl 0 0 done.length),(4,.int .i64 fr),(5,.int .i64 i)] [(0,.ls false 1 (strs done))] 1)
   refine cond_split (fun h => ?_) (fun h => ?_)
   ·have hT : (i : Int) ≤ s.length := of_decide_eq_true h
    have hle : i ≤ s.length := by omega
    rcases hinv with ⟨_,hfr,hno,hsp⟩ | ⟨hbad,_⟩
    case inr => omega
    have e0 : (i : Int).toNat = i := by omega
    have e1 : (fr : Int).toNat = fr := by omega
    obtain ⟨piece,hp⟩ : ∃ piece,piece = (s.drop fr).take (i - fr) := ⟨_,rfl⟩
    rw [← hp] at hno
    have app : ∀ (x' : Nat × List (List UInt8)),x' = (i + 1,done ++ [piece]) → ((i + 1 ≤ s.length ∧ x'.1 ≤ i + 1 ∧ NoSl ((s.drop x'.1).take (i + 1 - x'.1)) ∧ splitS s = x'.2 ++ splitS (s.drop x'.1)) ∨ (i + 1 = s.length + 1 ∧ x'.2 = splitS s)) →
      (fun x' : Nat × List (List UInt8) => x'.2.length ≤ i + 1 ∧ ((i + 1 ≤ s.length ∧ x'.1 ≤ i + 1 ∧ NoSl ((s.drop x'.1).take (i + 1 - x'.1)) ∧ splitS s = x'.2 ++ splitS (s.drop x'.1)) ∨ (i + 1 = s.length + 1 ∧ x'.2 = splitS s))) x' := by
     rintro x' rfl h
     exact ⟨by simp; omega,h⟩
    have main : ∀ K : (Nat × List (List UInt8)) → Prop,(∀ x' : Nat × List (List UInt8),(x'.2.length ≤ i + 1 ∧ ((i + 1 ≤ s.length ∧ x'.1 ≤ i + 1 ∧ NoSl ((s.drop x'.1).take (i + 1 - x'.1)) ∧ splitS s = x'.2 ++ splitS (s.drop x'.1)) ∨ (i + 1 = s.length + 1 ∧ x'.2 = splitS s))) → K x') →
      (i = s.length → K (i + 1,done ++ [piece])) ∧ (i < s.length → s.getD i 0 = 47 → K (i + 1,done ++ [piece])) ∧ (i < s.length → ¬ s.getD i 0 = 47 → K (fr,done)) := by
     intro K hK
     refine ⟨fun h => hK _ (app _ rfl (.inr ⟨by omega,?_⟩)),fun h h47 => hK _ (app _ rfl (.inl ⟨by omega,Nat.le_refl _,(fun c hc => by rw [Nat.sub_self] at hc; simp at hc),?_⟩)),fun h h47 => hK _ ⟨by show done.length ≤ _; omega,.inl ⟨by omega,by show fr ≤ _; omega,?_,hsp⟩⟩⟩
     ·show done ++ [piece] = splitS s
      have e2 : piece = s.drop fr := by rw [hp,List.take_of_length_le (by rw [List.length_drop]; omega)]
      rw [hsp,← e2,split_one _ hno]
     ·show splitS s = (done ++ [piece]) ++ splitS (s.drop (i + 1))
      have e2 : s.drop fr = piece ++ 47 :: s.drop (i + 1) := by
       have h3 : (s.drop fr).drop (i - fr) = 47 :: s.drop (i + 1) := by
        rw [List.drop_drop,show fr + (i - fr) = i from by omega,List.drop_eq_getElem_cons h]
        congr 1
        rw [← h47]; simp [List.getD,h]
       rw [← h3,hp,List.take_append_drop]
      rw [hsp,e2,split_app _ _ hno,List.append_assoc]; rfl
     ·show NoSl ((s.drop fr).take (i + 1 - fr))
      have h3 : (s.drop fr).take (i + 1 - fr) = piece ++ [s.getD i 0] := by
       rw [show i + 1 - fr = (i - fr) + 1 from by omega,List.take_succ_eq_append_getElem (by rw [List.length_drop]; omega),hp]
       congr 2
       rw [List.getElem_drop]
       simp [List.getD,show fr + (i - fr) = i from by omega,h]
      rw [h3]
      intro c hc
      rcases List.mem_append.1 hc with hc | hc
      ·exact hno c hc
      ·rw [List.mem_singleton.1 hc]; exact h47
    refine jn_at (fun x' : Nat × List (List UInt8) => mks [(0,.str s),(3,.sl 0 0 x'.2.length),(4,.int .i64 x'.1),(5,.int .i64 i)] [(0,.ls false 1 (strs x'.2))] 1)
     (fun x' => x'.2.length ≤ i + 1 ∧ ((i + 1 ≤ s.length ∧ x'.1 ≤ i + 1 ∧ NoSl ((s.drop x'.1).take (i + 1 - x'.1)) ∧ splitS s = x'.2 ++ splitS (s.drop x'.1)) ∨ (i + 1 = s.length + 1 ∧ x'.2 = splitS s))) ?_ ?_
    ·have mm := main _ (fun x' h => h)
     have e47 : ∀ c : UInt8,decide ((c.toNat : Int) = 47) = (c == 47) := fun c => dec_u8k c 47 (by decide)
     rcases Bool.eq_false_or_eq_true (decide ((i : Int) = s.length)) with c1 | c1
     ·have hlen : i = s.length := by have := of_decide_eq_true c1; omega
      repeat ((conv => whnf); first | refine And.intro ⟨by omega,by omega,by omega⟩ ?_ | refine And.intro ⟨(show (0 : Nat) ≠ 1 by decide),rfl,rfl,rfl,(show (strs done).length = done.length * 1 by rw [strs_length]; exact (Nat.mul_one _).symm),(show (0 + 1) * 1 ≤ 1 by decide),(allOne1 rfl),(show (done.length + 1) * 16 ≤ 140737488355328 by omega)⟩ ?_ | refine cond_t (by first | (simp only [c1,eq_self]; done) | fail) ?_ | refine cond_f (by first | (simp only [c1,cond_true,cond_false,Bool.not_true,Bool.not_false,eq_self,decide_true,decide_false]; done) | fail) ?_ | refine And.intro (by omega) ?_ | refine And.intro ⟨rfl,by omega,by omega⟩ ?_ | refine And.intro ⟨rfl,by decide,by omega,by omega⟩ ?_)
      refine ⟨_,rfl,?_⟩
      refine And.intro (by omega) ?_
      refine ⟨(i + 1,done ++ [piece]),mm.1 hlen,?_⟩
      refine sub_ren [2] rfl (by decide) ⟨⟨_,rfl,rfl⟩,⟨_,rfl,⟨2,rfl,eSl ?_⟩⟩,⟨_,rfl,eI (by omega)⟩,⟨_,rfl,rfl⟩,trivial⟩ ⟨⟨2,_,rfl,rfl,?_⟩,trivial⟩
      ·show done.length + 1 = (done ++ [piece]).length; simp
      ·refine ⟨_,rfl,eN (nnl_strs _) ?_⟩
       rw [strs_app,hp,← e0,← e1]; rfl
     ·have hlt : i < s.length := by have := of_decide_eq_false c1; omega
      rcases Bool.eq_false_or_eq_true (s.getD i 0 == 47) with c2 | c2
      ·have c3 : decide (((s.getD (i : Int).toNat 0).toNat : Int) = 47) = true := by rw [e47,e0]; exact c2
       repeat ((conv => whnf); first | refine And.intro ⟨by omega,by omega⟩ ?_ | refine And.intro ⟨by omega,by omega,by omega⟩ ?_ | refine And.intro ⟨(show (0 : Nat) ≠ 1 by decide),rfl,rfl,rfl,(show (strs done).length = done.length * 1 by rw [strs_length]; exact (Nat.mul_one _).symm),(show (0 + 1) * 1 ≤ 1 by decide),(allOne1 rfl),(show (done.length + 1) * 16 ≤ 140737488355328 by omega)⟩ ?_ | refine cond_t (by first | (simp only [c1, c3,cond_false,eq_self]; done) | fail) ?_ | refine cond_f (by first | (simp only [c1, eq_self]; done) | fail) ?_ | refine And.intro (by omega) ?_ | refine And.intro ⟨rfl,by omega,by omega⟩ ?_ | refine And.intro ⟨rfl,by decide,by omega,by omega⟩ ?_)
       refine ⟨_,rfl,?_⟩
       refine And.intro (by omega) ?_
       refine ⟨(i + 1,done ++ [piece]),mm.2.1 hlt (eq_of_beq c2),?_⟩
       refine sub_ren [2] rfl (by decide) ⟨⟨_,rfl,rfl⟩,⟨_,rfl,⟨2,rfl,eSl ?_⟩⟩,⟨_,rfl,eI (by omega)⟩,⟨_,rfl,rfl⟩,trivial⟩ ⟨⟨2,_,rfl,rfl,?_⟩,trivial⟩
       ·show done.length + 1 = (done ++ [piece]).length; simp
       ·refine ⟨_,rfl,eN (nnl_strs _) ?_⟩
        rw [strs_app,hp,← e0,← e1]; rfl
      ·have c3 : decide (((s.getD (i : Int).toNat 0).toNat : Int) = 47) = false := by rw [e47,e0]; exact c2
       repeat ((conv => whnf); first | refine And.intro ⟨by omega,by omega⟩ ?_ | refine cond_t (by first | (simp only [c1, c3,cond_false]; done) | fail) ?_ | refine cond_f (by first | (simp only [c1, c3,cond_false,eq_self]; done) | fail) ?_ | refine And.intro (by omega) ?_ | refine And.intro ⟨rfl,by omega,by omega⟩ ?_ | refine And.intro ⟨rfl,by decide,by omega,by omega⟩ ?_)
       refine ⟨(fr,done),mm.2.2 hlt (by simpa using c2),?_⟩
       refine sub_ren [0] rfl (by decide) ⟨⟨_,rfl,rfl⟩,⟨_,rfl,⟨0,rfl,rfl⟩⟩,⟨_,rfl,rfl⟩,⟨_,rfl,rfl⟩,trivial⟩ ⟨⟨0,_,rfl,rfl,?_⟩,trivial⟩
       exact ⟨_,rfl,eN (nnl_strs _) rfl⟩
    ·rintro ⟨fr',done'⟩ ⟨h1,h2⟩
     dsimp only at h1 h2
     refine And.intro (by omega) ?_
     refine ⟨(i + 1,fr',done'),⟨by dsimp only; omega,h1,h2⟩,by dsimp only; omega,?_⟩
     refine sub_ren [0] rfl (by decide) ⟨⟨_,rfl,rfl⟩,⟨_,rfl,⟨0,rfl,rfl⟩⟩,⟨_,rfl,rfl⟩,⟨_,rfl,eI (by omega)⟩,trivial⟩ ⟨⟨0,_,rfl,rfl,?_⟩,trivial⟩
     exact ⟨_,rfl,eN (nnl_strs _) rfl⟩
   ·have hF : ¬ (i : Int) ≤ s.length := of_decide_eq_false h
    rcases hinv with ⟨hbad,_⟩ | ⟨_,hd⟩
    case inl => omega
    refine ⟨_,(by first | exact SubSt.refl _ | exact SubTop.refl _),?_⟩
    refine ⟨0,false,?_,?_,plain_strs _⟩
    ·show AV.sl 0 0 done.length = AV.sl 0 0 (partsL s).length
     rw [e,hd]
    ·show some (AO.ls false 1 (strs done)) = some (AO.ls false 1 (strs (partsL s)))
     rw [e,hd]

end Qk

/-
  Chapter 32: the reference: bytes and classes.
-/
namespace Qk
open Go Go.RowKit

theorem d_ref_one : Does irq_one C_quiltref32_one := by
 intro (s : List UInt8) hs
 have e92 : ∀ c : UInt8,(!decide ((c.toNat : Int) = 92)) = !(c == 92) := fun c => congrArg (!·) (dec_u8k c 92 (by decide))
 match s,hs with
 | [],_ =>
  refine ⟨_,(by first | exact SubSt.refl _ | exact SubTop.refl _),?_⟩
  rfl
 | c :: r,hs =>
  refine And.intro ⟨by decide,by simp⟩ ?_
  by_cases h : c = 92
  ·refine cond_f (show (!decide (((((c :: r : List UInt8)).getD (0 : Int).toNat 0).toNat : Int) = 92)) = false by show (!decide ((c.toNat : Int) = 92)) = false; rw [e92,h]; rfl) ?_
   cases r with
   | nil =>
    refine ⟨_,(by first | exact SubSt.refl _ | exact SubTop.refl _),?_⟩
    show AV.tup [.int .u8 0,.int .i64 0] = C_quiltref32_one.res [c]
    subst h; rfl
   | cons d r =>
    refine And.intro ⟨by decide,by simp; omega⟩ ?_
    refine ⟨_,(by first | exact SubSt.refl _ | exact SubTop.refl _),?_⟩
    show AV.tup [.int .u8 (d.toNat : Int),.int .i64 2] = C_quiltref32_one.res (c :: d :: r)
    subst h; rfl
  ·refine cond_t (show (!decide (((((c :: r : List UInt8)).getD (0 : Int).toNat 0).toNat : Int) = 92)) = true by show (!decide ((c.toNat : Int) = 92)) = true; rw [e92]; simpa using h) ?_
   refine And.intro ⟨by decide,by simp⟩ ?_
   refine ⟨_,(by first | exact SubSt.refl _ | exact SubTop.refl _),?_⟩
   show AV.tup [.int .u8 (c.toNat : Int),.int .i64 1] = C_quiltref32_one.res (c :: r)
   have : byte1 (c :: r) = some (c,1) := byte1_plain h
   show _ = (match byte1 (c :: r) with | none => AV.tup [.int .u8 0,.int .i64 0] | some (c,n) => .tup [.int .u8 c.toNat,.int .i64 n])
   rw [this]; rfl

def z258 : List AV := repl 258 [AV.bool false]
def CE (a b : Bool) (tab : List Bool) : List AV := .bool a :: .bool b :: boos tab
theorem z258_eq : z258 = CE false false noTab := by
 unfold z258 CE noTab
 rw [repl_boos,show (258 : Nat) = 256 + 1 + 1 from rfl,List.replicate_succ,List.replicate_succ]
 rfl
theorem z258_len : z258.length = 258 := by rw [z258_eq]; unfold CE noTab; rw [List.length_cons,List.length_cons,boos_length,List.length_replicate]
theorem CE_len {a b : Bool} {tab : List Bool} (h : tab.length = 256) : (CE a b tab).length = 258 := by unfold CE; rw [List.length_cons,List.length_cons,boos_length,h]
theorem CE_all (a b : Bool) (tab : List Bool) : AllOne (CE a b tab) := by
 intro c hc
 rcases List.mem_cons.1 hc with rfl | hc
 ·rfl
 ·rcases List.mem_cons.1 hc with rfl | hc
  ·rfl
  ·exact boos_all _ c hc
theorem nnl_CE (a b : Bool) (tab : List Bool) : NNL (CE a b tab) := nnl_cons (plain_bool _).nn (nnl_cons (plain_bool _).nn (nnl_boos _))
theorem CE_get {a b : Bool} {tab : List Bool} {k : Nat} (h : k < tab.length) : (CE a b tab)[0 + 2 + k * 1]? = some (.bool (tab.getD k false)) := by
 have : 0 + 2 + k * 1 = k + 1 + 1 := by omega
 rw [this]; exact boos_get h
theorem CE_set {a b v : Bool} {tab : List Bool} {k : Nat} : (CE a b tab).set (0 + 2 + k * 1) (.bool v) = CE a b (tab.set k v) := by
 have : 0 + 2 + k * 1 = k + 1 + 1 := by omega
 rw [this]; unfold CE; rw [List.set_cons_succ,List.set_cons_succ,boos_set]

def RCH (R : Heap) (tab : List Bool) : Heap := upd (upd R 4 (some (.cl false z258))) 5 (some (.cl false (CE false false tab)))
def RCE (s : List UInt8) (neg : Bool) (i n : Nat) : List (Nat × AV) := [(0,.str s),(2,.ref 4 0),(4,.ref 5 0),(5,.int .i64 i),(6,.bool neg),(7,.int .i64 n)]
def RCS (R : Heap) (s : List UInt8) (neg : Bool) (tab : List Bool) (i n : Nat) : St := ⟨mk (RCE s neg i n),RCH R tab,6⟩

/-- The table while it is turned into what fits. -/
def turnAt (neg : Bool) (tab : List Bool) (k : Nat) : List Bool := (List.range 256).map fun j => if j < k then (El.cls neg tab).fit (UInt8.ofNat j) else tab.getD j false
theorem turnAt_len (neg : Bool) (tab : List Bool) (k : Nat) : (turnAt neg tab k).length = 256 := by simp [turnAt]
theorem turnAt_start {neg : Bool} {tab : List Bool} (h : tab.length = 256) : turnAt neg tab 0 = tab := by
 apply List.ext_getElem
 ·simp [turnAt,h]
 ·intro j h1 h2
  simp [turnAt,h2]
theorem turnAt_get {neg : Bool} {tab : List Bool} {k : Nat} (hk : k < 256) : (turnAt neg tab k).getD k false = tab.getD k false := by
 simp [turnAt,List.getD,hk]
theorem turnAt_set {neg : Bool} {tab : List Bool} {k : Nat} (_hk : k < 256) : (turnAt neg tab k).set k ((El.cls neg tab).fit (UInt8.ofNat k)) = turnAt neg tab (k + 1) := by
 apply List.ext_getElem
 ·simp [turnAt]
 ·intro j h1 h2
  rw [List.getElem_set]
  simp only [turnAt,List.getElem_map,List.getElem_range]
  split
  ·rename_i e; subst e; rw [if_pos (by omega)]
  ·rename_i e
   by_cases h : j < k
   ·rw [if_pos h,if_pos (by omega)]
   ·rw [if_neg h,if_neg (by omega)]
theorem turnAt_end (neg : Bool) (tab : List Bool) : turnAt neg tab 256 = (El.cls neg tab).setB := by
 unfold turnAt El.setB
 apply List.map_congr_left
 intro j hj
 rw [if_pos (List.mem_range.1 hj)]
theorem fit_byte {neg : Bool} {tab : List Bool} {k : Nat} (hk : k < 256) : (El.cls neg tab).fit (UInt8.ofNat k) = (!decide (k = 47) && (tab.getD k false != neg)) := by
 show (!(UInt8.ofNat k == 47) && (tab.getD (UInt8.ofNat k).toNat false != neg)) = _
 rw [ofNat_toNat hk]
 congr 1
 congr 1
 have := dec_u8k (UInt8.ofNat k) 47 (by decide)
 rw [ofNat_toNat hk] at this
 rw [show (UInt8.ofNat k == 47) = decide ((k : Int) = ((47 : Nat) : Int)) from this.symm]
 by_cases h : k = 47
 ·subst h; rfl
 ·rw [decide_eq_false h,decide_eq_false (by omega)]

end Qk

/-
  Chapter 32: the reference: classes.
-/
namespace Qk
open Go Go.RowKit

theorem z258_all : AllOne z258 := by rw [z258_eq]; exact CE_all _ _ _
theorem rch_ret {R : Heap} {tab : List Bool} {cs : List AV} : ∀ n o,upd (upd R 4 (some (.cl false cs))) 5 none n = some o → upd (RCH R tab) 4 (some (.cl false cs)) n = some o := by
 intro n o e
 by_cases h5 : n = 5
 ·subst h5; rw [upd_same] at e; cases e
 ·rw [upd_ne _ _ h5] at e
  by_cases h4 : n = 4
  ·subst h4; rw [upd_same] at e ⊢; exact e
  ·rw [upd_ne _ _ h4] at e ⊢
   unfold RCH
   rw [upd_ne _ _ h5,upd_ne _ _ h4]; exact e
theorem ret_cls {m : Nat} {K : AV → Heap → Nat → Prop} {S : St} {R : Heap} {tab : List Bool} {cs : List AV} {x : Int} (ha : S.env 2 = some (.ref 4 0)) (hb : S.env 3 = some (.int .i64 x)) (hl : cs.length = 258)
  (hh : S.heap = upd (RCH R tab) 4 (some (.cl false cs))) (hn : S.next = 6)
  (hk : K (.tup [.agg cs,.int .i64 x]) (upd (upd R 4 (some (.cl false cs))) 5 none) 6) : retH m [.cell 2 true 258,.tmp 3] K .ret S := by
 refine ⟨⟨S.env,upd (upd R 4 (some (.cl false cs))) 5 none,6⟩,sub_forget (fun _ _ h => h) (fun n o e => by rw [hh]; exact rch_ret n o e) (by rw [hn]; exact Nat.le_refl _),?_⟩
 simp only [resK,rvs,rv,ha,hb]
 exact ⟨cs,⟨by rw [List.drop_zero,List.take_of_length_le (by omega)],hl,Nat.zero_le _⟩,hk⟩

theorem cut_str (s : List UInt8) (i : Nat) : (s.drop (i : Int).toNat).take ((s.length : Int).toNat - (i : Int).toNat) = s.drop i := by
 have e1 : (i : Int).toNat = i := by omega
 rw [e1,List.take_of_length_le (by rw [List.length_drop]; omega)]
theorem one_none {s : List UInt8} (h : byte1 s = none) : C_quiltref32_one.res s = .tup [.int .u8 0,.int .i64 0] := by
 show (match byte1 s with | none => AV.tup [.int .u8 0,.int .i64 0] | some (c,n) => .tup [.int .u8 c.toNat,.int .i64 n]) = _
 rw [h]
theorem one_some {s : List UInt8} {c : UInt8} {n : Nat} (h : byte1 s = some (c,n)) : C_quiltref32_one.res s = .tup [.int .u8 c.toNat,.int .i64 n] := by
 show (match byte1 s with | none => AV.tup [.int .u8 0,.int .i64 0] | some (c,n) => .tup [.int .u8 c.toNat,.int .i64 n]) = _
 rw [h]

/-- While a range is laid. -/
def RCL (R : Heap) (s : List UInt8) (neg : Bool) (tab : List Bool) (i n : Nat) (low high : UInt8) : St :=
 ⟨mk [(0,.str s),(2,.ref 4 0),(4,.ref 5 0),(5,.int .i64 i),(6,.bool neg),(7,.int .i64 n),(8,.int .u8 low.toNat),(10,.int .u8 high.toNat)],RCH R tab,6⟩

set_option maxRecDepth 4000 in
set_option maxHeartbeats 4000000 in
theorem t_rclass {R : Heap} {K : AV → Heap → Nat → Prop} {s : List UInt8} (hs : s.length ≤ 1000000000) (h0 : 0 < s.length)
  (hK0 : classL (s.drop 1) = none → ∀ cs,cs.length = 258 → AllOne cs → NNL cs → K (.tup [.agg cs,.int .i64 0]) (upd (upd R 4 (some (.cl false cs))) 5 none) 6)
  (hK1 : ∀ e rest,classL (s.drop 1) = some (e,rest) → K (.tup [.agg (refA e),.int .i64 ((s.length - rest.length : Nat) : Int)]) (upd (upd R 4 (some (.cl false (refA e)))) 5 none) 6) :
  H_quiltref32_class [.str s] R 4 K := by
 refine And.intro rfl ?_
 refine And.intro z258_len ?_
 refine And.intro ⟨z258_len,z258_all⟩ ?_
 refine And.intro (show 0 + 258 ≤ z258.length by rw [z258_len]; exact Nat.le_refl _) ?_
 refine ⟨z258,lay_all rfl,?_⟩
 obtain ⟨neg,hneg⟩ : ∃ neg,neg = isNeg (s.drop 1) := ⟨_,rfl⟩
 have hnegA : neg = (decide (1 < s.length) && (s.getD 1 0 == 33)) := by
  rw [hneg]
  by_cases h : 1 < s.length
  ·rw [drop_cons h,decide_eq_true h]; rfl
  ·rw [List.drop_of_length_le (by omega),decide_eq_false h]; rfl
 have e33 : ∀ c : UInt8,decide ((c.toNat : Int) = 33) = (c == 33) := fun c => dec_u8k c 33 (by decide)
 have e93 : ∀ c : UInt8,(!decide ((c.toNat : Int) = 93)) = !(c == 93) := fun c => congrArg (!·) (dec_u8k c 93 (by decide))
 have e45 : ∀ c : UInt8,decide ((c.toNat : Int) = 45) = (c == 45) := fun c => dec_u8k c 45 (by decide)
 refine jn_at (fun _ : Unit => ⟨mk [(0,.str s),(2,.ref 4 0),(4,.ref 5 0),(5,.int .i64 1),(6,.bool neg)],RCH R noTab,6⟩) (fun _ => True) ?_ ?_
 ·have fin : ∀ S : St,(S.env 0 = some (.str s) ∧ S.env 2 = some (.ref 4 0) ∧ S.env 4 = some (.ref 5 0) ∧ S.env 5 = some (.int .i64 1)) → S.env 6 = some (.bool neg) → S.heap = upd (upd (upd R 4 (some (.cl false z258))) 5 (some (.cl false z258))) 5 (some (.cl false z258)) → S.next = 6 →
    SubSt 4 S ⟨mk [(0,.str s),(2,.ref 4 0),(4,.ref 5 0),(5,.int .i64 1),(6,.bool neg)],RCH R noTab,6⟩ := by
   intro S h1 h2 h3 h4
   refine sub_to ⟨h1.1,h1.2.1,h1.2.2.1,h1.2.2.2,h2,trivial⟩ ?_ (by rw [h4]; exact Nat.le_refl _)
   rw [h3,upd_twice]; unfold RCH; rw [← z258_eq]
  rcases Bool.eq_false_or_eq_true (decide ((1 : Int) < s.length)) with c1 | c1
  ·have h1 : 1 < s.length := by have := of_decide_eq_true c1; omega
   repeat ((conv => whnf); first | refine And.intro (show (0 : Int) ≤ 1 ∧ (1 : Int) < s.length by omega) ?_ | refine cond_t (by first | (simp only [c1,eq_self]; done) | fail) ?_ | refine cond_f (by first | (simp only [c1,cond_true,cond_false,Bool.not_true,Bool.not_false,eq_self,decide_true,decide_false]; done) | fail) ?_ | refine And.intro (by omega) ?_ | refine And.intro ⟨rfl,by omega,by omega⟩ ?_ | refine And.intro ⟨rfl,by decide,by omega,by omega⟩ ?_)
   refine ⟨(),trivial,fin _ ⟨rfl,rfl,rfl,rfl⟩ (congrArg some (eBo ?_)) rfl rfl⟩
   rw [hnegA,c1,decide_eq_true h1]
   exact e33 _
  ·have h1 : ¬ 1 < s.length := by have := of_decide_eq_false c1; omega
   repeat ((conv => whnf); first | refine cond_t (by first | (simp only [c1]; done) | fail) ?_ | refine cond_f (by first | (simp only [c1,eq_self]; done) | fail) ?_ | refine And.intro (by omega) ?_ | refine And.intro ⟨rfl,by omega,by omega⟩ ?_ | refine And.intro ⟨rfl,by decide,by omega,by omega⟩ ?_)
   refine ⟨(),trivial,fin _ ⟨rfl,rfl,rfl,rfl⟩ (congrArg some (eBo ?_)) rfl rfl⟩
   rw [hnegA,decide_eq_false h1]; rfl
 ·rintro _ _
  obtain ⟨a1,ha1⟩ : ∃ a1,a1 = if neg then 2 else 1 := ⟨_,rfl⟩
  have hd1 : s.drop a1 = if isNeg (s.drop 1) then (s.drop 1).drop 1 else s.drop 1 := by
   rw [← hneg,ha1]
   cases neg <;> simp
  have ha1l : a1 ≤ s.length := by
   rw [ha1]
   cases neg with
   | false => simp; omega
   | true =>
    have h3 := hnegA.symm
    rw [Bool.and_eq_true] at h3
    have := of_decide_eq_true h3.1
    simp; omega
  have hcl := class_at (a := 1) hd1
  rw [← hneg] at hcl
  obtain ⟨I0,hI0⟩ : ∃ I0,I0 = items (s.length + 1) noTab 0 (s.drop a1) := ⟨_,rfl⟩
  rw [← hI0] at hcl
  have fail : ∀ tab : List Bool,tab.length = 256 → classL (s.drop 1) = none → K (.tup [.agg (CE false false tab),.int .i64 0]) (upd (upd R 4 (some (.cl false (CE false false tab)))) 5 none) 6 :=
   fun tab ht hn => hK0 hn _ (CE_len ht) (CE_all _ _ _) (nnl_CE _ _ _)
  have nl : noTab.length = 256 := List.length_replicate
  refine jn_at (fun _ : Unit => ⟨mk [(0,.str s),(2,.ref 4 0),(4,.ref 5 0),(5,.int .i64 a1),(6,.bool neg)],RCH R noTab,6⟩) (fun _ => True) ?_ ?_
  ·refine cond_split (fun h => ?_) (fun h => ?_)
   ·have hn : neg = true := h
    refine And.intro (by omega) ?_
    refine ⟨(),trivial,sub_to ⟨rfl,rfl,rfl,congrArg some (eI ?_),rfl,trivial⟩ rfl (Nat.le_refl 6)⟩
    rw [ha1,hn]; rfl
   ·have hn : neg = false := h
    refine ⟨(),trivial,sub_to ⟨rfl,rfl,rfl,congrArg some (eI ?_),rfl,trivial⟩ rfl (Nat.le_refl 6)⟩
    rw [ha1,hn]; rfl
  ·rintro _ _
   refine ⟨Nat × Nat × List Bool,fun x => x.1 ≤ s.length ∧ x.2.1 ≤ x.1 ∧ x.2.2.length = 256 ∧ I0 = items (s.length + 1) x.2.2 x.2.1 (s.drop x.1),fun x => RCS R s neg x.2.2 x.1 x.2.1,fun x => s.length - x.1,(a1,0,noTab),⟨ha1l,Nat.zero_le _,nl,hI0⟩,?_,?_⟩
   ·exact sub_to ⟨rfl,rfl,rfl,rfl,rfl,rfl,trivial⟩ rfl (Nat.le_refl 6)
   ·rintro ⟨i,n,tab⟩ ⟨hi,hn,ht,hI⟩
    dsimp only at hi hn ht hI
    show awp _ _ _ (RCS R s neg tab i n)
    have e0 : (i : Int).toNat = i := by omega
    rcases Bool.eq_false_or_eq_true (decide ((i : Int) < s.length)) with c1 | c1
    ·have hlt : i < s.length := by have := of_decide_eq_true c1; omega
     rcases Bool.eq_false_or_eq_true (s.getD i 0 == 93) with c2 | c2
     ·-- the end of the class
      have c3 : (!decide (((s.getD (i : Int).toNat 0).toNat : Int) = 93)) = false := by rw [e93,e0,c2]; rfl
      have h93 : s.getD i 0 = 93 := eq_of_beq c2
      rw [it_close hlt h93] at hI
      rw [hI] at hcl
      dsimp only at hcl
      have c4 : decide ((s.length : Int) ≤ i) = false := decide_eq_false (by omega)
      repeat ((conv => whnf); first | refine And.intro (show (0 : Int) ≤ i ∧ (i : Int) < s.length by omega) ?_ | refine cond_t (by first | (simp only [c1, c3,cond_true,eq_self]; done) | fail) ?_ | refine cond_f (by first | (simp only [c1, c3,cond_true,eq_self]; done) | fail) ?_ | refine And.intro (by omega) ?_ | refine And.intro ⟨rfl,by omega,by omega⟩ ?_ | refine And.intro ⟨rfl,by decide,by omega,by omega⟩ ?_)
      by_cases hn0 : n = 0
      ·have c5 : decide ((n : Int) = 0) = true := decide_eq_true (by omega)
       have hnone : classL (s.drop 1) = none := by rw [hcl,hn0]; rfl
       repeat ((conv => whnf); first | refine cond_t (by first | (simp only [c4, c5,cond_false,eq_self]; done) | fail) ?_ | refine cond_f (by first | (simp only [c4, eq_self]; done) | fail) ?_ | refine And.intro (by omega) ?_ | refine And.intro ⟨rfl,by omega,by omega⟩ ?_ | refine And.intro ⟨rfl,by decide,by omega,by omega⟩ ?_)
       refine ⟨CE false false tab,⟨by rw [List.drop_zero,List.take_of_length_le (by rw [CE_len ht]; exact Nat.le_refl _)],CE_len ht⟩,?_⟩
       refine And.intro ⟨CE_len ht,CE_all _ _ _⟩ ?_
       refine And.intro (show 0 + 258 ≤ z258.length by rw [z258_len]; exact Nat.le_refl _) ?_
       refine ⟨CE false false tab,lay_all (by rw [CE_len ht,z258_len]),?_⟩
       exact ret_cls (tab := tab) rfl rfl (CE_len ht) rfl rfl (fail tab ht hnone)
      ·have c5 : decide ((n : Int) = 0) = false := decide_eq_false (by omega)
       have hn1 : decide (0 < n) = true := decide_eq_true (by omega)
       rw [hn1] at hcl
       repeat ((conv => whnf); first | refine cond_t (by first | (simp only [c4, c5,cond_false]; done) | fail) ?_ | refine cond_f (by first | (simp only [c4, c5,cond_false,eq_self]; done) | fail) ?_ | refine And.intro (by omega) ?_ | refine And.intro ⟨rfl,by omega,by omega⟩ ?_ | refine And.intro ⟨rfl,by decide,by omega,by omega⟩ ?_)
       refine ⟨Nat,fun k => k ≤ 256,fun k => ⟨mk [(0,.str s),(2,.ref 4 0),(4,.ref 5 0),(5,.int .i64 i),(6,.bool neg),(14,.bool ((List.range k).any fun b => (El.cls neg tab).fit (UInt8.ofNat b))),(15,.int .i64 k)],RCH R (turnAt neg tab k),6⟩,fun k => 256 - k,0,Nat.zero_le _,?_,?_⟩
       ·refine sub_to ⟨rfl,rfl,rfl,rfl,rfl,rfl,rfl,trivial⟩ ?_ (Nat.le_refl 6)
        rw [turnAt_start ht]; rfl
       ·intro k hk
        by_cases hk2 : k < 256
        ·have l1 : decide ((k : Int) < 256) = true := decide_eq_true (by omega)
         have ek : (k : Int).toNat = k := by omega
         have tg := turnAt_get (neg := neg) (tab := tab) hk2
         have ce : (CE false false (turnAt neg tab k))[0 + 2 + (k : Int).toNat * 1]? = some (.bool (tab.getD k false)) := by
          rw [ek,CE_get (by rw [turnAt_len]; exact hk2),tg]
         have hlen : 0 + 2 + (k : Int).toNat * 1 < (CE false false (turnAt neg tab k)).length := by rw [CE_len (turnAt_len _ _ _)]; omega
         have fb := fit_byte (neg := neg) (tab := tab) hk2
         have t47 : (!decide ((k : Int) = 47)) = !decide (k = 47) := by
          by_cases h : k = 47
          ·subst h; rfl
          ·rw [decide_eq_false h,decide_eq_false (by omega)]
         have step : ((List.range (k + 1)).any fun b => (El.cls neg tab).fit (UInt8.ofNat b)) = (((List.range k).any fun b => (El.cls neg tab).fit (UInt8.ofNat b)) || (El.cls neg tab).fit (UInt8.ofNat k)) := someB_step _ k
         have fin : ∀ (S : St) (v : Bool) (o : Bool),v = (El.cls neg tab).fit (UInt8.ofNat k) → o = ((List.range (k + 1)).any fun b => (El.cls neg tab).fit (UInt8.ofNat b)) →
           (S.env 0 = some (.str s) ∧ S.env 2 = some (.ref 4 0) ∧ S.env 4 = some (.ref 5 0) ∧ S.env 5 = some (.int .i64 i) ∧ S.env 6 = some (.bool neg)) → S.env 14 = some (.bool o) → S.env 15 = some (.int .i64 ((k : Int) + 1)) →
           S.heap = upd (RCH R (turnAt neg tab k)) 5 (some (.cl false ((CE false false (turnAt neg tab k)).set (0 + 2 + (k : Int).toNat * 1) (.bool v)))) → S.next = 6 →
           SubSt 4 S ⟨mk [(0,.str s),(2,.ref 4 0),(4,.ref 5 0),(5,.int .i64 i),(6,.bool neg),(14,.bool ((List.range (k + 1)).any fun b => (El.cls neg tab).fit (UInt8.ofNat b))),(15,.int .i64 ((k + 1 : Nat) : Int))],RCH R (turnAt neg tab (k + 1)),6⟩ := by
          intro S v o hv ho h1 h2 h3 h4 h5
          refine sub_to ⟨h1.1,h1.2.1,h1.2.2.1,h1.2.2.2.1,h1.2.2.2.2,by rw [h2,ho],h3,trivial⟩ ?_ (by rw [h5]; exact Nat.le_refl _)
          rw [h4,ek,CE_set,hv,turnAt_set hk2]
          unfold RCH
          rw [upd_twice]
         have ce2 : ∀ v,((CE false false (turnAt neg tab k)).set (0 + 2 + (k : Int).toNat * 1) (.bool v))[0 + 2 + (k : Int).toNat * 1]? = some (.bool v) := fun v => List.getElem?_set_self hlen
         rcases Bool.eq_false_or_eq_true (!decide (tab.getD k false = neg)) with d1 | d1
         ·have hne : (tab.getD k false != neg) = true := by
           cases h1 : tab.getD k false <;> cases h2 : neg <;> rw [h1,h2] at d1 <;> first | rfl | cases d1
          have fv : (El.cls neg tab).fit (UInt8.ofNat k) = !decide ((k : Int) = 47) := by rw [fb,hne,t47,Bool.and_true]
          rcases Bool.eq_false_or_eq_true ((List.range k).any fun b => (El.cls neg tab).fit (UInt8.ofNat b)) with d2 | d2
          ·repeat ((conv => whnf); first | refine And.intro (show (0 : Int) ≤ k ∧ (k : Int) < 256 by omega) ?_ | refine And.intro hlen ?_ | refine cond_t (by first | (simp only [l1, d1, d2,cond_true,eq_self]; done) | fail) ?_ | refine cond_f (by first | (simp only [l1, d1, d2,cond_true,cond_false,Bool.not_true,Bool.not_false,eq_self,decide_true,decide_false]; done) | fail) ?_ | refine And.intro (by omega) ?_ | refine And.intro ⟨rfl,by omega,by omega⟩ ?_ | refine And.intro ⟨rfl,by decide,by omega,by omega⟩ ?_ | refine ⟨_,ce,?_⟩)
           refine ⟨k + 1,by show k + 1 ≤ 256; omega,by show 256 - (k + 1) < 256 - k; omega,fin _ _ _ ?_ ?_ ⟨rfl,rfl,rfl,rfl,rfl⟩ rfl rfl rfl rfl⟩
           ·rw [fv,d1]; rfl
           ·rw [step,d2]; rfl
          ·repeat ((conv => whnf); first | refine And.intro (show (0 : Int) ≤ k ∧ (k : Int) < 256 by omega) ?_ | refine And.intro hlen ?_ | refine ⟨_,ce2 _,?_⟩ | refine cond_t (by first | (simp only [l1, d1, d2,cond_true,eq_self]; done) | fail) ?_ | refine cond_f (by first | (simp only [d2,eq_self]; done) | fail) ?_ | refine And.intro (by omega) ?_ | refine And.intro ⟨rfl,by omega,by omega⟩ ?_ | refine And.intro ⟨rfl,by decide,by omega,by omega⟩ ?_ | refine ⟨_,ce,?_⟩)
           refine ⟨k + 1,by show k + 1 ≤ 256; omega,by show 256 - (k + 1) < 256 - k; omega,fin _ _ _ ?_ ?_ ⟨rfl,rfl,rfl,rfl,rfl⟩ rfl rfl rfl rfl⟩
           ·rw [fv,d1]; rfl
           ·rw [step,d2,fv,d1]; rfl
         ·have hne : (tab.getD k false != neg) = false := by
           cases h1 : tab.getD k false <;> cases h2 : neg <;> rw [h1,h2] at d1 <;> first | rfl | cases d1
          have fv : (El.cls neg tab).fit (UInt8.ofNat k) = false := by rw [fb,hne,Bool.and_false]
          rcases Bool.eq_false_or_eq_true ((List.range k).any fun b => (El.cls neg tab).fit (UInt8.ofNat b)) with d2 | d2
          ·repeat ((conv => whnf); first | refine And.intro (show (0 : Int) ≤ k ∧ (k : Int) < 256 by omega) ?_ | refine And.intro hlen ?_ | refine cond_t (by first | (simp only [l1, d1, d2,cond_true,eq_self]; done) | fail) ?_ | refine cond_f (by first | (simp only [d1, cond_true,eq_self]; done) | fail) ?_ | refine And.intro (by omega) ?_ | refine And.intro ⟨rfl,by omega,by omega⟩ ?_ | refine And.intro ⟨rfl,by decide,by omega,by omega⟩ ?_ | refine ⟨_,ce,?_⟩)
           refine ⟨k + 1,by show k + 1 ≤ 256; omega,by show 256 - (k + 1) < 256 - k; omega,fin _ _ _ ?_ ?_ ⟨rfl,rfl,rfl,rfl,rfl⟩ rfl rfl rfl rfl⟩
           ·rw [fv]
           ·rw [step,d2]; rfl
          ·repeat ((conv => whnf); first | refine And.intro (show (0 : Int) ≤ k ∧ (k : Int) < 256 by omega) ?_ | refine And.intro hlen ?_ | refine ⟨_,ce2 _,?_⟩ | refine cond_t (by first | (simp only [l1, d1, d2,cond_true,eq_self]; done) | fail) ?_ | refine cond_f (by first | (simp only [d1, d2,cond_true,eq_self]; done) | fail) ?_ | refine And.intro (by omega) ?_ | refine And.intro ⟨rfl,by omega,by omega⟩ ?_ | refine And.intro ⟨rfl,by decide,by omega,by omega⟩ ?_ | refine ⟨_,ce,?_⟩)
           refine ⟨k + 1,by show k + 1 ≤ 256; omega,by show 256 - (k + 1) < 256 - k; omega,fin _ _ _ ?_ ?_ ⟨rfl,rfl,rfl,rfl,rfl⟩ rfl rfl rfl rfl⟩
           ·rw [fv]
           ·rw [step,d2,fv]; rfl
        ·have l1 : decide ((k : Int) < 256) = false := decide_eq_false (by omega)
         have hk3 : k = 256 := by omega
         subst hk3
         have hsome : ((List.range 256).any fun b => (El.cls neg tab).fit (UInt8.ofNat b)) = someB (El.cls neg tab).fit := rfl
         rcases Bool.eq_false_or_eq_true (someB (El.cls neg tab).fit) with d1 | d1
         ·have d2 : ((List.range 256).any fun b => (El.cls neg tab).fit (UInt8.ofNat b)) = true := d1
          rw [d1] at hcl
          repeat ((conv => whnf); first | refine cond_t (by first | (simp only [d2,Bool.not_true]; done) | fail) ?_ | refine cond_f (by first | (simp only [d2,Bool.not_true,eq_self]; done) | fail) ?_ | refine And.intro (by omega) ?_ | refine And.intro ⟨rfl,by omega,by omega⟩ ?_ | refine And.intro ⟨rfl,by decide,by omega,by omega⟩ ?_)
          have te := turnAt_end neg tab
          have hcs : CE false false (turnAt neg tab 256) = refA (.cls neg tab) := by rw [te]; rfl
          have rl : (refA (.cls neg tab)).length = 258 := refA_len _
          have ra : AllOne (refA (.cls neg tab)) := by rw [← hcs]; exact CE_all _ _ _
          refine ⟨refA (.cls neg tab),⟨by rw [hcs,List.drop_zero,List.take_of_length_le (by rw [rl]; exact Nat.le_refl _)],rl⟩,?_⟩
          refine And.intro (by omega) ?_
          refine And.intro ⟨rl,ra⟩ ?_
          refine And.intro (show 0 + 258 ≤ z258.length by rw [z258_len]; exact Nat.le_refl _) ?_
          refine ⟨refA (.cls neg tab),lay_all (by rw [rl,z258_len]),?_⟩
          have hk := hK1 (.cls neg tab) (s.drop (i + 1)) hcl
          have e1 : ((s.length - (s.drop (i + 1)).length : Nat) : Int) = (i : Int) + 1 := by rw [List.length_drop]; omega
          rw [e1] at hk
          exact ret_cls (tab := turnAt neg tab 256) rfl rfl rl rfl rfl hk
         ·have d2 : ((List.range 256).any fun b => (El.cls neg tab).fit (UInt8.ofNat b)) = false := d1
          rw [d1] at hcl
          have hnone : classL (s.drop 1) = none := hcl
          repeat ((conv => whnf); first | refine cond_t (by first | (simp only [d2,Bool.not_false,eq_self]; done) | fail) ?_ | refine cond_f (by first | (simp only [l1, d2,cond_true,cond_false,Bool.not_true,Bool.not_false,eq_self,decide_true,decide_false]; done) | fail) ?_ | refine And.intro (by omega) ?_ | refine And.intro ⟨rfl,by omega,by omega⟩ ?_ | refine And.intro ⟨rfl,by decide,by omega,by omega⟩ ?_)
          have ht2 := turnAt_len neg tab 256
          refine ⟨CE false false (turnAt neg tab 256),⟨by rw [List.drop_zero,List.take_of_length_le (by rw [CE_len ht2]; exact Nat.le_refl _)],CE_len ht2⟩,?_⟩
          refine And.intro ⟨CE_len ht2,CE_all _ _ _⟩ ?_
          refine And.intro (show 0 + 258 ≤ z258.length by rw [z258_len]; exact Nat.le_refl _) ?_
          refine ⟨CE false false (turnAt neg tab 256),lay_all (by rw [CE_len ht2,z258_len]),?_⟩
          exact ret_cls (tab := turnAt neg tab 256) rfl rfl (CE_len ht2) rfl rfl (fail _ ht2 hnone)
     ·-- one more item
      have c3 : (!decide (((s.getD (i : Int).toNat 0).toNat : Int) = 93)) = true := by rw [e93,e0,c2]; rfl
      have h93 : ¬ s.getD i 0 = 93 := by simpa using c2
      rw [it_step hlt h93] at hI
      have ld : (s.drop i).length ≤ 1000000000 := by rw [List.length_drop]; omega
      repeat ((conv => whnf); first | refine And.intro (show (0 : Int) ≤ i ∧ (i : Int) < s.length by omega) ?_ | refine And.intro (show (0 : Int) ≤ i ∧ (i : Int) ≤ s.length ∧ (s.length : Int) ≤ s.length by omega) ?_ | refine cond_t (by first | (simp only [c1, c3,cond_true,eq_self]; done) | fail) ?_ | refine cond_f (by first | (simp only [c1, c3,cond_true,cond_false,Bool.not_true,Bool.not_false,eq_self,decide_true,decide_false]; done) | fail) ?_ | refine And.intro (by omega) ?_ | refine And.intro ⟨rfl,by omega,by omega⟩ ?_ | refine And.intro ⟨rfl,by decide,by omega,by omega⟩ ?_)
      refine ⟨s.drop i,by rw [cut_str]; rfl,ld,?_⟩
      cases hb : byte1 (s.drop i) with
      | none =>
       rw [hb] at hI
       have hnone : classL (s.drop 1) = none := by rw [hcl,hI]
       rw [one_none hb]
       refine ⟨_,rfl,?_⟩
       refine ⟨_,rfl,?_⟩
       refine ⟨CE false false tab,⟨by rw [List.drop_zero,List.take_of_length_le (by rw [CE_len ht]; exact Nat.le_refl _)],CE_len ht⟩,?_⟩
       refine And.intro ⟨CE_len ht,CE_all _ _ _⟩ ?_
       refine And.intro (show 0 + 258 ≤ z258.length by rw [z258_len]; exact Nat.le_refl _) ?_
       refine ⟨CE false false tab,lay_all (by rw [CE_len ht,z258_len]),?_⟩
       exact ret_cls (tab := tab) rfl rfl (CE_len ht) rfl rfl (fail tab ht hnone)
      | some x =>
       obtain ⟨low,m⟩ := x
       rw [hb] at hI
       dsimp only at hI
       obtain ⟨hm1,hm2⟩ := byte1_pos hb
       rw [List.length_drop] at hm2
       rw [one_some hb]
       refine ⟨_,rfl,?_⟩
       refine ⟨_,rfl,?_⟩
       have c4 : decide ((m : Int) = 0) = false := decide_eq_false (by omega)
       refine cond_f c4 ?_
       refine And.intro (by omega) ?_
       obtain ⟨a,ha⟩ : ∃ a,a = i + m := ⟨_,rfl⟩
       have ea : (i : Int) + (m : Int) = (a : Int) := by omega
       have eat : ((i : Int) + (m : Int)).toNat = a := by omega
       have eat1 : ((i : Int) + (m : Int) + 1).toNat = a + 1 := by omega
       rw [← ha] at hI
       refine jn_at (fun x : Nat × UInt8 => ⟨mk [(0,.str s),(2,.ref 4 0),(4,.ref 5 0),(5,.int .i64 x.1),(6,.bool neg),(7,.int .i64 n),(8,.int .u8 low.toNat),(10,.int .u8 x.2.toNat)],RCH R tab,6⟩)
        (fun x => a ≤ x.1 ∧ x.1 ≤ s.length ∧ upto low (s.drop a) = some (x.2,s.drop x.1) ∧ ¬ x.2.toNat < low.toNat) ?_ ?_
       ·have fin : ∀ (S : St) (q : Int) (high : UInt8) (b : Nat),q = b → (S.env 0 = some (.str s) ∧ S.env 2 = some (.ref 4 0) ∧ S.env 4 = some (.ref 5 0) ∧ S.env 6 = some (.bool neg) ∧ S.env 7 = some (.int .i64 n) ∧ S.env 8 = some (.int .u8 low.toNat)) →
          S.env 5 = some (.int .i64 q) → S.env 10 = some (.int .u8 high.toNat) → S.heap = RCH R tab → S.next = 6 →
          SubSt 4 S ⟨mk [(0,.str s),(2,.ref 4 0),(4,.ref 5 0),(5,.int .i64 b),(6,.bool neg),(7,.int .i64 n),(8,.int .u8 low.toNat),(10,.int .u8 high.toNat)],RCH R tab,6⟩ := by
         intro S q high b hq h1 h2 h3 h4 h5
         exact sub_to ⟨h1.1,h1.2.1,h1.2.2.1,by rw [h2,hq],h1.2.2.2.1,h1.2.2.2.2.1,h1.2.2.2.2.2,h3,trivial⟩ h4 (by rw [h5]; exact Nat.le_refl _)
        have no : ¬ (a + 1 < s.length ∧ s.getD a 0 = 45 ∧ s.getD (a + 1) 0 ≠ 93) → a ≤ a ∧ a ≤ s.length ∧ upto low (s.drop a) = some (low,s.drop a) ∧ ¬ low.toNat < low.toNat :=
         fun h => ⟨Nat.le_refl _,by omega,upto_no h,Nat.lt_irrefl _⟩
        rcases Bool.eq_false_or_eq_true (decide ((i : Int) + (m : Int) + 1 < s.length)) with c6 | c6
        ·have h6 : a + 1 < s.length := by have := of_decide_eq_true c6; omega
         have ixa : (0 : Int) ≤ (i : Int) + (m : Int) ∧ (i : Int) + (m : Int) < s.length := by omega
         have ixb : (0 : Int) ≤ (i : Int) + (m : Int) + 1 ∧ (i : Int) + (m : Int) + 1 < s.length := by omega
         rcases Bool.eq_false_or_eq_true (s.getD a 0 == 45) with c7 | c7
         ·have c7' : decide (((s.getD ((i : Int) + (m : Int)).toNat 0).toNat : Int) = 45) = true := by rw [e45,eat]; exact c7
          rcases Bool.eq_false_or_eq_true (s.getD (a + 1) 0 == 93) with c8 | c8
          ·have c8' : (!decide (((s.getD ((i : Int) + (m : Int) + 1).toNat 0).toNat : Int) = 93)) = false := by rw [e93,eat1,c8]; rfl
           repeat ((conv => whnf); first | refine And.intro ixa ?_ | refine And.intro ixb ?_ | refine cond_t (by first | (simp only [c6, c7', c8',cond_true,eq_self]; done) | fail) ?_ | refine cond_f (by first | (simp only [c6, c7', c8',cond_true,eq_self]; done) | fail) ?_ | refine And.intro (by omega) ?_ | refine And.intro ⟨rfl,by omega,by omega⟩ ?_ | refine And.intro ⟨rfl,by decide,by omega,by omega⟩ ?_)
           exact ⟨(a,low),no (fun h => h.2.2 (eq_of_beq c8)),fin _ _ _ _ ea ⟨rfl,rfl,rfl,rfl,rfl,rfl⟩ rfl rfl rfl rfl⟩
          ·have c8' : (!decide (((s.getD ((i : Int) + (m : Int) + 1).toNat 0).toNat : Int) = 93)) = true := by rw [e93,eat1,c8]; rfl
           have hup := upto_yes (low := low) h6 (eq_of_beq c7) (show s.getD (a + 1) 0 ≠ 93 by simpa using c8)
           rw [hup] at hI
           have ld2 : (s.drop (a + 1)).length ≤ 1000000000 := by rw [List.length_drop]; omega
           repeat ((conv => whnf); first | refine And.intro ixa ?_ | refine And.intro ixb ?_ | refine And.intro (show (0 : Int) ≤ (i : Int) + (m : Int) + 1 ∧ (i : Int) + (m : Int) + 1 ≤ s.length ∧ (s.length : Int) ≤ s.length by omega) ?_ | refine cond_t (by first | (simp only [c6, c7', c8',cond_true,eq_self]; done) | fail) ?_ | refine cond_f (by first | (simp only [c6, c7', c8',cond_true,cond_false,Bool.not_true,Bool.not_false,eq_self,decide_true,decide_false]; done) | fail) ?_ | refine And.intro (by omega) ?_ | refine And.intro ⟨rfl,by omega,by omega⟩ ?_ | refine And.intro ⟨rfl,by decide,by omega,by omega⟩ ?_)
           have cut2 : (s.drop ((i : Int) + (m : Int) + 1).toNat).take ((s.length : Int).toNat - ((i : Int) + (m : Int) + 1).toNat) = s.drop (a + 1) := by
            rw [eat1,List.take_of_length_le (by rw [List.length_drop]; omega)]
           refine ⟨s.drop (a + 1),by rw [cut2]; rfl,ld2,?_⟩
           cases hb2 : byte1 (s.drop (a + 1)) with
           | none =>
            rw [hb2] at hI
            have hnone : classL (s.drop 1) = none := by rw [hcl,hI]
            rw [one_none hb2]
            refine ⟨_,rfl,?_⟩
            refine ⟨_,rfl,?_⟩
            refine ⟨CE false false tab,⟨by rw [List.drop_zero,List.take_of_length_le (by rw [CE_len ht]; exact Nat.le_refl _)],CE_len ht⟩,?_⟩
            refine And.intro ⟨CE_len ht,CE_all _ _ _⟩ ?_
            refine And.intro (show 0 + 258 ≤ z258.length by rw [z258_len]; exact Nat.le_refl _) ?_
            refine ⟨CE false false tab,lay_all (by rw [CE_len ht,z258_len]),?_⟩
            exact ret_cls (tab := tab) rfl rfl (CE_len ht) rfl rfl (fail tab ht hnone)
           | some y =>
            obtain ⟨high,mm⟩ := y
            rw [hb2] at hI hup
            dsimp only at hI hup
            obtain ⟨hq1,hq2⟩ := byte1_pos hb2
            rw [List.length_drop] at hq2
            rw [one_some hb2]
            refine ⟨_,rfl,?_⟩
            refine ⟨_,rfl,?_⟩
            have c9 : decide ((mm : Int) = 0) = false := decide_eq_false (by omega)
            rcases Bool.eq_false_or_eq_true (decide ((high.toNat : Int) < low.toNat)) with c10 | c10
            ·have hlo : high.toNat < low.toNat := by have := of_decide_eq_true c10; omega
             rw [if_pos hlo] at hI
             have hnone : classL (s.drop 1) = none := by rw [hcl,hI]
             repeat ((conv => whnf); first | refine cond_t (by first | (simp only [c9, c10,cond_false,eq_self]; done) | fail) ?_ | refine cond_f (by first | (simp only [c9, eq_self]; done) | fail) ?_ | refine And.intro (by omega) ?_ | refine And.intro ⟨rfl,by omega,by omega⟩ ?_ | refine And.intro ⟨rfl,by decide,by omega,by omega⟩ ?_)
             refine ⟨CE false false tab,⟨by rw [List.drop_zero,List.take_of_length_le (by rw [CE_len ht]; exact Nat.le_refl _)],CE_len ht⟩,?_⟩
             refine And.intro ⟨CE_len ht,CE_all _ _ _⟩ ?_
             refine And.intro (show 0 + 258 ≤ z258.length by rw [z258_len]; exact Nat.le_refl _) ?_
             refine ⟨CE false false tab,lay_all (by rw [CE_len ht,z258_len]),?_⟩
             exact ret_cls (tab := tab) rfl rfl (CE_len ht) rfl rfl (fail tab ht hnone)
            ·have hlo : ¬ high.toNat < low.toNat := by have := of_decide_eq_false c10; omega
             repeat ((conv => whnf); first | refine cond_t (by first | (simp only [c9, c10,cond_false]; done) | fail) ?_ | refine cond_f (by first | (simp only [c9, c10,cond_false,eq_self]; done) | fail) ?_ | refine And.intro (by omega) ?_ | refine And.intro ⟨rfl,by omega,by omega⟩ ?_ | refine And.intro ⟨rfl,by decide,by omega,by omega⟩ ?_)
             exact ⟨(a + 1 + mm,high),⟨by omega,by omega,hup,hlo⟩,fin _ _ _ _ (by omega) ⟨rfl,rfl,rfl,rfl,rfl,rfl⟩ rfl rfl rfl rfl⟩
         ·have c7' : decide (((s.getD ((i : Int) + (m : Int)).toNat 0).toNat : Int) = 45) = false := by rw [e45,eat]; exact c7
          repeat ((conv => whnf); first | refine And.intro ixa ?_ | refine cond_t (by first | (simp only [c6, c7',cond_true,eq_self]; done) | fail) ?_ | refine cond_f (by first | (simp only [c6, c7',cond_true,eq_self]; done) | fail) ?_ | refine And.intro (by omega) ?_ | refine And.intro ⟨rfl,by omega,by omega⟩ ?_ | refine And.intro ⟨rfl,by decide,by omega,by omega⟩ ?_)
          exact ⟨(a,low),no (fun h => by rw [h.2.1] at c7; cases c7),fin _ _ _ _ ea ⟨rfl,rfl,rfl,rfl,rfl,rfl⟩ rfl rfl rfl rfl⟩
        ·have h6 : ¬ a + 1 < s.length := by have := of_decide_eq_false c6; omega
         repeat ((conv => whnf); first | refine cond_t (by first | (simp only [c6]; done) | fail) ?_ | refine cond_f (by first | (simp only [c6,eq_self]; done) | fail) ?_ | refine And.intro (by omega) ?_ | refine And.intro ⟨rfl,by omega,by omega⟩ ?_ | refine And.intro ⟨rfl,by decide,by omega,by omega⟩ ?_)
         exact ⟨(a,low),no (fun h => h6 h.1),fin _ _ _ _ ea ⟨rfl,rfl,rfl,rfl,rfl,rfl⟩ rfl rfl rfl rfl⟩
       ·rintro ⟨i',high⟩ ⟨hai,hil,hup,hlo⟩
        dsimp only at hai hil hup hlo
        rw [hup] at hI
        dsimp only at hI
        rw [if_neg hlo] at hI
        have hl8 := low.toNat_lt
        have hh8 := high.toNat_lt
        show awp _ _ _ (RCL R s neg tab i' n low high)
        refine And.intro (by omega) ?_
        refine ⟨Nat,fun b => low.toNat ≤ b ∧ b ≤ high.toNat + 1,fun b => ⟨mk [(0,.str s),(2,.ref 4 0),(4,.ref 5 0),(5,.int .i64 i'),(6,.bool neg),(7,.int .i64 n),(8,.int .u8 low.toNat),(10,.int .u8 high.toNat),(13,.int .i64 b)],RCH R (tabAt tab low.toNat b),6⟩,
         fun b => high.toNat + 1 - b,low.toNat,⟨Nat.le_refl _,by omega⟩,?_,?_⟩
        ·refine sub_to ⟨rfl,rfl,rfl,rfl,rfl,rfl,rfl,rfl,rfl,trivial⟩ ?_ (Nat.le_refl 6)
         rw [tabAt_start ht]; rfl
        ·rintro b ⟨hb1,hb2⟩
         rcases Bool.eq_false_or_eq_true (decide ((b : Int) ≤ high.toNat)) with l1 | l1
         ·have hbl : b ≤ high.toNat := by have := of_decide_eq_true l1; omega
          have eb : (b : Int).toNat = b := by omega
          have hlen : 0 + 2 + (b : Int).toNat * 1 < (CE false false (tabAt tab low.toNat b)).length := by rw [CE_len (tabAt_len _ _ _)]; omega
          repeat ((conv => whnf); first | refine And.intro (show (0 : Int) ≤ b ∧ (b : Int) < 256 by omega) ?_ | refine And.intro hlen ?_ | refine cond_t (by first | (simp only [l1,eq_self]; done) | fail) ?_ | refine cond_f (by first | (simp only [l1,cond_true,cond_false,Bool.not_true,Bool.not_false,eq_self,decide_true,decide_false]; done) | fail) ?_ | refine And.intro (by omega) ?_ | refine And.intro ⟨rfl,by omega,by omega⟩ ?_ | refine And.intro ⟨rfl,by decide,by omega,by omega⟩ ?_)
          refine ⟨b + 1,⟨by omega,by omega⟩,by show high.toNat + 1 - (b + 1) < high.toNat + 1 - b; omega,?_⟩
          refine sub_to ⟨rfl,rfl,rfl,rfl,rfl,rfl,rfl,rfl,rfl,trivial⟩ ?_ (Nat.le_refl 6)
          show upd (RCH R (tabAt tab low.toNat b)) 5 (some (.cl false ((CE false false (tabAt tab low.toNat b)).set (0 + 2 + (b : Int).toNat * 1) (.bool true)))) = RCH R (tabAt tab low.toNat (b + 1))
          rw [eb,CE_set,tabAt_step hb1]
          unfold RCH
          rw [upd_twice]
         ·have hbe : b = high.toNat + 1 := by have := of_decide_eq_false l1; omega
          subst hbe
          repeat ((conv => whnf); first | refine cond_t (by first | (simp only [l1]; done) | fail) ?_ | refine cond_f (by first | (simp only [l1,eq_self]; done) | fail) ?_ | refine And.intro (by omega) ?_ | refine And.intro ⟨rfl,by omega,by omega⟩ ?_ | refine And.intro ⟨rfl,by decide,by omega,by omega⟩ ?_)
          refine ⟨(i',n + 1,setR tab low.toNat high.toNat),⟨hil,by show n + 1 ≤ i'; omega,setR_len _ _ _,?_⟩,by show s.length - i' < s.length - i; omega,?_⟩
          ·show I0 = items (s.length + 1) (setR tab low.toNat high.toNat) (n + 1) (s.drop i')
           rw [hI]
           exact items_fuel _ _ _ _ _ (by rw [List.length_drop]; omega) (by rw [List.length_drop]; omega)
          ·refine sub_to ⟨rfl,rfl,rfl,rfl,rfl,rfl,trivial⟩ ?_ (Nat.le_refl 6)
           show RCH R (tabAt tab low.toNat (high.toNat + 1)) = RCH R (setR tab low.toNat high.toNat)
           rw [tabAt_end]
    ·have hge : ¬ i < s.length := by have := of_decide_eq_false c1; omega
     rw [it_end hge] at hI
     have hnone : classL (s.drop 1) = none := by rw [hcl,hI]
     have c4 : decide ((s.length : Int) ≤ i) = true := decide_eq_true (by omega)
     repeat ((conv => whnf); first | refine cond_t (by first | (simp only [c1, c4,eq_self]; done) | fail) ?_ | refine cond_f (by first | (simp only [c1, eq_self]; done) | fail) ?_ | refine And.intro (by omega) ?_ | refine And.intro ⟨rfl,by omega,by omega⟩ ?_ | refine And.intro ⟨rfl,by decide,by omega,by omega⟩ ?_)
     refine ⟨CE false false tab,⟨by rw [List.drop_zero,List.take_of_length_le (by rw [CE_len ht]; exact Nat.le_refl _)],CE_len ht⟩,?_⟩
     refine And.intro ⟨CE_len ht,CE_all _ _ _⟩ ?_
     refine And.intro (show 0 + 258 ≤ z258.length by rw [z258_len]; exact Nat.le_refl _) ?_
     refine ⟨CE false false tab,lay_all (by rw [CE_len ht,z258_len]),?_⟩
     exact ret_cls (tab := tab) rfl rfl (CE_len ht) rfl rfl (fail tab ht hnone)

end Qk

/-
  Chapter 32: the reference: a component pattern.
-/
namespace Qk
open Go Go.RowKit

theorem elsP_fuel : ∀ (f g : Nat) (r : List UInt8),r.length ≤ f → r.length ≤ g → elsP f r = elsP g r
 | _,_,[],_,_ => by simp [elsP]
 | 0,_,_ :: _,h,_ => by simp at h
 | _ + 1,0,_ :: _,_,h => by simp at h
 | f + 1,g + 1,c :: r,h1,h2 => by
  simp only [elsP]
  split
  ·rfl
  ·rename_i e rest he
   have hl : rest.length < (c :: r).length := (el_suf (s := c :: r) (a := 0) (by simp) (by simpa using he)).2
   simp only [List.length_cons] at h1 h2 hl
   rw [elsP_fuel f g rest (by omega) (by omega)]
theorem elsP_step {s : List UInt8} {a : Nat} (h : a < s.length) : elsP s.length (s.drop a) = match elL (s.drop a) with
  | none => ([],false)
  | some (e,rest) => (e :: (elsP s.length rest).1,(elsP s.length rest).2) := by
 obtain ⟨f,hf⟩ : ∃ f,s.length = f + 1 := ⟨s.length - 1,by omega⟩
 rw [hf]
 conv => lhs; rw [drop_cons h]
 simp only [elsP]
 rw [← drop_cons h]
 cases he : elL (s.drop a) with
 | none => rfl
 | some x =>
  obtain ⟨e,rest⟩ := x
  dsimp only
  have hr := (el_suf h he).2
  have := elsP_fuel f (f + 1) rest (by omega) (by omega)
  rw [this]
theorem elsP_end {s : List UInt8} {a : Nat} (h : ¬ a < s.length) : elsP s.length (s.drop a) = ([],true) := by
 rw [List.drop_of_length_le (by omega)]
 cases s.length <;> rfl

theorem setB_star : El.star.setB = noTab := by
 unfold El.setB noTab
 apply List.ext_getElem
 ·rw [List.length_map,List.length_range,List.length_replicate]
 ·intro j h1 h2
  rw [List.getElem_map,List.getElem_replicate]; rfl
theorem setB_lit (d : UInt8) : (El.lit d).setB = noTab.set d.toNat true := by
 unfold El.setB noTab
 apply List.ext_getElem
 ·rw [List.length_map,List.length_range,List.length_set,List.length_replicate]
 ·intro j h1 h2
  have hj : j < 256 := by rwa [List.length_map,List.length_range] at h1
  rw [List.getElem_set]
  simp only [List.getElem_map,List.getElem_range,List.getElem_replicate,El.fit]
  have h9 := dec_u8 (UInt8.ofNat j) d
  rw [ofNat_toNat hj] at h9
  rw [← h9]
  split
  ·rename_i e; rw [e]; simp
  ·rename_i e; simp; omega
def qmAt (k : Nat) : List Bool := (List.range 256).map fun j => decide (j < k) && !decide (j = 47)
theorem qmAt_len (k : Nat) : (qmAt k).length = 256 := by simp [qmAt]
theorem qmAt_start : qmAt 0 = noTab := by
 unfold qmAt noTab
 apply List.ext_getElem
 ·rw [List.length_map,List.length_range,List.length_replicate]
 ·intro j h1 h2
  rw [List.getElem_map,List.getElem_replicate,decide_eq_false (Nat.not_lt_zero _)]; rfl
theorem qmAt_set {k : Nat} : (qmAt k).set k (!decide ((k : Int) = 47)) = qmAt (k + 1) := by
 apply List.ext_getElem
 ·simp [qmAt]
 ·intro j h1 h2
  rw [List.getElem_set]
  simp only [qmAt,List.getElem_map,List.getElem_range]
  split
  ·rename_i e; subst e
   by_cases h : k = 47
   ·subst h; rfl
   ·have e1 : decide (k = 47) = false := decide_eq_false h
    have e2 : decide ((k : Int) = 47) = false := decide_eq_false (by omega)
    rw [e1,e2]; simp
  ·rename_i e
   have e1 : decide (j < k) = decide (j < k + 1) := by
    by_cases h : j < k
    ·rw [decide_eq_true h,decide_eq_true (show j < k + 1 by omega)]
    ·rw [decide_eq_false h,decide_eq_false (show ¬ j < k + 1 by omega)]
   rw [e1]
theorem qmAt_end : qmAt 256 = El.any.setB := by
 unfold qmAt El.setB
 apply List.map_congr_left
 intro j hj
 have hj := List.mem_range.1 hj
 rw [decide_eq_true hj,Bool.true_and]
 show _ = !(UInt8.ofNat j == 47)
 have h9 := dec_u8k (UInt8.ofNat j) 47 (by decide)
 rw [ofNat_toNat hj] at h9
 rw [show (UInt8.ofNat j == 47) = decide ((j : Int) = ((47 : Nat) : Int)) from h9.symm]
 by_cases h : j = 47
 ·subst h; rfl
 ·have e1 : decide (j = 47) = false := decide_eq_false h
  have e2 : decide ((j : Int) = ((47 : Nat) : Int)) = false := decide_eq_false (by omega)
  rw [e1,e2]

theorem nnl_refA (e : El) : NNL (refA e) := nnl_cons (plain_bool _).nn (nnl_cons (plain_bool _).nn (nnl_boos _))
theorem refA_all (e : El) : AllOne (refA e) := CE_all e.isStar e.isLit e.setB
def flatR (l : List El) : List AV := l.flatMap refA
theorem flatR_len (l : List El) : (flatR l).length = l.length * 258 := by
 induction l with
 | nil => rfl
 | cons e l ih => rw [flatR,List.flatMap_cons,List.length_append,refA_len]; unfold flatR at ih; rw [ih,List.length_cons]; omega
theorem flatR_app (l : List El) (e : El) : flatR (l ++ [e]) = flatR l ++ refA e := by simp [flatR]
theorem nnl_flatR (l : List El) : NNL (flatR l) := nnl_flat nnl_refA l
theorem x_bsliceO {esz : Nat} {zs : List AV} {n : Nat} {parts : List (Nat × Nat × Operand)} {S : St} {d : Option Nat} {r : List IOp} {K : St → Prop} {cs : List AV} (h : fillA S (repl n zs) parts = some cs)
  (hK : exOs r (St.set { S with heap := upd S.heap S.next (some (.ls false esz cs)),next := S.next + 1 } d (.sl S.next 0 n)) K) : exOs (⟨d,none,.bslice esz zs n parts⟩ :: r) S K :=
 by
 simp only [exOs,exO,ex1,h]
 exact hK
theorem fill_one {S : St} {x : Operand} {cs zs : List AV} {n : Nat} (hx : S.ev x = some (.agg cs)) (h1 : cs.length = n) (h2 : zs.length = n) : fillA S (repl 1 zs) [(0,n,x)] = some cs := by
 have e : repl 1 zs = zs := by show zs ++ [] = zs; rw [List.append_nil]
 rw [e]
 simp only [fillA,hx]
 have h3 : (cs.length == n && Nat.ble (0 + n) zs.length) = true := by
  rw [Bool.and_eq_true]
  exact ⟨by simpa using h1,Nat.ble_eq_true_of_le (by omega)⟩
 rw [h3]
 show some (lay zs 0 cs) = some cs
 rw [← lay_all (cs := zs) (vs := cs) (by omega)]

def nilC : List AV := [.bool false,.raw (.slice none 0 0)]
def PRH (done : List El) : List (Nat × AO) := [(0,.cl false nilC),(1,.cl false [.bool false,.sl 2 0 done.length]),(2,.ls false 258 (flatR done))]
def PRS (s : List UInt8) (done : List El) (i : Nat) : St := mks [(0,.str s),(2,.ref 0 0),(4,.ref 1 0),(5,.int .i64 i)] (PRH done) 3
def PRT (s : List UInt8) (done : List El) (i : Nat) (cs : List AV) (n : Nat) : St := mks [(0,.str s),(2,.ref 0 0),(4,.ref 1 0),(5,.int .i64 i),(6,.ref 3 0),(7,.int .i64 n)] (PRH done ++ [(3,.cl false cs)]) 4

end Qk

/-
  Chapter 32: the reference: a component pattern.
-/
namespace Qk
open Go Go.RowKit

theorem rcpA_frz {S : St} {any : Bool} {done : List El} (h2 : S.heap 2 = some (.ls false 258 (flatR done))) : FzL S [2] (rCpA ⟨any,done⟩) [.bool any,.sl 2 0 done.length] := by
 refine ⟨_,_,rfl,rfl,_,_,rfl,.inr (.inr ⟨2,0,false,flatR done,rfl,by decide,h2,?_,?_,nnl_flatR done⟩),rfl⟩
 ·show (0 + done.length) * 258 ≤ (flatR done).length
  rw [flatR_len]; omega
 ·show flatR done = ((flatR done).drop (0 * 258)).take (done.length * 258)
  rw [Nat.zero_mul,List.drop_zero,List.take_of_length_le (by rw [flatR_len]; exact Nat.le_refl _)]
theorem two_one {a b : AV} (h1 : a.isOne = true) (h2 : b.isOne = true) : AllOne [a,b] := by
 intro x hx
 simp only [List.mem_cons,List.not_mem_nil,or_false] at hx
 rcases hx with rfl | rfl <;> assumption
theorem nnl_nilC : NNL nilC := nnl_cons (plain_bool _).nn (nnl_one (plain_raw _).nn)

set_option maxRecDepth 4000 in
set_option maxHeartbeats 4000000 in
theorem d_ref_parse : Does irq_parse C_quiltref32_parse := by
 intro (s : List UInt8) hs
 replace hs : s.length ≤ 1000000000 := hs
 refine jn_to ?_
 refine And.intro rfl ?_
 refine And.intro ⟨rfl,two_one rfl rfl⟩ ?_
 refine And.intro (Nat.le_refl 2) ?_
 refine ⟨_,lay_all rfl,?_⟩
 refine ⟨_,sub_nil 1 1 false 258 rfl rfl,?_⟩
 -- the end: a component and whether it is right
 have fin : ∀ (S : St) (done : List El) (any ok : Bool),C_quiltref32_parse.res s = .tup [.agg (rCpA ⟨any,done⟩),.bool ok] → S.env 2 = some (.ref 0 0) → S.env 3 = some (.bool ok) →
   S.heap 0 = some (.cl false [.bool any,.sl 2 0 done.length]) → S.heap 2 = some (.ls false 258 (flatR done)) → S.next ≤ 100 → retK irq_parse.res (C_quiltref32_parse.res s) .ret S := by
  intro S done any ok hres h1 h2 h3 h4 h5
  refine ⟨_,sub_frz [2] (env := [(2,.ref 0 0),(3,.bool ok)]) (heap := [(0,.cl false (rCpA ⟨any,done⟩))]) (nx := 100) ?_ ?_ h5,?_⟩
  ·exact ⟨⟨_,h1,fzV_refl _ _ _⟩,⟨_,h2,fzV_refl _ _ _⟩,trivial⟩
  ·exact ⟨⟨by decide,_,h3,_,rfl,.inr (rcpA_frz h4)⟩,trivial⟩
  ·refine ⟨rCpA ⟨any,done⟩,⟨rfl,rfl,Nat.zero_le _⟩,?_⟩
   exact hres.symm
 refine cond_split (fun h => ?_) (fun h => ?_)
 ·have he : s = [42,42] := of_decide_eq_true h
  refine And.intro (show 0 + 0 < 2 by decide) ?_
  refine ⟨[.bool true,.sl 2 0 0],⟨rfl,rfl⟩,?_⟩
  refine And.intro ⟨rfl,two_one rfl rfl⟩ ?_
  refine And.intro (Nat.le_refl 2) ?_
  refine ⟨_,lay_all rfl,?_⟩
  refine fin _ [] true true ?_ rfl rfl rfl rfl (show 3 ≤ 100 by decide)
  show AV.tup [.agg (rCpA (parseP s).1),.bool (parseP s).2] = _
  unfold parseP; rw [if_pos he]
 ·have hne : ¬ s = [42,42] := of_decide_eq_false h
  have hP : ∀ (done : List El) (ok : Bool),elsP s.length s = (done,ok) → C_quiltref32_parse.res s = .tup [.agg (rCpA ⟨false,done⟩),.bool (ok && !decide (s = []))] := by
   intro done ok hd
   show AV.tup [.agg (rCpA (parseP s).1),.bool (parseP s).2] = _
   unfold parseP; rw [if_neg hne,hd]
  refine ⟨Nat × List El,fun x => x.1 ≤ s.length ∧ x.2.length ≤ x.1 ∧ elsP s.length s = (x.2 ++ (elsP s.length (s.drop x.1)).1,(elsP s.length (s.drop x.1)).2),fun x => PRS s x.2 x.1,fun x => s.length - x.1,(0,[]),⟨Nat.zero_le _,Nat.le_refl _,rfl⟩,?_,?_⟩
  ·refine sub_ren [0,1,2] rfl (by decide) ⟨⟨_,rfl,rfl⟩,⟨_,rfl,⟨0,rfl,rfl⟩⟩,⟨_,rfl,⟨1,rfl,rfl⟩⟩,⟨_,rfl,rfl⟩,trivial⟩ ⟨⟨0,_,rfl,rfl,?_⟩,⟨1,_,rfl,rfl,?_⟩,⟨2,_,rfl,rfl,?_⟩,trivial⟩
   ·exact ⟨_,rfl,eN nnl_nilC rfl⟩
   ·exact ⟨_,rfl,.inr ⟨_,_,rfl,rfl,_,_,rfl,⟨2,rfl,rfl⟩,rfl⟩⟩
   ·exact ⟨_,rfl,eN nnl_nil rfl⟩
  ·rintro ⟨i,done⟩ ⟨hi,hdl,hinv⟩
   dsimp only at hi hdl hinv
   show awp _ _ _ (PRS s done i)
   rcases Bool.eq_false_or_eq_true (decide ((i : Int) < s.length)) with c1 | c1
   ·have hlt : i < s.length := by have := of_decide_eq_true c1; omega
    have e0 : (i : Int).toNat = i := by omega
    rw [elsP_step hlt] at hinv
    have hel := el_at hlt
    obtain ⟨c,hc⟩ : ∃ c,c = s.getD i 0 := ⟨_,rfl⟩
    have ec : s.getD (i : Int).toNat 0 = c := by rw [e0,hc]
    rw [← hc] at hel
    have e42 : decide ((c.toNat : Int) = 42) = (c == 42) := dec_u8k c 42 (by decide)
    have e63 : decide ((c.toNat : Int) = 63) = (c == 63) := dec_u8k c 63 (by decide)
    have e91 : decide ((c.toNat : Int) = 91) = (c == 91) := dec_u8k c 91 (by decide)
    have toT : ∀ (S : St) (cs : List AV) (n : Nat),NNL cs → (S.env 0 = some (.str s) ∧ S.env 2 = some (.ref 0 0) ∧ S.env 4 = some (.ref 1 0) ∧ S.env 5 = some (.int .i64 i) ∧ S.env 6 = some (.ref 3 0)) → S.env 7 = some (.int .i64 n) →
      S.heap 0 = some (.cl false nilC) → S.heap 1 = some (.cl false [.bool false,.sl 2 0 done.length]) → S.heap 2 = some (.ls false 258 (flatR done)) → S.heap 3 = some (.cl false cs) → SubSt 0 S (PRT s done i cs n) := by
     intro S cs n hn h1 h2 h3 h4 h5 h6
     refine sub_ren [0,1,2,3] rfl (by decide) ⟨⟨_,h1.1,rfl⟩,⟨_,h1.2.1,⟨0,rfl,rfl⟩⟩,⟨_,h1.2.2.1,⟨1,rfl,rfl⟩⟩,⟨_,h1.2.2.2.1,rfl⟩,⟨_,h1.2.2.2.2,⟨3,rfl,rfl⟩⟩,⟨_,h2,rfl⟩,trivial⟩ ⟨⟨0,_,rfl,h3,?_⟩,⟨1,_,rfl,h4,?_⟩,⟨2,_,rfl,h5,?_⟩,⟨3,_,rfl,h6,?_⟩,trivial⟩
     ·exact ⟨_,rfl,eN nnl_nilC rfl⟩
     ·exact ⟨_,rfl,.inr ⟨_,_,rfl,rfl,_,_,rfl,⟨2,rfl,rfl⟩,rfl⟩⟩
     ·exact ⟨_,rfl,eN (nnl_flatR _) rfl⟩
     ·exact ⟨_,rfl,eN hn rfl⟩
    refine cond_t c1 ?_
    refine jn_to ?_
    refine And.intro z258_len ?_
    refine And.intro (And.intro ?_ ?_) ?_
    ·exact z258_len
    ·exact z258_all
    refine And.intro ?_ ?_
    ·show 0 + 258 ≤ z258.length
     rw [z258_len]; exact Nat.le_refl _
    refine ⟨z258,lay_all rfl,?_⟩
    refine ⟨mks [(0,.str s),(2,.ref 0 0),(4,.ref 1 0),(5,.int .i64 i),(6,.ref 3 0)] (PRH done ++ [(3,.cl false z258)]) 4,sub_to ⟨rfl,rfl,rfl,rfl,rfl,trivial⟩ ?_ (Nat.le_refl 4),?_⟩
    ·exact heap_is [0,1,2,3] (fun _ => none) (by (try dsimp only [St.set,mks,PRS,PRH]); (repeat (first | exact out_mkh rfl | refine out_upd ?_ (by decide)))) (out_mkh rfl) ⟨rfl,rfl,rfl,rfl,trivial⟩
    refine And.intro (show (0 : Int) ≤ i ∧ (i : Int) < s.length by omega) ?_
    refine jn_at (fun x : List AV × Nat => PRT s done i x.1 x.2) (fun x => x.1.length = 258 ∧ AllOne x.1 ∧ NNL x.1 ∧ ((elL (s.drop i) = none ∧ x.2 = 0) ∨ ∃ e rest,elL (s.drop i) = some (e,rest) ∧ x.1 = refA e ∧ 1 ≤ x.2 ∧ i + x.2 ≤ s.length ∧ rest = s.drop (i + x.2))) ?_ ?_
    ·have zl : ∀ k,k < 258 → k < z258.length := fun k h => by rw [z258_len]; exact h
     rw [ec]
     rcases Bool.eq_false_or_eq_true (c == 42) with b1 | b1
     ·have d1 : decide ((c.toNat : Int) = 42) = true := by rw [e42]; exact b1
      rw [b1] at hel
      refine cond_t d1 ?_
      refine And.intro (zl _ (by decide)) ?_
      refine ⟨(refA .star,1),⟨refA_len _,refA_all _,nnl_refA _,.inr ⟨.star,_,hel,rfl,Nat.le_refl 1,by show i + 1 ≤ _; omega,rfl⟩⟩,?_⟩
      refine toT _ _ _ (nnl_refA _) ⟨rfl,rfl,rfl,rfl,rfl⟩ rfl rfl rfl rfl (congrArg (fun l => some (AO.cl false l)) ?_)
      show z258.set 0 (.bool true) = refA .star
      rw [z258_eq]; unfold refA; rw [setB_star]; rfl
     ·have d1 : decide ((c.toNat : Int) = 42) = false := by rw [e42]; exact b1
      rw [b1] at hel
      refine cond_f d1 ?_
      refine jn_plain ?_
      rcases Bool.eq_false_or_eq_true (c == 63) with b2 | b2
      ·have d2 : decide ((c.toNat : Int) = 63) = true := by rw [e63]; exact b2
       rw [b2] at hel
       refine cond_t d2 ?_
       refine ⟨Nat,fun k => k ≤ 256,fun k => mks [(0,.str s),(2,.ref 0 0),(4,.ref 1 0),(5,.int .i64 i),(6,.ref 3 0),(7,.int .i64 1),(8,.int .i64 k)] (PRH done ++ [(3,.cl false (CE false false (qmAt k)))]) 4,fun k => 256 - k,0,Nat.zero_le _,?_,?_⟩
       ·refine sub_to ⟨rfl,rfl,rfl,rfl,rfl,rfl,rfl,trivial⟩ ?_ (Nat.le_refl 4)
        exact heap_is [0,1,2,3] (fun _ => none) (by (try dsimp only [St.set,mks,PRH]); (repeat (first | exact out_mkh rfl | refine out_upd ?_ (by decide)))) (out_mkh rfl) ⟨rfl,rfl,rfl,(by rw [qmAt_start,← z258_eq]; rfl),trivial⟩
       ·intro k hk
        show awp _ _ _ (mks [(0,.str s),(2,.ref 0 0),(4,.ref 1 0),(5,.int .i64 i),(6,.ref 3 0),(7,.int .i64 1),(8,.int .i64 k)] (PRH done ++ [(3,.cl false (CE false false (qmAt k)))]) 4)
        refine cond_split (fun h => ?_) (fun h => ?_)
        ·have hk2 : (k : Int) < 256 := of_decide_eq_true h
         have ek : (k : Int).toNat = k := by omega
         have hlen : 0 + 2 + (k : Int).toNat * 1 < (CE false false (qmAt k)).length := by rw [CE_len (qmAt_len _)]; omega
         refine And.intro (show (0 : Int) ≤ k ∧ (k : Int) < 256 by omega) ?_
         refine And.intro hlen ?_
         refine And.intro (by omega) ?_
         refine ⟨k + 1,by show k + 1 ≤ 256; omega,by show 256 - (k + 1) < 256 - k; omega,?_⟩
         refine sub_to ⟨rfl,rfl,rfl,rfl,rfl,rfl,rfl,trivial⟩ ?_ (Nat.le_refl 4)
         refine heap_is [0,1,2,3] (fun _ => none) (by (try dsimp only [St.set,mks,PRH]); (repeat (first | exact out_mkh rfl | refine out_upd ?_ (by decide)))) (out_mkh rfl) ⟨rfl,rfl,rfl,?_,trivial⟩
         show some (AO.cl false ((CE false false (qmAt k)).set (0 + 2 + (k : Int).toNat * 1) (.bool (!decide ((k : Int) = 47))))) = some (AO.cl false (CE false false (qmAt (k + 1))))
         rw [ek,CE_set,qmAt_set]
        ·have hk3 : k = 256 := by have := of_decide_eq_false h; omega
         subst hk3
         refine ⟨(refA .any,1),⟨refA_len _,refA_all _,nnl_refA _,.inr ⟨.any,_,hel,rfl,Nat.le_refl 1,by show i + 1 ≤ _; omega,rfl⟩⟩,?_⟩
         refine toT _ _ _ (nnl_refA _) ⟨rfl,rfl,rfl,rfl,rfl⟩ rfl rfl rfl rfl (congrArg (fun l => some (AO.cl false l)) ?_)
         show CE false false (qmAt 256) = refA .any
         rw [qmAt_end]; rfl
      ·have d2 : decide ((c.toNat : Int) = 63) = false := by rw [e63]; exact b2
       rw [b2] at hel
       refine cond_f d2 ?_
       refine jn_plain ?_
       have ld : (s.drop i).length ≤ 1000000000 := by rw [List.length_drop]; omega
       rcases Bool.eq_false_or_eq_true (c == 91) with b3 | b3
       ·have d3 : decide ((c.toNat : Int) = 91) = true := by rw [e91]; exact b3
        rw [b3] at hel
        have hel2 : elL (s.drop i) = classL (s.drop (i + 1)) := hel
        refine cond_t d3 ?_
        refine And.intro (show (0 : Int) ≤ i ∧ (i : Int) ≤ s.length ∧ (s.length : Int) ≤ s.length by omega) ?_
        have dd : (s.drop i).drop 1 = s.drop (i + 1) := by rw [List.drop_drop]
        refine t_rclass (s := (s.drop (i : Int).toNat).take ((s.length : Int).toNat - (i : Int).toNat)) (by rw [cut_str]; exact ld) (by rw [cut_str,List.length_drop]; omega) ?_ ?_
        ·intro hn cs h1 h2 h3
         rw [cut_str,dd] at hn
         refine ⟨_,rfl,?_⟩
         refine ⟨_,rfl,?_⟩
         refine And.intro (And.intro h1 h2) ?_
         refine And.intro (show 0 + 258 ≤ z258.length by rw [z258_len]; exact Nat.le_refl _) ?_
         refine ⟨cs,lay_all (by rw [h1,z258_len]),?_⟩
         exact ⟨(cs,0),⟨h1,h2,h3,.inl ⟨by rw [hel2]; exact hn,rfl⟩⟩,toT _ _ _ h3 ⟨rfl,rfl,rfl,rfl,rfl⟩ rfl rfl rfl rfl rfl⟩
        ·intro e rest he
         rw [cut_str,dd] at he
         have hrl := class_len he
         have hsf := el_suffix hlt (hel2.trans he)
         rw [List.length_drop] at hrl
         have en : (((s.drop (i : Int).toNat).take ((s.length : Int).toNat - (i : Int).toNat)).length - rest.length : Nat) = s.length - i - rest.length := by rw [cut_str,List.length_drop]
         refine ⟨_,rfl,?_⟩
         refine ⟨_,rfl,?_⟩
         refine And.intro (And.intro (refA_len e) (refA_all e)) ?_
         refine And.intro (show 0 + 258 ≤ z258.length by rw [z258_len]; exact Nat.le_refl _) ?_
         refine ⟨refA e,lay_all (by rw [refA_len,z258_len]),?_⟩
         refine ⟨(refA e,s.length - i - rest.length),⟨refA_len e,refA_all e,nnl_refA e,.inr ⟨e,rest,hel2.trans he,rfl,by show 1 ≤ s.length - i - rest.length; omega,by show i + (s.length - i - rest.length) ≤ s.length; omega,?_⟩⟩,toT _ _ _ (nnl_refA e) ⟨rfl,rfl,rfl,rfl,rfl⟩ (congrArg some (eI (by rw [en]))) rfl rfl rfl rfl⟩
         show rest = s.drop (i + (s.length - i - rest.length))
         rw [show i + (s.length - i - rest.length) = s.length - rest.length by omega]
         exact hsf
       ·have d3 : decide ((c.toNat : Int) = 91) = false := by rw [e91]; exact b3
        rw [b3] at hel
        refine cond_f d3 ?_
        refine And.intro (show (0 : Int) ≤ i ∧ (i : Int) ≤ s.length ∧ (s.length : Int) ≤ s.length by omega) ?_
        refine ⟨s.drop i,by rw [cut_str]; rfl,ld,?_⟩
        cases hb : byte1 (s.drop i) with
        | none =>
         rw [hb] at hel
         rw [one_none hb]
         refine ⟨_,rfl,?_⟩
         refine ⟨_,rfl,?_⟩
         refine And.intro (zl _ (by decide)) ?_
         refine And.intro (by decide) ?_
         refine And.intro (by rw [List.length_set]; exact zl _ (by decide)) ?_
         have ne : ((z258.set (0 + 1) (.bool true)).set (0 + 2 + (0 : Int).toNat * 1) (.bool true)) = CE false true (noTab.set 0 true) := by rw [z258_eq]; rfl
         refine ⟨(CE false true (noTab.set 0 true),0),⟨CE_len (by rw [List.length_set]; exact List.length_replicate),CE_all _ _ _,nnl_CE _ _ _,.inl ⟨hel,rfl⟩⟩,?_⟩
         exact toT _ _ _ (nnl_CE _ _ _) ⟨rfl,rfl,rfl,rfl,rfl⟩ rfl rfl rfl rfl (congrArg (fun l => some (AO.cl false l)) ne)
        | some x =>
         obtain ⟨d,m⟩ := x
         rw [hb] at hel
         obtain ⟨hm1,hm2⟩ := byte1_pos hb
         rw [List.length_drop] at hm2
         rw [one_some hb]
         have hd8 := d.toNat_lt
         have ed : (d.toNat : Int).toNat = d.toNat := by omega
         refine ⟨_,rfl,?_⟩
         refine ⟨_,rfl,?_⟩
         refine And.intro (zl _ (by decide)) ?_
         refine And.intro (show (0 : Int) ≤ d.toNat ∧ (d.toNat : Int) < 256 by omega) ?_
         refine And.intro (by rw [List.length_set]; exact zl _ (by omega)) ?_
         have ne : ((z258.set (0 + 1) (.bool true)).set (0 + 2 + (d.toNat : Int).toNat * 1) (.bool true)) = refA (.lit d) := by
          have h1 : z258.set (0 + 1) (.bool true) = CE false true noTab := by rw [z258_eq]; rfl
          rw [h1,ed,CE_set]
          unfold refA; rw [setB_lit]; rfl
         refine ⟨(refA (.lit d),m),⟨refA_len _,refA_all _,nnl_refA _,.inr ⟨.lit d,_,hel,rfl,hm1,by show i + m ≤ _; omega,rfl⟩⟩,?_⟩
         exact toT _ _ _ (nnl_refA _) ⟨rfl,rfl,rfl,rfl,rfl⟩ rfl rfl rfl rfl (congrArg (fun l => some (AO.cl false l)) ne)
    ·rintro ⟨cs,n⟩ ⟨hl,hall,hnn,hcase⟩
     dsimp only at hl hall hnn hcase
     show awp _ _ _ (PRT s done i cs n)
     rcases hcase with ⟨hnone,rfl⟩ | ⟨e,rest,hel3,rfl,hn1,hin,hrest⟩
     ·rw [hnone] at hinv
      dsimp only at hinv
      rw [List.append_nil] at hinv
      refine ⟨[.bool false,.sl 2 0 done.length],⟨rfl,rfl⟩,?_⟩
      refine And.intro ⟨rfl,two_one rfl rfl⟩ ?_
      refine And.intro (Nat.le_refl 2) ?_
      refine ⟨_,lay_all rfl,?_⟩
      refine fin _ done false false ?_ rfl rfl rfl rfl (show 4 ≤ 100 by decide)
      rw [hP done false hinv,Bool.false_and]
     ·rw [hel3] at hinv
      dsimp only at hinv
      rw [hrest] at hinv
      have c2 : decide ((n : Int) = 0) = false := decide_eq_false (by omega)
      have fl := flatR_len done
      refine cond_f c2 ?_
      refine ⟨_,rfl,?_⟩
      refine ⟨refA e,⟨by rw [List.drop_zero,List.take_of_length_le (by rw [hl]; exact Nat.le_refl _)],hl⟩,?_⟩
      refine x_bsliceO (fill_one rfl hl z258_len) ?_
      refine And.intro ⟨(show (2 : Nat) ≠ 4 by decide),rfl,rfl,rfl,fl,(show (0 + 1) * 258 ≤ (refA e).length by rw [hl]; exact Nat.le_refl _),hall,(show (done.length + 1) * 258 ≤ 140737488355328 by omega)⟩ ?_
      refine ⟨flatR (done ++ [e]),?_,?_⟩
      ·rw [flatR_app,Nat.zero_mul,List.drop_zero,Nat.one_mul,List.take_of_length_le (by rw [hl]; exact Nat.le_refl _)]
      refine And.intro (show 0 + 1 < 2 by decide) ?_
      refine And.intro (by omega) ?_
      refine ⟨(i + n,done ++ [e]),⟨hin,by rw [List.length_append,List.length_singleton]; show done.length + 1 ≤ i + n; omega,?_⟩,by show s.length - (i + n) < s.length - i; omega,?_⟩
      ·dsimp only
       rw [hinv,List.append_assoc]; rfl
      ·refine sub_ren [0,1,5] rfl (by decide) ⟨⟨_,rfl,rfl⟩,⟨_,rfl,⟨0,rfl,rfl⟩⟩,⟨_,rfl,⟨1,rfl,rfl⟩⟩,⟨_,rfl,eI ?_⟩,trivial⟩ ⟨⟨0,_,rfl,rfl,?_⟩,⟨1,_,rfl,rfl,?_⟩,⟨5,_,rfl,rfl,?_⟩,trivial⟩
       ·show (i : Int) + (n : Int) = ((i + n : Nat) : Int); omega
       ·exact ⟨_,rfl,eN nnl_nilC rfl⟩
       ·refine ⟨_,rfl,.inr ⟨_,_,rfl,rfl,_,_,rfl,⟨5,rfl,?_⟩,rfl⟩⟩
        show AV.sl 5 0 (done.length + 1) = AV.sl 5 0 (done ++ [e]).length
        rw [List.length_append]; rfl
       ·exact ⟨_,rfl,eN (nnl_flatR _) rfl⟩
   ·have hge : ¬ i < s.length := by have := of_decide_eq_false c1; omega
    rw [elsP_end hge] at hinv
    dsimp only at hinv
    rw [List.append_nil] at hinv
    repeat ((conv => whnf); first | refine cond_t (by first | (simp only [c1]; done) | fail) ?_ | refine cond_f (by first | (simp only [c1,eq_self]; done) | fail) ?_ | refine And.intro (by omega) ?_ | refine And.intro ⟨rfl,by omega,by omega⟩ ?_ | refine And.intro ⟨rfl,by decide,by omega,by omega⟩ ?_)
    refine ⟨[.bool false,.sl 2 0 done.length],⟨rfl,rfl⟩,?_⟩
    refine And.intro ⟨rfl,two_one rfl rfl⟩ ?_
    refine And.intro (Nat.le_refl 2) ?_
    refine ⟨_,lay_all rfl,?_⟩
    refine fin _ done false (decide ((0 : Int) < s.length)) ?_ rfl rfl rfl rfl (show 3 ≤ 100 by decide)
    rw [hP done true hinv,Bool.true_and]
    congr 3
    cases s with
    | nil => rfl
    | cons a l =>
     have e1 : decide ((0 : Int) < ((a :: l).length : Nat)) = true := decide_eq_true (by simp)
     rw [e1]; rfl

end Qk

/-
  Chapter 32: the reference: globs.
-/
namespace Qk
open Go Go.RowKit

def flatRC (l : List Comp) : List AV := l.flatMap rCpA
theorem flatRC_len (l : List Comp) : (flatRC l).length = l.length * 2 := by
 induction l with
 | nil => rfl
 | cons e l ih => rw [flatRC,List.flatMap_cons,List.length_append]; unfold flatRC at ih; rw [ih,List.length_cons]; simp [rCpA]; omega
theorem flatRC_app (l : List Comp) (c : Comp) : flatRC (l ++ [c]) = flatRC l ++ rCpA c := by simp [flatRC]
theorem nnl_rCpA (c : Comp) : NNL (rCpA c) := nnl_cons (plain_bool _).nn (nnl_one (nn_ilist _ _ _))
theorem nnl_flatRC (l : List Comp) : NNL (flatRC l) := nnl_flat nnl_rCpA l
theorem compsP_step {ps : List (List UInt8)} {i : Nat} (h : i < ps.length) : compsP (ps.drop i) = match (parseP (ps[i]'h)).2 with
  | false => ([],false)
  | true => ((parseP (ps[i]'h)).1 :: (compsP (ps.drop (i + 1))).1,(compsP (ps.drop (i + 1))).2) := by
 rw [List.drop_eq_getElem_cons h,compsP] <;> (cases (parseP (ps[i]'h)).2 <;> rfl)

set_option maxRecDepth 4000 in
set_option maxHeartbeats 1000000 in
theorem d_ref_glob : Does irq_glob C_quiltref32_glob := by
 intro (g : List UInt8) hg
 replace hg : g.length ≤ 1000000000 := hg
 refine ⟨g,rfl,hg,?_⟩
 obtain ⟨ps,hps⟩ : ∃ ps,ps = partsL g := ⟨_,rfl⟩
 have pl := parts_le g
 rw [← hps] at pl
 have fin : ∀ (S : St) (done : List Comp) (ok : Bool),globP g = (done,ok) → S.env 2 = some (.sl 0 0 done.length) → S.env 3 = some (.bool ok) → S.heap 0 = some (.ls false 2 (flatRC done)) → S.next ≤ 100 →
   retK irq_glob.res (C_quiltref32_glob.res g) .ret S := by
  intro S done ok hres h1 h2 h3 h4
  refine ⟨_,sub_frz [0] (env := [(2,rCpsA done),(3,.bool ok)]) (heap := []) (nx := 100) ?_ trivial h4,?_⟩
  ·refine ⟨⟨_,h1,.inr (.inr ⟨0,0,false,flatRC done,rfl,by decide,h3,?_,?_,nnl_flatRC _⟩)⟩,⟨_,h2,fzV_refl _ _ _⟩,trivial⟩
   ·show (0 + done.length) * 2 ≤ _
    rw [flatRC_len]; omega
   ·show flatRC done = ((flatRC done).drop (0 * 2)).take (done.length * 2)
    rw [Nat.zero_mul,List.drop_zero,List.take_of_length_le (by rw [flatRC_len]; exact Nat.le_refl _)]
  ·show AV.tup [rCpsA done,.bool ok] = .tup [rCpsA (globP g).1,.bool (globP g).2]
   rw [hres]
 have hG : ∀ (done : List Comp) (ok : Bool),compsP ps = (done,ok) → globP g = (done,ok && (!decide (ps = []) && decide (g.length ≤ 200))) := by
  intro done ok h
  unfold globP
  rw [← hps,h]
 refine ⟨Nat × List Comp,fun x => x.1 ≤ ps.length ∧ x.2.length = x.1 ∧ compsP ps = (x.2 ++ (compsP (ps.drop x.1)).1,(compsP (ps.drop x.1)).2),
  fun x => mks [(0,.str g),(4,.sl 0 0 x.2.length),(5,.sl 1 0 ps.length),(6,.int .i64 x.1)] [(0,.ls false 2 (flatRC x.2)),(1,.ls false 1 (strs ps))] 2,fun x => ps.length - x.1,(0,[]),⟨Nat.zero_le _,rfl,rfl⟩,?_,?_⟩
 ·refine sub_ren [0,1] rfl (by decide) ⟨⟨_,rfl,rfl⟩,⟨_,rfl,⟨0,rfl,rfl⟩⟩,⟨_,rfl,⟨1,rfl,eSl ?_⟩⟩,⟨_,rfl,rfl⟩,trivial⟩ ⟨⟨0,_,rfl,rfl,?_⟩,⟨1,_,rfl,rfl,?_⟩,trivial⟩
  ·show (partsL g).length = _; rw [hps]
  ·exact ⟨_,rfl,eN nnl_nil rfl⟩
  ·exact ⟨_,rfl,eN (nnl_strs _) (by rw [hps]; rfl)⟩
 ·rintro ⟨i,done⟩ ⟨hi,hdn,hinv⟩
  dsimp only at hi hdn hinv
  show awp _ _ _ (mks [(0,.str g),(4,.sl 0 0 done.length),(5,.sl 1 0 ps.length),(6,.int .i64 i)] [(0,.ls false 2 (flatRC done)),(1,.ls false 1 (strs ps))] 2)
  refine cond_split (fun h => ?_) (fun h => ?_)
  ·have hT : (i : Int) < ps.length := of_decide_eq_true h
   have hlt : i < ps.length := by omega
   rw [compsP_step hlt] at hinv
   obtain ⟨s,hs⟩ : ∃ s,s = ps[i]'hlt := ⟨_,rfl⟩
   rw [← hs] at hinv
   have hsl : s.length ≤ 1000000000 := by
    have := pl.1 s (by rw [hs]; exact List.getElem_mem _)
    omega
   refine And.intro ⟨rfl,by omega,by omega⟩ ?_
   refine ⟨.str s,?_,?_⟩
   ·have e0 : (0 + (i : Int).toNat) * 1 = i := by omega
    rw [e0,strs_get hlt,List.getD,List.getElem?_eq_getElem hlt,hs]; rfl
   refine ⟨s,rfl,hsl,?_⟩
   refine ⟨_,rfl,?_⟩
   refine ⟨_,rfl,?_⟩
   refine And.intro ⟨rfl,two_one rfl rfl⟩ ?_
   refine And.intro (Nat.le_refl 2) ?_
   refine ⟨_,lay_all rfl,?_⟩
   rcases Bool.eq_false_or_eq_true ((parseP s).2) with c1 | c1
   ·have c2 : (!(parseP s).2) = false := by rw [c1]; rfl
    rw [c1] at hinv
    dsimp only at hinv
    refine cond_f c2 ?_
    refine ⟨rCpA (parseP s).1,⟨rfl,rfl⟩,?_⟩
    have fl := flatRC_len done
    refine And.intro ⟨(show (0 : Nat) ≠ 3 by decide),rfl,rfl,rfl,fl,(show (0 + 1) * 2 ≤ 2 by decide),two_one rfl rfl,(show (done.length + 1) * 32 ≤ 140737488355328 by omega)⟩ ?_
    refine ⟨flatRC (done ++ [(parseP s).1]),(by rw [flatRC_app]; rfl),?_⟩
    refine And.intro (by omega) ?_
    refine ⟨(i + 1,done ++ [(parseP s).1]),⟨hlt,by rw [List.length_append,List.length_singleton,hdn],?_⟩,by show ps.length - (i + 1) < ps.length - i; omega,?_⟩
    ·dsimp only
     rw [hinv,List.append_assoc]; rfl
    ·refine sub_ren [4,1] rfl (by decide) ⟨⟨_,rfl,rfl⟩,⟨_,rfl,⟨4,rfl,eSl ?_⟩⟩,⟨_,rfl,⟨1,rfl,rfl⟩⟩,⟨_,rfl,eI (by omega)⟩,trivial⟩ ⟨⟨4,_,rfl,rfl,?_⟩,⟨1,_,rfl,rfl,?_⟩,trivial⟩
     ·show done.length + 1 = (done ++ [(parseP s).1]).length; rw [List.length_append]; rfl
     ·exact ⟨_,rfl,eN (nnl_flatRC _) rfl⟩
     ·exact ⟨_,rfl,eN (nnl_strs _) rfl⟩
   ·have c2 : (!(parseP s).2) = true := by rw [c1]; rfl
    rw [c1] at hinv
    dsimp only at hinv
    rw [List.append_nil] at hinv
    refine cond_t c2 ?_
    refine fin _ done false ?_ rfl rfl rfl (show 3 ≤ 100 by decide)
    rw [hG done false hinv,Bool.false_and]
  ·have hF : ¬ (i : Int) < ps.length := of_decide_eq_false h
   have hie : ps.drop i = [] := List.drop_of_length_le (by omega)
   rw [hie] at hinv
   have hinv2 : compsP ps = (done,true) := by rw [hinv]; simp [compsP]
   have hG2 := hG done true hinv2
   rw [Bool.true_and] at hG2
   rcases Bool.eq_false_or_eq_true (decide ((0 : Int) < ps.length)) with c1 | c1
   ·repeat ((conv => whnf); first | refine cond_t (by first | (simp only [c1,eq_self]; done) | fail) ?_ | refine cond_f (by first | (simp only [c1,cond_true,cond_false,Bool.not_true,Bool.not_false,eq_self,decide_true,decide_false]; done) | fail) ?_ | refine And.intro (by omega) ?_ | refine And.intro ⟨rfl,by omega,by omega⟩ ?_ | refine And.intro ⟨rfl,by decide,by omega,by omega⟩ ?_)
    refine fin _ done _ ?_ rfl rfl rfl (show 2 ≤ 100 by decide)
    have hne : decide (ps = []) = false := decide_eq_false (fun e => by rw [e] at c1; cases c1)
    have h2 : decide ((g.length : Int) ≤ 200) = decide (g.length ≤ 200) := by
     by_cases h : g.length ≤ 200
     ·rw [decide_eq_true h]; exact decide_eq_true (by omega)
     ·rw [decide_eq_false h]; exact decide_eq_false (by omega)
    rw [hG2,hne,c1,h2]; rfl
   ·repeat ((conv => whnf); first | refine cond_t (by first | (simp only [c1]; done) | fail) ?_ | refine cond_f (by first | (simp only [c1,eq_self]; done) | fail) ?_ | refine And.intro (by omega) ?_ | refine And.intro ⟨rfl,by omega,by omega⟩ ?_ | refine And.intro ⟨rfl,by decide,by omega,by omega⟩ ?_)
    refine fin _ done _ ?_ rfl rfl rfl (show 2 ≤ 100 by decide)
    have hne : ps = [] := List.length_eq_zero_iff.1 (by have := of_decide_eq_false c1; omega)
    rw [hG2,hne]; rfl

end Qk
