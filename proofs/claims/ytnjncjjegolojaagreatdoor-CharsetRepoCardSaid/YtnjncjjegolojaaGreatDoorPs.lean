/-
  Chapter 32: the reference: matching.
-/
import Derived.Test.YtnjncjjegolojaaGreatDoorPr
import Derived.Test.YtnjncjjegolojaaGreatDoorPf

/-
  Chapter 32: the forms of the reference (printed by a program).
-/
namespace Qk
open Go Go.RowKit

/-- quilt/quiltref32.component1 -/
def irq_component1 : IF := ⟨(.seq (.ops [⟨some 4,none,.mov (.const (.bool false))⟩])
 (.seq (.ops [⟨some 10,none,.mov (t 0)⟩,⟨some 11,none,.lenL (t 10)⟩,⟨some 12,none,.bin .add (t 11) (ci 1)⟩,⟨some 13,none,.mksl 1 1 [.bool false] (t 12) (t 12)⟩,⟨some 5,none,.mov (t 13)⟩])
 (.seq (.ops [⟨some 14,none,.mov (t 5)⟩,⟨some 15,none,.idxL 1 (t 14) (ci 0)⟩,
  ⟨none,none,.stor1 (t 15) (.const (.bool true))⟩])
 (.seq (.seq (.ops [⟨some 6,none,.mov (ci 0)⟩])
 (.jn (.block 0 (.loop (.seq (.seq (.ops [⟨some 16,none,.mov (t 6)⟩,⟨some 17,none,.mov (t 1)⟩,⟨some 18,none,.lenS (t 17)⟩,⟨some 19,none,.bin .leq (t 16) (t 18)⟩])
 (.cond (t 19) .skip
 (.exit 0)))
 (.seq (.block 1 (.seq (.seq (.ops [⟨some 7,none,.mov (ci 0)⟩])
 (.block 2 (.loop (.seq (.seq (.ops [⟨some 22,none,.mov (t 7)⟩,⟨some 23,none,.mov (t 0)⟩,⟨some 24,none,.lenL (t 23)⟩,
  ⟨some 25,none,.bin .lss (t 22) (t 24)⟩])
 (.cond (t 25) .skip
 (.exit 2)))
 (.seq (.block 3 (.jn (.seq (.ops [⟨some 28,none,.mov (t 5)⟩,⟨some 29,none,.mov (t 7)⟩,⟨some 30,none,.idxL 1 (t 28) (t 29)⟩,⟨some 31,none,.load1 (t 30)⟩,⟨some 32,none,.mov (t 31)⟩,⟨some 33,some (32,true),.mov (t 0)⟩,
  ⟨some 34,some (32,true),.mov (t 7)⟩,⟨some 35,some (32,true),.idxL 258 (t 33) (t 34)⟩,⟨some 36,some (32,true),.fldA 0 (t 35)⟩,⟨some 37,some (32,true),.load1 (t 36)⟩,⟨some 38,none,.pick (t 32) (t 37) (.const (.bool false))⟩])
 (.cond (t 38) (.ops [⟨some 39,none,.mov (t 5)⟩,⟨some 40,none,.mov (t 7)⟩,
  ⟨some 41,none,.bin .add (t 40) (ci 1)⟩,⟨some 42,none,.idxL 1 (t 39) (t 41)⟩,⟨none,none,.stor1 (t 42) (.const (.bool true))⟩])
 .skip))))
 (.ops [⟨some 26,none,.mov (t 7)⟩,⟨some 27,none,.bin .add (t 26) (ci 1)⟩,⟨some 7,none,.mov (t 27)⟩]))))))
 (.seq (.seq (.ops [⟨some 43,none,.mov (t 6)⟩,⟨some 44,none,.mov (t 1)⟩,
  ⟨some 45,none,.lenS (t 44)⟩,⟨some 46,none,.bin .eql (t 43) (t 45)⟩])
 (.cond (t 46) (.exit 0)
 .skip))
 (.seq (.ops [⟨some 47,none,.mov (t 0)⟩,⟨some 48,none,.lenL (t 47)⟩,⟨some 49,none,.bin .add (t 48) (ci 1)⟩,⟨some 50,none,.mksl 1 1 [.bool false] (t 49) (t 49)⟩,⟨some 8,none,.mov (t 50)⟩])
 (.seq (.seq (.ops [⟨some 9,none,.mov (ci 0)⟩])
 (.block 4 (.loop (.seq (.seq (.ops [⟨some 51,none,.mov (t 9)⟩,
  ⟨some 52,none,.mov (t 0)⟩,⟨some 53,none,.lenL (t 52)⟩,⟨some 54,none,.bin .lss (t 51) (t 53)⟩])
 (.cond (t 54) .skip
 (.exit 4)))
 (.seq (.block 5 (.jn (.seq (.ops [⟨some 57,none,.mov (t 5)⟩,⟨some 58,none,.mov (t 9)⟩,⟨some 59,none,.idxL 1 (t 57) (t 58)⟩,⟨some 60,none,.load1 (t 59)⟩,
  ⟨some 61,none,.mov (t 60)⟩,⟨some 62,some (61,true),.mov (t 0)⟩,⟨some 63,some (61,true),.mov (t 9)⟩,⟨some 64,some (61,true),.idxL 258 (t 62) (t 63)⟩,⟨some 65,some (61,true),.fldA 0 (t 64)⟩,⟨some 66,some (61,true),.load1 (t 65)⟩,
  ⟨some 67,none,.pick (t 61) (t 66) (.const (.bool false))⟩])
 (.cond (t 67) (.ops [⟨some 68,none,.mov (t 8)⟩,⟨some 69,none,.mov (t 9)⟩,⟨some 70,none,.idxL 1 (t 68) (t 69)⟩,⟨none,none,.stor1 (t 70) (.const (.bool true))⟩])
 (.seq (.ops [⟨some 71,none,.mov (t 5)⟩,⟨some 72,none,.mov (t 9)⟩,⟨some 73,none,.idxL 1 (t 71) (t 72)⟩,
  ⟨some 74,none,.load1 (t 73)⟩,⟨some 75,none,.mov (t 74)⟩,⟨some 76,some (75,true),.mov (t 0)⟩,⟨some 77,some (75,true),.mov (t 9)⟩,⟨some 78,some (75,true),.mov (t 1)⟩,⟨some 79,some (75,true),.mov (t 6)⟩,
  ⟨some 80,some (75,true),.idxS (t 78) (t 79)⟩,⟨some 81,some (75,true),.idxL 258 (t 76) (t 77)⟩,⟨some 82,some (75,true),.fldA 2 (t 81)⟩,⟨some 83,some (75,true),.idxA 1 256 (t 82) (t 80)⟩,⟨some 84,some (75,true),.load1 (t 83)⟩,⟨some 85,none,.pick (t 75) (t 84) (.const (.bool false))⟩])
 (.cond (t 85) (.ops [⟨some 86,none,.mov (t 8)⟩,
  ⟨some 87,none,.mov (t 9)⟩,⟨some 88,none,.bin .add (t 87) (ci 1)⟩,⟨some 89,none,.idxL 1 (t 86) (t 88)⟩,⟨none,none,.stor1 (t 89) (.const (.bool true))⟩])
 .skip))))))
 (.ops [⟨some 55,none,.mov (t 9)⟩,⟨some 56,none,.bin .add (t 55) (ci 1)⟩,⟨some 9,none,.mov (t 56)⟩]))))))
 (.ops [⟨some 90,none,.mov (t 8)⟩,
  ⟨some 5,none,.mov (t 90)⟩]))))))
 (.ops [⟨some 20,none,.mov (t 6)⟩,⟨some 21,none,.bin .add (t 20) (ci 1)⟩,⟨some 6,none,.mov (t 21)⟩])))))))
 (.seq (.ops [⟨some 91,none,.mov (t 5)⟩,⟨some 92,none,.mov (t 0)⟩,⟨some 93,none,.lenL (t 92)⟩,⟨some 94,none,.idxL 1 (t 91) (t 93)⟩,
  ⟨some 95,none,.load1 (t 94)⟩,⟨some 4,none,.mov (t 95)⟩])
 .ret))))),[.tmp 4]⟩
/-- quilt/quiltref32.after -/
def irq_after : IF := ⟨(.seq (.ops [⟨some 4,none,.mov (.const (.slice none 0 0))⟩])
 (.seq (.ops [⟨some 10,none,.mov (t 0)⟩,⟨some 11,none,.lenL (t 10)⟩,⟨some 12,none,.bin .add (t 11) (ci 1)⟩,⟨some 13,none,.mksl 1 1 [.bool false] (t 12) (t 12)⟩,⟨some 5,none,.mov (t 13)⟩])
 (.seq (.ops [⟨some 14,none,.mov (t 5)⟩,⟨some 15,none,.idxL 1 (t 14) (ci 0)⟩,
  ⟨none,none,.stor1 (t 15) (.const (.bool true))⟩])
 (.seq (.seq (.ops [⟨some 6,none,.mov (ci 0)⟩])
 (.jn (.block 0 (.loop (.seq (.seq (.ops [⟨some 16,none,.mov (t 6)⟩,⟨some 17,none,.mov (t 1)⟩,⟨some 18,none,.lenL (t 17)⟩,⟨some 19,none,.bin .leq (t 16) (t 18)⟩])
 (.cond (t 19) .skip
 (.exit 0)))
 (.seq (.block 1 (.seq (.seq (.ops [⟨some 7,none,.mov (ci 0)⟩])
 (.block 2 (.loop (.seq (.seq (.ops [⟨some 22,none,.mov (t 7)⟩,⟨some 23,none,.mov (t 0)⟩,⟨some 24,none,.lenL (t 23)⟩,
  ⟨some 25,none,.bin .lss (t 22) (t 24)⟩])
 (.cond (t 25) .skip
 (.exit 2)))
 (.seq (.block 3 (.jn (.seq (.ops [⟨some 28,none,.mov (t 5)⟩,⟨some 29,none,.mov (t 7)⟩,⟨some 30,none,.idxL 1 (t 28) (t 29)⟩,⟨some 31,none,.load1 (t 30)⟩,⟨some 32,none,.mov (t 31)⟩,⟨some 33,some (32,true),.mov (t 0)⟩,
  ⟨some 34,some (32,true),.mov (t 7)⟩,⟨some 35,some (32,true),.idxL 2 (t 33) (t 34)⟩,⟨some 36,some (32,true),.fldA 0 (t 35)⟩,⟨some 37,some (32,true),.load1 (t 36)⟩,⟨some 38,none,.pick (t 32) (t 37) (.const (.bool false))⟩])
 (.cond (t 38) (.ops [⟨some 39,none,.mov (t 5)⟩,⟨some 40,none,.mov (t 7)⟩,
  ⟨some 41,none,.bin .add (t 40) (ci 1)⟩,⟨some 42,none,.idxL 1 (t 39) (t 41)⟩,⟨none,none,.stor1 (t 42) (.const (.bool true))⟩])
 .skip))))
 (.ops [⟨some 26,none,.mov (t 7)⟩,⟨some 27,none,.bin .add (t 26) (ci 1)⟩,⟨some 7,none,.mov (t 27)⟩]))))))
 (.seq (.seq (.ops [⟨some 43,none,.mov (t 6)⟩,⟨some 44,none,.mov (t 1)⟩,
  ⟨some 45,none,.lenL (t 44)⟩,⟨some 46,none,.bin .eql (t 43) (t 45)⟩])
 (.cond (t 46) (.exit 0)
 .skip))
 (.seq (.ops [⟨some 47,none,.mov (t 0)⟩,⟨some 48,none,.lenL (t 47)⟩,⟨some 49,none,.bin .add (t 48) (ci 1)⟩,⟨some 50,none,.mksl 1 1 [.bool false] (t 49) (t 49)⟩,⟨some 8,none,.mov (t 50)⟩])
 (.seq (.seq (.ops [⟨some 9,none,.mov (ci 0)⟩])
 (.block 4 (.loop (.seq (.seq (.ops [⟨some 51,none,.mov (t 9)⟩,
  ⟨some 52,none,.mov (t 0)⟩,⟨some 53,none,.lenL (t 52)⟩,⟨some 54,none,.bin .lss (t 51) (t 53)⟩])
 (.cond (t 54) .skip
 (.exit 4)))
 (.seq (.block 5 (.jn (.seq (.ops [⟨some 57,none,.mov (t 5)⟩,⟨some 58,none,.mov (t 9)⟩,⟨some 59,none,.idxL 1 (t 57) (t 58)⟩,⟨some 60,none,.load1 (t 59)⟩,
  ⟨some 61,none,.mov (t 60)⟩,⟨some 62,some (61,true),.mov (t 0)⟩,⟨some 63,some (61,true),.mov (t 9)⟩,⟨some 64,some (61,true),.idxL 2 (t 62) (t 63)⟩,⟨some 65,some (61,true),.fldA 0 (t 64)⟩,⟨some 66,some (61,true),.load1 (t 65)⟩,
  ⟨some 67,none,.pick (t 61) (t 66) (.const (.bool false))⟩])
 (.cond (t 67) (.ops [⟨some 68,none,.mov (t 8)⟩,⟨some 69,none,.mov (t 9)⟩,⟨some 70,none,.idxL 1 (t 68) (t 69)⟩,⟨none,none,.stor1 (t 70) (.const (.bool true))⟩])
 (.seq (.ops [⟨some 71,none,.mov (t 5)⟩,⟨some 72,none,.mov (t 9)⟩,⟨some 73,none,.idxL 1 (t 71) (t 72)⟩,
  ⟨some 74,none,.load1 (t 73)⟩,⟨some 75,none,.mov (t 74)⟩,⟨some 76,some (75,true),.mov (t 0)⟩,⟨some 77,some (75,true),.mov (t 9)⟩,⟨some 78,some (75,true),.idxL 2 (t 76) (t 77)⟩,⟨some 79,some (75,true),.fldA 1 (t 78)⟩,
  ⟨some 80,some (75,true),.load1 (t 79)⟩,⟨some 81,some (75,true),.mov (t 1)⟩,⟨some 82,some (75,true),.mov (t 6)⟩,⟨some 83,some (75,true),.idxL 1 (t 81) (t 82)⟩,⟨some 84,some (75,true),.load1 (t 83)⟩,⟨some 85,some (75,true),.pcall C_quiltref32_component1 [(t 80),(t 84)]⟩,
  ⟨some 86,none,.pick (t 75) (t 85) (.const (.bool false))⟩])
 (.cond (t 86) (.ops [⟨some 87,none,.mov (t 8)⟩,⟨some 88,none,.mov (t 9)⟩,⟨some 89,none,.bin .add (t 88) (ci 1)⟩,⟨some 90,none,.idxL 1 (t 87) (t 89)⟩,⟨none,none,.stor1 (t 90) (.const (.bool true))⟩])
 .skip))))))
 (.ops [⟨some 55,none,.mov (t 9)⟩,⟨some 56,none,.bin .add (t 55) (ci 1)⟩,
  ⟨some 9,none,.mov (t 56)⟩]))))))
 (.ops [⟨some 91,none,.mov (t 8)⟩,⟨some 5,none,.mov (t 91)⟩]))))))
 (.ops [⟨some 20,none,.mov (t 6)⟩,⟨some 21,none,.bin .add (t 20) (ci 1)⟩,⟨some 6,none,.mov (t 21)⟩])))))))
 (.seq (.ops [⟨some 92,none,.mov (t 5)⟩,⟨some 4,none,.mov (t 92)⟩])
 .ret))))),[.tmp 4]⟩
/-- quilt/quiltref32.Match -/
def irq_Match : IF := ⟨(.seq (.ops [⟨some 4,none,.mov (.const (.bool false))⟩])
 (.seq (.ops [⟨some 8,none,.mov (t 0)⟩,⟨some 9,none,.pcall C_quiltref32_glob [(t 8)]⟩,⟨some 7,none,.mov (t 9)⟩,⟨some 10,none,.extr (t 7) 0⟩,⟨some 11,none,.extr (t 7) 1⟩,⟨some 5,none,.mov (t 10)⟩,
  ⟨some 6,none,.mov (t 11)⟩])
 (.seq (.ops [⟨some 12,none,.mov (t 6)⟩,⟨some 13,none,.mov (t 12)⟩,⟨some 14,some (13,true),.mov (t 5)⟩,⟨some 15,some (13,true),.mov (t 1)⟩,⟨some 16,some (13,true),.pcallF F_quiltref32_Split [(t 15)]⟩,⟨some 17,some (13,true),.pcallF F_quiltref32_after [(t 14),(t 16)]⟩,
  ⟨some 18,some (13,true),.mov (t 5)⟩,⟨some 19,some (13,true),.lenL (t 18)⟩,⟨some 20,some (13,true),.idxL 1 (t 17) (t 19)⟩,⟨some 21,some (13,true),.load1 (t 20)⟩,⟨some 22,none,.pick (t 13) (t 21) (.const (.bool false))⟩,⟨some 4,none,.mov (t 22)⟩])
 .ret))),[.tmp 4]⟩
end Qk

/-
  Chapter 32: the reference: a component.
-/
namespace Qk
open Go Go.RowKit

theorem flatR_star {l : List El} {k : Nat} (h : k < l.length) : (flatR l)[(k : Int).toNat * 258 + 0]? = some (.bool ((l.getD k default).isStar)) := by
 have ek : (k : Int).toNat = k := by omega
 rw [ek,flatR,flat_cell (n := 258) refA_len l k 0 _ (List.getElem?_eq_getElem h) (by decide),getD_at h]
 rfl
theorem setB_at (e : El) (c : UInt8) : (boos e.setB)[c.toNat]? = some (.bool (e.fit c)) := by
 have hc := c.toNat_lt
 have hl : c.toNat < e.setB.length := by simp [El.setB]; exact hc
 rw [boos_get hl]
 congr 2
 simp [El.setB,List.getD,hc]
theorem flatR_fit {l : List El} {k : Nat} {c : UInt8} (h : k < l.length) : (flatR l)[(k : Int).toNat * 258 + 2 + (c.toNat : Int).toNat * 1]? = some (.bool ((l.getD k default).fit c)) := by
 have ek : (k : Int).toNat = k := by omega
 have ec : (c.toNat : Int).toNat = c.toNat := by omega
 have hc := c.toNat_lt
 have e1 : (k : Int).toNat * 258 + 2 + (c.toNat : Int).toNat * 1 = k * 258 + (c.toNat + 1 + 1) := by omega
 rw [e1,flatR,flat_cell (n := 258) refA_len l k (c.toNat + 1 + 1) _ (List.getElem?_eq_getElem h) (by omega),getD_at h]
 exact setB_at _ _
theorem boos_at2 {l : List Bool} {k : Nat} (h : k < l.length) : (boos l)[(0 + (k : Int).toNat) * 1]? = some (.bool (l.getD k false)) := by
 have ek : (0 + (k : Int).toNat) * 1 = k := by omega
 rw [ek,boos_get h]

set_option maxRecDepth 4000 in
set_option maxHeartbeats 4000000 in
theorem d_ref_component1 : Does irq_component1 C_quiltref32_component1 := by
 rintro ⟨l,s⟩ ⟨hl,hs⟩
 dsimp only at hl hs
 show awp _ _ _ (entry [rElsA l,.str s])
 have hgm := runB_gm (star := El.isStar) (fit := El.fit) (l := l) s
 refine And.intro (by omega) ?_
 refine And.intro ⟨by omega,Int.le_refl _,by omega,by omega⟩ ?_
 refine ⟨_,rfl,?_⟩
 have en : ((l.length : Int) + 1).toNat = l.length + 1 := by omega
 refine And.intro ⟨rfl,Int.le_refl _,(show (0 : Int) < (((l.length : Int) + 1).toNat : Nat) by omega)⟩ ?_
 refine And.intro (show (0 + (0 : Int).toNat) * 1 < (repl ((l.length : Int) + 1).toNat [AV.bool false]).length by rw [en,repl_boos,boos_length,List.length_replicate]; omega) ?_
 refine jn_plain ?_
 refine ⟨Nat × List Bool,fun x => x.1 ≤ s.length ∧ x.2.length = l.length + 1 ∧ runB El.isStar El.fit l (startB l.length) s = runB El.isStar El.fit l x.2 (s.drop x.1),
  fun x => mks [(0,rElsA l),(1,.str s),(5,.sl 0 0 (l.length + 1)),(6,.int .i64 x.1)] [(0,.ls false 1 (boos x.2))] 1,fun x => s.length + 1 - x.1,(0,startB l.length),⟨Nat.zero_le _,startB_len _,rfl⟩,?_,?_⟩
 ·refine sub_ren [0] rfl (by decide) ⟨⟨_,rfl,rfl⟩,⟨_,rfl,rfl⟩,⟨_,rfl,⟨0,rfl,eSl ?_⟩⟩,⟨_,rfl,rfl⟩,trivial⟩ ⟨⟨0,_,rfl,rfl,?_⟩,trivial⟩
  ·exact en
  ·refine ⟨_,rfl,.inl ⟨?_,nnl_boos _⟩⟩
   show (repl ((l.length : Int) + 1).toNat [AV.bool false]).set ((0 + (0 : Int).toNat) * 1) (.bool true) = boos (startB l.length)
   rw [en,repl_boos]
   exact boos_set _ _ _
 ·rintro ⟨i,now⟩ ⟨hi,hn,hrun⟩
  dsimp only at hi hn hrun
  show awp _ _ _ (mks [(0,rElsA l),(1,.str s),(5,.sl 0 0 (l.length + 1)),(6,.int .i64 i)] [(0,.ls false 1 (boos now))] 1)
  refine cond_t (show decide ((i : Int) ≤ s.length) = true from decide_eq_true (by omega)) ?_
  refine ⟨Nat,fun k => k ≤ l.length,fun k => mks [(0,rElsA l),(1,.str s),(5,.sl 0 0 (l.length + 1)),(6,.int .i64 i),(7,.int .i64 k)] [(0,.ls false 1 (boos (clB El.isStar l now k)))] 1,fun k => l.length - k,0,Nat.zero_le _,?_,?_⟩
  ·exact sub_to ⟨rfl,rfl,rfl,rfl,rfl,trivial⟩ rfl (Nat.le_refl 1)
  ·intro k hk
   show awp _ _ _ (mks [(0,rElsA l),(1,.str s),(5,.sl 0 0 (l.length + 1)),(6,.int .i64 i),(7,.int .i64 k)] [(0,.ls false 1 (boos (clB El.isStar l now k)))] 1)
   have lc : (clB El.isStar l now k).length = l.length + 1 := by rw [clB_len,hn]
   refine cond_split (fun h => ?_) (fun h => ?_)
   ·have hlt : k < l.length := by have := of_decide_eq_true h; omega
    have b1 := boos_at2 (l := clB El.isStar l now k) (k := k) (by omega)
    have st := flatR_star hlt
    have ek1 : (0 + ((k : Int) + 1).toNat) * 1 = k + 1 := by omega
    have hstep : clB El.isStar l now (k + 1) = if (clB El.isStar l now k).getD k false && (l.getD k default).isStar then (clB El.isStar l now k).set (k + 1) true else clB El.isStar l now k := rfl
    refine jn_at (fun _ : Unit => mks [(0,rElsA l),(1,.str s),(5,.sl 0 0 (l.length + 1)),(6,.int .i64 i),(7,.int .i64 k)] [(0,.ls false 1 (boos (clB El.isStar l now (k + 1))))] 1) (fun _ => True) ?_ ?_
    ·cases ha : (clB El.isStar l now k).getD k false with
     | false =>
      rw [ha] at hstep b1
      repeat ((conv => whnf); first | refine cond_t (by first | (simp only [cond_true,cond_false,Bool.not_true,Bool.not_false,eq_self,decide_true,decide_false]; done) | fail) ?_ | refine cond_f (by first | (simp only [cond_true,cond_false,Bool.not_true,Bool.not_false,eq_self,decide_true,decide_false]; done) | fail) ?_ | refine And.intro (by omega) ?_ | refine And.intro ⟨rfl,by omega,by omega⟩ ?_ | refine And.intro ⟨rfl,by decide,by omega,by omega⟩ ?_ | refine ⟨_,b1,?_⟩ | refine ⟨_,st,?_⟩)
      refine ⟨(),trivial,sub_to ⟨rfl,rfl,rfl,rfl,rfl,trivial⟩ ?_ (Nat.le_refl 1)⟩
      rw [hstep]; rfl
     | true =>
      rw [ha] at hstep b1
      cases hst : (l.getD k default).isStar with
      | false =>
       rw [hst] at hstep st
       repeat ((conv => whnf); first | refine cond_t (by first | (simp only [cond_true,cond_false,Bool.not_true,Bool.not_false,eq_self,decide_true,decide_false]; done) | fail) ?_ | refine cond_f (by first | (simp only [cond_true,cond_false,Bool.not_true,Bool.not_false,eq_self,decide_true,decide_false]; done) | fail) ?_ | refine And.intro (by omega) ?_ | refine And.intro ⟨rfl,by omega,by omega⟩ ?_ | refine And.intro ⟨rfl,by decide,by omega,by omega⟩ ?_ | refine ⟨_,b1,?_⟩ | refine ⟨_,st,?_⟩)
       refine ⟨(),trivial,sub_to ⟨rfl,rfl,rfl,rfl,rfl,trivial⟩ ?_ (Nat.le_refl 1)⟩
       rw [hstep]; rfl
      | true =>
       rw [hst] at hstep st
       repeat ((conv => whnf); first | refine And.intro (show (0 + ((k : Int) + 1).toNat) * 1 < (boos (clB El.isStar l now k)).length by rw [boos_length]; omega) ?_ | refine cond_t (by first | (simp only [cond_true,cond_false,Bool.not_true,Bool.not_false,eq_self,decide_true,decide_false]; done) | fail) ?_ | refine cond_f (by first | (simp only [cond_true,cond_false,Bool.not_true,Bool.not_false,eq_self,decide_true,decide_false]; done) | fail) ?_ | refine And.intro (by omega) ?_ | refine And.intro ⟨rfl,by omega,by omega⟩ ?_ | refine And.intro ⟨rfl,by decide,by omega,by omega⟩ ?_ | refine ⟨_,b1,?_⟩ | refine ⟨_,st,?_⟩)
       refine ⟨(),trivial,sub_to ⟨rfl,rfl,rfl,rfl,rfl,trivial⟩ ?_ (Nat.le_refl 1)⟩
       refine heap_is [0] (fun _ => none) (by (try dsimp only [St.set,mks]); (repeat (first | exact out_mkh rfl | refine out_upd ?_ (by decide)))) (out_mkh rfl) ⟨?_,trivial⟩
       show some (AO.ls false 1 ((boos (clB El.isStar l now k)).set ((0 + ((k : Int) + 1).toNat) * 1) (.bool true))) = _
       rw [ek1,boos_set,hstep]; rfl
    ·rintro _ _
     refine And.intro (by omega) ?_
     refine ⟨k + 1,hlt,by show l.length - (k + 1) < l.length - k; omega,?_⟩
     exact sub_to ⟨rfl,rfl,rfl,rfl,rfl,trivial⟩ rfl (Nat.le_refl 1)
   ·have hke : k = l.length := by have := of_decide_eq_false h; omega
    obtain ⟨cl,hcl⟩ : ∃ cl,cl = clB El.isStar l now l.length := ⟨_,rfl⟩
    rw [hke,← hcl] at lc ⊢
    rcases Bool.eq_false_or_eq_true (decide ((i : Int) = s.length)) with c1 | c1
    ·have hie : i = s.length := by have := of_decide_eq_true c1; omega
     repeat ((conv => whnf); first | refine cond_t (by first | (simp only [c1,eq_self]; done) | fail) ?_ | refine cond_f (by first | (simp only [c1,cond_true,cond_false,Bool.not_true,Bool.not_false,eq_self,decide_true,decide_false]; done) | fail) ?_ | refine And.intro (by omega) ?_ | refine And.intro ⟨rfl,by omega,by omega⟩ ?_ | refine And.intro ⟨rfl,by decide,by omega,by omega⟩ ?_)
     refine ⟨_,boos_at2 (l := cl) (k := l.length) (by omega),?_⟩
     refine ⟨_,(by first | exact SubSt.refl _ | exact SubTop.refl _),?_⟩
     show AV.bool (cl.getD l.length false) = AV.bool (gm El.isStar El.fit l s)
     rw [← hgm,hrun,List.drop_of_length_le (by omega),runB,hcl]
    ·have hlt : i < s.length := by have := of_decide_eq_false c1; omega
     obtain ⟨c,hc⟩ : ∃ c,c = s.getD i 0 := ⟨_,rfl⟩
     have ei : (i : Int).toNat = i := by omega
     have hdr : s.drop i = c :: s.drop (i + 1) := by
      rw [hc,List.drop_eq_getElem_cons hlt]; simp [List.getD,hlt]
     rw [hdr,runB,← hcl] at hrun
     refine cond_f c1 ?_
     refine And.intro (by omega) ?_
     refine And.intro ⟨by omega,Int.le_refl _,by omega,by omega⟩ ?_
     refine ⟨_,rfl,?_⟩
     refine ⟨Nat,fun k => k ≤ l.length,fun k => mks [(0,rElsA l),(1,.str s),(5,.sl 0 0 (l.length + 1)),(6,.int .i64 i),(8,.sl 1 0 (l.length + 1)),(9,.int .i64 k)] [(0,.ls false 1 (boos cl)),(1,.ls false 1 (boos (spB El.isStar El.fit l cl c k)))] 2,fun k => l.length - k,0,Nat.zero_le _,?_,?_⟩
     ·refine sub_to ⟨rfl,rfl,rfl,rfl,congrArg some (eSl en),rfl,trivial⟩ ?_ (Nat.le_refl 2)
      refine heap_is [0,1] (fun _ => none) (by (try dsimp only [St.set,mks]); (repeat (first | exact out_mkh rfl | refine out_upd ?_ (by decide)))) (out_mkh rfl) ⟨rfl,?_,trivial⟩
      show some (AO.ls false 1 (repl ((l.length : Int) + 1).toNat [AV.bool false])) = some (AO.ls false 1 (boos (List.replicate (l.length + 1) false)))
      rw [en,repl_boos]
     ·intro k hk
      obtain ⟨sp,hsp⟩ : ∃ sp,sp = spB El.isStar El.fit l cl c k := ⟨_,rfl⟩
      have lsp : sp.length = l.length + 1 := by rw [hsp,spB_len]
      show awp _ _ _ (mks [(0,rElsA l),(1,.str s),(5,.sl 0 0 (l.length + 1)),(6,.int .i64 i),(8,.sl 1 0 (l.length + 1)),(9,.int .i64 k)] [(0,.ls false 1 (boos cl)),(1,.ls false 1 (boos (spB El.isStar El.fit l cl c k)))] 2)
      rw [← hsp]
      refine cond_split (fun h => ?_) (fun h => ?_)
      ·have hlt2 : k < l.length := by have := of_decide_eq_true h; omega
       have b1 := boos_at2 (l := cl) (k := k) (by omega)
       have st := flatR_star hlt2
       have ft := flatR_fit (c := c) hlt2
       rw [hc,← ei] at ft
       have ek0 : (0 + (k : Int).toNat) * 1 = k := by omega
       have ek1 : (0 + ((k : Int) + 1).toNat) * 1 = k + 1 := by omega
       have hstep : spB El.isStar El.fit l cl c (k + 1) = if cl.getD k false && (l.getD k default).isStar then sp.set k true else if cl.getD k false && (l.getD k default).fit c then sp.set (k + 1) true else sp := by rw [hsp]; rfl
       have w0 : (0 + (k : Int).toNat) * 1 < (boos sp).length := by rw [boos_length]; omega
       have w1 : (0 + ((k : Int) + 1).toNat) * 1 < (boos sp).length := by rw [boos_length]; omega
       have hc8 := (s.getD (i : Int).toNat 0).toNat_lt
       refine jn_at (fun _ : Unit => mks [(0,rElsA l),(1,.str s),(5,.sl 0 0 (l.length + 1)),(6,.int .i64 i),(8,.sl 1 0 (l.length + 1)),(9,.int .i64 k)] [(0,.ls false 1 (boos cl)),(1,.ls false 1 (boos (spB El.isStar El.fit l cl c (k + 1))))] 2) (fun _ => True) ?_ ?_
       ·have fin : ∀ (S : St),HasE S [(0,rElsA l),(1,.str s),(5,.sl 0 0 (l.length + 1)),(6,.int .i64 i),(8,.sl 1 0 (l.length + 1)),(9,.int .i64 k)] → S.heap = mkh [(0,.ls false 1 (boos cl)),(1,.ls false 1 (boos (spB El.isStar El.fit l cl c (k + 1))))] → S.next = 2 →
          SubSt 0 S (mks [(0,rElsA l),(1,.str s),(5,.sl 0 0 (l.length + 1)),(6,.int .i64 i),(8,.sl 1 0 (l.length + 1)),(9,.int .i64 k)] [(0,.ls false 1 (boos cl)),(1,.ls false 1 (boos (spB El.isStar El.fit l cl c (k + 1))))] 2) :=
         fun S h1 h2 h3 => sub_to h1 h2 (by rw [h3]; exact Nat.le_refl _)
        cases ha : cl.getD k false with
        | false =>
         rw [ha] at hstep b1
         repeat ((conv => whnf); first | refine cond_t (by first | (simp only [cond_true,cond_false,Bool.not_true,Bool.not_false,eq_self,decide_true,decide_false]; done) | fail) ?_ | refine cond_f (by first | (simp only [cond_true,cond_false,Bool.not_true,Bool.not_false,eq_self,decide_true,decide_false]; done) | fail) ?_ | refine And.intro (by omega) ?_ | refine And.intro ⟨rfl,by omega,by omega⟩ ?_ | refine And.intro ⟨rfl,by decide,by omega,by omega⟩ ?_ | refine ⟨_,b1,?_⟩ | refine ⟨_,st,?_⟩)
         refine ⟨(),trivial,fin _ ⟨rfl,rfl,rfl,rfl,rfl,rfl,trivial⟩ ?_ rfl⟩
         rw [hstep]; rfl
        | true =>
         rw [ha] at hstep b1
         cases hst : (l.getD k default).isStar with
         | true =>
          rw [hst] at hstep st
          repeat ((conv => whnf); first | refine And.intro w0 ?_ | refine cond_t (by first | (simp only [cond_true,cond_false,Bool.not_true,Bool.not_false,eq_self,decide_true,decide_false]; done) | fail) ?_ | refine cond_f (by first | (simp only [cond_true,cond_false,Bool.not_true,Bool.not_false,eq_self,decide_true,decide_false]; done) | fail) ?_ | refine And.intro (by omega) ?_ | refine And.intro ⟨rfl,by omega,by omega⟩ ?_ | refine And.intro ⟨rfl,by decide,by omega,by omega⟩ ?_ | refine ⟨_,b1,?_⟩ | refine ⟨_,st,?_⟩)
          refine ⟨(),trivial,fin _ ⟨rfl,rfl,rfl,rfl,rfl,rfl,trivial⟩ ?_ rfl⟩
          refine heap_is [0,1] (fun _ => none) (by (try dsimp only [St.set,mks]); (repeat (first | exact out_mkh rfl | refine out_upd ?_ (by decide)))) (out_mkh rfl) ⟨rfl,?_,trivial⟩
          show some (AO.ls false 1 ((boos sp).set ((0 + (k : Int).toNat) * 1) (.bool true))) = _
          rw [ek0,boos_set,hstep]; rfl
         | false =>
          rw [hst] at hstep st
          cases hft : (l.getD k default).fit c with
          | true =>
           rw [hft] at hstep
           rw [hc,← ei] at hft
           rw [hft] at ft
           repeat ((conv => whnf); first | refine And.intro w1 ?_ | refine And.intro (show (0 : Int) ≤ i ∧ (i : Int) < s.length by omega) ?_ | refine And.intro (show (0 : Int) ≤ ((s.getD (i : Int).toNat 0).toNat : Int) ∧ ((s.getD (i : Int).toNat 0).toNat : Int) < 256 by omega) ?_ | refine cond_t (by first | (simp only [cond_true,cond_false,Bool.not_true,Bool.not_false,eq_self,decide_true,decide_false]; done) | fail) ?_ | refine cond_f (by first | (simp only [cond_true,cond_false,Bool.not_true,Bool.not_false,eq_self,decide_true,decide_false]; done) | fail) ?_ | refine And.intro (by omega) ?_ | refine And.intro ⟨rfl,by omega,by omega⟩ ?_ | refine And.intro ⟨rfl,by decide,by omega,by omega⟩ ?_ | refine ⟨_,b1,?_⟩ | refine ⟨_,st,?_⟩ | refine ⟨_,ft,?_⟩)
           refine ⟨(),trivial,fin _ ⟨rfl,rfl,rfl,rfl,rfl,rfl,trivial⟩ ?_ rfl⟩
           refine heap_is [0,1] (fun _ => none) (by (try dsimp only [St.set,mks]); (repeat (first | exact out_mkh rfl | refine out_upd ?_ (by decide)))) (out_mkh rfl) ⟨rfl,?_,trivial⟩
           show some (AO.ls false 1 ((boos sp).set ((0 + ((k : Int) + 1).toNat) * 1) (.bool true))) = _
           rw [ek1,boos_set,hstep]; rfl
          | false =>
           rw [hft] at hstep
           rw [hc,← ei] at hft
           rw [hft] at ft
           repeat ((conv => whnf); first | refine And.intro (show (0 : Int) ≤ i ∧ (i : Int) < s.length by omega) ?_ | refine And.intro (show (0 : Int) ≤ ((s.getD (i : Int).toNat 0).toNat : Int) ∧ ((s.getD (i : Int).toNat 0).toNat : Int) < 256 by omega) ?_ | refine cond_t (by first | (simp only [cond_true,cond_false,Bool.not_true,Bool.not_false,eq_self,decide_true,decide_false]; done) | fail) ?_ | refine cond_f (by first | (simp only [cond_true,cond_false,Bool.not_true,Bool.not_false,eq_self,decide_true,decide_false]; done) | fail) ?_ | refine And.intro (by omega) ?_ | refine And.intro ⟨rfl,by omega,by omega⟩ ?_ | refine And.intro ⟨rfl,by decide,by omega,by omega⟩ ?_ | refine ⟨_,b1,?_⟩ | refine ⟨_,st,?_⟩ | refine ⟨_,ft,?_⟩)
           refine ⟨(),trivial,fin _ ⟨rfl,rfl,rfl,rfl,rfl,rfl,trivial⟩ ?_ rfl⟩
           rw [hstep]; rfl
       ·rintro _ _
        refine And.intro (by omega) ?_
        refine ⟨k + 1,hlt2,by show l.length - (k + 1) < l.length - k; omega,?_⟩
        exact sub_to ⟨rfl,rfl,rfl,rfl,rfl,rfl,trivial⟩ rfl (Nat.le_refl 2)
      ·have hke2 : k = l.length := by have := of_decide_eq_false h; omega
       rw [hke2] at hsp
       refine And.intro (by omega) ?_
       refine ⟨(i + 1,sp),⟨hlt,lsp,by rw [hrun,hsp]⟩,by show s.length + 1 - (i + 1) < s.length + 1 - i; omega,?_⟩
       refine sub_ren [1] rfl (by decide) ⟨⟨_,rfl,rfl⟩,⟨_,rfl,rfl⟩,⟨_,rfl,⟨1,rfl,rfl⟩⟩,⟨_,rfl,eI (by omega)⟩,trivial⟩ ⟨⟨1,_,rfl,rfl,?_⟩,trivial⟩
       exact ⟨_,rfl,eN (nnl_boos _) rfl⟩

end Qk

/-
  Chapter 32: the reference: walking through the components of a path.
-/
namespace Qk
open Go Go.RowKit

theorem flatRC_any {l : List Comp} {k : Nat} (h : k < l.length) : (flatRC l)[(k : Int).toNat * 2 + 0]? = some (.bool ((l.getD k default).any)) := by
 have ek : (k : Int).toNat = k := by omega
 rw [ek,flatRC,flat_cell (n := 2) (fun _ => rfl) l k 0 _ (List.getElem?_eq_getElem h) (by decide),getD_at h]
 rfl
theorem flatRC_els {l : List Comp} {k : Nat} (h : k < l.length) : (flatRC l)[(k : Int).toNat * 2 + 1]? = some (rElsA (l.getD k default).els) := by
 have ek : (k : Int).toNat = k := by omega
 rw [ek,flatRC,flat_cell (n := 2) (fun _ => rfl) l k 1 _ (List.getElem?_eq_getElem h) (by decide),getD_at h]
 rfl
theorem getD_nil {ps : List (List UInt8)} {i : Nat} (h : i < ps.length) : ps.getD i [] = ps[i]'h := by simp [List.getD,h]
theorem strs_at {ps : List (List UInt8)} {i : Nat} (h : i < ps.length) : (strs ps)[(i : Int).toNat * 1]? = some (.str (ps.getD i [])) := by
 have ei : (i : Int).toNat * 1 = i := by omega
 rw [ei,strs_get h]

set_option maxRecDepth 4000 in
set_option maxHeartbeats 4000000 in
theorem d_ref_after : DoesF irq_after F_quiltref32_after := by
 rintro ⟨l,ps⟩ ⟨hl,hps,hle,hsl⟩
 dsimp only at hl hps hle hsl
 show awp _ _ _ (entry [rCpsA l,.ilist 1 ps.length (strs ps)])
 refine And.intro (by omega) ?_
 refine And.intro ⟨by omega,Int.le_refl _,by omega,by omega⟩ ?_
 refine ⟨_,rfl,?_⟩
 have en : ((l.length : Int) + 1).toNat = l.length + 1 := by omega
 refine And.intro ⟨rfl,Int.le_refl _,(show (0 : Int) < (((l.length : Int) + 1).toNat : Nat) by omega)⟩ ?_
 refine And.intro (show (0 + (0 : Int).toNat) * 1 < (repl ((l.length : Int) + 1).toNat [AV.bool false]).length by rw [en,repl_boos,boos_length,List.length_replicate]; omega) ?_
 refine jn_plain ?_
 refine ⟨Nat × List Bool,fun x => x.1 ≤ ps.length ∧ x.2.length = l.length + 1 ∧ runB Comp.any Comp.fit l (startB l.length) ps = runB Comp.any Comp.fit l x.2 (ps.drop x.1),
  fun x => mks [(0,rCpsA l),(1,.ilist 1 ps.length (strs ps)),(5,.sl 0 0 (l.length + 1)),(6,.int .i64 x.1)] [(0,.ls false 1 (boos x.2))] 1,fun x => ps.length + 1 - x.1,(0,startB l.length),⟨Nat.zero_le _,startB_len _,rfl⟩,?_,?_⟩
 ·refine sub_ren [0] rfl (by decide) ⟨⟨_,rfl,rfl⟩,⟨_,rfl,rfl⟩,⟨_,rfl,⟨0,rfl,eSl ?_⟩⟩,⟨_,rfl,rfl⟩,trivial⟩ ⟨⟨0,_,rfl,rfl,?_⟩,trivial⟩
  ·exact en
  ·refine ⟨_,rfl,.inl ⟨?_,nnl_boos _⟩⟩
   show (repl ((l.length : Int) + 1).toNat [AV.bool false]).set ((0 + (0 : Int).toNat) * 1) (.bool true) = boos (startB l.length)
   rw [en,repl_boos]
   exact boos_set _ _ _
 ·rintro ⟨i,now⟩ ⟨hi,hn,hrun⟩
  dsimp only at hi hn hrun
  show awp _ _ _ (mks [(0,rCpsA l),(1,.ilist 1 ps.length (strs ps)),(5,.sl 0 0 (l.length + 1)),(6,.int .i64 i)] [(0,.ls false 1 (boos now))] 1)
  refine cond_t (show decide ((i : Int) ≤ ps.length) = true from decide_eq_true (by omega)) ?_
  refine ⟨Nat,fun k => k ≤ l.length,fun k => mks [(0,rCpsA l),(1,.ilist 1 ps.length (strs ps)),(5,.sl 0 0 (l.length + 1)),(6,.int .i64 i),(7,.int .i64 k)] [(0,.ls false 1 (boos (clB Comp.any l now k)))] 1,fun k => l.length - k,0,Nat.zero_le _,?_,?_⟩
  ·exact sub_to ⟨rfl,rfl,rfl,rfl,rfl,trivial⟩ rfl (Nat.le_refl 1)
  ·intro k hk
   show awp _ _ _ (mks [(0,rCpsA l),(1,.ilist 1 ps.length (strs ps)),(5,.sl 0 0 (l.length + 1)),(6,.int .i64 i),(7,.int .i64 k)] [(0,.ls false 1 (boos (clB Comp.any l now k)))] 1)
   have lc : (clB Comp.any l now k).length = l.length + 1 := by rw [clB_len,hn]
   refine cond_split (fun h => ?_) (fun h => ?_)
   ·have hlt : k < l.length := by have := of_decide_eq_true h; omega
    have b1 := boos_at2 (l := clB Comp.any l now k) (k := k) (by omega)
    have st := flatRC_any hlt
    have ek1 : (0 + ((k : Int) + 1).toNat) * 1 = k + 1 := by omega
    have hstep : clB Comp.any l now (k + 1) = if (clB Comp.any l now k).getD k false && (l.getD k default).any then (clB Comp.any l now k).set (k + 1) true else clB Comp.any l now k := rfl
    refine jn_at (fun _ : Unit => mks [(0,rCpsA l),(1,.ilist 1 ps.length (strs ps)),(5,.sl 0 0 (l.length + 1)),(6,.int .i64 i),(7,.int .i64 k)] [(0,.ls false 1 (boos (clB Comp.any l now (k + 1))))] 1) (fun _ => True) ?_ ?_
    ·cases ha : (clB Comp.any l now k).getD k false with
     | false =>
      rw [ha] at hstep b1
      repeat ((conv => whnf); first | refine cond_t (by first | (simp only [cond_true,cond_false,Bool.not_true,Bool.not_false,eq_self,decide_true,decide_false]; done) | fail) ?_ | refine cond_f (by first | (simp only [cond_true,cond_false,Bool.not_true,Bool.not_false,eq_self,decide_true,decide_false]; done) | fail) ?_ | refine And.intro (by omega) ?_ | refine And.intro ⟨rfl,by omega,by omega⟩ ?_ | refine And.intro ⟨rfl,by decide,by omega,by omega⟩ ?_ | refine ⟨_,b1,?_⟩ | refine ⟨_,st,?_⟩)
      refine ⟨(),trivial,sub_to ⟨rfl,rfl,rfl,rfl,rfl,trivial⟩ ?_ (Nat.le_refl 1)⟩
      rw [hstep]; rfl
     | true =>
      rw [ha] at hstep b1
      cases hst : (l.getD k default).any with
      | false =>
       rw [hst] at hstep st
       repeat ((conv => whnf); first | refine cond_t (by first | (simp only [cond_true,cond_false,Bool.not_true,Bool.not_false,eq_self,decide_true,decide_false]; done) | fail) ?_ | refine cond_f (by first | (simp only [cond_true,cond_false,Bool.not_true,Bool.not_false,eq_self,decide_true,decide_false]; done) | fail) ?_ | refine And.intro (by omega) ?_ | refine And.intro ⟨rfl,by omega,by omega⟩ ?_ | refine And.intro ⟨rfl,by decide,by omega,by omega⟩ ?_ | refine ⟨_,b1,?_⟩ | refine ⟨_,st,?_⟩)
       refine ⟨(),trivial,sub_to ⟨rfl,rfl,rfl,rfl,rfl,trivial⟩ ?_ (Nat.le_refl 1)⟩
       rw [hstep]; rfl
      | true =>
       rw [hst] at hstep st
       repeat ((conv => whnf); first | refine And.intro (show (0 + ((k : Int) + 1).toNat) * 1 < (boos (clB Comp.any l now k)).length by rw [boos_length]; omega) ?_ | refine cond_t (by first | (simp only [cond_true,cond_false,Bool.not_true,Bool.not_false,eq_self,decide_true,decide_false]; done) | fail) ?_ | refine cond_f (by first | (simp only [cond_true,cond_false,Bool.not_true,Bool.not_false,eq_self,decide_true,decide_false]; done) | fail) ?_ | refine And.intro (by omega) ?_ | refine And.intro ⟨rfl,by omega,by omega⟩ ?_ | refine And.intro ⟨rfl,by decide,by omega,by omega⟩ ?_ | refine ⟨_,b1,?_⟩ | refine ⟨_,st,?_⟩)
       refine ⟨(),trivial,sub_to ⟨rfl,rfl,rfl,rfl,rfl,trivial⟩ ?_ (Nat.le_refl 1)⟩
       refine heap_is [0] (fun _ => none) (by (try dsimp only [St.set,mks]); (repeat (first | exact out_mkh rfl | refine out_upd ?_ (by decide)))) (out_mkh rfl) ⟨?_,trivial⟩
       show some (AO.ls false 1 ((boos (clB Comp.any l now k)).set ((0 + ((k : Int) + 1).toNat) * 1) (.bool true))) = _
       rw [ek1,boos_set,hstep]; rfl
    ·rintro _ _
     refine And.intro (by omega) ?_
     refine ⟨k + 1,hlt,by show l.length - (k + 1) < l.length - k; omega,?_⟩
     exact sub_to ⟨rfl,rfl,rfl,rfl,rfl,trivial⟩ rfl (Nat.le_refl 1)
   ·have hke : k = l.length := by have := of_decide_eq_false h; omega
    obtain ⟨cl,hcl⟩ : ∃ cl,cl = clB Comp.any l now l.length := ⟨_,rfl⟩
    rw [hke,← hcl] at lc ⊢
    rcases Bool.eq_false_or_eq_true (decide ((i : Int) = ps.length)) with c1 | c1
    ·have hie : i = ps.length := by have := of_decide_eq_true c1; omega
     repeat ((conv => whnf); first | refine cond_t (by first | (simp only [c1,eq_self]; done) | fail) ?_ | refine cond_f (by first | (simp only [c1,cond_true,cond_false,Bool.not_true,Bool.not_false,eq_self,decide_true,decide_false]; done) | fail) ?_ | refine And.intro (by omega) ?_ | refine And.intro ⟨rfl,by omega,by omega⟩ ?_ | refine And.intro ⟨rfl,by decide,by omega,by omega⟩ ?_)
     refine ⟨_,(by first | exact SubSt.refl _ | exact SubTop.refl _),?_⟩
     have hfin : afterB l ps = cl := by
      unfold afterB
      rw [hrun,List.drop_of_length_le (by omega),runB,hcl]
     refine ⟨0,false,rfl,?_,plain_boos _⟩
     show some (AO.ls false 1 (boos cl)) = some (AO.ls false 1 (boos (afterB l ps)))
     rw [hfin]
    ·have hlt : i < ps.length := by have := of_decide_eq_false c1; omega
     obtain ⟨c,hc⟩ : ∃ c,c = ps.getD i [] := ⟨_,rfl⟩
     have ei : (i : Int).toNat = i := by omega
     have hdr : ps.drop i = c :: ps.drop (i + 1) := by
      rw [hc,List.drop_eq_getElem_cons hlt]; simp [List.getD,hlt]
     rw [hdr,runB,← hcl] at hrun
     refine cond_f c1 ?_
     refine And.intro (by omega) ?_
     refine And.intro ⟨by omega,Int.le_refl _,by omega,by omega⟩ ?_
     refine ⟨_,rfl,?_⟩
     refine ⟨Nat,fun k => k ≤ l.length,fun k => mks [(0,rCpsA l),(1,.ilist 1 ps.length (strs ps)),(5,.sl 0 0 (l.length + 1)),(6,.int .i64 i),(8,.sl 1 0 (l.length + 1)),(9,.int .i64 k)] [(0,.ls false 1 (boos cl)),(1,.ls false 1 (boos (spB Comp.any Comp.fit l cl c k)))] 2,fun k => l.length - k,0,Nat.zero_le _,?_,?_⟩
     ·refine sub_to ⟨rfl,rfl,rfl,rfl,congrArg some (eSl en),rfl,trivial⟩ ?_ (Nat.le_refl 2)
      refine heap_is [0,1] (fun _ => none) (by (try dsimp only [St.set,mks]); (repeat (first | exact out_mkh rfl | refine out_upd ?_ (by decide)))) (out_mkh rfl) ⟨rfl,?_,trivial⟩
      show some (AO.ls false 1 (repl ((l.length : Int) + 1).toNat [AV.bool false])) = some (AO.ls false 1 (boos (List.replicate (l.length + 1) false)))
      rw [en,repl_boos]
     ·intro k hk
      obtain ⟨sp,hsp⟩ : ∃ sp,sp = spB Comp.any Comp.fit l cl c k := ⟨_,rfl⟩
      have lsp : sp.length = l.length + 1 := by rw [hsp,spB_len]
      show awp _ _ _ (mks [(0,rCpsA l),(1,.ilist 1 ps.length (strs ps)),(5,.sl 0 0 (l.length + 1)),(6,.int .i64 i),(8,.sl 1 0 (l.length + 1)),(9,.int .i64 k)] [(0,.ls false 1 (boos cl)),(1,.ls false 1 (boos (spB Comp.any Comp.fit l cl c k)))] 2)
      rw [← hsp]
      refine cond_split (fun h => ?_) (fun h => ?_)
      ·have hlt2 : k < l.length := by have := of_decide_eq_true h; omega
       have b1 := boos_at2 (l := cl) (k := k) (by omega)
       have st := flatRC_any hlt2
       have ce := flatRC_els hlt2
       have cs := strs_at hlt
       rw [← hc] at cs
       have kc : c.length ≤ 1000000000 := by
        rw [hc,getD_nil hlt]; exact hsl _ (List.getElem_mem _)
       have ke : (l.getD k default).els.length ≤ 1000000 := by
        rw [getD_at hlt2]; exact hle _ (List.getElem_mem _)
       have ek0 : (0 + (k : Int).toNat) * 1 = k := by omega
       have ek1 : (0 + ((k : Int) + 1).toNat) * 1 = k + 1 := by omega
       have hstep : spB Comp.any Comp.fit l cl c (k + 1) = if cl.getD k false && (l.getD k default).any then sp.set k true else if cl.getD k false && (l.getD k default).fit c then sp.set (k + 1) true else sp := by rw [hsp]; rfl
       have w0 : (0 + (k : Int).toNat) * 1 < (boos sp).length := by rw [boos_length]; omega
       have w1 : (0 + ((k : Int) + 1).toNat) * 1 < (boos sp).length := by rw [boos_length]; omega
       refine jn_at (fun _ : Unit => mks [(0,rCpsA l),(1,.ilist 1 ps.length (strs ps)),(5,.sl 0 0 (l.length + 1)),(6,.int .i64 i),(8,.sl 1 0 (l.length + 1)),(9,.int .i64 k)] [(0,.ls false 1 (boos cl)),(1,.ls false 1 (boos (spB Comp.any Comp.fit l cl c (k + 1))))] 2) (fun _ => True) ?_ ?_
       ·have fin : ∀ (S : St),HasE S [(0,rCpsA l),(1,.ilist 1 ps.length (strs ps)),(5,.sl 0 0 (l.length + 1)),(6,.int .i64 i),(8,.sl 1 0 (l.length + 1)),(9,.int .i64 k)] → S.heap = mkh [(0,.ls false 1 (boos cl)),(1,.ls false 1 (boos (spB Comp.any Comp.fit l cl c (k + 1))))] → S.next = 2 →
          SubSt 0 S (mks [(0,rCpsA l),(1,.ilist 1 ps.length (strs ps)),(5,.sl 0 0 (l.length + 1)),(6,.int .i64 i),(8,.sl 1 0 (l.length + 1)),(9,.int .i64 k)] [(0,.ls false 1 (boos cl)),(1,.ls false 1 (boos (spB Comp.any Comp.fit l cl c (k + 1))))] 2) :=
         fun S h1 h2 h3 => sub_to h1 h2 (by rw [h3]; exact Nat.le_refl _)
        cases ha : cl.getD k false with
        | false =>
         rw [ha] at hstep b1
         repeat ((conv => whnf); first | refine cond_t (by first | (simp only [cond_true,cond_false,Bool.not_true,Bool.not_false,eq_self,decide_true,decide_false]; done) | fail) ?_ | refine cond_f (by first | (simp only [cond_true,cond_false,Bool.not_true,Bool.not_false,eq_self,decide_true,decide_false]; done) | fail) ?_ | refine And.intro (by omega) ?_ | refine And.intro ⟨rfl,by omega,by omega⟩ ?_ | refine And.intro ⟨rfl,by decide,by omega,by omega⟩ ?_ | refine ⟨_,b1,?_⟩ | refine ⟨_,st,?_⟩)
         refine ⟨(),trivial,fin _ ⟨rfl,rfl,rfl,rfl,rfl,rfl,trivial⟩ ?_ rfl⟩
         rw [hstep]; rfl
        | true =>
         rw [ha] at hstep b1
         cases hst : (l.getD k default).any with
         | true =>
          rw [hst] at hstep st
          repeat ((conv => whnf); first | refine And.intro w0 ?_ | refine cond_t (by first | (simp only [cond_true,cond_false,Bool.not_true,Bool.not_false,eq_self,decide_true,decide_false]; done) | fail) ?_ | refine cond_f (by first | (simp only [cond_true,cond_false,Bool.not_true,Bool.not_false,eq_self,decide_true,decide_false]; done) | fail) ?_ | refine And.intro (by omega) ?_ | refine And.intro ⟨rfl,by omega,by omega⟩ ?_ | refine And.intro ⟨rfl,by decide,by omega,by omega⟩ ?_ | refine ⟨_,b1,?_⟩ | refine ⟨_,st,?_⟩)
          refine ⟨(),trivial,fin _ ⟨rfl,rfl,rfl,rfl,rfl,rfl,trivial⟩ ?_ rfl⟩
          refine heap_is [0,1] (fun _ => none) (by (try dsimp only [St.set,mks]); (repeat (first | exact out_mkh rfl | refine out_upd ?_ (by decide)))) (out_mkh rfl) ⟨rfl,?_,trivial⟩
          show some (AO.ls false 1 ((boos sp).set ((0 + (k : Int).toNat) * 1) (.bool true))) = _
          rw [ek0,boos_set,hstep]; rfl
         | false =>
          rw [hst] at hstep st
          cases hft : (l.getD k default).fit c with
          | true =>
           rw [hft] at hstep
           have hft2 : gm El.isStar El.fit (l.getD k default).els c = true := hft
           repeat ((conv => whnf); first | refine And.intro w1 ?_ | refine ⟨((l.getD k default).els,c),rfl,⟨ke,kc⟩,?_⟩ | refine cond_t (by first | (simp only [hft2,cond_true,eq_self]; done) | fail) ?_ | refine cond_f (by first | (simp only [hft2,cond_true,cond_false,Bool.not_true,Bool.not_false,eq_self,decide_true,decide_false]; done) | fail) ?_ | refine And.intro (by omega) ?_ | refine And.intro ⟨rfl,by omega,by omega⟩ ?_ | refine And.intro ⟨rfl,by decide,by omega,by omega⟩ ?_ | refine ⟨_,b1,?_⟩ | refine ⟨_,st,?_⟩ | refine ⟨_,ce,?_⟩ | refine ⟨_,cs,?_⟩)
           refine ⟨(),trivial,fin _ ⟨rfl,rfl,rfl,rfl,rfl,rfl,trivial⟩ ?_ rfl⟩
           refine heap_is [0,1] (fun _ => none) (by (try dsimp only [St.set,mks]); (repeat (first | exact out_mkh rfl | refine out_upd ?_ (by decide)))) (out_mkh rfl) ⟨rfl,?_,trivial⟩
           show some (AO.ls false 1 ((boos sp).set ((0 + ((k : Int) + 1).toNat) * 1) (.bool true))) = _
           rw [ek1,boos_set,hstep]; rfl
          | false =>
           rw [hft] at hstep
           have hft2 : gm El.isStar El.fit (l.getD k default).els c = false := hft
           repeat ((conv => whnf); first | refine ⟨((l.getD k default).els,c),rfl,⟨ke,kc⟩,?_⟩ | refine cond_t (by first | (simp only [hft2,cond_true]; done) | fail) ?_ | refine cond_f (by first | (simp only [hft2,cond_true,eq_self]; done) | fail) ?_ | refine And.intro (by omega) ?_ | refine And.intro ⟨rfl,by omega,by omega⟩ ?_ | refine And.intro ⟨rfl,by decide,by omega,by omega⟩ ?_ | refine ⟨_,b1,?_⟩ | refine ⟨_,st,?_⟩ | refine ⟨_,ce,?_⟩ | refine ⟨_,cs,?_⟩)
           refine ⟨(),trivial,fin _ ⟨rfl,rfl,rfl,rfl,rfl,rfl,trivial⟩ ?_ rfl⟩
           rw [hstep]; rfl
       ·rintro _ _
        refine And.intro (by omega) ?_
        refine ⟨k + 1,hlt2,by show l.length - (k + 1) < l.length - k; omega,?_⟩
        exact sub_to ⟨rfl,rfl,rfl,rfl,rfl,rfl,trivial⟩ rfl (Nat.le_refl 2)
      ·have hke2 : k = l.length := by have := of_decide_eq_false h; omega
       rw [hke2] at hsp
       refine And.intro (by omega) ?_
       refine ⟨(i + 1,sp),⟨hlt,lsp,by rw [hrun,hsp]⟩,by show ps.length + 1 - (i + 1) < ps.length + 1 - i; omega,?_⟩
       refine sub_ren [1] rfl (by decide) ⟨⟨_,rfl,rfl⟩,⟨_,rfl,rfl⟩,⟨_,rfl,⟨1,rfl,rfl⟩⟩,⟨_,rfl,eI (by omega)⟩,trivial⟩ ⟨⟨1,_,rfl,rfl,?_⟩,trivial⟩
       exact ⟨_,rfl,eN (nnl_boos _) rfl⟩

end Qk

/-
  Chapter 32: the reference: Match, Below, Check.
-/
namespace Qk
open Go Go.RowKit

theorem afterB_len (l : List Comp) (ps : List (List UInt8)) : (afterB l ps).length = l.length + 1 := runB_len _ _ (startB_len _)
theorem match_after (l : List Comp) (ps : List (List UInt8)) : (afterB l ps).getD l.length false = matchL l ps := runB_gm ps
theorem globs_small {g : List UInt8} {l : List Comp} (h : globL g = some l) : l.length ≤ 1000000 ∧ ∀ c ∈ l,c.els.length ≤ 1000000 := by
 have h1 : compsL (splitS g) = some l := by
  unfold globL at h
  split at h
  ·cases h
  ·exact h
 have h2 := (splitS_le g).2
 have h3 := (glob_good h).2.2
 have h4 := comps_len h1
 refine ⟨by omega,fun c hc => ?_⟩
 have h5 : ∀ {ps : List (List UInt8)} {l : List Comp},compsL ps = some l → (∀ p ∈ ps,p.length ≤ 200) → ∀ c ∈ l,c.els.length ≤ 200 := by
  intro ps
  induction ps with
  | nil => intro l h _; simp only [compsL,Option.some.injEq] at h; subst h; intro c hc; cases hc
  | cons s ps ih =>
   intro l h hp
   rw [compsL] at h
   split at h
   ·cases h
   ·rename_i c hc
    split at h
    ·cases h
    ·rename_i m hm
     cases h
     intro x hx
     rcases List.mem_cons.1 hx with rfl | hx
     ·unfold compL at hc
      split at hc
      ·cases hc; exact Nat.zero_le _
      ·split at hc
       ·cases hc
       ·cases hl : elsL s.length s with
        | none => rw [hl] at hc; cases hc
        | some l =>
         rw [hl] at hc
         cases hc
         have := (els_wf hl).2
         have := hp s (by simp)
         dsimp only
         omega
     ·exact ih hm (fun p h => hp p (by simp [h])) x hx
 have := h5 h1 (fun p hp => by have := (splitS_le g).1 p hp; omega) c hc
 omega
theorem strs_all (ps : List (List UInt8)) : ((strs ps).drop (0 * 1)).take (ps.length * 1) = strs ps := by
 rw [Nat.zero_mul,List.drop_zero,Nat.mul_one,List.take_of_length_le (by rw [strs_length]; exact Nat.le_refl _)]

theorem d_ref_Match : Does irq_Match C_quiltref32_Match := by
 rintro ⟨g,path⟩ ⟨hg,hp⟩
 dsimp only at hg hp
 refine ⟨g,rfl,hg,?_⟩
 rcases globP_cases g with ⟨l,hgl,hpr⟩ | ⟨hgl,hpr⟩
 ·have hres : C_quiltref32_glob.res g = .tup [rCpsA l,.bool true] := by show AV.tup [rCpsA (globP g).1,.bool (globP g).2] = _; rw [hpr]
  rw [hres]
  refine ⟨_,rfl,?_⟩
  refine ⟨_,rfl,?_⟩
  refine ⟨path,rfl,hp,?_⟩
  have pl := parts_le path
  have gs := globs_small hgl
  have al := afterB_len l (partsL path)
  refine And.intro (show (0 + (partsL path).length) * 1 ≤ (strs (partsL path)).length by rw [strs_length]; omega) ?_
  refine And.intro (nnl_strs _) ?_
  refine ⟨(l,partsL path),?_,⟨gs.1,by show (partsL path).length ≤ _; omega,gs.2,fun s hs => by have := pl.1 s hs; omega⟩,?_⟩
  ·show [rCpsA l,AV.ilist 1 (partsL path).length (((strs (partsL path)).drop (0 * 1)).take ((partsL path).length * 1))] = [rCpsA l,.ilist 1 (partsL path).length (strs (partsL path))]
   rw [strs_all]
  refine And.intro (show (1 : Nat) = 1 ∧ (0 : Int) ≤ l.length ∧ (l.length : Int) < (l.length + 1 : Nat) from ⟨rfl,by omega,by omega⟩) ?_
  refine ⟨_,boos_at2 (l := afterB l (partsL path)) (k := l.length) (by omega),?_⟩
  refine ⟨_,(by first | exact SubSt.refl _ | exact SubTop.refl _),?_⟩
  show AV.bool ((afterB l (partsL path)).getD l.length false) = AV.bool (matchG g path)
  rw [match_after]; unfold matchG; rw [hgl]
 ·have hres : C_quiltref32_glob.res g = .tup [rCpsA (globP g).1,.bool false] := by show AV.tup [rCpsA (globP g).1,.bool (globP g).2] = _; rw [hpr]
  rw [hres]
  refine ⟨_,rfl,?_⟩
  refine ⟨_,rfl,?_⟩
  refine ⟨_,(by first | exact SubSt.refl _ | exact SubTop.refl _),?_⟩
  show AV.bool false = AV.bool (matchG g path)
  unfold matchG; rw [hgl]

theorem nn_tup2 {cs : List AV} (h : NNL cs) : NN (.tup cs) := fun G Φ ρ ρ' v hr => by
 simp only [Rep] at hr ⊢
 obtain ⟨A,h1,h2,h3⟩ := hr
 exact ⟨A,h1,h2,h _ _ _ _ _ _ h3⟩
theorem nn_ref_one (s : List UInt8) : NN (C_quiltref32_one.res s) := by
 cases h : byte1 s with
 | none => rw [one_none h]; exact nn_tup2 (nnl_cons (plain_int _ _).nn (nnl_one (plain_int _ _).nn))
 | some x => obtain ⟨c,n⟩ := x; rw [one_some h]; exact nn_tup2 (nnl_cons (plain_int _ _).nn (nnl_one (plain_int _ _).nn))
theorem nn_ref_parse (s : List UInt8) : NN (C_quiltref32_parse.res s) := nn_tup2 (nnl_cons (nn_agg (nnl_rCpA _)) (nnl_one (plain_bool _).nn))
theorem nn_ref_glob (g : List UInt8) : NN (C_quiltref32_glob.res g) := nn_tup2 (nnl_cons (nn_ilist _ _ _) (nnl_one (plain_bool _).nn))

end Qk
