/-
  Chapter 57: the reference of the attributes.
-/
import Derived.Test.YtnjncjjegolojaaGreatDoorPi
import Derived.Test.YtnjncjjegolojaaGreatDoorPh
import Derived.Test.YtnjncjjegolojaaGreatDoorPg
import Derived.Test.YtnjncjjegolojaaGreatDoorPr
import Derived.Test.YtnjncjjegolojaaGreatDoorPs

/-
  Chapter 57: contracts of the reference's attributes.
-/
namespace Qk
open Go Go.RowKit

def C_quiltref57_Find : PC := ⟨List Att × List UInt8,fun x => [attsA x.1,.str x.2],fun x => okA x.1 ∧ x.2.length ≤ 1000000000,fun x => .agg (attA (findS x.1 x.2))⟩
end Qk

/-
  Chapter 57, plain: the attributes that the reference reads.
-/
namespace Qk
open Go

end Qk

/-
  Chapter 57: the reference of the attributes, and its law, in the executor's form (printed).
-/
namespace Qk
open Go Go.RowKit

/-- quilt/quiltref57.Find -/
def ir_quiltref57_Find : IF := ⟨(.seq (.ops [⟨some 4,none,.alloc [.str [],.int .i64 0,.int .i64 0]⟩])
 (.seq (.seq (.ops [⟨some 6,none,.mov (t 0)⟩,⟨some 7,none,.lenL (t 6)⟩,⟨some 8,none,.bin .sub (t 7) (ci 1)⟩,⟨some 5,none,.mov (t 8)⟩])
 (.block 0 (.loop (.seq (.seq (.ops [⟨some 9,none,.mov (t 5)⟩,⟨some 10,none,.bin .geq (t 9) (ci 0)⟩])
 (.cond (t 10) .skip
 (.exit 0)))
 (.seq (.block 1 (.seq (.ops [⟨some 13,none,.mov (t 0)⟩,⟨some 14,none,.mov (t 5)⟩,
  ⟨some 15,none,.idxL 3 (t 13) (t 14)⟩,⟨some 16,none,.fldA 0 (t 15)⟩,⟨some 17,none,.load1 (t 16)⟩,⟨some 18,none,.mov (t 1)⟩,⟨some 19,none,.pcall C_quiltref32_Match [(t 17),(t 18)]⟩])
 (.cond (t 19) (.seq (.ops [⟨some 20,none,.mov (t 0)⟩,⟨some 21,none,.mov (t 5)⟩,
  ⟨some 22,none,.idxL 3 (t 20) (t 21)⟩,⟨some 23,none,.loadN 3 (t 22)⟩,⟨none,none,.storN 3 (t 4) (t 23)⟩])
 .ret)
 .skip)))
 (.ops [⟨some 11,none,.mov (t 5)⟩,⟨some 12,none,.bin .sub (t 11) (ci 1)⟩,⟨some 5,none,.mov (t 12)⟩]))))))
 (.seq (.ops [⟨some 24,none,.build 3 [.str [],.int .i64 0,.int .i64 0] []⟩,⟨none,none,.storN 3 (t 4) (t 24)⟩])
 .ret))),[.cell 4 true 3]⟩
end Qk

/-
  Chapter 57, plain: splitting at a byte.
-/
namespace Qk
open Go

end Qk

/-
  Chapter 57: the reference's splitting and looking up of words.
-/
namespace Qk
open Go Go.RowKit

end Qk

/-
  Chapter 57: the reference's attribute of a line and of a path; two lists of attributes.
-/
namespace Qk
open Go Go.RowKit

theorem flatA_at {l : List Att} {k : Nat} {a : Att} (h : l[k]? = some a) : ((flatA l).drop (k * 3)).take 3 = attA a := flat_take (n := 3) (f := attA) (fun _ => rfl) l k a h
theorem flatA_g {l : List Att} {k : Nat} {a : Att} (h : l[k]? = some a) : (flatA l)[k * 3 + 0]? = some (.str a.g) := by
 have h1 := congrArg (fun x : List AV => x[0]?) (flatA_at h)
 simp only [List.getElem?_take,List.getElem?_drop] at h1
 exact h1

set_option maxRecDepth 4000 in
theorem d_rFind : Does ir_quiltref57_Find C_quiltref57_Find := by
 rintro ⟨l,path⟩ ⟨⟨hl,hg⟩,hp⟩
 dsimp only at hl hg hp
 show awp _ _ _ (entry [attsA l,.str path])
 refine And.intro ⟨(show (-9223372036854775808 : Int) ≤ (l.length : Int) - 1 by omega),(show (l.length : Int) - 1 ≤ 9223372036854775807 by omega)⟩ ?_
 refine ⟨Nat,fun k => k ≤ l.length ∧ findS l path = findS (l.take k) path,fun k => mks [(0,attsA l),(1,.str path),(4,.ref 0 0),(5,.int .i64 ((k : Int) - 1))] [(0,.cl false (attA Att.zero))] 1,fun k => k,l.length,⟨Nat.le_refl _,by rw [List.take_length]⟩,?_,?_⟩
 ·refine sub_ren [0] rfl (by decide) ⟨⟨_,rfl,rfl⟩,⟨_,rfl,rfl⟩,⟨_,rfl,⟨0,rfl,rfl⟩⟩,⟨_,rfl,rfl⟩,trivial⟩ ⟨⟨0,_,rfl,rfl,?_⟩,trivial⟩
  exact ⟨_,rfl,eN (nnl_attA _) rfl⟩
 ·rintro k ⟨hk,hf⟩
  show awp _ _ _ (mks [(0,attsA l),(1,.str path),(4,.ref 0 0),(5,.int .i64 ((k : Int) - 1))] [(0,.cl false (attA Att.zero))] 1)
  refine cond_split (fun h => ?_) (fun h => ?_)
  ·have hT : (0 : Int) ≤ (k : Int) - 1 := of_decide_eq_true h
   obtain ⟨j,rfl⟩ : ∃ j,k = j + 1 := ⟨k - 1,by omega⟩
   have hlt : j < l.length := by omega
   obtain ⟨a,ha⟩ : ∃ a,a = l[j]'hlt := ⟨_,rfl⟩
   have hai : l[j]? = some a := by rw [List.getElem?_eq_getElem hlt,ha]
   have hft := find_take (path := path) hlt
   rw [← ha] at hft
   have e0 : (((j + 1 : Nat) : Int) - 1).toNat = j := by omega
   refine And.intro ⟨rfl,by decide,by omega,by omega⟩ ?_
   refine ⟨_,(show (flatA l)[(((j + 1 : Nat) : Int) - 1).toNat * 3 + 0]? = some (.str a.g) by rw [e0]; exact flatA_g hai),?_⟩
   refine ⟨(a.g,path),rfl,⟨hg a (by rw [ha]; exact List.getElem_mem _),hp⟩,?_⟩
   rcases Bool.eq_false_or_eq_true (matchG a.g path) with hm | hm
   ·rw [if_pos hm] at hft
    refine cond_t hm ?_
    refine And.intro ⟨rfl,by decide,by omega,by omega⟩ ?_
    refine And.intro (nnl_flatA l) ?_
    refine ⟨attA a,⟨by rw [e0]; exact (flatA_at hai).symm,rfl⟩,?_⟩
    refine And.intro ⟨rfl,one_attA a⟩ ?_
    refine And.intro (Nat.le_refl 3) ?_
    refine ⟨_,lay_all rfl,?_⟩
    refine ⟨_,(by first | exact SubSt.refl _ | exact SubTop.refl _),?_⟩
    refine ⟨_,⟨rfl,rfl,Nat.zero_le _⟩,?_⟩
    show AV.agg (attA a) = AV.agg (attA (findS l path))
    rw [hf,hft]
   ·rw [if_neg (by rw [hm]; decide)] at hft
    refine cond_f hm ?_
    refine And.intro (by omega) ?_
    refine ⟨j,⟨by omega,by rw [hf,hft]⟩,(show j < j + 1 by omega),?_⟩
    refine sub_ren [0] rfl (by decide) ⟨⟨_,rfl,rfl⟩,⟨_,rfl,rfl⟩,⟨_,rfl,⟨0,rfl,rfl⟩⟩,⟨_,rfl,eI (by omega)⟩,trivial⟩ ⟨⟨0,_,rfl,rfl,?_⟩,trivial⟩
    exact ⟨_,rfl,eN (nnl_attA _) rfl⟩
  ·have hF : ¬ (0 : Int) ≤ (k : Int) - 1 := of_decide_eq_false h
   have he : k = 0 := by omega
   subst he
   refine And.intro rfl ?_
   refine And.intro ⟨rfl,one_attA Att.zero⟩ ?_
   refine And.intro (Nat.le_refl 3) ?_
   refine ⟨_,lay_all rfl,?_⟩
   refine ⟨_,(by first | exact SubSt.refl _ | exact SubTop.refl _),?_⟩
   refine ⟨_,⟨rfl,rfl,Nat.zero_le _⟩,?_⟩
   show AV.agg (attA Att.zero) = AV.agg (attA (findS l path))
   rw [hf]; rfl

end Qk

/-
  Chapter 57: the reference's attribute of a line.
-/
namespace Qk
open Go Go.RowKit

end Qk

/-
  Chapter 57: the reference's attributes of a text.
-/
namespace Qk
open Go Go.RowKit

end Qk

/-
  Chapter 57: the law that the attributes are the reference's.
-/
namespace Qk
open Go Go.RowKit

end Qk
