/-
  Chapter 32: matching.
-/
import Derived.Test.YtnjncjjegolojaaGreatDoorPd

/-
  Chapter 32: matching, in the form of the executor (printed by a program).
-/
namespace Qk
open Go Go.RowKit

def V_glob_after_1 : Nat → Option PC := look closL
def HV_glob_after_1 : Nat → Option HTran := look []
/-- quilt/glob.after$1 -/
def ir_glob_after_1 : IF := ⟨(.block 0 (.loop (.seq (.seq (.ops [⟨some 5,none,.load1 (t 1)⟩,⟨some 6,none,.load1 (t 2)⟩,⟨some 7,none,.lenL (t 6)⟩,⟨some 8,none,.bin .lss (t 5) (t 7)⟩])
 (.cond (t 8) .skip
 (.exit 0)))
 (.seq (.block 1 (.seq (.seq (.ops [⟨some 11,none,.load1 (t 2)⟩,⟨some 12,none,.load1 (t 1)⟩,⟨some 13,none,.idxL 4 (t 11) (t 12)⟩,
  ⟨some 14,none,.fldA 0 (t 13)⟩,⟨some 15,none,.load1 (t 14)⟩])
 (.cond (t 15) (.seq (.jn (.seq (.sops [.op ⟨some 16,none,.mov (t 0)⟩,
  .op ⟨some 17,none,.load1 (t 1)⟩,
  .dyn ⟨some 18,none,.vcall V_glob_after_1 (t 16) [(t 17)]⟩ HV_glob_after_1 (t 16) [(t 17)],
  .op ⟨some 19,none,.not (t 18)⟩])
 (.cond (t 19) .ret
 .skip)))
 (.exit 1))
 .skip))
 (.seq (.seq (.jn (.ops [⟨some 20,none,.load1 (t 2)⟩,⟨some 21,none,.load1 (t 1)⟩,⟨some 22,none,.idxL 4 (t 20) (t 21)⟩,⟨some 23,none,.fldA 3 (t 22)⟩,⟨some 24,none,.load1 (t 23)⟩,
  ⟨some 25,none,.load1 (t 3)⟩,⟨some 26,none,.vcall V_glob_after_1 (t 24) [(t 25)]⟩]))
 (.jn (.cond (t 26) (.sops [.op ⟨some 27,none,.mov (t 0)⟩,
  .op ⟨some 28,none,.load1 (t 1)⟩,
  .op ⟨some 29,none,.bin .add (t 28) (ci 1)⟩,
  .dyn ⟨some 30,none,.vcall V_glob_after_1 (t 27) [(t 29)]⟩ HV_glob_after_1 (t 27) [(t 29)]])
 .skip)))
 .ret)))
 (.ops [⟨some 9,none,.load1 (t 1)⟩,⟨some 10,none,.bin .add (t 9) (ci 1)⟩,⟨none,none,.stor1 (t 1) (t 10)⟩]))))),[]⟩
def T_glob_after_1 : ITran := itr 4 ir_glob_after_1.code ir_glob_after_1.res
def IT__quilt_glob_component__fits : Nat → Option ITran := look [(4,T_glob_after_1)]
/-- (quilt/glob.component).fits -/
def ir__quilt_glob_component__fits : IF := ⟨(.seq (.ops [⟨some 2,none,.box (t 0)⟩,⟨some 4,none,.mov (.const (.bool false))⟩])
 (.seq (.ops [⟨some 11,none,.mkmap true [some (some .i64)]⟩,⟨none,none,.mput true [some (some .i64)] (t 11) (ci 0) (.const (.bool true))⟩,⟨some 12,none,.mov (t 11)⟩,⟨some 5,none,.mov (t 12)⟩])
 (.seq (.seq (.ops [⟨some 13,none,.mov (t 1)⟩,⟨some 14,none,.lenS (t 13)⟩,
  ⟨some 15,none,.mov (ci 0)⟩])
 (.block 0 (.loop (.seq (.ops [⟨some 16,none,.bin .lss (t 15) (t 14)⟩])
 (.seq (.cond (t 16) .skip
 (.exit 0))
 (.seq (.block 1 (.seq (.ops [⟨some 17,none,.mov (t 15)⟩,⟨some 6,none,.mov (t 17)⟩])
 (.seq (.ops [⟨some 18,none,.mkmap true [some (some .i64)]⟩,⟨some 7,none,.alloc [.raw (.map none)]⟩,⟨none,none,.stor1 (t 7) (t 18)⟩])
 (.seq (.seq (.sops [.op ⟨some 19,none,.mov (t 5)⟩,
  .rng (some 20) (t 19)])
 (.block 2 (.loop (.seq (.sops [.nxt (some 21) (t 20),
  .op ⟨some 22,none,.extr (t 21) 0⟩])
 (.seq (.cond (t 22) .skip
 (.exit 2))
 (.block 3 (.seq (.sops [.ent (some 23) (t 20),
  .op ⟨some 24,none,.extr (t 23) 0⟩,
  .op ⟨some 8,none,.mov (t 24)⟩])
 (.seq (.ops [⟨some 25,none,.fldA 1 (t 2)⟩,⟨some 26,none,.load1 (t 25)⟩,⟨some 27,none,.mov (t 8)⟩,
  ⟨some 28,none,.mov (t 1)⟩,⟨some 29,none,.mov (t 6)⟩,⟨some 30,none,.idxS (t 28) (t 29)⟩,⟨some 31,none,.pcallB B_glob_after [(t 26),(t 27),(t 30)]⟩])
 (.block 4 (.rfunc IT__quilt_glob_component__fits (t 31) [32] (.seq (.ops [⟨some 9,none,.mov (t 32)⟩])
 (.block 5 (.ops [⟨some 33,none,.load1 (t 7)⟩,⟨some 34,none,.mov (t 9)⟩,⟨none,none,.mput true [some (some .i64)] (t 33) (t 34) (.const (.bool true))⟩])))))))))))))
 (.ops [⟨some 35,none,.load1 (t 7)⟩,
  ⟨some 5,none,.mov (t 35)⟩])))))
 (.ops [⟨some 36,none,.bin .add (t 15) (ci 1)⟩,⟨some 15,none,.mov (t 36)⟩])))))))
 (.seq (.seq (.sops [.op ⟨some 37,none,.mov (t 5)⟩,
  .rng (some 38) (t 37)])
 (.block 6 (.loop (.seq (.sops [.nxt (some 39) (t 38),
  .op ⟨some 40,none,.extr (t 39) 0⟩])
 (.seq (.cond (t 40) .skip
 (.exit 6))
 (.block 7 (.seq (.sops [.ent (some 41) (t 38),
  .op ⟨some 42,none,.extr (t 41) 0⟩,
  .op ⟨some 10,none,.mov (t 42)⟩])
 (.seq (.ops [⟨some 43,none,.fldA 1 (t 2)⟩,⟨some 44,none,.load1 (t 43)⟩,⟨some 45,none,.mov (t 10)⟩,⟨some 46,none,.pcall C_glob_ended [(t 44),(t 45)]⟩])
 (.cond (t 46) (.seq (.ops [⟨some 4,none,.mov (.const (.bool true))⟩])
 .ret)
 .skip)))))))))
 (.seq (.ops [⟨some 4,none,.mov (.const (.bool false))⟩])
 .ret))))),[.tmp 4]⟩
/-- quilt/glob.closure -/
def ir_glob_closure : IF := ⟨(.seq (.ops [⟨some 4,none,.mov (.const (.map none))⟩])
 (.seq (.ops [⟨some 7,none,.mkmap true [some (some .i64)]⟩,⟨some 5,none,.mov (t 7)⟩])
 (.seq (.seq (.sops [.op ⟨some 8,none,.mov (t 1)⟩,
  .rng (some 9) (t 8)])
 (.block 0 (.loop (.seq (.sops [.nxt (some 10) (t 9),
  .op ⟨some 11,none,.extr (t 10) 0⟩])
 (.seq (.cond (t 11) .skip
 (.exit 0))
 (.block 1 (.seq (.sops [.ent (some 12) (t 9),
  .op ⟨some 13,none,.extr (t 12) 0⟩,
  .op ⟨some 6,none,.mov (t 13)⟩])
 (.seq (.ops [⟨some 14,none,.mov (t 5)⟩,⟨some 15,none,.mov (t 6)⟩,⟨none,none,.mput true [some (some .i64)] (t 14) (t 15) (.const (.bool true))⟩])
 (.block 2 (.loop (.seq (.seq (.ops [⟨some 16,none,.mov (t 6)⟩,⟨some 17,none,.mov (t 0)⟩,⟨some 18,none,.lenL (t 17)⟩,
  ⟨some 19,none,.bin .lss (t 16) (t 18)⟩,⟨some 20,none,.mov (t 19)⟩,⟨some 21,some (20,true),.mov (t 0)⟩,⟨some 22,some (20,true),.mov (t 6)⟩,⟨some 23,some (20,true),.idxL 2 (t 21) (t 22)⟩,⟨some 24,some (20,true),.fldA 0 (t 23)⟩,
  ⟨some 25,some (20,true),.load1 (t 24)⟩,⟨some 26,none,.pick (t 20) (t 25) (.const (.bool false))⟩])
 (.cond (t 26) .skip
 (.exit 2)))
 (.seq (.block 3 (.ops [⟨some 29,none,.mov (t 5)⟩,⟨some 30,none,.mov (t 6)⟩,⟨some 31,none,.bin .add (t 30) (ci 1)⟩,⟨none,none,.mput true [some (some .i64)] (t 29) (t 31) (.const (.bool true))⟩]))
 (.ops [⟨some 27,none,.mov (t 6)⟩,⟨some 28,none,.bin .add (t 27) (ci 1)⟩,
  ⟨some 6,none,.mov (t 28)⟩])))))))))))))
 (.seq (.ops [⟨some 32,none,.mov (t 5)⟩,⟨some 4,none,.mov (t 32)⟩])
 .ret)))),[.tmp 4]⟩
def H_glob_closure : HTran := inl 2 ir_glob_closure.code ir_glob_closure.res
/-- quilt/glob.walk -/
def ir_glob_walk : IF := ⟨(.seq (.ops [⟨some 4,none,.mov (.const (.map none))⟩])
 (.seq (.sops [.op ⟨some 10,none,.mov (t 0)⟩,
  .op ⟨some 11,none,.mkmap true [some (some .i64)]⟩,
  .op ⟨none,none,.mput true [some (some .i64)] (t 11) (ci 0) (.const (.bool true))⟩,
  .op ⟨some 12,none,.mov (t 11)⟩,
  .call none (some 13) H_glob_closure [(t 10),(t 12)],
  .op ⟨some 5,none,.mov (t 13)⟩])
 (.seq (.seq (.ops [⟨some 14,none,.mov (t 1)⟩,⟨some 15,none,.lenL (t 14)⟩,⟨some 16,none,.mov (ci 0)⟩])
 (.block 0 (.loop (.seq (.ops [⟨some 17,none,.bin .lss (t 16) (t 15)⟩])
 (.seq (.cond (t 17) .skip
 (.exit 0))
 (.seq (.block 1 (.seq (.ops [⟨some 18,none,.idxL 1 (t 14) (t 16)⟩,⟨some 19,none,.load1 (t 18)⟩,⟨some 7,none,.mov (t 19)⟩])
 (.seq (.ops [⟨some 20,none,.mkmap true [some (some .i64)]⟩,⟨some 8,none,.mov (t 20)⟩])
 (.seq (.jn (.seq (.sops [.op ⟨some 21,none,.mov (t 5)⟩,
  .rng (some 22) (t 21)])
 (.block 2 (.loop (.seq (.sops [.nxt (some 23) (t 22),
  .op ⟨some 24,none,.extr (t 23) 0⟩])
 (.seq (.cond (t 24) .skip
 (.exit 2))
 (.block 3 (.seq (.sops [.ent (some 25) (t 22),
  .op ⟨some 26,none,.extr (t 25) 0⟩,
  .op ⟨some 9,none,.mov (t 26)⟩])
 (.block 4 (.seq (.ops [⟨some 28,none,.mov (t 9)⟩,
  ⟨some 29,none,.mov (t 0)⟩,⟨some 30,none,.lenL (t 29)⟩,⟨some 31,none,.bin .eql (t 28) (t 30)⟩,⟨some 27,none,.mov (t 31)⟩])
 (.jn (.cond (t 27) .skip
 (.seq (.ops [⟨some 33,none,.mov (t 0)⟩,⟨some 34,none,.mov (t 9)⟩,⟨some 35,none,.idxL 2 (t 33) (t 34)⟩,
  ⟨some 36,none,.fldA 0 (t 35)⟩,⟨some 37,none,.load1 (t 36)⟩,⟨some 32,none,.mov (t 37)⟩])
 (.jn (.cond (t 32) (.ops [⟨some 38,none,.mov (t 8)⟩,⟨some 39,none,.mov (t 9)⟩,⟨none,none,.mput true [some (some .i64)] (t 38) (t 39) (.const (.bool true))⟩])
 (.seq (.ops [⟨some 41,none,.mov (t 0)⟩,⟨some 42,none,.mov (t 9)⟩,
  ⟨some 43,none,.idxL 2 (t 41) (t 42)⟩,⟨some 44,none,.loadN 2 (t 43)⟩,⟨some 45,none,.mov (t 7)⟩,⟨some 46,none,.pcall C__quilt_glob_component__fits [(t 44),(t 45)]⟩,⟨some 40,none,.mov (t 46)⟩])
 (.jn (.cond (t 40) (.ops [⟨some 47,none,.mov (t 8)⟩,⟨some 48,none,.mov (t 9)⟩,
  ⟨some 49,none,.bin .add (t 48) (ci 1)⟩,⟨none,none,.mput true [some (some .i64)] (t 47) (t 49) (.const (.bool true))⟩])
 .skip))))))))))))))))))
 (.sops [.op ⟨some 50,none,.mov (t 0)⟩,
  .op ⟨some 51,none,.mov (t 8)⟩,
  .call none (some 52) H_glob_closure [(t 50),(t 51)],
  .op ⟨some 5,none,.mov (t 52)⟩])))))
 (.ops [⟨some 53,none,.bin .add (t 16) (ci 1)⟩,⟨some 16,none,.mov (t 53)⟩])))))))
 (.seq (.ops [⟨some 54,none,.mov (t 5)⟩,⟨some 4,none,.mov (t 54)⟩])
 .ret)))),[.tmp 4]⟩
def H_glob_walk : HTran := inl 2 ir_glob_walk.code ir_glob_walk.res
/-- quilt/glob.Match -/
def ir_glob_Match : IF := ⟨(.seq (.ops [⟨some 4,none,.mov (.const (.bool false))⟩])
 (.seq (.ops [⟨some 8,none,.mov (t 0)⟩,⟨some 9,none,.pcall C_glob_parse [(t 8)]⟩,⟨some 7,none,.mov (t 9)⟩,⟨some 10,none,.extr (t 7) 0⟩,⟨some 11,none,.extr (t 7) 1⟩,⟨some 5,none,.mov (t 10)⟩,
  ⟨some 6,none,.mov (t 11)⟩])
 (.seq (.sops [.op ⟨some 12,none,.mov (t 6)⟩,
  .op ⟨some 13,none,.bin .eql (t 12) (ci 0)⟩,
  .op ⟨some 14,none,.mov (t 13)⟩,
  .op ⟨some 15,some (14,true),.mov (t 5)⟩,
  .op ⟨some 16,some (14,true),.mov (t 1)⟩,
  .op ⟨some 17,some (14,true),.pcallF F_glob_split [(t 16)]⟩,
  .call (some (14,true)) (some 18) H_glob_walk [(t 15),(t 17)],
  .op ⟨some 19,some (14,true),.mov (t 5)⟩,
  .op ⟨some 20,some (14,true),.lenL (t 19)⟩,
  .op ⟨some 21,some (14,true),.mlook true [some (some .i64)] (.bool false) false (t 18) (t 20)⟩,
  .op ⟨some 22,none,.pick (t 14) (t 21) (.const (.bool false))⟩,
  .op ⟨some 4,none,.mov (t 22)⟩])
 .ret))),[.tmp 4]⟩
end Qk

/-
  Chapter 32: what can follow elements.
-/
namespace Qk
open Go Go.RowKit

theorem d_after : DoesB ir_glob_after B_glob_after := by
 rintro ⟨l,i,c⟩ _
 refine ⟨_,sub_frz [0,2] (env := [(6,.clo 4 [.ref 1 0,.iref [elsA l] 0,.iref [.int .u8 c.toNat] 0])]) (heap := [(1,.cl false [.int .i64 i])]) (nx := 3) ?_ ?_ (Nat.le_refl 3),?_⟩
 ·refine ⟨⟨_,rfl,.inr ⟨_,rfl,_,_,rfl,rfl,_,_,rfl,.inr ⟨0,false,rfl,by decide,rfl,nnl_one (nn_ilist _ _ _)⟩,_,_,rfl,.inr ⟨2,false,rfl,by decide,rfl,nnl_one (plain_int _ _).nn⟩,rfl⟩⟩,trivial⟩
 ·exact ⟨⟨by decide,_,rfl,_,rfl,.inl rfl⟩,trivial⟩
 ·refine ⟨1,false,rfl,rfl,?_,?_⟩
  ·intro v hv
   simp only [B_glob_after,List.mem_singleton] at hv
   subst hv; exact plain_int _ _
  ·exact nnl_cons (nn_iref _ _) (nnl_one (nn_iref _ _))

def EA (n : Nat) (L : List El) (c : UInt8) (l : Nat) : List (Nat × AV) := [(0,.raw (.func (.yield l) #[] #[])),(1,.ref n 0),(2,.iref [elsA L] 0),(3,.iref [.int .u8 c.toNat] 0)]

def EB (n : Nat) (L : List El) (c : UInt8) (l : Nat) (b : Bool) : List (Nat × AV) := [(0,.raw (.func (.yield l) #[] #[])),(1,.ref n 0),(2,.iref [elsA L] 0),(3,.iref [.int .u8 c.toNat] 0),(26,.bool b)]
def aftE (c : UInt8) (i : Nat) (l : List El) : List Nat := aft El.isStar El.fit c i l

theorem aft_drop {L : List El} {c : UInt8} {i : Nat} (h : i < L.length) : aftE c i (L.drop i) = match (L[i]'h).isStar with
  | true => i :: aftE c (i + 1) (L.drop (i + 1))
  | false => if (L[i]'h).fit c then [i + 1] else [] := by
 unfold aftE
 rw [List.drop_eq_getElem_cons h,aft]
 cases (L[i]'h).isStar <;> rfl

set_option maxHeartbeats 1000000 in
theorem t_after {L : List El} {c : UInt8} {i0 n : Nat} {Y : List AV → Heap → Nat → (Bool → Heap → Nat → Prop) → Prop} {H : Heap} {nx N1 : Nat} {K : Heap → Nat → Prop} {σ : Type} (Hs : σ → Nat → Heap) (ok : List Nat → σ → Prop)
  (hL : L.length ≤ 1000000000) (hwf : ∀ e ∈ L,e.wf) (hi0 : i0 ≤ L.length)
  (hcell : ∀ s (i : Nat),Hs s i n = some (.cl false [.int .i64 i]))
  (hupd : ∀ s (i k : Nat),upd (Hs s i) n (some (.cl false [.int .i64 k])) = Hs s k)
  (s0 : σ) (h0 : ok [] s0) (hS : ∀ l,SubSt nx ⟨mk (EA n L c l),H,nx⟩ ⟨mk (EA n L c l),Hs s0 i0,N1⟩)
  (hY : ∀ done s (i j : Nat) J,ok done s → (∃ r,done ++ j :: r = aftE c i0 (L.drop i0)) → (∀ H' nx' s',ok (done ++ [j]) s' → (∀ l,SubSt nx ⟨mk (EA n L c l),H',nx'⟩ ⟨mk (EA n L c l),Hs s' i,N1⟩) → J true H' nx') → Y [.int .i64 j] (Hs s i) N1 J)
  (hK : ∀ s (i : Nat),ok (aftE c i0 (L.drop i0)) s → K (Hs s i) N1) :
  T_glob_after_1 Y [.ref n 0,.iref [elsA L] 0,.iref [.int .u8 c.toNat] 0] H nx K := by
 refine And.intro rfl (fun l => ?_)
 refine ⟨List Nat × σ × Nat,fun x => ok x.1 x.2.1 ∧ x.2.2 ≤ L.length ∧ x.1 ++ aftE c x.2.2 (L.drop x.2.2) = aftE c i0 (L.drop i0),fun x => ⟨mk (EA n L c l),Hs x.2.1 x.2.2,N1⟩,fun x => L.length - x.2.2,([],s0,i0),⟨h0,hi0,rfl⟩,?_,?_⟩
 ·exact SubSt.trans (sub_to (env := EA n L c l) ⟨rfl,rfl,rfl,rfl,trivial⟩ rfl (Nat.le_refl _)) (hS l)
 ·rintro ⟨done,s,i⟩ ⟨hok,hi,hd⟩
  dsimp only at hok hi hd
  conv => whnf
  dsimp only [St.set]
  rw [hcell]
  refine ⟨_,rfl,?_⟩
  refine ⟨_,rfl,?_⟩
  refine cond_split (fun h => ?_) (fun h => ?_)
  ·have hT : (i : Int) < L.length := of_decide_eq_true h
   have hlt : i < L.length := by omega
   have e0 : (i : Int).toNat = i := by omega
   rw [aft_drop hlt] at hd
   refine ⟨_,rfl,?_⟩
   conv => whnf
   dsimp only [St.set]
   rw [hcell]
   refine ⟨_,rfl,?_⟩
   refine And.intro ⟨rfl,by decide,by omega,by omega⟩ ?_
   refine ⟨_,by rw [e0]; exact star_cell hlt,?_⟩
   refine cond_split (fun h => ?_) (fun h => ?_)
   ·have hst : (L[i]'hlt).isStar = true := h
    rw [hst] at hd
    refine jn_at (fun s' : σ => ⟨mk (EA n L c l),Hs s' i,N1⟩) (fun s' => ok (done ++ [i]) s') ?_ ?_
    ·skip
     conv => whnf
     dsimp only [St.set]
     rw [hcell]
     refine ⟨_,rfl,?_⟩
     refine And.intro rfl (And.intro rfl ?_)
     refine hY done s i i _ hok ⟨_,hd⟩ (fun H' nx' s' hok' hsub => ?_)
     exact ⟨s',hok',SubSt.trans (sub_to (env := EA n L c l) ⟨rfl,rfl,rfl,rfl,trivial⟩ rfl (Nat.le_refl _)) (hsub l)⟩
    ·intro s' hok'
     conv => whnf
     dsimp only [St.set]
     rw [hcell]
     refine ⟨_,rfl,?_⟩
     refine And.intro (by omega) ?_
     conv => whnf
     dsimp only [St.set]
     rw [hcell]
     refine And.intro (show 0 < 1 by decide) ?_
     refine ⟨(done ++ [i],s',i + 1),⟨hok',hlt,by rw [List.append_assoc]; exact hd⟩,by dsimp only; omega,?_⟩
     exact sub_to (env := EA n L c l) ⟨rfl,rfl,rfl,rfl,trivial⟩ (hupd s' i (i + 1)) (Nat.le_refl _)
   ·have hst : (L[i]'hlt).isStar = false := h
    rw [hst] at hd
    refine jn_at (fun _ : Unit => ⟨mk (EB n L c l ((L[i]'hlt).fit c)),Hs s i,N1⟩) (fun _ => True) ?_ ?_
    ·refine ⟨_,rfl,?_⟩
     conv => whnf
     dsimp only [St.set]
     rw [hcell]
     refine ⟨_,rfl,?_⟩
     refine And.intro ⟨rfl,by decide,by omega,by omega⟩ ?_
     have fc := flat_cell elA_len L i 3 _ (List.getElem?_eq_getElem hlt) (by decide)
     have hw := hwf _ (List.getElem_mem hlt)
     cases he : L[i]'hlt with
     | star => rw [he] at hst; cases hst
     | any =>
      rw [he] at fc
      refine ⟨_,by rw [e0]; exact fc,?_⟩
      refine ⟨_,rfl,?_⟩
      refine ⟨c,rfl,trivial,?_⟩
      refine ⟨(),trivial,?_⟩
      refine sub_to ⟨rfl,rfl,rfl,rfl,congrArg some (eBo ?_),trivial⟩ rfl (Nat.le_refl _)
      rfl
     | lit d =>
      rw [he] at fc
      refine ⟨_,by rw [e0]; exact fc,?_⟩
      refine ⟨_,rfl,?_⟩
      refine ⟨(c,d),rfl,trivial,?_⟩
      refine ⟨(),trivial,?_⟩
      refine sub_to ⟨rfl,rfl,rfl,rfl,congrArg some (eBo ?_),trivial⟩ rfl (Nat.le_refl _)
      rfl
     | cls neg tab =>
      rw [he] at fc hw
      refine ⟨_,by rw [e0]; exact fc,?_⟩
      refine ⟨_,rfl,?_⟩
      refine ⟨(c,neg,tab),rfl,hw,?_⟩
      refine ⟨(),trivial,?_⟩
      refine sub_to ⟨rfl,rfl,rfl,rfl,congrArg some (eBo ?_),trivial⟩ rfl (Nat.le_refl _)
      rfl
    ·rintro _ _
     refine jn_plain ?_
     refine cond_split (fun h => ?_) (fun h => ?_)
     ·have hf : (L[i]'hlt).fit c = true := h
      rw [hf] at hd
      conv => whnf
      dsimp only [St.set]
      rw [hcell]
      refine ⟨_,rfl,?_⟩
      refine And.intro (by omega) ?_
      refine And.intro rfl (And.intro rfl ?_)
      refine hY done s i (i + 1) _ hok ⟨[],hd⟩ (fun H' nx' s' hok' hsub => ?_)
      refine ⟨⟨mk (EA n L c l),Hs s' i,N1⟩,SubSt.trans (sub_to (env := EA n L c l) ⟨rfl,rfl,rfl,rfl,trivial⟩ rfl (Nat.le_refl _)) (hsub l),?_⟩
      refine hK s' i ?_
      have hd' : done ++ [i + 1] = aftE c i0 (L.drop i0) := hd
      rw [← hd']; exact hok'
     ·have hf : (L[i]'hlt).fit c = false := h
      rw [hf] at hd
      refine ⟨_,SubSt.refl _,?_⟩
      refine hK s i ?_
      have hd' : done ++ [] = aftE c i0 (L.drop i0) := hd
      rw [← hd',List.append_nil]; exact hok
  ·have hF : ¬ (i : Int) < L.length := of_decide_eq_false h
   refine ⟨_,SubSt.refl _,?_⟩
   refine hK s i ?_
   rw [List.drop_of_length_le (by omega)] at hd
   have hd' : done ++ [] = aftE c i0 (L.drop i0) := hd
   rw [← hd',List.append_nil]; exact hok

end Qk

/-
  Chapter 32: sets of places, as maps; does a component pattern fit?
-/
namespace Qk
open Go Go.RowKit

def ki (i : Nat) : AV := .int .i64 i
theorem ki_inj {i j : Nat} : ki i = ki j ↔ i = j := by
 constructor
 ·intro h; cases h; rfl
 ·intro h; rw [h]
/-- The map that holds true at the places P. -/
def stM (P : Nat → Prop) : AV → AV → Prop := fun k v => ∃ i,P i ∧ k = ki i ∧ v = .bool true
def stC (P : Nat → Prop) : MC := ⟨true,[some (some .i64)],stM P⟩
def stO (P : Nat → Prop) : AO := .opq (mapR (stC P))
theorem putM_st (P : Nat → Prop) (j : Nat) : putM (stM P) (ki j) (.bool true) = stM (fun x => x = j ∨ P x) := by
 funext k v
 apply propext
 unfold putM stM
 constructor
 ·rintro (⟨rfl,rfl⟩ | ⟨h,i,hi,rfl,rfl⟩)
  ·exact ⟨j,.inl rfl,rfl,rfl⟩
  ·exact ⟨i,.inr hi,rfl,rfl⟩
 ·rintro ⟨i,(rfl | hi),rfl,rfl⟩
  ·exact .inl ⟨rfl,rfl⟩
  ·by_cases h : i = j
   ·subst h; exact .inl ⟨rfl,rfl⟩
   ·exact .inr ⟨fun e => h (ki_inj.1 e),i,hi,rfl,rfl⟩
theorem noM_st : noM = stM (fun _ => False) := by
 funext k v
 apply propext
 unfold noM stM
 constructor
 ·intro h; exact h.elim
 ·rintro ⟨_,h,_⟩; exact h
/-- The keys that have been. -/
def dV (vis : List Nat) : AV → Prop := fun k => ∃ i,i ∈ vis ∧ k = ki i
theorem dV_nil : (fun _ : AV => False) = dV [] := by
 funext k; apply propext; constructor
 ·intro h; exact h.elim
 ·rintro ⟨_,h,_⟩; cases h
theorem dV_cons (i : Nat) (vis : List Nat) : (fun x => x = ki i ∨ dV vis x) = dV (i :: vis) := by
 funext k; apply propext; unfold dV; constructor
 ·rintro (rfl | ⟨j,hj,rfl⟩)
  ·exact ⟨i,by simp,rfl⟩
  ·exact ⟨j,by simp [hj],rfl⟩
 ·rintro ⟨j,hj,rfl⟩
  rcases List.mem_cons.1 hj with rfl | hj
  ·exact .inl rfl
  ·exact .inr ⟨j,hj,rfl⟩
theorem dV_ki {i : Nat} {vis : List Nat} : dV vis (ki i) ↔ i ∈ vis := by
 constructor
 ·rintro ⟨j,hj,e⟩; rw [ki_inj.1 e]; exact hj
 ·intro h; exact ⟨i,h,rfl⟩
/-- How many places are left. -/
def leftN (n : Nat) (vis : List Nat) : Nat := ((List.range (n + 1)).filter fun i => !decide (i ∈ vis)).length
theorem filter_lt {α : Type} {p q : α → Bool} : ∀ {l : List α},(∀ x ∈ l,q x = true → p x = true) → (∃ x ∈ l,p x = true ∧ q x = false) → (l.filter q).length < (l.filter p).length
 | [],_,h => by obtain ⟨x,hx,_⟩ := h; cases hx
 | a :: l,h1,h2 => by
  have hle : ∀ l : List α,(∀ x ∈ l,q x = true → p x = true) → (l.filter q).length ≤ (l.filter p).length := by
   intro l
   induction l with
   | nil => intro _; simp
   | cons b l ih =>
    intro h
    have := ih (fun x hx => h x (by simp [hx]))
    by_cases hq : q b = true
    ·rw [List.filter_cons_of_pos hq,List.filter_cons_of_pos (h b (by simp) hq)]
     simp; exact this
    ·rw [List.filter_cons_of_neg hq]
     by_cases hp : p b = true
     ·rw [List.filter_cons_of_pos hp]; simp; omega
     ·rw [List.filter_cons_of_neg hp]; exact this
  obtain ⟨x,hx,hp,hq⟩ := h2
  have h1' : ∀ x ∈ l,q x = true → p x = true := fun x hx => h1 x (by simp [hx])
  rcases List.mem_cons.1 hx with rfl | hx
  ·rw [List.filter_cons_of_pos hp,List.filter_cons_of_neg (by simp [hq])]
   have := hle l h1'
   simp; omega
  ·have ih := filter_lt h1' ⟨x,hx,hp,hq⟩
   by_cases hqa : q a = true
   ·rw [List.filter_cons_of_pos hqa,List.filter_cons_of_pos (h1 a (by simp) hqa)]
    simp; exact ih
   ·rw [List.filter_cons_of_neg hqa]
    by_cases hpa : p a = true
    ·rw [List.filter_cons_of_pos hpa]; simp; omega
    ·rw [List.filter_cons_of_neg hpa]; exact ih
theorem leftN_lt {n i : Nat} {vis : List Nat} (hi : i ≤ n) (hv : i ∉ vis) : leftN n (i :: vis) < leftN n vis := by
 apply filter_lt
 ·intro x _ h
  simp only [List.mem_cons,Bool.not_eq_true',decide_eq_false_iff_not] at h ⊢
  exact fun h2 => h (.inr h2)
 ·exact ⟨i,List.mem_range.2 (by omega),by simpa using hv,by simp⟩

theorem out_mkh {ks : List Nat} : ∀ {l : List (Nat × AO)},(l.all fun p => ks.contains p.1) = true → OutOf ks (mkh l) (fun _ => none)
 | [],_ => fun _ _ => rfl
 | (k,v) :: l,h => by
  rw [List.all_cons,Bool.and_eq_true] at h
  intro n hn
  have : Nat.beq n k = false := by
   cases e : Nat.beq n k with
   | false => rfl
   | true =>
    rw [Nat.eq_of_beq_eq_true e] at hn
    exact absurd (by simpa using h.1) hn
  simp only [mkh,this]
  exact out_mkh h.2 n hn
theorem sub_tos {m : Nat} {S : St} {env : List (Nat × AV)} {H : Heap} {nx : Nat} (h1 : HasE S env) (h2 : ∀ n o,H n = some o → S.heap n = some o) (h3 : S.next ≤ nx) : SubSt m S ⟨mk env,H,nx⟩ :=
 sub_forget (fun k v e => h1.get k v e) h2 h3

theorem aft_le {L : List El} {c : UInt8} : ∀ {i j : Nat},i ≤ L.length → j ∈ aftE c i (L.drop i) → i ≤ j ∧ j ≤ L.length := by
 intro i j hi h
 obtain ⟨n,hn⟩ : ∃ n,n = L.length - i := ⟨_,rfl⟩
 induction n generalizing i with
 | zero =>
  rw [List.drop_of_length_le (by omega)] at h
  cases h
 | succ n ih =>
  have hlt : i < L.length := by omega
  rw [aft_drop hlt] at h
  cases hs : (L[i]'hlt).isStar with
  | true =>
   rw [hs] at h
   rcases List.mem_cons.1 h with rfl | h
   ·omega
   ·have := ih (by omega) h (by omega); omega
  | false =>
   rw [hs] at h
   dsimp only at h
   split at h
   ·rw [List.mem_singleton.1 h]; omega
   ·cases h

end Qk

/-
  Chapter 32: does a component pattern fit?
-/
namespace Qk
open Go Go.RowKit

/-- The states after those of P, at a byte. -/
def aftP (L : List El) (c : UInt8) (P : Nat → Prop) : Nat → Prop := fun j => ∃ i,P i ∧ j ∈ aftE c i (L.drop i)

def FH (C : List AV) (P Q : Nat → Prop) (vis : List Nat) (cur : Option (AV × AV)) : List (Nat × AO) :=
 [(0,.cl false C),(2,stO Q),(3,.cl false [.hnd 2]),(4,.opq (rangeR 1 (stC P) (dV vis) cur))]

theorem st_eq {P Q : Nat → Prop} (h : ∀ i,P i ↔ Q i) : stO P = stO Q := by
 have : P = Q := funext fun i => propext (h i)
 rw [this]


set_option maxRecDepth 4000 in
set_option maxHeartbeats 1000000 in
theorem d_fits : Does ir__quilt_glob_component__fits C__quilt_glob_component__fits := by
 rintro ⟨⟨any,L⟩,s⟩ ⟨⟨hwf,hL⟩,hs⟩
 dsimp only at hwf hL hs
 have fit : Comp.fit ⟨any,L⟩ s = gm El.isStar El.fit L s := rfl
 have e0 : AO.opq (mapR ⟨true,[some (some .i64)],putM noM (ki 0) (.bool true)⟩) = stO (fun i => i = 0) := by
  rw [noM_st,putM_st]; exact st_eq (by simp)
 refine ⟨noM,⟨rfl,⟨_,rfl,rfl⟩,(plain_bool true).nn⟩,?_⟩
 refine ⟨Nat × (Nat → Prop),fun x => x.1 ≤ s.length ∧ (∀ i,x.2 i → i ≤ L.length) ∧ (gm El.isStar El.fit L s = true ↔ anyAt El.isStar El.fit L x.2 (s.drop x.1)),
  fun x => mks [(1,.str s),(2,.ref 0 0),(5,.hnd 1),(14,.int .i64 s.length),(15,.int .i64 x.1)] [(0,.cl false (cpA ⟨any,L⟩)),(1,stO x.2)] 2,fun x => s.length - x.1,(0,fun i => i = 0),⟨Nat.zero_le _,(fun i h => by dsimp only at h; omega),(by rw [List.drop_zero]; exact (anyAt_start L s).symm)⟩,?_,?_⟩
 ·refine sub_ren [0,1] rfl (by decide) ⟨⟨_,rfl,rfl⟩,⟨_,rfl,⟨0,rfl,rfl⟩⟩,⟨_,rfl,⟨1,rfl,rfl⟩⟩,⟨_,rfl,rfl⟩,⟨_,rfl,rfl⟩,trivial⟩ ⟨⟨0,_,rfl,rfl,?_⟩,⟨1,_,rfl,rfl,?_⟩,trivial⟩
  ·exact ⟨_,rfl,eN (nnl_cpA _) rfl⟩
  ·exact .inl ⟨e0,_,rfl⟩
 ·rintro ⟨k,P⟩ ⟨hk,hP,hfit⟩
  dsimp only at hk hP hfit
  refine cond_split (fun h => ?_) (fun h => ?_)
  ·have hT : (k : Int) < s.length := of_decide_eq_true h
   have hlt : k < s.length := by omega
   obtain ⟨c,hc⟩ : ∃ c,c = s.getD k 0 := ⟨_,rfl⟩
   refine And.intro (show 0 < 1 by decide) ?_
   refine ⟨_,rfl,?_⟩
   refine ⟨List Nat × Option (AV × AV),fun x => (∀ i ∈ x.1,P i),
    fun x => mks [(1,.str s),(2,.ref 0 0),(6,.int .i64 k),(7,.ref 3 0),(14,.int .i64 s.length),(15,.int .i64 k),(20,.ref 4 0)] (FH (cpA ⟨any,L⟩) P (aftP L c (fun i => i ∈ x.1)) x.1 x.2) 5,
    fun x => leftN L.length x.1,([],none),(fun i h => by cases h),?_,?_⟩
   ·refine sub_tos ⟨rfl,rfl,rfl,rfl,rfl,rfl,rfl,trivial⟩ ?_ (Nat.le_refl 5)
    refine heap_sub [0,1,2,3,4] (fun _ => none) (by (try dsimp only [St.set,mks]); (repeat (first | exact out_mkh rfl | refine out_upd ?_ (by decide)))) (out_mkh rfl) ⟨.inr rfl,.inl rfl,.inr ?_,.inr rfl,.inr ?_,trivial⟩
    ·show some (AO.opq (mapR ⟨true,[some (some .i64)],noM⟩)) = some (stO (aftP L c (fun i => i ∈ [])))
     rw [noM_st]
     exact congrArg some (st_eq (fun j => ⟨fun h => h.elim,fun ⟨_,h,_⟩ => by cases h⟩))
    ·show some (AO.opq (rangeR 1 (stC P) (fun _ => False) none)) = some (AO.opq (rangeR 1 (stC P) (dV []) none))
     rw [dV_nil]
   ·rintro ⟨vis,cur⟩ hv
    dsimp only at hv
    refine ⟨1,stC P,dV vis,cur,⟨rfl,by decide,rfl⟩,?_,?_⟩
    ·rintro kk vv ⟨i,hi,rfl,rfl⟩ hnd
     have hni : i ∉ vis := fun h => hnd (dV_ki.2 h)
     have hil := hP i hi
     refine ⟨_,rfl,?_⟩
     refine ⟨1,stC P,_,_,_,rfl,?_⟩
     refine ⟨_,rfl,?_⟩
     refine ⟨_,rfl,?_⟩
     refine And.intro ⟨by omega,by omega⟩ ?_
     refine ⟨(L,i,c),?_,trivial,?_⟩
     ·rw [hc]; rfl
     have ed := dV_cons i vis
     refine t_after (n := 5) (i0 := i) (N1 := 6) (fun Q i' => upd (upd (mkh (FH (cpA ⟨any,L⟩) P (aftP L c (fun i => i ∈ vis)) (i :: vis) (some (ki i,.bool true)))) 2 (some (stO Q))) 5 (some (.cl false [.int .i64 i'])))
      (fun done Q => Q = fun j => aftP L c (fun i => i ∈ vis) j ∨ j ∈ done) hL hwf hil (fun _ _ => rfl) (fun _ _ _ => upd_twice _ _ _ _) (aftP L c (fun i => i ∈ vis)) (by funext j; simp) ?_ ?_ ?_
     ·intro l
      refine sub_tos ⟨rfl,rfl,rfl,rfl,trivial⟩ ?_ (Nat.le_refl 6)
      refine heap_sub [0,1,2,3,4,5] (fun _ => none) (by (try dsimp only [St.set,mks]); (repeat (first | exact out_mkh rfl | refine out_upd ?_ (by decide)))) (by (try dsimp only [St.set,mks]); (repeat (first | exact out_mkh rfl | refine out_upd ?_ (by decide)))) ⟨.inr rfl,.inr rfl,.inr rfl,.inr rfl,.inr ?_,.inr rfl,trivial⟩
      show some (AO.opq (rangeR 1 (stC P) (fun x => x = ki i ∨ dV vis x) (some (ki i,.bool true)))) = some (AO.opq (rangeR 1 (stC P) (dV (i :: vis)) (some (ki i,.bool true))))
      rw [ed]
     ·intro done Q i' j J hQ _ hJ
      refine And.intro rfl ?_
      refine ⟨_,rfl,?_⟩
      refine ⟨stM Q,⟨rfl,⟨_,rfl,rfl⟩,(plain_bool true).nn⟩,?_⟩
      refine hJ _ _ (fun x => x = j ∨ Q x) ?_ (fun l => ?_)
      ·rw [hQ]
       funext x
       apply propext
       simp only [List.mem_append,List.mem_singleton]
       constructor
       ·rintro (h | h | h)
        ·exact .inr (.inr h)
        ·exact .inl h
        ·exact .inr (.inl h)
       ·rintro (h | h | h)
        ·exact .inr (.inl h)
        ·exact .inr (.inr h)
        ·exact .inl h
      ·refine sub_tos ⟨rfl,rfl,rfl,rfl,trivial⟩ ?_ (Nat.le_refl 6)
       refine heap_sub [0,1,2,3,4,5] (fun _ => none) (by (try dsimp only [St.set,mks]); (repeat (first | exact out_mkh rfl | refine out_upd ?_ (by decide)))) (by (try dsimp only [St.set,mks]); (repeat (first | exact out_mkh rfl | refine out_upd ?_ (by decide)))) ⟨.inr rfl,.inr rfl,.inr ?_,.inr rfl,.inr rfl,.inr rfl,trivial⟩
       show some (AO.opq (mapR ⟨true,[some (some .i64)],putM (stM Q) (ki j) (.bool true)⟩)) = some (stO (fun x => x = j ∨ Q x))
       rw [putM_st]; rfl
     ·intro Q i' hQ
      refine ⟨(i :: vis,some (ki i,.bool true)),?_,leftN_lt hil hni,?_⟩
      ·intro j hj
       rcases List.mem_cons.1 hj with rfl | hj
       ·exact hi
       ·exact hv j hj
      ·refine sub_ren [0,1,2,3,4] rfl (by decide) ⟨⟨_,rfl,rfl⟩,⟨_,rfl,⟨0,rfl,rfl⟩⟩,⟨_,rfl,rfl⟩,⟨_,rfl,⟨3,rfl,rfl⟩⟩,⟨_,rfl,rfl⟩,⟨_,rfl,rfl⟩,⟨_,rfl,⟨4,rfl,rfl⟩⟩,trivial⟩ ⟨⟨0,_,rfl,rfl,?_⟩,⟨2,_,rfl,rfl,?_⟩,⟨3,_,rfl,rfl,?_⟩,⟨4,_,rfl,rfl,?_⟩,trivial⟩
       ·exact ⟨_,rfl,eN (nnl_cpA _) rfl⟩
       ·refine .inl ⟨?_,_,rfl⟩
        show stO Q = stO (aftP L c (fun j => j ∈ i :: vis))
        rw [hQ]
        refine st_eq (fun j => ⟨?_,?_⟩)
        ·rintro (⟨i2,h1,h2⟩ | h)
         ·exact ⟨i2,by simp [h1],h2⟩
         ·exact ⟨i,by simp,h⟩
        ·rintro ⟨i2,h1,h2⟩
         rcases List.mem_cons.1 h1 with rfl | h1
         ·exact .inr h2
         ·exact .inl ⟨i2,h1,h2⟩
       ·exact ⟨_,rfl,.inr ⟨_,_,rfl,⟨2,rfl,rfl⟩,rfl⟩⟩
       ·exact .inr (.inl ⟨1,1,_,_,_,rfl,rfl,rfl⟩)
    ·intro hall
     have hvis : ∀ i,P i ↔ i ∈ vis := fun i => ⟨fun h => dV_ki.1 (hall (ki i) (.bool true) ⟨i,h,rfl,rfl⟩),hv i⟩
     refine ⟨_,rfl,?_⟩
     refine ⟨_,rfl,?_⟩
     refine And.intro (by omega) ?_
     have hd : s.drop k = c :: s.drop (k + 1) := by rw [hc]; exact drop_cons hlt
     refine ⟨(k + 1,aftP L c P),⟨hlt,?_,?_⟩,by dsimp only; omega,?_⟩
     ·rintro j ⟨i,hi,hj⟩
      exact (aft_le (hP i hi) hj).2
     ·rw [hfit,hd]
      exact anyAt_step L P (aftP L c P) c _ (fun j => Iff.rfl)
     ·refine sub_ren [0,2] rfl (by decide) ⟨⟨_,rfl,rfl⟩,⟨_,rfl,⟨0,rfl,rfl⟩⟩,⟨_,rfl,⟨2,rfl,rfl⟩⟩,⟨_,rfl,rfl⟩,⟨_,rfl,eI (by omega)⟩,trivial⟩ ⟨⟨0,_,rfl,rfl,?_⟩,⟨2,_,rfl,rfl,?_⟩,trivial⟩
      ·exact ⟨_,rfl,eN (nnl_cpA _) rfl⟩
      ·refine .inl ⟨?_,_,rfl⟩
       show stO (aftP L c (fun i => i ∈ vis)) = stO (aftP L c P)
       exact st_eq (fun j => ⟨fun ⟨i,h1,h2⟩ => ⟨i,(hvis i).2 h1,h2⟩,fun ⟨i,h1,h2⟩ => ⟨i,(hvis i).1 h1,h2⟩⟩)
  ·have hF : ¬ (k : Int) < s.length := of_decide_eq_false h
   have hd : s.drop k = [] := List.drop_of_length_le (by omega)
   rw [hd,anyAt_end] at hfit
   refine ⟨_,rfl,?_⟩
   refine ⟨List Nat × Option (AV × AV),fun x => (∀ i ∈ x.1,P i ∧ (L.drop i).all El.isStar = false),
    fun x => mks [(2,.ref 0 0),(38,.ref 2 0)] [(0,.cl false (cpA ⟨any,L⟩)),(2,.opq (rangeR 1 (stC P) (dV x.1) x.2))] 3,
    fun x => leftN L.length x.1,([],none),(fun i h => by cases h),?_,?_⟩
   ·refine sub_tos ⟨rfl,rfl,trivial⟩ ?_ (Nat.le_refl 3)
    refine heap_sub [0,1,2] (fun _ => none) (by (try dsimp only [St.set,mks]); (repeat (first | exact out_mkh rfl | refine out_upd ?_ (by decide)))) (out_mkh rfl) ⟨.inr rfl,.inl rfl,.inr ?_,trivial⟩
    show some (AO.opq (rangeR 1 (stC P) (fun _ => False) none)) = some (AO.opq (rangeR 1 (stC P) (dV []) none))
    rw [dV_nil]
   ·rintro ⟨vis,cur⟩ hv
    dsimp only at hv
    refine ⟨1,stC P,dV vis,cur,⟨rfl,by decide,rfl⟩,?_,?_⟩
    ·rintro kk vv ⟨i,hi,rfl,rfl⟩ hnd
     have hni : i ∉ vis := fun h => hnd (dV_ki.2 h)
     have hil := hP i hi
     refine ⟨_,rfl,?_⟩
     refine ⟨1,stC P,_,_,_,rfl,?_⟩
     refine ⟨_,rfl,?_⟩
     refine ⟨_,rfl,?_⟩
     refine ⟨(L,i),rfl,⟨⟨hwf,hL⟩,hil⟩,?_⟩
     refine cond_split (fun h => ?_) (fun h => ?_)
     ·have h' : (L.drop i).all El.isStar = true := h
      refine ⟨_,(by first | exact SubSt.refl _ | exact SubTop.refl _),?_⟩
      show AV.bool true = AV.bool (Comp.fit ⟨any,L⟩ s)
      rw [fit,hfit.2 ⟨i,hi,h'⟩]
     ·have h' : (L.drop i).all El.isStar = false := h
      refine ⟨(i :: vis,some (ki i,.bool true)),?_,leftN_lt hil hni,?_⟩
      ·intro j hj
       rcases List.mem_cons.1 hj with rfl | hj
       ·exact ⟨hi,h'⟩
       ·exact hv j hj
      ·refine sub_tos ⟨rfl,rfl,trivial⟩ ?_ (Nat.le_refl 3)
       refine heap_sub [0,1,2] (fun _ => none) (by (try dsimp only [St.set,mks]); (repeat (first | exact out_mkh rfl | refine out_upd ?_ (by decide)))) (out_mkh rfl) ⟨.inr rfl,.inl rfl,.inr ?_,trivial⟩
       show some (AO.opq (rangeR 1 (stC P) (fun x => x = ki i ∨ dV vis x) (some (ki i,.bool true)))) = some (AO.opq (rangeR 1 (stC P) (dV (i :: vis)) (some (ki i,.bool true))))
       rw [dV_cons]
    ·intro hall
     refine ⟨_,rfl,?_⟩
     refine ⟨_,(by first | exact SubSt.refl _ | exact SubTop.refl _),?_⟩
     show AV.bool false = AV.bool (Comp.fit ⟨any,L⟩ s)
     rw [fit]
     cases hg : gm El.isStar El.fit L s with
     | false => rfl
     | true =>
      obtain ⟨i,hi,ha⟩ := hfit.1 hg
      have := (hv i (dV_ki.1 (hall (ki i) (.bool true) ⟨i,hi,rfl,rfl⟩))).2
      rw [ha] at this; cases this

end Qk

/-
  Chapter 32: walking through the components of a path.
-/
namespace Qk
open Go Go.RowKit

def reachC (l : List Comp) (i x : Nat) : Prop := i ≤ x ∧ ∀ k,i ≤ k → k < x → ∃ e,l[k]? = some e ∧ e.any = true
def closP (l : List Comp) (P : Nat → Prop) : Nat → Prop := fun x => ∃ i,P i ∧ reachC l i x
theorem reachC_len {l : List Comp} {i x : Nat} (hi : i ≤ l.length) (h : reachC l i x) : x ≤ l.length := by
 by_cases hx : x ≤ l.length
 ·exact hx
 ·obtain ⟨e,he,_⟩ := h.2 l.length hi (by omega)
  rw [List.getElem?_eq_none (Nat.le_refl _)] at he; cases he

theorem reach_end {l : List Comp} {i j : Nat} (h : reachC l i j) (hj : ∀ e,l[j]? = some e → e.any = false) (x : Nat) : reachC l i x ↔ i ≤ x ∧ x ≤ j := by
 constructor
 ·intro hx
  refine ⟨hx.1,?_⟩
  by_cases hxj : x ≤ j
  ·exact hxj
  ·obtain ⟨e,he,ha⟩ := hx.2 j h.1 (by omega)
   rw [hj e he] at ha; cases ha
 ·rintro ⟨h1,h2⟩
  exact ⟨h1,fun k a b => h.2 k a (by omega)⟩
theorem clos_end {l : List Comp} {i j : Nat} {vis : List Nat} (h : reachC l i j) (hj : ∀ e,l[j]? = some e → e.any = false) : stO (fun x => closP l (fun i => i ∈ vis) x ∨ (i ≤ x ∧ x ≤ j)) = stO (closP l (fun k => k ∈ i :: vis)) := by
 refine st_eq (fun x => ⟨?_,?_⟩)
 ·rintro (⟨k,hk,hr⟩ | hx)
  ·exact ⟨k,by simp [hk],hr⟩
  ·exact ⟨i,by simp,(reach_end h hj x).2 hx⟩
 ·rintro ⟨k,hk,hr⟩
  rcases List.mem_cons.1 hk with rfl | hk
  ·exact .inr ((reach_end h hj x).1 hr)
  ·exact .inl ⟨k,hk,hr⟩
def CLH (R : Heap) (P Q : Nat → Prop) (vis : List Nat) (cur : Option (AV × AV)) : Heap := upd (upd (upd R 1 none) 2 (some (stO Q))) 3 (some (.opq (rangeR 1 (stC P) (dV vis) cur)))

theorem any_cell {l : List Comp} {i : Nat} (h : i < l.length) : (flatC l)[i * 2 + 0]? = some (.bool (l[i]'h).any) := by
 rw [flatC,flat_cell (n := 2) (fun _ => rfl) l i 0 _ (List.getElem?_eq_getElem h) (by decide)]
 rfl

set_option maxRecDepth 4000 in
set_option maxHeartbeats 1000000 in
theorem t_closure' {R : Heap} {K : AV → Heap → Nat → Prop} {l : List Comp} {P : Nat → Prop} (hl : l.length ≤ 1000000000) (hP : ∀ i,P i → i ≤ l.length)
  (hK : K (.hnd 2) (upd (upd (upd R 1 none) 2 (some (stO (closP l P)))) 3 none) 4) : H_glob_closure [cpsA l,.hnd 1] (upd R 1 (some (stO P))) 2 K := by
 refine And.intro rfl ?_
 refine ⟨stC P,rfl,?_⟩
 refine ⟨List Nat × Option (AV × AV),fun x => (∀ i ∈ x.1,P i),fun x => ⟨mk [(0,cpsA l),(5,.hnd 2),(9,.ref 3 0)],CLH R P (closP l (fun i => i ∈ x.1)) x.1 x.2,4⟩,fun x => leftN l.length x.1,([],none),(fun i h => by cases h),?_,?_⟩
 ·refine sub_tos ⟨rfl,rfl,rfl,trivial⟩ ?_ (Nat.le_refl 4)
  refine heap_sub [1,2,3] R (by (try dsimp only [St.set,CLH]); (repeat (first | exact out_refl | refine out_upd ?_ (by decide)))) (by (try dsimp only [St.set,CLH]); (repeat (first | exact out_refl | refine out_upd ?_ (by decide)))) ⟨.inl rfl,.inr ?_,.inr ?_,trivial⟩
  ·show some (AO.opq (mapR ⟨true,[some (some .i64)],noM⟩)) = some (stO (closP l (fun i => i ∈ [])))
   rw [noM_st]
   exact congrArg some (st_eq (fun j => ⟨fun h => h.elim,fun ⟨_,h,_⟩ => by cases h⟩))
  ·show some (AO.opq (rangeR 1 (stC P) (fun _ => False) none)) = some (AO.opq (rangeR 1 (stC P) (dV []) none))
   rw [dV_nil]
 ·rintro ⟨vis,cur⟩ hv
  dsimp only at hv
  refine ⟨1,stC P,dV vis,cur,⟨rfl,by decide,rfl⟩,?_,?_⟩
  ·rintro kk vv ⟨i,hi,rfl,rfl⟩ hnd
   have hni : i ∉ vis := fun h => hnd (dV_ki.2 h)
   have hil := hP i hi
   obtain ⟨Q0,hQ0⟩ : ∃ Q0,Q0 = closP l (fun i => i ∈ vis) := ⟨_,rfl⟩
   refine ⟨_,rfl,?_⟩
   refine ⟨1,stC P,_,_,_,rfl,?_⟩
   refine ⟨_,rfl,?_⟩
   refine ⟨stM (closP l (fun i => i ∈ vis)),⟨rfl,⟨_,rfl,rfl⟩,(plain_bool true).nn⟩,?_⟩
   refine ⟨Nat,fun j => j ≤ l.length ∧ reachC l i j,fun j => ⟨mk [(0,cpsA l),(5,.hnd 2),(6,ki j),(9,.ref 3 0)],CLH R P (fun x => Q0 x ∨ (i ≤ x ∧ x ≤ j)) (i :: vis) (some (ki i,.bool true)),4⟩,
    fun j => l.length - j,i,⟨hil,Nat.le_refl _,fun k h1 h2 => by omega⟩,?_,?_⟩
   ·refine sub_tos ⟨rfl,rfl,rfl,rfl,trivial⟩ ?_ (Nat.le_refl 4)
    refine heap_sub [1,2,3] R (by (try dsimp only [St.set,CLH]); (repeat (first | exact out_refl | refine out_upd ?_ (by decide)))) (by (try dsimp only [St.set,CLH]); (repeat (first | exact out_refl | refine out_upd ?_ (by decide)))) ⟨.inl rfl,.inr ?_,.inr ?_,trivial⟩
    ·show some (AO.opq (mapR ⟨true,[some (some .i64)],putM (stM (closP l (fun i => i ∈ vis))) (ki i) (.bool true)⟩)) = some (stO (fun x => Q0 x ∨ (i ≤ x ∧ x ≤ i)))
     rw [putM_st,← hQ0]
     refine congrArg some (st_eq (fun j => ⟨?_,?_⟩))
     ·rintro (h | h)
      ·exact .inr (by omega)
      ·exact .inl h
     ·rintro (h | h)
      ·exact .inr h
      ·exact .inl (by omega)
    ·show some (AO.opq (rangeR 1 (stC P) (fun x => x = ki i ∨ dV vis x) (some (ki i,.bool true)))) = some (AO.opq (rangeR 1 (stC P) (dV (i :: vis)) (some (ki i,.bool true))))
     rw [dV_cons]
   ·rintro j ⟨hj,hr⟩
    by_cases hjl : j < l.length
    ·have hb : decide ((j : Int) < l.length) = true := by simp; omega
     have e0 : (j : Int).toNat * 2 + 0 = j * 2 + 0 := by omega
     iterate 3 (refine cond_t hb ?_)
     refine And.intro ⟨rfl,by decide,by omega,by omega⟩ ?_
     iterate 2 (refine cond_t hb ?_)
     refine ⟨_,by rw [e0]; exact any_cell hjl,?_⟩
     refine cond_split (fun h => ?_) (fun h => ?_)
     ·have ha : (l[j]'hjl).any = true := by
       have h' : cond (decide ((j : Int) < l.length)) (l[j]'hjl).any false = true := h
       rw [hb] at h'; exact h'
      refine And.intro (by omega) ?_
      refine ⟨stM (fun x => Q0 x ∨ (i ≤ x ∧ x ≤ j)),⟨rfl,⟨_,rfl,rfl⟩,(plain_bool true).nn⟩,?_⟩
      refine And.intro (by omega) ?_
      refine ⟨j + 1,⟨hjl,by have := hr.1; omega,?_⟩,by dsimp only; omega,?_⟩
      ·intro k h1 h2
       by_cases hk : k < j
       ·exact hr.2 k h1 hk
       ·have : k = j := by omega
        subst this
        exact ⟨_,List.getElem?_eq_getElem hjl,ha⟩
      ·refine sub_tos ⟨rfl,rfl,rfl,rfl,trivial⟩ ?_ (Nat.le_refl 4)
       refine heap_sub [1,2,3] R (by (try dsimp only [St.set,CLH]); (repeat (first | exact out_refl | refine out_upd ?_ (by decide)))) (by (try dsimp only [St.set,CLH]); (repeat (first | exact out_refl | refine out_upd ?_ (by decide)))) ⟨.inl rfl,.inr ?_,.inr rfl,trivial⟩
       show some (AO.opq (mapR ⟨true,[some (some .i64)],putM (stM (fun x => Q0 x ∨ (i ≤ x ∧ x ≤ j))) (ki (j + 1)) (.bool true)⟩)) = some (stO (fun x => Q0 x ∨ (i ≤ x ∧ x ≤ j + 1)))
       rw [putM_st]
       refine congrArg some (st_eq (fun x => ⟨?_,?_⟩))
       ·rintro (h | h | h)
        ·exact .inr (by have := hr.1; omega)
        ·exact .inl h
        ·exact .inr (by omega)
       ·rintro (h | h)
        ·exact .inr (.inl h)
        ·by_cases hx : x = j + 1
         ·exact .inl hx
         ·exact .inr (.inr (by omega))
     ·have ha : (l[j]'hjl).any = false := by
       have h' : cond (decide ((j : Int) < l.length)) (l[j]'hjl).any false = false := h
       rw [hb] at h'; exact h'
      refine ⟨(i :: vis,some (ki i,.bool true)),?_,leftN_lt hil hni,?_⟩
      ·intro j hj
       rcases List.mem_cons.1 hj with rfl | hj
       ·exact hi
       ·exact hv j hj
      ·refine sub_tos ⟨rfl,rfl,rfl,trivial⟩ ?_ (Nat.le_refl 4)
       refine heap_sub [1,2,3] R (by (try dsimp only [St.set,CLH]); (repeat (first | exact out_refl | refine out_upd ?_ (by decide)))) (by (try dsimp only [St.set,CLH]); (repeat (first | exact out_refl | refine out_upd ?_ (by decide)))) ⟨.inl rfl,.inr ?_,.inr rfl,trivial⟩
       show some (stO (fun x => Q0 x ∨ (i ≤ x ∧ x ≤ j))) = some (stO (closP l (fun k => k ∈ i :: vis)))
       rw [hQ0,clos_end hr (fun e he => by rw [List.getElem?_eq_getElem hjl] at he; cases he; exact ha)]
    ·have hb : decide ((j : Int) < l.length) = false := by simp; omega
     iterate 6 (refine cond_f hb ?_)
     refine ⟨(i :: vis,some (ki i,.bool true)),?_,leftN_lt hil hni,?_⟩
     ·intro j hj
      rcases List.mem_cons.1 hj with rfl | hj
      ·exact hi
      ·exact hv j hj
     ·refine sub_tos ⟨rfl,rfl,rfl,trivial⟩ ?_ (Nat.le_refl 4)
      refine heap_sub [1,2,3] R (by (try dsimp only [St.set,CLH]); (repeat (first | exact out_refl | refine out_upd ?_ (by decide)))) (by (try dsimp only [St.set,CLH]); (repeat (first | exact out_refl | refine out_upd ?_ (by decide)))) ⟨.inl rfl,.inr ?_,.inr rfl,trivial⟩
      show some (stO (fun x => Q0 x ∨ (i ≤ x ∧ x ≤ j))) = some (stO (closP l (fun k => k ∈ i :: vis)))
      rw [hQ0,clos_end hr (fun e he => by rw [List.getElem?_eq_none (by omega)] at he; cases he)]
  ·intro hall
   have hvis : ∀ i,P i ↔ i ∈ vis := fun i => ⟨fun h => dV_ki.1 (hall (ki i) (.bool true) ⟨i,h,rfl,rfl⟩),hv i⟩
   refine ⟨_,rfl,?_⟩
   have e1 : stO (closP l (fun i => i ∈ vis)) = stO (closP l P) := st_eq (fun x => ⟨fun ⟨k,hk,hr⟩ => ⟨k,(hvis k).2 hk,hr⟩,fun ⟨k,hk,hr⟩ => ⟨k,(hvis k).1 hk,hr⟩⟩)
   rw [← e1] at hK
   refine ⟨⟨mk [(4,.hnd 2)],_,_⟩,sub_tos ⟨rfl,trivial⟩ ?_ (Nat.le_refl 4),hK⟩
   exact heap_sub [1,2,3] R (by (try dsimp only [St.set,CLH]); (repeat (first | exact out_refl | refine out_upd ?_ (by decide)))) (by (try dsimp only [St.set,CLH]); (repeat (first | exact out_refl | refine out_upd ?_ (by decide)))) ⟨.inl rfl,.inr rfl,.inl rfl,trivial⟩

theorem t_closure {H : Heap} {K : AV → Heap → Nat → Prop} {l : List Comp} {P : Nat → Prop} (hl : l.length ≤ 1000000000) (hP : ∀ i,P i → i ≤ l.length) (h1 : H 1 = some (stO P))
  (hK : K (.hnd 2) (upd (upd (upd H 1 none) 2 (some (stO (closP l P)))) 3 none) 4) : H_glob_closure [cpsA l,.hnd 1] H 2 K := by
 rw [← upd_id h1]
 exact t_closure' hl hP hK

/-! ### Walking -/
def stepP (l : List Comp) (s : List UInt8) (P : Nat → Prop) : Nat → Prop := fun j => ∃ i e,P i ∧ l[i]? = some e ∧ ((e.any = true ∧ j = i) ∨ (e.any = false ∧ e.fit s = true ∧ j = i + 1))
def walkP (l : List Comp) : (Nat → Prop) → List (List UInt8) → Nat → Prop
 | P,[] => P
 | P,s :: ps => walkP l (closP l (stepP l s P)) ps
def startP (l : List Comp) : Nat → Prop := closP l (fun i => i = 0)

theorem reach_refl {l : List Comp} {i : Nat} : reachC l i i := ⟨Nat.le_refl _,fun k h1 h2 => by omega⟩
theorem clos_closed (l : List Comp) (P : Nat → Prop) : Closed Comp.any l (closP l P) := by
 rintro i e ⟨k,hk,hr⟩ he ha
 refine ⟨k,hk,by have := hr.1; omega,fun j h1 h2 => ?_⟩
 by_cases h : j < i
 ·exact hr.2 j h1 h
 ·have : j = i := by omega
  subst this
  exact ⟨e,he,ha⟩
theorem clos_le {l : List Comp} {P : Nat → Prop} (h : ∀ i,P i → i ≤ l.length) : ∀ i,closP l P i → i ≤ l.length := fun _ ⟨k,hk,hr⟩ => reachC_len (h k hk) hr
theorem step_le {l : List Comp} {s : List UInt8} {P : Nat → Prop} : ∀ i,stepP l s P i → i ≤ l.length := by
 rintro i ⟨k,e,hk,he,(⟨_,rfl⟩ | ⟨_,_,rfl⟩)⟩
 ·have := (List.getElem?_eq_some_iff.1 he).1; omega
 ·have := (List.getElem?_eq_some_iff.1 he).1; omega
theorem at_clos (l : List Comp) (P : Nat → Prop) (ps : List (List UInt8)) : anyAt Comp.any Comp.fit l P ps ↔ anyAt Comp.any Comp.fit l (closP l P) ps :=
 anyAt_close l P (closP l P) ps (fun i hi => ⟨i,hi,reach_refl⟩) (fun _j ⟨i,hi,hr⟩ => ⟨i,hi,hr.1,hr.2⟩)
theorem walk_match (l : List Comp) : ∀ (ps : List (List UInt8)) (P : Nat → Prop),Closed Comp.any l P → (∀ i,P i → i ≤ l.length) → (anyAt Comp.any Comp.fit l P ps ↔ walkP l P ps l.length)
 | [],P,hc,hle => anyAt_endC l P hc hle
 | s :: ps,P,hc,hle => by
  rw [walkP,anyAt_closed l P (stepP l s P) s ps hc (fun j => Iff.rfl),at_clos]
  exact walk_match l ps _ (clos_closed _ _) (clos_le step_le)
theorem match_walk (l : List Comp) (ps : List (List UInt8)) : matchL l ps = true ↔ walkP l (startP l) ps l.length := by
 unfold matchL startP
 rw [← anyAt_start (star := Comp.any) (fit := Comp.fit) l ps,at_clos]
 exact walk_match l ps _ (clos_closed _ _) (clos_le (fun i h => by omega))

theorem drop_at {l : List Comp} {i : Nat} {e : Comp} (he : l[i]? = some e) : l.drop i = e :: l.drop (i + 1) := by
 obtain ⟨h1,h2⟩ := List.getElem?_eq_some_iff.1 he
 rw [List.drop_eq_getElem_cons h1,h2]
end Qk

/-
  Chapter 32: walking through the components of a path; matching.
-/
namespace Qk
open Go Go.RowKit

theorem nn_agg {cs : List AV} (h : NNL cs) : NN (.agg cs) := fun G Φ ρ ρ' v hr => by
 simp only [Rep] at hr ⊢
 obtain ⟨A,h1,h2,h3⟩ := hr
 exact ⟨A,h1,h2,h _ _ _ _ _ _ h3⟩

theorem items_tab : ∀ {f : Nat} {tab tab' : List Bool} {n n' : Nat} {r rest : List UInt8},tab.length = 256 → items f tab n r = some (tab',n',rest) → tab'.length = 256
 | 0,_,_,_,_,_,_,_,h => by simp [items] at h
 | f + 1,tab,_,n,_,[],_,_,h => by simp [items] at h
 | f + 1,tab,_,n,_,c :: r,_,ht,h => by
  simp only [items] at h
  split at h
  ·cases h; exact ht
  ·split at h
   ·cases h
   ·split at h
    ·cases h
    ·split at h
     ·cases h
     ·exact items_tab (setR_len _ _ _) h
theorem el_wf {r rest : List UInt8} {e : El} (h : elL r = some (e,rest)) : e.wf := by
 cases r with
 | nil => cases h
 | cons c r =>
  rw [elL] at h
  split at h
  ·cases h; trivial
  ·split at h
   ·cases h; trivial
   ·split at h
    ·unfold classL at h
     split at h
     ·cases h
     ·rename_i hi
      split at h
      ·cases h; exact items_tab (show noTab.length = 256 from List.length_replicate) hi
      ·cases h
    ·split at h
     ·cases h
     ·cases h; trivial
theorem els_wf : ∀ {f : Nat} {r : List UInt8} {l : List El},elsL f r = some l → (∀ e ∈ l,e.wf) ∧ l.length ≤ f
 | _,[],l,h => by simp only [elsL,Option.some.injEq] at h; subst h; exact ⟨(fun e he => by cases he),by simp⟩
 | 0,_ :: _,l,h => by simp [elsL] at h
 | f + 1,c :: r,l,h => by
  rw [elsL] at h
  split at h
  ·cases h
  ·rename_i e rest he
   split at h
   ·cases h
   ·rename_i m hm
    cases h
    have := els_wf hm
    refine ⟨fun x hx => ?_,by simp; exact this.2⟩
    rcases List.mem_cons.1 hx with rfl | hx
    ·exact el_wf he
    ·exact this.1 x hx
theorem comp_ok {s : List UInt8} {c : Comp} (h : compL s = some c) (hs : s.length ≤ 1000000000) : okEs c.els := by
 unfold compL at h
 split at h
 ·cases h; exact ⟨(fun e he => by cases he),by simp⟩
 ·split at h
  ·cases h
  ·cases he : elsL s.length s with
   | none => rw [he] at h; cases h
   | some l =>
    rw [he] at h
    cases h
    have := els_wf he
    exact ⟨this.1,by dsimp only; omega⟩
theorem comps_ok : ∀ {ps : List (List UInt8)} {l : List Comp},compsL ps = some l → (∀ s ∈ ps,s.length ≤ 1000000000) → ∀ c ∈ l,okEs c.els
 | [],l,h,_ => by simp only [compsL,Option.some.injEq] at h; subst h; intro c hc; cases hc
 | s :: ps,l,h,hs => by
  rw [compsL] at h
  split at h
  ·cases h
  ·rename_i c hc
   split at h
   ·cases h
   ·rename_i m hm
    cases h
    intro x hx
    rcases List.mem_cons.1 hx with rfl | hx
    ·exact comp_ok hc (hs s (by simp))
    ·exact comps_ok hm (fun t ht => hs t (by simp [ht])) x hx
/-- A glob that can be parsed. -/
theorem glob_ok {g : List UInt8} {l : List Comp} (h : globL g = some l) : okCs l := by
 unfold globL at h
 split at h
 ·cases h
 ·have h1 := splitS_le g
  refine ⟨comps_ok h (fun s hs => by have := h1.1 s hs; omega),?_⟩
  rw [comps_len h]; omega
theorem parse_of {g : List UInt8} : (∃ l,globL g = some l ∧ parseR g = (l,0)) ∨ (globL g = none ∧ ∃ e,parseR g = ([],e) ∧ e ≠ 0 ∧ checkG g = e) := by
 unfold globL parseR checkG globL
 by_cases h : 200 < g.length
 ·simp [h]
 ·simp only [h,if_false]
  cases compsL (splitS g) with
  | none => exact .inr ⟨rfl,3,rfl,by decide,rfl⟩
  | some l => exact .inl ⟨l,rfl,rfl⟩

def WH (ps : List (List UInt8)) (P : Nat → Prop) : List (Nat × AO) := [(0,.ls false 1 (strs ps)),(1,stO P)]

set_option maxRecDepth 4000 in
set_option maxHeartbeats 1000000 in
theorem t_walk {K : AV → Heap → Nat → Prop} {l : List Comp} {ps : List (List UInt8)} (hl : okCs l) (hps : ps.length ≤ 2000000000) (hs : ∀ s ∈ ps,s.length ≤ 1000000000)
  (hK : K (.hnd 1) (mkh (WH ps (walkP l (startP l) ps))) 2) : H_glob_walk [cpsA l,.sl 0 0 ps.length] (mkh [(0,.ls false 1 (strs ps))]) 1 K := by
 have hl2 := hl.2
 refine And.intro rfl ?_
 refine ⟨noM,⟨rfl,⟨_,rfl,rfl⟩,(plain_bool true).nn⟩,?_⟩
 have e0 : some (AO.opq (mapR ⟨true,[some (some .i64)],putM noM (ki 0) (.bool true)⟩)) = some (stO (fun i => i = 0)) := by
  rw [noM_st,putM_st]; exact congrArg some (st_eq (by simp))
 refine t_closure (P := fun i => i = 0) hl.2 (fun i h => by omega) e0 ?_
 refine ⟨Nat × (Nat → Prop),fun x => x.1 ≤ ps.length ∧ (∀ i,x.2 i → i ≤ l.length) ∧ walkP l (startP l) ps = walkP l x.2 (ps.drop x.1),
  fun x => mks [(0,cpsA l),(5,.hnd 1),(14,.sl 0 0 ps.length),(15,.int .i64 ps.length),(16,.int .i64 x.1)] (WH ps x.2) 2,fun x => ps.length - x.1,(0,startP l),⟨Nat.zero_le _,clos_le (fun i h => by omega),rfl⟩,?_,?_⟩
 ·refine sub_renF [0,2] (hfixOf 1 rfl (by decide)) rfl (by decide) ⟨⟨_,rfl,rfl⟩,⟨_,rfl,⟨2,rfl,rfl⟩⟩,⟨_,rfl,⟨0,rfl,rfl⟩⟩,⟨_,rfl,rfl⟩,⟨_,rfl,rfl⟩,trivial⟩ ⟨⟨0,_,rfl,rfl,?_⟩,⟨2,_,rfl,rfl,?_⟩,trivial⟩
  ·exact ⟨_,rfl,eN (nnl_strs _) rfl⟩
  ·exact .inl ⟨rfl,_,rfl⟩
 ·rintro ⟨k,P⟩ ⟨hk,hP,hw⟩
  dsimp only at hk hP hw
  refine cond_split (fun h => ?_) (fun h => ?_)
  ·have hT : (k : Int) < ps.length := of_decide_eq_true h
   have hlt : k < ps.length := by omega
   obtain ⟨s,hse⟩ : ∃ s,s = ps[k]'hlt := ⟨_,rfl⟩
   have hsl := hs s (by rw [hse]; exact List.getElem_mem _)
   have hdr : ps.drop k = s :: ps.drop (k + 1) := by rw [List.drop_eq_getElem_cons hlt,hse]
   rw [hdr,walkP] at hw
   refine And.intro ⟨rfl,by omega,by omega⟩ ?_
   refine ⟨.str s,?_,?_⟩
   ·have e0 : (0 + (k : Int).toNat) * 1 = k := by omega
    dsimp only
    rw [e0,strs_get hlt,List.getD,List.getElem?_eq_getElem hlt,hse]; rfl
   refine jn_at (fun _ : Unit => mks [(0,cpsA l),(8,.hnd 1),(14,.sl 0 0 ps.length),(15,.int .i64 ps.length),(16,.int .i64 k)] (WH ps (stepP l s P)) 2) (fun _ => True) ?_ ?_
   ·refine ⟨stC P,rfl,?_⟩
    refine ⟨List Nat × Option (AV × AV),fun x => (∀ i ∈ x.1,P i),fun x => mks [(0,cpsA l),(7,.str s),(8,.hnd 2),(14,.sl 0 0 ps.length),(15,.int .i64 ps.length),(16,.int .i64 k),(22,.ref 3 0)]
     [(0,.ls false 1 (strs ps)),(2,stO (stepP l s (fun i => i ∈ x.1))),(3,.opq (rangeR 1 (stC P) (dV x.1) x.2))] 4,fun x => leftN l.length x.1,([],none),(fun i h => by cases h),?_,?_⟩
    ·refine sub_tos ⟨rfl,rfl,rfl,rfl,rfl,rfl,rfl,trivial⟩ ?_ (Nat.le_refl 4)
     refine heap_sub [0,1,2,3] (fun _ => none) (by (try dsimp only [St.set,mks]); (repeat (first | exact out_mkh rfl | refine out_upd ?_ (by decide)))) (out_mkh rfl) ⟨.inr rfl,.inl rfl,.inr ?_,.inr ?_,trivial⟩
     ·show some (AO.opq (mapR ⟨true,[some (some .i64)],noM⟩)) = some (stO (stepP l s (fun i => i ∈ [])))
      rw [noM_st]
      exact congrArg some (st_eq (fun j => ⟨fun h => h.elim,fun ⟨_,_,h,_⟩ => by cases h⟩))
     ·show some (AO.opq (rangeR 1 (stC P) (fun _ => False) none)) = some (AO.opq (rangeR 1 (stC P) (dV []) none))
      rw [dV_nil]
    ·rintro ⟨vis,cur⟩ hv
     dsimp only at hv
     refine ⟨1,stC P,dV vis,cur,⟨rfl,by decide,rfl⟩,?_,?_⟩
     ·rintro kk vv ⟨i,hi,rfl,rfl⟩ hnd
      have hni : i ∉ vis := fun h => hnd (dV_ki.2 h)
      have hil := hP i hi
      refine ⟨_,rfl,?_⟩
      refine ⟨1,stC P,_,_,_,rfl,?_⟩
      refine ⟨_,rfl,?_⟩
      refine jn_at (fun _ : Unit => mks [(0,cpsA l),(7,.str s),(8,.hnd 2),(14,.sl 0 0 ps.length),(15,.int .i64 ps.length),(16,.int .i64 k),(22,.ref 3 0)]
       [(0,.ls false 1 (strs ps)),(2,stO (stepP l s (fun j => j ∈ i :: vis))),(3,.opq (rangeR 1 (stC P) (dV (i :: vis)) (some (ki i,.bool true))))] 4) (fun _ => True) ?_ ?_
      ·have fin : ∀ {S : St} {Q : Nat → Prop},HasE S [(0,cpsA l),(7,.str s),(8,.hnd 2),(14,.sl 0 0 ps.length),(15,.int .i64 ps.length),(16,.int .i64 k),(22,.ref 3 0)] → OutOf [0,1,2,3] S.heap (fun _ => none) →
         S.heap 0 = some (.ls false 1 (strs ps)) → S.heap 2 = some (stO Q) → S.heap 3 = some (.opq (rangeR 1 (stC P) (fun x => x = ki i ∨ dV vis x) (some (ki i,.bool true)))) → S.next ≤ 4 → (∀ j,Q j ↔ stepP l s (fun j => j ∈ i :: vis) j) →
         SubSt 1 S (mks [(0,cpsA l),(7,.str s),(8,.hnd 2),(14,.sl 0 0 ps.length),(15,.int .i64 ps.length),(16,.int .i64 k),(22,.ref 3 0)]
          [(0,.ls false 1 (strs ps)),(2,stO (stepP l s (fun j => j ∈ i :: vis))),(3,.opq (rangeR 1 (stC P) (dV (i :: vis)) (some (ki i,.bool true))))] 4) := by
        intro S Q h1 ho h0 h2 h3 hn hq
        refine sub_tos h1 ?_ hn
        refine heap_sub [0,1,2,3] (fun _ => none) ho (out_mkh rfl) ⟨.inr h0,.inl rfl,.inr ?_,.inr ?_,trivial⟩
        ·rw [h2,st_eq hq]; rfl
        ·rw [h3,dV_cons]; rfl
       by_cases hil2 : i < l.length
       ·have hb : decide ((i : Int) = l.length) = false := by simp; omega
        refine cond_f hb ?_
        have e0 : (i : Int).toNat = i := by omega
        refine And.intro ⟨rfl,by decide,by omega,by omega⟩ ?_
        refine ⟨_,by rw [e0]; exact any_cell hil2,?_⟩
        refine jn_plain ?_
        refine cond_split (fun h => ?_) (fun h => ?_)
        ·have ha : (l[i]'hil2).any = true := h
         refine ⟨stM (stepP l s (fun i => i ∈ vis)),⟨rfl,⟨_,rfl,rfl⟩,(plain_bool true).nn⟩,?_⟩
         refine ⟨(),trivial,fin (Q := fun x => x = i ∨ stepP l s (fun i => i ∈ vis) x) ⟨rfl,rfl,rfl,rfl,rfl,rfl,rfl,trivial⟩ (by (try dsimp only [St.set,mks]); (repeat (first | exact out_mkh rfl | refine out_upd ?_ (by decide)))) rfl ?_ rfl (Nat.le_refl 4) ?_⟩
         ·show some (AO.opq (mapR ⟨true,[some (some .i64)],putM (stM (stepP l s (fun i => i ∈ vis))) (ki i) (.bool true)⟩)) = _
          rw [putM_st]; rfl
         ·intro j
          constructor
          ·rintro (rfl | ⟨x,e,h1,h2⟩)
           ·exact ⟨j,_,by simp,List.getElem?_eq_getElem hil2,.inl ⟨ha,rfl⟩⟩
           ·exact ⟨x,e,by simp [h1],h2⟩
          ·rintro ⟨x,e,h1,he,h2⟩
           rcases List.mem_cons.1 h1 with rfl | h1
           ·rw [List.getElem?_eq_getElem hil2] at he; cases he
            rcases h2 with ⟨_,rfl⟩ | ⟨h3,_⟩
            ·exact .inl rfl
            ·rw [ha] at h3; cases h3
           ·exact .inr ⟨x,e,h1,he,h2⟩
        ·have ha : (l[i]'hil2).any = false := h
         refine And.intro ⟨rfl,by decide,by omega,by omega⟩ ?_
         refine And.intro (nnl_flatC l) ?_
         refine ⟨cpA (l[i]'hil2),⟨by rw [e0]; exact (flat_take (n := 2) (fun _ => rfl) l i _ (List.getElem?_eq_getElem hil2)).symm,rfl⟩,?_⟩
         refine And.intro (nn_agg (nnl_cpA _)) ?_
         refine ⟨(l[i]'hil2,s),rfl,⟨hl.1 _ (List.getElem_mem _),hsl⟩,?_⟩
         refine jn_plain ?_
         refine cond_split (fun h => ?_) (fun h => ?_)
         ·have hf : (l[i]'hil2).fit s = true := h
          refine And.intro (by omega) ?_
          refine ⟨stM (stepP l s (fun i => i ∈ vis)),⟨rfl,⟨_,rfl,rfl⟩,(plain_bool true).nn⟩,?_⟩
          refine ⟨(),trivial,fin (Q := fun x => x = i + 1 ∨ stepP l s (fun i => i ∈ vis) x) ⟨rfl,rfl,rfl,rfl,rfl,rfl,rfl,trivial⟩ (by (try dsimp only [St.set,mks]); (repeat (first | exact out_mkh rfl | refine out_upd ?_ (by decide)))) rfl ?_ rfl (Nat.le_refl 4) ?_⟩
          ·show some (AO.opq (mapR ⟨true,[some (some .i64)],putM (stM (stepP l s (fun i => i ∈ vis))) (ki (i + 1)) (.bool true)⟩)) = _
           rw [putM_st]; rfl
          ·intro j
           constructor
           ·rintro (rfl | ⟨x,e,h1,h2⟩)
            ·exact ⟨i,_,by simp,List.getElem?_eq_getElem hil2,.inr ⟨ha,hf,rfl⟩⟩
            ·exact ⟨x,e,by simp [h1],h2⟩
           ·rintro ⟨x,e,h1,he,h2⟩
            rcases List.mem_cons.1 h1 with rfl | h1
            ·rw [List.getElem?_eq_getElem hil2] at he; cases he
             rcases h2 with ⟨h3,_⟩ | ⟨_,_,rfl⟩
             ·rw [ha] at h3; cases h3
             ·exact .inl rfl
            ·exact .inr ⟨x,e,h1,he,h2⟩
         ·have hf : (l[i]'hil2).fit s = false := h
          refine ⟨(),trivial,fin (Q := stepP l s (fun i => i ∈ vis)) ⟨rfl,rfl,rfl,rfl,rfl,rfl,rfl,trivial⟩ (by (try dsimp only [St.set,mks]); (repeat (first | exact out_mkh rfl | refine out_upd ?_ (by decide)))) rfl rfl rfl (Nat.le_refl 4) ?_⟩
          intro j
          constructor
          ·rintro ⟨x,e,h1,h2⟩
           exact ⟨x,e,by simp [h1],h2⟩
          ·rintro ⟨x,e,h1,he,h2⟩
           rcases List.mem_cons.1 h1 with rfl | h1
           ·rw [List.getElem?_eq_getElem hil2] at he; cases he
            rcases h2 with ⟨h3,_⟩ | ⟨_,h3,_⟩
            ·rw [ha] at h3; cases h3
            ·rw [hf] at h3; cases h3
           ·exact ⟨x,e,h1,he,h2⟩
       ·have hb : decide ((i : Int) = l.length) = true := by simp; omega
        refine cond_t hb ?_
        refine ⟨(),trivial,fin (Q := stepP l s (fun i => i ∈ vis)) ⟨rfl,rfl,rfl,rfl,rfl,rfl,rfl,trivial⟩ (by (try dsimp only [St.set,mks]); (repeat (first | exact out_mkh rfl | refine out_upd ?_ (by decide)))) rfl rfl rfl (Nat.le_refl 4) ?_⟩
        intro j
        constructor
        ·rintro ⟨x,e,h1,h2⟩
         exact ⟨x,e,by simp [h1],h2⟩
        ·rintro ⟨x,e,h1,he,h2⟩
         rcases List.mem_cons.1 h1 with rfl | h1
         ·rw [List.getElem?_eq_none (by omega)] at he; cases he
         ·exact ⟨x,e,h1,he,h2⟩
      ·rintro _ _
       refine ⟨(i :: vis,some (ki i,.bool true)),?_,leftN_lt hil hni,SubSt.refl _⟩
       intro j hj
       rcases List.mem_cons.1 hj with rfl | hj
       ·exact hi
       ·exact hv j hj
     ·intro hall
      have hvis : ∀ i,P i ↔ i ∈ vis := fun i => ⟨fun h => dV_ki.1 (hall (ki i) (.bool true) ⟨i,h,rfl,rfl⟩),hv i⟩
      refine ⟨_,rfl,?_⟩
      refine ⟨(),trivial,?_⟩
      refine sub_renF [0,2] (hfixOf 1 rfl (by decide)) rfl (by decide) ⟨⟨_,rfl,rfl⟩,⟨_,rfl,⟨2,rfl,rfl⟩⟩,⟨_,rfl,⟨0,rfl,rfl⟩⟩,⟨_,rfl,rfl⟩,⟨_,rfl,rfl⟩,trivial⟩ ⟨⟨0,_,rfl,rfl,?_⟩,⟨2,_,rfl,rfl,?_⟩,trivial⟩
      ·exact ⟨_,rfl,eN (nnl_strs _) rfl⟩
      ·refine .inl ⟨?_,_,rfl⟩
       show stO (stepP l s (fun i => i ∈ vis)) = stO (stepP l s P)
       exact st_eq (fun j => ⟨fun ⟨x,e,h1,h2⟩ => ⟨x,e,(hvis x).2 h1,h2⟩,fun ⟨x,e,h1,h2⟩ => ⟨x,e,(hvis x).1 h1,h2⟩⟩)
   ·rintro _ _
    refine t_closure (P := stepP l s P) hl.2 step_le rfl ?_
    refine And.intro (by omega) ?_
    refine ⟨(k + 1,closP l (stepP l s P)),⟨hlt,clos_le step_le,hw⟩,by dsimp only; omega,?_⟩
    refine sub_renF [0,2] (hfixOf 1 rfl (by decide)) rfl (by decide) ⟨⟨_,rfl,rfl⟩,⟨_,rfl,⟨2,rfl,rfl⟩⟩,⟨_,rfl,⟨0,rfl,rfl⟩⟩,⟨_,rfl,rfl⟩,⟨_,rfl,eI (by omega)⟩,trivial⟩ ⟨⟨0,_,rfl,rfl,?_⟩,⟨2,_,rfl,rfl,?_⟩,trivial⟩
    ·exact ⟨_,rfl,eN (nnl_strs _) rfl⟩
    ·exact .inl ⟨rfl,_,rfl⟩
  ·have hF : ¬ (k : Int) < ps.length := of_decide_eq_false h
   rw [List.drop_of_length_le (by omega)] at hw
   rw [hw] at hK
   exact ret_t rfl rfl rfl hK

theorem d_split : DoesF ir_glob_split F_glob_split := by
 intro (s : List UInt8) hs
 replace hs : s.length ≤ 1000000000 := hs
 refine cond_split (fun h => ?_) (fun h => ?_)
 ·have he : s = [] := of_decide_eq_true h
  refine ⟨_,(sub_nilE 2 false 1 rfl).top,?_⟩
  have e : partsL s = [] := by rw [partsL,if_pos he]
  refine ⟨0,false,?_,?_,?_⟩
  ·show AV.sl 0 0 0 = AV.sl 0 0 (partsL s).length
   rw [e]; rfl
  ·show some (AO.ls false 1 []) = some (AO.ls false 1 (strs (partsL s)))
   rw [e]; rfl
  ·exact plain_strs _
 ·have hne : ¬ s = [] := of_decide_eq_false h
  refine ⟨s,rfl,hs,?_⟩
  refine ⟨_,(by first | exact SubSt.refl _ | exact SubTop.refl _),?_⟩
  have e : partsL s = splitS s := by rw [partsL,if_neg hne]
  refine ⟨0,false,?_,?_,?_⟩
  ·show AV.sl 0 0 (splitS s).length = AV.sl 0 0 (partsL s).length
   rw [e]
  ·show some (AO.ls false 1 (strs (splitS s))) = some (AO.ls false 1 (strs (partsL s)))
   rw [e]
  ·exact plain_strs _

theorem parts_le (s : List UInt8) : (∀ p ∈ partsL s,p.length ≤ s.length) ∧ (partsL s).length ≤ s.length + 1 := by
 unfold partsL
 split
 ·exact ⟨(fun p hp => by cases hp),by simp⟩
 ·exact splitS_le s

theorem d_match : Does ir_glob_Match C_glob_Match := by
 rintro ⟨g,path⟩ ⟨hg,hp⟩
 dsimp only at hg hp
 refine ⟨g,rfl,hg,?_⟩
 rcases parse_of (g := g) with ⟨l,hgl,hpr⟩ | ⟨hgl,e,hpr,he,_⟩
 ·have hres : C_glob_parse.res g = .tup [cpsA l,.int .i64 0] := by show parseA (parseR g) = _; rw [hpr]; rfl
  rw [hres]
  refine ⟨_,rfl,?_⟩
  refine ⟨_,rfl,?_⟩
  refine ⟨path,rfl,hp,?_⟩
  have pl := parts_le path
  refine t_walk (ps := partsL path) (glob_ok hgl) (by omega) (fun s hs => by have := pl.1 s hs; omega) ?_
  have mg : matchG g path = matchL l (partsL path) := by unfold matchG; rw [hgl]
  by_cases hw : walkP l (startP l) (partsL path) l.length
  ·refine ⟨stM (walkP l (startP l) (partsL path)),rfl,⟨_,rfl,rfl⟩,some (.bool true),⟨_,hw,rfl,rfl⟩,?_⟩
   refine ⟨_,(by first | exact SubSt.refl _ | exact SubTop.refl _),?_⟩
   show AV.bool true = AV.bool (matchG g path)
   rw [mg,(match_walk l _).2 hw]
  ·refine ⟨stM (walkP l (startP l) (partsL path)),rfl,⟨_,rfl,rfl⟩,none,?_,?_⟩
   ·rintro v ⟨i,hi,e1,_⟩
    have : i = l.length := (ki_inj.1 e1).symm
    rw [this] at hi
    exact hw hi
   refine ⟨_,(by first | exact SubSt.refl _ | exact SubTop.refl _),?_⟩
   show AV.bool false = AV.bool (matchG g path)
   rw [mg]
   cases hm : matchL l (partsL path) with
   | false => rfl
   | true => exact absurd ((match_walk l _).1 hm) hw
 ·have hres : C_glob_parse.res g = .tup [.raw (.slice none 0 0),.int .i64 e] := by
   show parseA (parseR g) = _
   rw [hpr]; unfold parseA; rw [if_neg he]
  rw [hres]
  refine ⟨_,rfl,?_⟩
  refine ⟨_,rfl,?_⟩
  have hb : decide (e = 0) = false := by simpa using he
  iterate 8 (refine cond_f hb ?_)
  refine ⟨_,(by first | exact SubSt.refl _ | exact SubTop.refl _),?_⟩
  show AV.bool false = AV.bool (matchG g path)
  unfold matchG
  rw [hgl]

end Qk
