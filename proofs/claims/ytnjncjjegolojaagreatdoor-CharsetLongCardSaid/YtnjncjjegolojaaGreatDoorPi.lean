/-
  Chapter 57: the last attribute; functions of the library; arguments.
-/
import Derived.Test.YtnjncjjegolojaaGreatDoorPg
import Derived.Test.YtnjncjjegolojaaGreatDoorPh
import Derived.Test.YtnjncjjegolojaaGreatDoorPf
import Derived.Test.YtnjncjjegolojaaGreatDoorPe
import Derived.Shelf.Unicode.DecodeSlow
import Derived.Lib.CountLaws
import Derived.Test.YtnjncjjegolojaaGreatDoorPc
import Derived.SizedLaws
import Derived.Handed
import Derived.Lay
import Derived.Lib.LaidU8T
import Derived.PinnedBridge
import Derived.Shelf.Vars

/-
  Chapter 57: contracts of the statement on the last attribute.
-/
namespace Qk
open Go Go.RowKit

def greatS (l : List Att) : Bool := l.any (fun a => decide (40 < a.g.length)) || decide (20 < l.length)
def C_quiltref57_Great : PC := ⟨List Att,fun l => [attsA l],fun l => l.length ≤ 9223372036854775807,fun l => .bool (greatS l)⟩
end Qk

/-
  Chapter 57: the statement on the last attribute in the executor's form (printed).
-/
namespace Qk
open Go Go.RowKit

/-- quilt/quiltref57.Great -/
def ir_quiltref57_Great : IF := ⟨(.seq (.ops [⟨some 2,none,.mov (.const (.bool false))⟩])
 (.seq (.seq (.ops [⟨some 3,none,.mov (ci 0)⟩])
 (.block 0 (.loop (.seq (.seq (.ops [⟨some 4,none,.mov (t 3)⟩,⟨some 5,none,.mov (t 0)⟩,⟨some 6,none,.lenL (t 5)⟩,⟨some 7,none,.bin .lss (t 4) (t 6)⟩])
 (.cond (t 7) .skip
 (.exit 0)))
 (.seq (.block 1 (.seq (.ops [⟨some 10,none,.mov (t 0)⟩,⟨some 11,none,.mov (t 3)⟩,⟨some 12,none,.idxL 3 (t 10) (t 11)⟩,
  ⟨some 13,none,.fldA 0 (t 12)⟩,⟨some 14,none,.load1 (t 13)⟩,⟨some 15,none,.lenS (t 14)⟩,⟨some 16,none,.bin .gtr (t 15) (ci 40)⟩])
 (.cond (t 16) (.seq (.ops [⟨some 2,none,.mov (.const (.bool true))⟩])
 .ret)
 .skip)))
 (.ops [⟨some 8,none,.mov (t 3)⟩,⟨some 9,none,.bin .add (t 8) (ci 1)⟩,⟨some 3,none,.mov (t 9)⟩]))))))
 (.seq (.ops [⟨some 17,none,.mov (t 0)⟩,
  ⟨some 18,none,.lenL (t 17)⟩,⟨some 19,none,.bin .gtr (t 18) (ci 20)⟩,⟨some 2,none,.mov (t 19)⟩])
 .ret))),[.tmp 2]⟩
end Qk

/-
  Chapter 57: the statement on the last attribute.
-/
namespace Qk
open Go Go.RowKit

theorem g_cell {l : List Att} {k : Nat} (h : k < l.length) : (flatA l)[(k : Int).toNat * 3 + 0]? = some (.str (l[k]'h).g) := by
 have ek : (k : Int).toNat = k := by omega
 rw [ek]
 unfold flatA
 rw [flat_cell (n := 3) (fun _ => rfl) l k 0 _ (List.getElem?_eq_getElem h) (by decide)]
 rfl
theorem d_Great : Does ir_quiltref57_Great C_quiltref57_Great := by
 intro (l : List Att) hl
 replace hl : l.length ≤ 9223372036854775807 := hl
 show awp _ _ _ (entry [attsA l])
 refine ⟨Nat,fun k => k ≤ l.length ∧ (l.take k).any (fun a => decide (40 < a.g.length)) = false,fun k => mks [(0,attsA l),(3,.int .i64 k)] [] 0,fun k => l.length - k,0,⟨Nat.zero_le _,rfl⟩,?_,?_⟩
 ·exact sub_to ⟨rfl,rfl,trivial⟩ rfl (Nat.le_refl 0)
 ·rintro k ⟨hk,hno⟩
  show awp _ _ _ (mks [(0,attsA l),(3,.int .i64 k)] [] 0)
  refine cond_split (fun h => ?_) (fun h => ?_)
  ·have hT : (k : Int) < l.length := of_decide_eq_true h
   have hlt : k < l.length := by omega
   refine And.intro ⟨rfl,by decide,by omega,by omega⟩ ?_
   refine ⟨_,g_cell hlt,?_⟩
   by_cases h40 : 40 < (l[k]'hlt).g.length
   ·refine cond_t (dec_t (show (40 : Int) < (l[k]'hlt).g.length by omega)) ?_
    refine ⟨_,(by first | exact SubSt.refl _ | exact SubTop.refl _),?_⟩
    show AV.bool true = AV.bool (greatS l)
    unfold greatS
    rw [show l.any (fun a => decide (40 < a.g.length)) = true from List.any_eq_true.2 ⟨l[k]'hlt,List.getElem_mem _,decide_eq_true h40⟩]; rfl
   ·refine cond_f (dec_f (show ¬ (40 : Int) < (l[k]'hlt).g.length by omega)) ?_
    refine And.intro (by omega) ?_
    refine ⟨k + 1,⟨by omega,?_⟩,by dsimp only; omega,?_⟩
    ·rw [List.take_succ_eq_append_getElem hlt,List.any_append,hno]
     simp only [List.any_cons,List.any_nil,decide_eq_false h40]; rfl
    ·exact sub_to ⟨rfl,rfl,trivial⟩ rfl (Nat.le_refl 0)
  ·have hF : ¬ (k : Int) < l.length := of_decide_eq_false h
   have he : k = l.length := by omega
   refine ⟨_,(by first | exact SubSt.refl _ | exact SubTop.refl _),?_⟩
   show AV.bool (decide ((20 : Int) < l.length)) = AV.bool (greatS l)
   rw [he,List.take_length] at hno
   unfold greatS
   rw [hno,Bool.false_or]
   congr 1
   exact decide_eq_decide.2 (by omega)

end Qk

/-
  Chapter 57: the last attribute that matches.
-/
namespace Qk
open Go Go.RowKit

end Qk

/-
  Chapter 57: functions of the library; glob.Check.
-/
namespace Qk
open Go Go.RowKit

theorem parse_second (g : List UInt8) : (parseR g).2 = checkG g := by
 rcases parse_of (g := g) with ⟨l,h1,h2⟩ | ⟨h1,e,h2,_,h3⟩
 ·rw [h2]; exact (check_zero.2 ⟨l,h1⟩).symm
 ·rw [h2,h3]

theorem d_check : Does ir_glob_Check C_glob_Check := by
 intro (g : List UInt8) hg
 replace hg : g.length ≤ 1000000000 := hg
 refine ⟨g,rfl,hg,?_⟩
 refine ⟨_,rfl,?_⟩
 refine ⟨_,rfl,?_⟩
 refine ⟨_,(by first | exact SubSt.refl _ | exact SubTop.refl _),?_⟩
 show AV.int .i64 (parseR g).2 = AV.int .i64 (checkG g)
 rw [parse_second]


def F_strings_genSplit32 : FC := ⟨List UInt8,fun s => [.str s,.str [32],.int .i64 0,.int .i64 (-1)],fun s => s.length ≤ 1000000000,1,fun s => (splB 32 s).length,fun s => strs (splB 32 s)⟩
/-- strings.Split at blanks -/
def ir_strings_Split32 : IF := ⟨(.seq (.ops [⟨some 4,none,.mov (.const (.slice none 0 0))⟩])
 (.seq (.ops [⟨some 5,none,.mov (t 0)⟩,⟨some 6,none,.mov (t 1)⟩,⟨some 7,none,.pcallF F_strings_genSplit32 [(t 5),(t 6),(ci 0),(ci (-1))]⟩,⟨some 4,none,.mov (t 7)⟩])
 .ret)),[.tmp 4]⟩
theorem d_strings_Split32 : DoesF ir_strings_Split32 F_strings_Split32 := by
 intro (s : List UInt8) hs
 refine ⟨s,rfl,hs,?_⟩
 refine ⟨_,(by first | exact SubSt.refl _ | exact SubTop.refl _),?_⟩
 exact ⟨0,false,rfl,rfl,plain_strs _⟩

theorem split_KB (c : UInt8) : ∀ (k : Nat) (s : List UInt8),s.count c = k → Lib.splitK [c] 0 k s = splB c s
 | 0,s,h => by
  rw [Lib.splitK]
  exact (splB_miss (List.count_eq_zero.1 h)).symm
 | k + 1,s,h => by
  have hm : c ∈ s := List.count_pos_iff.1 (by omega)
  have hi : Lib.index s [c] = (s.idxOf c : Nat) := by rw [Lib.index_one,indexByte_eq,indexB,if_pos hm]
  have hlt : s.idxOf c < s.length := List.idxOf_lt_length_of_mem hm
  have hat : s[s.idxOf c] = c := List.getElem_idxOf hlt
  have hcut : s = s.take (s.idxOf c) ++ c :: s.drop (s.idxOf c + 1) := by
   have h1 := List.drop_eq_getElem_cons hlt
   rw [hat] at h1
   rw [← h1,List.take_append_drop]
  have h0 : (s.take (s.idxOf c)).count c = 0 := by
   apply List.count_eq_zero.2
   intro hc
   obtain ⟨j,hj,hje⟩ := List.getElem_of_mem hc
   have hj2 : j < s.idxOf c := by rw [List.length_take] at hj; omega
   rw [List.getElem_take] at hje
   have h9 := List.not_of_lt_findIdx (p := fun x : UInt8 => x == c) (xs := s) hj2
   rw [hje] at h9
   exact absurd h9 (by simp)
  have hc2 : (s.drop (s.idxOf c + 1)).count c = k := by
   have h3 := congrArg (List.count c) hcut
   rw [h,List.count_append,h0,List.count_cons_self] at h3
   omega
  rw [Lib.splitK,hi]
  have hne : ¬ (((s.idxOf c : Nat) : Int) == -1) = true := by simp
  rw [if_neg hne]
  have e1 : (((s.idxOf c : Nat) : Int)).toNat + 0 = s.idxOf c := by omega
  have e2 : (((s.idxOf c : Nat) : Int)).toNat + [c].length = s.idxOf c + 1 := by simp
  rw [e1,e2,split_KB c k _ hc2]
  exact (splB_hit hm).symm

theorem keeps_genSplit32 {G : Gl} {f : FuncId} {fn : Func} (hf : G.P.funcs[f]? = some fn) (hb : fn.body.isNone = false) (hname : (fn.name == "runtime.NumGoroutine") = false) {ty : TypeId}
  (h : ∀ (s : ByteArray) (N : Nat) (w : World),s.size < 4294967281 → (N : Int) = min ((Lib.countB s ⟨#[32]⟩ : Int) + 1) ((s.size : Int) + 1) →
   Calls G.P f #[.string s,.string ⟨#[32]⟩,.int .i64 0,.int .i64 (-1)] w fun e w' =>
    e = .returned (.slice (some ⟨w.heap.size,0,none⟩) (Lib.splitB ⟨#[32]⟩ 0 (N - 1) s).length N) ∧ w' = w.alloc (.cells (Lib.cellsOf (Lib.splitB ⟨#[32]⟩ 0 (N - 1) s) N) ty)) : KeepsF G F_strings_genSplit32 f := by
 rintro us w Φ vs _ hphi hs hr (s : List UInt8) rfl hok
 replace hok : s.length ≤ 1000000000 := hok
 obtain ⟨x,y,z,u,rfl,h1,h2,h3,h4⟩ := four_args hs hr
 simp only [Rep] at h1 h2 h3 h4
 subst h1
 subst h2
 subst h3
 subst h4
 have hsz : (ByteArray.mk s.toArray).size = s.length := List.size_toArray
 have hcb : Lib.countB ⟨s.toArray⟩ ⟨#[32]⟩ = s.count 32 := by
  show Lib.count s.toArray.toList [32] = _
  rw [Lib.count_one]
 have hle : s.count 32 ≤ s.length := List.count_le_length
 refine .inl ⟨⟨fn,hf,hb,hname⟩,Calls.mono (h ⟨s.toArray⟩ (s.count 32 + 1) w (by rw [hsz]; omega) (by rw [hcb,hsz]; omega)) ?_⟩
 rintro e w' ⟨rfl,rfl⟩
 obtain ⟨L,hL⟩ : ∃ L,L = Lib.splitB ⟨#[32]⟩ 0 (s.count 32 + 1 - 1) ⟨s.toArray⟩ := ⟨_,rfl⟩
 have hLd : L.map (·.data.toList) = splB 32 s := by
  rw [hL,Nat.add_sub_cancel,Lib.splitB_data]
  exact split_KB 32 _ _ rfl
 have hLn : L.length = (splB 32 s).length := by rw [← hLd]; simp
 have hLe : L.length ≤ s.count 32 + 1 := by
  have := Lib.splitB_length_le ⟨#[32]⟩ 0 (s.count 32 + 1 - 1) ⟨s.toArray⟩
  rw [← hL] at this; omega
 rw [← hL]
 refine ⟨_,rfl,(Below.refl _ w).alloc (Nat.le_refl _) _,.inr ⟨w.heap.size,_,ty,(0,0),s.count 32 + 1,?_,Nat.le_refl _,heap_alloc_new w _,?_,?_,?_,?_,?_⟩⟩
 ·show Value.slice _ L.length _ = Value.slice _ (splB 32 s).length _
  rw [hLn]
 ·show _ = (s.count 32 + 1) * 1
  rw [Lib.cellsOf_size hLe,Nat.mul_one]
 ·show (strs (splB 32 s)).length ≤ _
  rw [Lib.cellsOf_size hLe,strs_length,← hLn]; exact hLe
 ·show (splB 32 s).length ≤ _
  rw [← hLn]; exact hLe
 ·intro i _; simp
 ·refine RepAt.mk fun j c hj => ?_
  have hj2 : (strs (splB 32 s))[j]? = some c := hj
  have hjl : j < (splB 32 s).length := by
   have := (List.getElem?_eq_some_iff.1 hj2).1
   rwa [strs_length] at this
  rw [← hLd] at hj2
  unfold strs at hj2
  rw [List.map_map,List.getElem?_map] at hj2
  have hjL : j < L.length := by omega
  rw [List.getElem?_eq_getElem hjL] at hj2
  cases hj2
  refine ⟨.string L[j],?_,?_⟩
  ·rw [Nat.zero_add]
   unfold Lib.cellsOf
   rw [List.getElem?_toArray,List.getElem?_append_left (by simpa using hjL),List.getElem?_map,List.getElem?_eq_getElem hjL]
   rfl
  ·show Rep _ _ (AV.str L[j].data.toList) _ _
   simp only [Rep]


theorem one_args {G : Gl} {Φ : Phi} {a : AV} {vs : Array Value} (hs : vs.size = 1) (hr : RepAt G Φ [a] (fun _ => none) vs 0) : ∃ x,vs = #[x] ∧ Rep G Φ a (fun _ => none) x := by
 obtain ⟨l⟩ := vs
 match l,hs with
 | [x],_ =>
  simp only [RepAt] at hr
  obtain ⟨⟨x',h1,h2⟩,_⟩ := hr
  simp at h1
  subst h1
  exact ⟨x,rfl,h2⟩
theorem tri_args {G : Gl} {Φ : Phi} {a b c : AV} {vs : Array Value} (hs : vs.size = 3) (hr : RepAt G Φ [a,b,c] (fun _ => none) vs 0) : ∃ x y z,vs = #[x,y,z] ∧ Rep G Φ a (fun _ => none) x ∧ Rep G Φ b (fun _ => none) y ∧ Rep G Φ c (fun _ => none) z := by
 obtain ⟨l⟩ := vs
 match l,hs with
 | [x,y,z],_ =>
  simp only [RepAt] at hr
  obtain ⟨⟨x',h1,h2⟩,⟨y',h3,h4⟩,⟨z',h5,h6⟩,_⟩ := hr
  simp at h1 h3 h5
  subst h1
  subst h3
  subst h5
  exact ⟨x,y,z,rfl,h2,h4,h6⟩

/-- What is known of the library's variables from the start: the two tables, and that a third is an integer. -/
def base57 (Φ : Phi) : Prop := ∀ w : World,(∀ b o,Φ b = some o → w.heap[b]? = some o) → Lib.Utf8Tabs 1 2 w ∧ ∃ m : Int,w.cell? ⟨0,0,none⟩ = some (.int .i64 m)
theorem mono57 : ∀ Φ Φ' : Phi,(∀ b o,Φ b = some o → Φ' b = some o) → base57 Φ → base57 Φ' := fun _ _ h hb w hw => hb w fun b o e => hw b o (h b o e)

theorem keeps_never {G : Gl} {C : PC} {f : FuncId} (h : ∀ x,C.ok x → False) : KeepsC G C (fun _ => none) f #[] := by
 rintro us w Φ vs _ hgb hphi hs hr x rfl hok
 exact (h x hok).elim
theorem keeps_Valid {G : Gl} {f : FuncId} {fn : Func} (hf : G.P.funcs[f]? = some fn) (hb : fn.body.isNone = false) (hname : (fn.name == "runtime.NumGoroutine") = false) (hG : ∀ Φ,G.base Φ → base57 Φ)
  (h : ∀ (s : ByteArray) (w : World),s.size ≤ 9223372036854775807 → Lib.Utf8Tabs 1 2 w → Calls G.P f #[.string s] w fun e w' => e = .returned (.bool (Lib.validD s.data.toList)) ∧ Below w.heap.size w w') : KeepsC G C_unicode_utf8_ValidString (fun _ => none) f #[] := by
 refine keeps_callsG hf hb hname ?_
 rintro w Φ vs (l : List UInt8) hbase hphi hs hr hok
 replace hok : l.length ≤ 1000000000 := hok
 obtain ⟨x,rfl,h1⟩ := one_args hs hr
 simp only [Rep] at h1
 subst h1
 refine ⟨.bool (Lib.validD l),by simp only [Rep,C_unicode_utf8_ValidString],?_⟩
 exact h ⟨l.toArray⟩ w (by show l.toArray.size ≤ _; rw [List.size_toArray]; omega) (hG Φ hbase w hphi).1
theorem keeps_CutPrefix {G : Gl} {f : FuncId} {fn : Func} (hf : G.P.funcs[f]? = some fn) (hb : fn.body.isNone = false) (hname : (fn.name == "runtime.NumGoroutine") = false)
  (h : ∀ (s p : ByteArray) (w : World),Calls G.P f #[.string s,.string p] w fun e w' => e = .returned (.tuple #[.string ⟨(Lib.trimPrefix s.data.toList p.data.toList).toArray⟩,.bool (Lib.hasPrefix s.data.toList p.data.toList)]) ∧ w' = w) : KeepsC G C_strings_CutPrefix (fun _ => none) f #[] := by
 refine keeps_calls hf hb hname ?_
 rintro w Φ vs ⟨l,p⟩ hphi hs hr _
 obtain ⟨x,y,rfl,h1,h2⟩ := two_args hs hr
 simp only [Rep] at h1 h2
 subst h1
 subst h2
 refine ⟨.tuple #[.string ⟨(Lib.trimPrefix l p).toArray⟩,.bool (Lib.hasPrefix l p)],?_,Calls.mono (h ⟨l.toArray⟩ ⟨p.toArray⟩ w) ?_⟩
 ·show Rep G Φ (.tup [.str (Lib.trimPrefix l p),.bool (Lib.hasPrefix l p)]) _ _
  simp only [Rep]
  refine ⟨_,rfl,rfl,?_⟩
  refine ⟨⟨_,rfl,?_⟩,⟨_,rfl,?_⟩,trivial⟩ <;> (simp only [Rep]; rfl)
 ·rintro e w' ⟨rfl,rfl⟩
  exact ⟨rfl,Below.refl _ _⟩
theorem keeps_TrimSuffix {G : Gl} {f : FuncId} {fn : Func} (hf : G.P.funcs[f]? = some fn) (hb : fn.body.isNone = false) (hname : (fn.name == "runtime.NumGoroutine") = false)
  (h : ∀ (s p : ByteArray) (w : World),s.size ≤ 9223372036854775807 → Calls G.P f #[.string s,.string p] w fun e w' => e = .returned (.string ⟨(Lib.trimSuffix s.data.toList p.data.toList).toArray⟩) ∧ w' = w) : KeepsC G C_strings_TrimSuffix (fun _ => none) f #[] := by
 refine keeps_calls hf hb hname ?_
 rintro w Φ vs ⟨l,p⟩ hphi hs hr hok
 replace hok : l.length ≤ 1000000000 := hok
 obtain ⟨x,y,rfl,h1,h2⟩ := two_args hs hr
 simp only [Rep] at h1 h2
 subst h1
 subst h2
 refine ⟨.string ⟨(Lib.trimSuffix l p).toArray⟩,by simp only [Rep,C_strings_TrimSuffix],Calls.mono (h ⟨l.toArray⟩ ⟨p.toArray⟩ w (by show l.toArray.size ≤ _; rw [List.size_toArray]; omega)) ?_⟩
 rintro e w' ⟨rfl,rfl⟩
 exact ⟨rfl,Below.refl _ _⟩
theorem keeps_Count {G : Gl} {f : FuncId} {fn : Func} (hf : G.P.funcs[f]? = some fn) (hb : fn.body.isNone = false) (hname : (fn.name == "runtime.NumGoroutine") = false)
  (h : ∀ (s : ByteArray) (c : UInt8) (w : World),Calls G.P f #[.string s,.string ⟨#[c]⟩] w fun e w' => e = .returned (.int .i64 (Lib.countByte s.data.toList c)) ∧ w' = w) : KeepsC G C_strings_Count (fun _ => none) f #[] := by
 refine keeps_calls hf hb hname ?_
 rintro w Φ vs ⟨l,c⟩ hphi hs hr _
 obtain ⟨x,y,rfl,h1,h2⟩ := two_args hs hr
 simp only [Rep] at h1 h2
 subst h1
 subst h2
 refine ⟨.int .i64 (l.count c),by simp only [Rep,C_strings_Count],Calls.mono (h ⟨l.toArray⟩ c w) ?_⟩
 rintro e w' ⟨rfl,rfl⟩
 exact ⟨rfl,Below.refl _ _⟩
theorem keeps_ReplaceAll {G : Gl} {f : FuncId} {fn : Func} (hf : G.P.funcs[f]? = some fn) (hb : fn.body.isNone = false) (hname : (fn.name == "runtime.NumGoroutine") = false) (hG : ∀ Φ,G.base Φ → base57 Φ)
  (h : ∀ (s old new : ByteArray) (m : Int) (w : World),s.size < 4294967281 → w.cell? ⟨0,0,none⟩ = some (.int .i64 m) → 1 ≤ old.size → s.size + Lib.countB s old * new.size ≤ 140737488355328 →
   Calls G.P f #[.string s,.string old,.string new] w fun e w' => e = .returned (.string ⟨(Lib.replaceAll s.data.toList old.data.toList new.data.toList).toArray⟩) ∧ Below w.heap.size w w') : KeepsC G C_strings_ReplaceAll (fun _ => none) f #[] := by
 refine keeps_callsG hf hb hname ?_
 rintro w Φ vs ⟨l,o,n⟩ hbase hphi hs hr ⟨hl,ho,hn⟩
 dsimp only at hl ho hn
 obtain ⟨x,y,z,rfl,h1,h2,h3⟩ := tri_args hs hr
 simp only [Rep] at h1 h2 h3
 subst h1
 subst h2
 subst h3
 obtain ⟨m,hm⟩ := (hG Φ hbase w hphi).2
 have hcnt : Lib.count l o ≤ l.length + 1 := Lib.count_le l o
 refine ⟨.string ⟨(Lib.replaceAll l o n).toArray⟩,by simp only [Rep,C_strings_ReplaceAll],?_⟩
 refine h ⟨l.toArray⟩ ⟨o.toArray⟩ ⟨n.toArray⟩ m w (by show l.toArray.size < _; rw [List.size_toArray]; omega) hm (by show 1 ≤ o.toArray.size; rw [List.size_toArray]; omega) ?_
 show l.toArray.size + Lib.count l.toArray.toList o.toArray.toList * n.toArray.size ≤ _
 rw [List.size_toArray,List.size_toArray]
 have : Lib.count l o * n.length ≤ (l.length + 1) * 2 := Nat.mul_le_mul hcnt hn
 show l.length + Lib.count l o * n.length ≤ _
 omega

theorem nn_tup' {cs : List AV} (h : NNL cs) : NN (.tup cs) := fun G Φ ρ ρ' v hr => by
 simp only [Rep] at hr ⊢
 obtain ⟨A,h1,h2,h3⟩ := hr
 exact ⟨A,h1,h2,h _ _ _ _ _ _ h3⟩
theorem nn_tupS (r : List UInt8 × Int) : NN (tupS r) := nn_tup' (nnl_cons (plain_str _).nn (nnl_one (plain_int _ _).nn))
theorem nn_tupB (r : List UInt8 × Bool) : NN (tupB r) := nn_tup' (nnl_cons (plain_str _).nn (nnl_one (plain_bool _).nn))
theorem nn_Attributes (s : List UInt8) : NN (C_charset_Attributes.res s) := nn_tup' (nnl_cons (nn_ilist _ _ _) (nnl_cons (plain_int _ _).nn (nnl_one (plain_int _ _).nn)))
theorem nn_attribute (s : List UInt8) : NN (C_charset_attribute.res s) := nn_tup' (nnl_cons (nn_agg (nnl_attA _)) (nnl_one (plain_bool _).nn))
theorem nn_find (x : List Att × List UInt8) : NN (C_charset_Find.res x) := nn_agg (nnl_attA _)
theorem nn_units (x : List UInt8) : NN (C_charset_units.res x) := by
 show NN (match wordsL x with | none => .tup [.raw (.slice none 0 0),.bool false] | some ws => .tup [.ilist 1 ws.length (runA ws),.bool true])
 split
 ·exact nn_tup' (nnl_cons (plain_raw _).nn (nnl_one (plain_bool _).nn))
 ·exact nn_tup' (nnl_cons (nn_ilist _ _ _) (nnl_one (plain_bool _).nn))

end Qk

/-
  Chapter 57: the arguments of the statements, what is known from the start, the wrap.
-/
namespace Qk
open Go Go.RowKit

def attT : Ty := .pair .str (.pair (.int .i64) (.pair (.int .i64) .unit))
theorem fits_att {cs : List AV} (h : Fits attT cs) : ∃ a : Att,cs = attA a := by
 obtain ⟨x,y,rfl,⟨g,rfl,_⟩,x2,y2,rfl,⟨n,rfl,_⟩,x3,y3,rfl,⟨m,rfl,_⟩,rfl⟩ := h
 exact ⟨⟨g,n,m⟩,rfl⟩
theorem fits_flat : ∀ {xs : List (List AV)},(∀ x ∈ xs,Fits attT x) → ∃ l : List Att,l.length = xs.length ∧ xs.flatten = flatA l
 | [],_ => ⟨[],rfl,rfl⟩
 | x :: xs,h => by
  obtain ⟨a,ha⟩ := fits_att (h x List.mem_cons_self)
  obtain ⟨l,h1,h2⟩ := fits_flat (xs := xs) fun y hy => h y (List.mem_cons_of_mem _ hy)
  exact ⟨a :: l,by rw [List.length_cons,List.length_cons,h1],by rw [List.flatten_cons,h2,ha]; rfl⟩
theorem fits_atts {cs : List AV} (h : Fits (.sl attT) cs) : ∃ l : List Att,cs = [attsA l] ∧ l.length ≤ maxLen := by
 obtain ⟨xs,rfl,h1,h2⟩ := h
 obtain ⟨l,h3,h4⟩ := fits_flat h1
 exact ⟨l,by rw [h4,← h3]; rfl,by rw [h3]; exact h2⟩

theorem cell_mono {W w : World} (hw : ∀ (b : Nat) (o : Obj),W.heap[b]? = some o → w.heap[b]? = some o) {a : Addr} {v : Value} (h : W.cell? a = some v) : w.cell? a = some v := by
 obtain ⟨hs,C,ty,fr,hh⟩ := cell_spot h
 obtain ⟨b,o,s⟩ := a
 simp only at hs hh
 subst hs
 rw [Lib.cell_of_heap hh] at h
 rw [Lib.cell_of_heap (hw _ _ hh)]
 exact h
theorem base_of {W : World} (h1 : Lib.Utf8Tabs 1 2 W) (h2 : ∃ m : Int,W.cell? ⟨0,0,none⟩ = some (.int .i64 m)) : base57 fun b => W.heap[b]? := by
 intro w hw
 refine ⟨⟨fun c hc => cell_mono hw (h1.1 c hc),fun i hi => ⟨cell_mono hw (h1.2 i hi).1,cell_mono hw (h1.2 i hi).2⟩⟩,?_⟩
 obtain ⟨m,hm⟩ := h2
 exact ⟨m,cell_mono hw hm⟩

/-- The wrap that keeps the listed variables and the world's shape. -/
theorem returns_and_shaped {H : Type} {enc : TypeId × Value → H} {a : Assume} {C : Checked} {os : Os} {f : FuncId} {fn : Func} {s : ChangeSpec} {conds : List PathCond} {apart fresh handsOn again : Bool} {X : World → Array Value → Prop}
  (hX : ∀ (w w' : World) (args : Array Value),w.heap = w'.heap → X w args → X w' args)
  (own : ownKnob C.prog.godebug = none) (started : os.Started) (noInit : C.prog.inits.idxOf? f = none) (hfn : C.prog.funcs[f]? = some fn)
  (witness : ∃ (w : World) (tape : Tape) (i : Input),w.os = os ∧ (w.forCall tape i).Shaped C.prog ∧ i.vars = [] ∧ Input.okWide C.prog (w.forCall tape i) .any w.heap.size f i ∧
   ((s.pre enc C.prog fn conds apart (w.forCall tape i).memory i.args ∧ X (w.forCall tape i).memory i.args) ∧ sizedMet enc C.prog fn (OpenSpec.ofChange s) apart (w.forCall tape i).memory i.args) ∧ a.holds C.prog (lone (Frame.enter C.prog f i.args .normal) [] (w.forCall tape i)))
  (contract : ∀ (W : World) (base : Nat) (args : Array Value) (ds gs : List (DataW H)) (before : List MemPlace),
   (∀ (j : Nat) t v,fn.params[j]? = some t → args[j]? = some v → Value.okWide C.prog W .any base t v) →
   DataW.Whole enc C.prog fn.params.toList s.vars apart W args.toList ds gs before → X W args → W.ShapedOpen C.prog →
   Calls C.prog f args W fun e W' => ∃ v,e = .returned v ∧ s.post enc C.prog fn apart fresh handsOn again W args v W') :
  ReturnsInHanded a C os f .any (fun w args => (s.pre enc C.prog fn conds apart w args ∧ X w args) ∧ sizedMet enc C.prog fn (OpenSpec.ofChange s) apart w args) (s.post enc C.prog fn apart fresh handsOn again) := by
 refine returnsInHanded_of_calls own started noInit witness ?_
 intro w tape i _ hsh _ hok hpre _
 obtain ⟨_,_,_,fn',hfn',_,_,_,_,hval⟩ := hok
 have e : fn' = fn := Option.some.inj (hfn'.symm.trans hfn)
 subst e
 obtain ⟨⟨⟨ds,gs,before,hw,_⟩,hx⟩,_⟩ := hpre
 have hw' := DataW.Whole.of_heap (w' := w.forCall tape i) (by rfl) hw
 refine (contract (w.forCall tape i) w.heap.size i.args ds gs before hval hw' (hX _ _ _ (by rfl) hx) hsh).mono fun e W' ⟨v,he,hp⟩ => ?_
 subst he
 exact ChangeSpec.post_blind hp

end Qk

/-
  Chapter 57: contracts of the statements without the reference.
-/
namespace Qk
open Go Go.RowKit

end Qk
