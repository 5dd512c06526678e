/-
  Chapter 32: functions of the library.
-/
import Derived.Test.YtnjncjjegolojaaGreatDoorPd
import Derived.Test.YtnjncjjegolojaaGreatDoorPc
import Derived.Lib.Split
import Derived.Lib.SplitLaws
import Derived.Lib.IndexBytes

/-
  Chapter 32: what the functions of the statements give.
-/
namespace Qk
open Go Go.RowKit

def C_strings_Contains : PC := ⟨List UInt8 × UInt8,fun x => [.str x.1,.str [x.2]],fun x => x.1.length ≤ 1000000000,fun x => .bool (decide (x.2 ∈ x.1))⟩
def C_quiltref32_Match : PC := ⟨List UInt8 × List UInt8,fun x => [.str x.1,.str x.2],fun x => x.1.length ≤ 1000000000 ∧ x.2.length ≤ 1000000000,fun x => .bool (matchG x.1 x.2)⟩
/-! ### The statements -/
end Qk

/-
  Chapter 32: what the functions of the library give.
-/
namespace Qk
open Go Go.RowKit

def C_strings_Index : PC := ⟨List UInt8 × UInt8,fun x => [.str x.1,.str [x.2]],fun _ => True,fun x => .int .i64 (indexB x.1 x.2)⟩
def F_strings_genSplit : FC := ⟨List UInt8,fun s => [.str s,.str [47],.int .i64 0,.int .i64 (-1)],fun s => s.length ≤ 1000000000,1,fun s => (splitS s).length,fun s => strs (splitS s)⟩

end Qk

/-
  Chapter 32: the forms of functions of the library (printed by a program).
-/
namespace Qk
open Go Go.RowKit

/-- strings.Contains -/
def ir_strings_Contains : IF := ⟨(.seq (.ops [⟨some 4,none,.mov (.const (.bool false))⟩])
 (.seq (.ops [⟨some 5,none,.mov (t 0)⟩,⟨some 6,none,.mov (t 1)⟩,⟨some 7,none,.pcall C_strings_Index [(t 5),(t 6)]⟩,⟨some 8,none,.bin .geq (t 7) (ci 0)⟩,⟨some 4,none,.mov (t 8)⟩])
 .ret)),[.tmp 4]⟩
/-- strings.Split -/
def ir_strings_Split : IF := ⟨(.seq (.ops [⟨some 4,none,.mov (.const (.slice none 0 0))⟩])
 (.seq (.ops [⟨some 5,none,.mov (t 0)⟩,⟨some 6,none,.mov (t 1)⟩,⟨some 7,none,.pcallF F_strings_genSplit [(t 5),(t 6),(ci 0),(ci (-1))]⟩,⟨some 4,none,.mov (t 7)⟩])
 .ret)),[.tmp 4]⟩

end Qk

/-
  Chapter 32: functions of the library.
-/
namespace Qk
open Go Go.RowKit

theorem d_contains : Does ir_strings_Contains C_strings_Contains := by
 rintro ⟨s,c⟩ hs
 refine ⟨(s,c),rfl,trivial,?_⟩
 refine ⟨_,(by first | exact SubSt.refl _ | exact SubTop.refl _),?_⟩
 show AV.bool (decide ((0 : Int) ≤ indexB s c)) = AV.bool (decide (c ∈ s))
 congr 1
 unfold indexB
 by_cases h : c ∈ s
 ·rw [if_pos h,decide_eq_true h,decide_eq_true (by omega)]
 ·rw [if_neg h,decide_eq_false h]; rfl

theorem d_strings_Split : DoesF ir_strings_Split F_strings_Split := by
 intro (s : List UInt8) hs
 refine ⟨s,rfl,hs,?_⟩
 refine ⟨_,(by first | exact SubSt.refl _ | exact SubTop.refl _),?_⟩
 exact ⟨0,false,rfl,rfl,plain_strs _⟩

theorem split_K : ∀ (k : Nat) (s : List UInt8),s.count 47 = k → Lib.splitK [47] 0 k s = splitS s
 | 0,s,h => by
  rw [Lib.splitK]
  refine (split_one s ?_).symm
  intro c hc e
  subst e
  have := List.count_pos_iff.2 hc
  omega
 | k + 1,s,h => by
  have hm : (47 : UInt8) ∈ s := List.count_pos_iff.1 (by omega)
  have hi : Lib.index s [47] = (s.idxOf 47 : Nat) := by rw [Lib.index_one,indexByte_eq,indexB,if_pos hm]
  have hlt : s.idxOf 47 < s.length := List.idxOf_lt_length_of_mem hm
  have hat : s[s.idxOf 47] = 47 := List.getElem_idxOf hlt
  have hcut : s = s.take (s.idxOf 47) ++ 47 :: s.drop (s.idxOf 47 + 1) := by
   have h1 := List.drop_eq_getElem_cons hlt
   rw [hat] at h1
   rw [← h1,List.take_append_drop]
  have hno : NoSl (s.take (s.idxOf 47)) := by
   intro c hc e
   subst e
   obtain ⟨j,hj,hje⟩ := List.getElem_of_mem hc
   have hj2 : j < s.idxOf 47 := by rw [List.length_take] at hj; omega
   rw [List.getElem_take] at hje
   have h9 := List.not_of_lt_findIdx (p := fun x : UInt8 => x == 47) (xs := s) hj2
   rw [hje] at h9
   exact absurd h9 (by decide)
  have hc2 : (s.drop (s.idxOf 47 + 1)).count 47 = k := by
   have h0 : (s.take (s.idxOf 47)).count 47 = 0 := by
    apply List.count_eq_zero.2
    intro hc; exact hno 47 hc rfl
   have h3 := congrArg (List.count 47) hcut
   rw [h,List.count_append,h0,List.count_cons_self] at h3
   omega
  rw [Lib.splitK,hi]
  have hne : ¬ (((s.idxOf 47 : Nat) : Int) == -1) = true := by simp
  rw [if_neg hne]
  have e1 : (((s.idxOf 47 : Nat) : Int)).toNat + 0 = s.idxOf 47 := by omega
  have e2 : (((s.idxOf 47 : Nat) : Int)).toNat + [(47 : UInt8)].length = s.idxOf 47 + 1 := by simp
  rw [e1,e2,split_K k _ hc2]
  conv => rhs; rw [hcut]
  rw [split_app _ _ hno]

theorem four_args {G : Gl} {Φ : Phi} {a b c d : AV} {vs : Array Value} (hs : vs.size = 4) (hr : RepAt G Φ [a,b,c,d] (fun _ => none) vs 0) : ∃ x y z u,vs = #[x,y,z,u] ∧ Rep G Φ a (fun _ => none) x ∧ Rep G Φ b (fun _ => none) y ∧ Rep G Φ c (fun _ => none) z ∧ Rep G Φ d (fun _ => none) u := by
 obtain ⟨l⟩ := vs
 match l,hs with
 | [x,y,z,u],_ =>
  simp only [RepAt] at hr
  obtain ⟨⟨x',h1,h2⟩,⟨y',h3,h4⟩,⟨z',h5,h6⟩,⟨u',h7,h8⟩,_⟩ := hr
  simp at h1 h3 h5 h7
  subst h1
  subst h3
  subst h5
  subst h7
  exact ⟨x,y,z,u,rfl,h2,h4,h6,h8⟩

theorem keeps_Index {G : Gl} {f : FuncId} {fn : Func} (hf : G.P.funcs[f]? = some fn) (hb : fn.body.isNone = false) (hname : (fn.name == "runtime.NumGoroutine") = false)
  (h : ∀ (s : ByteArray) (c : UInt8) (w : World),Calls G.P f #[.string s,.string ⟨#[c]⟩] w fun e w' => e = .returned (.int .i64 (Lib.indexByte s.data.toList c)) ∧ w' = w) : KeepsC G C_strings_Index (fun _ => none) f #[] := by
 refine keeps_calls hf hb hname ?_
 rintro w Φ vs ⟨l,c⟩ hphi hs hr _
 obtain ⟨x,y,rfl,h1,h2⟩ := two_args hs hr
 simp only [Rep] at h1 h2
 subst h1
 subst h2
 refine ⟨.int .i64 (indexB l c),by simp only [Rep,C_strings_Index],?_⟩
 refine Calls.mono (h ⟨l.toArray⟩ c w) ?_
 rintro e w' ⟨rfl,rfl⟩
 exact ⟨by rw [indexByte_eq],Below.refl _ _⟩

theorem keeps_genSplit {G : Gl} {f : FuncId} {fn : Func} (hf : G.P.funcs[f]? = some fn) (hb : fn.body.isNone = false) (hname : (fn.name == "runtime.NumGoroutine") = false) {ty : TypeId}
  (h : ∀ (s : ByteArray) (N : Nat) (w : World),s.size < 4294967281 → (N : Int) = min ((Lib.countB s ⟨#[47]⟩ : Int) + 1) ((s.size : Int) + 1) →
   Calls G.P f #[.string s,.string ⟨#[47]⟩,.int .i64 0,.int .i64 (-1)] w fun e w' =>
    e = .returned (.slice (some ⟨w.heap.size,0,none⟩) (Lib.splitB ⟨#[47]⟩ 0 (N - 1) s).length N) ∧ w' = w.alloc (.cells (Lib.cellsOf (Lib.splitB ⟨#[47]⟩ 0 (N - 1) s) N) ty)) : KeepsF G F_strings_genSplit f := by
 rintro us w Φ vs _ hphi hs hr (s : List UInt8) rfl hok
 replace hok : s.length ≤ 1000000000 := hok
 obtain ⟨x,y,z,u,rfl,h1,h2,h3,h4⟩ := four_args hs hr
 simp only [Rep] at h1 h2 h3 h4
 subst h1
 subst h2
 subst h3
 subst h4
 have hsz : (ByteArray.mk s.toArray).size = s.length := List.size_toArray
 have hcb : Lib.countB ⟨s.toArray⟩ ⟨#[47]⟩ = s.count 47 := by
  show Lib.count s.toArray.toList [47] = _
  rw [Lib.count_one]
 have hle : s.count 47 ≤ s.length := List.count_le_length
 refine .inl ⟨⟨fn,hf,hb,hname⟩,Calls.mono (h ⟨s.toArray⟩ (s.count 47 + 1) w (by rw [hsz]; omega) (by rw [hcb,hsz]; omega)) ?_⟩
 rintro e w' ⟨rfl,rfl⟩
 obtain ⟨L,hL⟩ : ∃ L,L = Lib.splitB ⟨#[47]⟩ 0 (s.count 47 + 1 - 1) ⟨s.toArray⟩ := ⟨_,rfl⟩
 have hLd : L.map (·.data.toList) = splitS s := by
  rw [hL,Nat.add_sub_cancel,Lib.splitB_data]
  exact split_K _ _ rfl
 have hLn : L.length = (splitS s).length := by rw [← hLd]; simp
 have hLe : L.length ≤ s.count 47 + 1 := by
  have := Lib.splitB_length_le ⟨#[47]⟩ 0 (s.count 47 + 1 - 1) ⟨s.toArray⟩
  rw [← hL] at this; omega
 rw [← hL]
 refine ⟨_,rfl,(Below.refl _ w).alloc (Nat.le_refl _) _,.inr ⟨w.heap.size,_,ty,(0,0),s.count 47 + 1,?_,Nat.le_refl _,heap_alloc_new w _,?_,?_,?_,?_,?_⟩⟩
 ·show Value.slice _ L.length _ = Value.slice _ (splitS s).length _
  rw [hLn]
 ·show _ = (s.count 47 + 1) * 1
  rw [Lib.cellsOf_size hLe,Nat.mul_one]
 ·show (strs (splitS s)).length ≤ _
  rw [Lib.cellsOf_size hLe,strs_length,← hLn]; exact hLe
 ·show (splitS s).length ≤ _
  rw [← hLn]; exact hLe
 ·intro i _; simp
 ·refine RepAt.mk fun j c hj => ?_
  have hj2 : (strs (splitS s))[j]? = some c := hj
  have hjl : j < (splitS s).length := by
   have := (List.getElem?_eq_some_iff.1 hj2).1
   rwa [strs_length] at this
  rw [← hLd] at hj2
  unfold strs at hj2
  rw [List.map_map,List.getElem?_map] at hj2
  have hjL : j < L.length := by omega
  rw [List.getElem?_eq_getElem hjL] at hj2
  cases hj2
  refine ⟨.string L[j],?_,?_⟩
  ·rw [Nat.zero_add]
   unfold Lib.cellsOf
   rw [List.getElem?_toArray,List.getElem?_append_left (by simpa using hjL),List.getElem?_map,List.getElem?_eq_getElem hjL]
   rfl
  ·show Rep _ _ (AV.str L[j].data.toList) _ _
   simp only [Rep]

end Qk

/-
  Chapter 32: the values of the example, quick for the kernel.
-/
namespace Qk

def gmGo {σ : Type} (r : List σ → Bool) : List σ → Bool
 | [] => r []
 | c :: s => r (c :: s) || gmGo r s
def gmX {ε σ : Type} (star : ε → Bool) (fit : ε → σ → Bool) : List ε → List σ → Bool
 | [] => fun s => s.isEmpty
 | e :: l => match star e with
  | true => gmGo (gmX star fit l)
  | false => fun s => match s with
   | [] => false
   | c :: s => fit e c && gmX star fit l s
theorem gm_X {ε σ : Type} {star : ε → Bool} {fit : ε → σ → Bool} : ∀ (l : List ε) (s : List σ),gm star fit l s = gmX star fit l s
 | [],s => by rw [gmX]; cases s <;> simp [gm]
 | e :: l,s => by
  cases h : star e with
  | true =>
   have e1 : gmX star fit (e :: l) = gmGo (gmX star fit l) := by rw [gmX,h]
   rw [e1]
   induction s with
   | nil => rw [gm_cons_nil,h,gm_X l,gmGo]; rfl
   | cons c s ih => rw [gm_star _ _ _ _ h,gm_X l,gmGo,ih]
  | false =>
   have e1 : gmX star fit (e :: l) s = (match s with | [] => false | c :: s => fit e c && gmX star fit l s) := by rw [gmX,h]
   rw [e1]
   cases s with
   | nil => rw [gm_cons_nil,h]; rfl
   | cons c s => rw [gm_one _ _ _ _ h,gm_X l]

def govGo {ε : Type} (star : ε → Bool) (meet : ε → ε → Bool) (e : ε) (r : List ε → Bool) : List ε → Bool
 | [] => star e && r []
 | f :: m => match star e || star f with
  | true => r (f :: m) || govGo star meet e r m
  | false => meet e f && r m
def govX {ε : Type} (star : ε → Bool) (meet : ε → ε → Bool) : List ε → List ε → Bool
 | [] => fun m => m.all star
 | e :: l => govGo star meet e (govX star meet l)
theorem gov_X {ε : Type} {star : ε → Bool} {meet : ε → ε → Bool} : ∀ (l m : List ε),gov star meet l m = govX star meet l m
 | [],m => by
  show _ = m.all star
  induction m with
  | nil => rw [gov_nn]; rfl
  | cons f m ih => rw [gov_nc,ih]; rfl
 | e :: l,m => by
  show _ = govGo star meet e (govX star meet l) m
  induction m with
  | nil => rw [gov_cn,gov_X l,govGo]
  | cons f m ih =>
   rw [govGo]
   cases h : star e || star f with
   | true => rw [gov_star _ _ _ _ h,gov_X l,ih]
   | false => rw [gov_one _ _ _ _ h,gov_X l]
theorem meet_X : Comp.meet = fun c d => govX El.isStar El.meet c.els d.els := by
 funext c d; unfold Comp.meet; rw [gov_X]
theorem fit_X : Comp.fit = fun c s => gmX El.isStar El.fit c.els s := by
 funext c s; unfold Comp.fit; rw [gm_X]

def matchX (g path : List UInt8) : Bool := match globL g with
 | none => false
 | some l => gmX Comp.any (fun c s => gmX El.isStar El.fit c.els s) l (partsL path)
theorem match_X (g path : List UInt8) : matchG g path = matchX g path := by
 unfold matchG matchX matchL; rw [fit_X]
 cases globL g with
 | none => rfl
 | some l => dsimp only; rw [gm_X]
def overX (a b : List UInt8) : Bool := match globL a,globL b with
 | some x,some y => govX Comp.any (fun c d => govX El.isStar El.meet c.els d.els) x y
 | _,_ => false
theorem over_X (a b : List UInt8) : overG a b = overX a b := by
 unfold overG overX overL; rw [meet_X]
 cases globL a with
 | none => rfl
 | some x =>
  cases globL b with
  | none => rfl
  | some y => dsimp only; rw [gov_X]

def gEx : List UInt8 := [115,114,99,47,42,42,47,42,46,91,99,104,93]
theorem v1 : matchG gEx [115,114,99,47,97,46,99] = true := by rw [match_X]; kernel_rfl
theorem v2 : matchG gEx [115,114,99,47,120,47,121,47,98,46,104] = true := by rw [match_X]; kernel_rfl
theorem v3 : matchG gEx [115,114,99,47,97,46,99,99] = false := by rw [match_X]; kernel_rfl
theorem v4 : fixG gEx = [115,114,99,47] := by decide
theorem v5 : matchG [97,47,42,42] [97] = true := by rw [match_X]; kernel_rfl
theorem v9 : overG [97,63,99] [97,98,100] = false := by rw [over_X]; kernel_rfl
end Qk
