/-
  Chapter 32: joining strings with slashes.
-/
import Derived.Test.YtgioceapingblaaDoorPc
import Derived.Test.YtgioceapingblaaDoorPg
import Derived.Lib.Join

/-
  Chapter 32: joining strings with slashes, as a contract.
-/
namespace Qk
open Go Go.RowKit

theorem join_joinS : ∀ (l : List (List UInt8)), Lib.join l [47] = joinS l
  | [] => rfl
  | [x] => by rw [Lib.join_one]; rfl
  | x :: y :: r => by
    have ih := join_joinS (y :: r)
    rw [Lib.join_cons] at ih ⊢
    show x ++ Lib.joinTail [47] (y :: r) = x ++ 47 :: joinS (y :: r)
    rw [← ih]
    simp [Lib.joinTail]
theorem joinS_le : ∀ (l : List (List UInt8)) (K : Nat), (∀ s ∈ l, s.length ≤ K) → (joinS l).length ≤ l.length * (K + 1)
  | [], _, _ => Nat.zero_le _
  | [x], K, h => by
    have := h x (by simp)
    show x.length ≤ 1 * (K + 1)
    omega
  | x :: y :: r, K, h => by
    have ih := joinS_le (y :: r) K (fun s hs => h s (by simp [List.mem_cons.1 hs]))
    have hx := h x (by simp)
    show (x ++ 47 :: joinS (y :: r)).length ≤ (y :: r).length.succ * (K + 1)
    rw [List.length_append, List.length_cons, Nat.succ_mul]
    omega

theorem keeps_Join {G : Gl} {f : FuncId} {fn : Func} (hf : G.P.funcs[f]? = some fn) (hb : fn.body.isNone = false) (hname : (fn.name == "runtime.NumGoroutine") = false)
    (h0 : ∀ (a : Option Addr) (c : Nat) (sep : ByteArray) (w : World), Calls G.P f #[.slice a 0 c, .string sep] w fun e w' => e = .returned (.string ⟨#[]⟩) ∧ w' = w)
    (h1 : ∀ (bk o c : Nat) (xs : List ByteArray) (sep : ByteArray) (w : World) (_ : ∀ (j : Nat) x, xs[j]? = some x → w.cell? ⟨bk, o + j, none⟩ = some (.string x))
      (_ : bk < w.heap.size) (_ : xs.length ≤ 140737488355328) (_ : xs.length ≤ c) (_ : (Lib.join (xs.map (·.data.toList)) sep.data.toList).length ≤ 140737488355328),
      Calls G.P f #[.slice (some ⟨bk, o, none⟩) xs.length c, .string sep] w fun e w' => e = .returned (.string ⟨(Lib.join (xs.map (·.data.toList)) sep.data.toList).toArray⟩) ∧ Below w.heap.size w w') :
    KeepsC G C_strings_Join (fun _ => none) f #[] := by
  refine keeps_calls hf hb hname ?_
  intro w Φ vs (l : List (List UInt8)) hphi hs hr ⟨(hl : l.length ≤ 1000), (hk : ∀ s ∈ l, s.length ≤ 1000)⟩
  obtain ⟨v1, v2, rfl, r1, r2⟩ := two_args hs hr
  refine ⟨.string ⟨(joinS l).toArray⟩, rfl, ?_⟩
  have hv2 : v2 = .string ⟨#[47]⟩ := r2
  subst hv2
  simp only [Rep] at r1
  obtain ⟨_, a, cap, hcap, rfl, h⟩ := r1
  rcases h with h | ⟨b, off, C, ty, fr, rfl, h2, h3⟩
  · have : l = [] := by
      have := congrArg List.length h
      simp only [strs, List.length_map, List.length_nil] at this
      exact List.length_eq_zero_iff.1 this
    subst this
    refine Calls.mono (h0 a cap ⟨#[47]⟩ w) ?_
    rintro e w' ⟨rfl, rfl⟩
    exact ⟨rfl, Below.refl _ _⟩
  · have hh := hphi _ _ h2
    have e1 : (l.map fun s => (⟨s.toArray⟩ : ByteArray)).length = l.length := List.length_map _
    have e2 : (l.map fun s => (⟨s.toArray⟩ : ByteArray)).map (·.data.toList) = l := by simp [Function.comp_def]
    have h := h1 b off cap (l.map fun s => ⟨s.toArray⟩) ⟨#[47]⟩ w (fun j x hj => by
      rw [List.getElem?_map] at hj
      cases hlj : l[j]? with
      | none => rw [hlj] at hj; cases hj
      | some s =>
        rw [hlj] at hj
        cases hj
        have : (strs l)[j]? = some (.str s) := by simp [strs, hlj]
        obtain ⟨y, hy, hr⟩ := RepAt.get h3 this
        simp only [Rep] at hr
        subst hr
        rw [cell_of hh]
        exact hy) (Array.getElem?_eq_some_iff.1 hh).1 (by rw [e1]; omega) (by rw [e1]; exact hcap) (by
        rw [e2]
        show (Lib.join l [47]).length ≤ _
        rw [join_joinS]
        have := joinS_le l 1000 hk
        omega)
    rw [e1, e2] at h
    refine Calls.mono h ?_
    rintro e w' ⟨rfl, hw⟩
    refine ⟨?_, hw⟩
    show Ending.returned (.string ⟨(Lib.join l [47]).toArray⟩) = _
    rw [join_joinS]

end Qk
