/-
  Builders of strings and splitting at this program.
-/
import Derived.Test.YtnjncjjegolojaaGreatDoorPc
import Derived.Test.YtnjncjjegolojaaGreatDoorSh
import Derived.Test.YtnjncjjegolojaaGreatDoorPi

/-
  The bytes of a builder of strings, with the world that is left (after the kit's contract, which says less of it).
-/
namespace Go.Proofs
open Go.Shelf Go.RowKit
variable {P : Program} {ρ : Ren}

set_option maxHeartbeats 2000000 in
set_option maxRecDepth 100000 in
theorem qk_builder_row (L : Lays.n169 P ρ) (X : Builder.Extra P ρ) (b g cap : Nat) (p : Value) (cur : Array Value) (fz : Nat × Nat) (l : List UInt8) (w : World) (h0 : l ≠ [])
  (hbk : w.heap[b]? = some (.cells #[p,.slice (some ⟨g,0,none⟩) l.length cap] (ρ.t 72) (0,0))) (hg : w.heap[g]? = some (.cells cur (ρ.t 5) fz)) (_hcap : l.length ≤ cap) (hc0 : cap ≠ 0) (hcs : l.length ≤ cur.size) (hcm : l.length ≤ 9223372036854775807)
  (hcell : ∀ (j : Nat) (x : UInt8),l[j]? = some x → cur[j]? = some (.int .u8 x.toNat)) :
  Calls P (ρ.f 169) #[.pointer (some ⟨b,0,none⟩)] w fun e w' => e = .returned (.string ⟨l.toArray⟩) ∧ w' = w.drew.freeze ⟨g,0,none⟩ l.length := by
 have hl0 : l.length ≠ 0 := by simpa using h0
 have c1 : w.drew.cell? ⟨b,1,none⟩ = some (.slice (some ⟨g,0,none⟩) l.length cap) := by
  have : w.drew.heap[b]? = some (.cells #[p,.slice (some ⟨g,0,none⟩) l.length cap] (ρ.t 72) (0,0)) := hbk
  rw [Lib.cell_of_heap this]; rfl
 have hSD : (Builtin.unsafeSliceData_ #[(ρ.t 37)] (ρ.t 127) #[.slice (some ⟨g,0,none⟩) l.length cap]).run P w.drew = .ok (.pointer (some ⟨g,0,none⟩)) w.drew :=
  Lib.run_unsafeSliceData_row _ _ _ _ _ _ (by omega)
 have hUS : (Builtin.unsafeString_ #[(ρ.t 127),(ρ.t 3)] (ρ.t 9) #[.pointer (some ⟨g,0,none⟩),.int .i64 l.length]).run P w.drew = .ok (.string ⟨l.toArray⟩) (w.drew.freeze ⟨g,0,none⟩ l.length) := by
  refine Lib.run_unsafeString_row w.drew (ρ.t 127) (ρ.t 3) (ρ.t 9) (ρ.t 5) L.t127 X.cellsByte g cur.size (by have hg' : w.drew.heap[g]? = some (.cells cur (ρ.t 5) fz) := hg; simp [World.shape?,hg']) l h0 hcs hcm ?_
  intro j x hx
  have hg' : w.drew.heap[g]? = some (.cells cur (ρ.t 5) fz) := hg
  rw [Qk.addr_add,Lib.cell_of_heap hg',Nat.zero_add]
  exact hcell j x hx
 have mixed := L.mixed
 have t72 := L.t72; have a72 := L.a72; have z72 := L.z72; have v72 := L.v72; have u72 := run_underlying L.t72
 have t70 := L.t70; have a70 := L.a70; have z70 := L.z70; have v70 := L.v70; have u70 := run_underlying L.t70
 have t37 := L.t37; have a37 := L.a37; have z37 := L.z37; have v37 := L.v37; have u37 := run_underlying L.t37
 have t127 := L.t127; have a127 := L.a127; have z127 := L.z127; have v127 := L.v127; have u127 := run_underlying L.t127
 have t3 := L.t3; have a3 := L.a3; have z3 := L.z3; have v3 := L.v3; have u3 := run_underlying L.t3
 have t9 := L.t9; have a9 := L.a9; have z9 := L.z9; have v9 := L.v9; have u9 := run_underlying L.t9
 have t5 := X.t5; have a5 := X.a5; have z5 := X.z5; have v5 := X.v5; have u5 := run_underlying X.t5
 go_enter L.f169,Body.n169_ntmps ρ
 go_wp2
 go_region_o
 all_goals (go_wp2; go_ret; exact ⟨rfl,rfl⟩)

set_option maxHeartbeats 2000000 in
set_option maxRecDepth 100000 in
theorem qk_builder_noroom (L : Lays.n169 P ρ) (X : Builder.Extra P ρ) (B b g : Nat) (p : Value) (cur : Array Value) (fz : Nat × Nat) (w : World) (hBw : B ≤ w.heap.size)
  (hbk : w.heap[b]? = some (.cells #[p,.slice (some ⟨g,0,none⟩) 0 0] (ρ.t 72) (0,0))) (hg : w.heap[g]? = some (.cells cur (ρ.t 5) fz)) :
  Calls P (ρ.f 169) #[.pointer (some ⟨b,0,none⟩)] w fun e w' => e = .returned (.string ⟨#[]⟩) ∧ Below B w w' := by
 have hUS := Any.unsafeString_none L X
 have hlt : b < w.heap.size := by
  rcases Nat.lt_or_ge b w.heap.size with h' | h'
  ·exact h'
  ·simp [Array.getElem?_eq_none h'] at hbk
 have c1 : w.drew.cell? ⟨b,1,none⟩ = some (.slice (some ⟨g,0,none⟩) 0 0) := by
  have : w.drew.heap[b]? = some (.cells #[p,.slice (some ⟨g,0,none⟩) 0 0] (ρ.t 72) (0,0)) := hbk
  rw [Lib.cell_of_heap this]; rfl
 have hSD : (Builtin.unsafeSliceData_ #[(ρ.t 37)] (ρ.t 127) #[.slice (some ⟨g,0,none⟩) 0 0]).run P w.drew = .ok (.pointer (some ⟨w.drew.heap.size,0,none⟩)) (w.drew.alloc (.view ⟨g,0,none⟩ (ρ.t 5))) :=
  Lib.run_unsafeSliceData_zero w.drew _ _ (ρ.t 5) L.t127 ⟨g,0,none⟩ 0 ((ρ.t 5),cur.size) (by have hg' : w.drew.heap[g]? = some (.cells cur (ρ.t 5) fz) := hg; simp [World.shape?,hg'])
 have c2 : (w.drew.alloc (.view ⟨g,0,none⟩ (ρ.t 5))).cell? ⟨b,1,none⟩ = some (.slice (some ⟨g,0,none⟩) 0 0) := by
  have : (w.drew.alloc (.view ⟨g,0,none⟩ (ρ.t 5))).heap[b]? = _ := (Lib.alloc_old w.drew _ b hlt).trans hbk
  rw [Lib.cell_of_heap this]; rfl
 have c3 : (w.alloc (.view ⟨g,0,none⟩ (ρ.t 5))).drew.cell? ⟨b,1,none⟩ = some (.slice (some ⟨g,0,none⟩) 0 0) := c2
 have c0 : w.cell? ⟨b,1,none⟩ = some (.slice (some ⟨g,0,none⟩) 0 0) := c1
 have mixed := L.mixed
 have t72 := L.t72; have a72 := L.a72; have z72 := L.z72; have v72 := L.v72; have u72 := run_underlying L.t72
 have t70 := L.t70; have a70 := L.a70; have z70 := L.z70; have v70 := L.v70; have u70 := run_underlying L.t70
 have t37 := L.t37; have a37 := L.a37; have z37 := L.z37; have v37 := L.v37; have u37 := run_underlying L.t37
 have t127 := L.t127; have a127 := L.a127; have z127 := L.z127; have v127 := L.v127; have u127 := run_underlying L.t127
 have t3 := L.t3; have a3 := L.a3; have z3 := L.z3; have v3 := L.v3; have u3 := run_underlying L.t3
 have t9 := L.t9; have a9 := L.a9; have z9 := L.z9; have v9 := L.v9; have u9 := run_underlying L.t9
 have t5 := X.t5; have a5 := X.a5; have z5 := X.z5; have v5 := X.v5; have u5 := run_underlying X.t5
 go_enter L.f169,Body.n169_ntmps ρ
 go_wp2
 go_region_o
 all_goals (go_wp2; go_ret; exact ⟨rfl,(Below.drew (Below.refl B w)).alloc hBw _⟩)

/-- A builder that holds no byte. -/
theorem qk_builder_none (L : Lays.n169 P ρ) (X : Builder.Extra P ρ) (b : Nat) (p : Value) (w : World)
  (h : w.heap[b]? = some (.cells #[p,.slice none 0 0] (ρ.t 72) (0,0)) ∨ (∃ g cap,cap ≠ 0 ∧ w.heap[b]? = some (.cells #[p,.slice (some ⟨g,0,none⟩) 0 cap] (ρ.t 72) (0,0))) ∨
   (∃ g cur fr,w.heap[b]? = some (.cells #[p,.slice (some ⟨g,0,none⟩) 0 0] (ρ.t 72) (0,0)) ∧ w.heap[g]? = some (.cells cur (ρ.t 5) fr))) :
  Calls P (ρ.f 169) #[.pointer (some ⟨b,0,none⟩)] w fun e w' => e = .returned (.string ⟨#[]⟩) ∧ Below w.heap.size w w' := by
 rcases h with h | ⟨g,cap,h1,h2⟩ | ⟨g,cur,fr,h1,h2⟩
 ·exact Any.Builder_String_nil L X _ b p w h
 ·exact Any.Builder_String_room L X _ b g cap p w h1 h2
 ·exact qk_builder_noroom L X _ b g p cur fr w (Nat.le_refl _) h1 h2

end Go.Proofs

/-
  Chapter 57: splitting, at this program.
-/
namespace Go.Proofs.YtnjncjjegolojaaGreatDoor
open Go.RowKit Qk

theorem nn_tup {cs : List AV} (h : NNL cs) : NN (.tup cs) := fun G Φ ρ ρ' v hr => by
 simp only [Rep] at hr ⊢
 obtain ⟨A,h1,h2,h3⟩ := hr
 exact ⟨A,h1,h2,h _ _ _ _ _ _ h3⟩
theorem nn_parse32 (g : List UInt8) : NN (C_glob_parse.res g) := by
 refine nn_tup (nnl_cons ?_ (nnl_one (plain_int _ _).nn))
 split
 ·exact nn_ilist _ _ _
 ·exact (plain_raw _).nn

theorem qk_genSplit (s : ByteArray) (N : Nat) (w : World) (h1 : s.size < 4294967281) (h2 : (N : Int) = min ((Lib.countB s ⟨#[47]⟩ : Int) + 1) ((s.size : Int) + 1)) :
  Calls Tryz.prog 89 #[.string s,.string ⟨#[47]⟩,.int .i64 0,.int .i64 (-1)] w fun e w' =>
   e = .returned (.slice (some ⟨w.heap.size,0,none⟩) (Lib.splitB ⟨#[47]⟩ 0 (N - 1) s).length N) ∧ w' = w.alloc (.cells (Lib.cellsOf (Lib.splitB ⟨#[47]⟩ 0 (N - 1) s) N) 9) := by
 refine Any.strings_genSplit_core Tryz.lays221 (by kernel_rfl) s ⟨#[47]⟩ 0 (-1) N w h1 (by decide) (by decide) ?_ ?_ (by decide) (by decide) ?_
 ·intro x c _
  refine Calls.mono (Tryz.strings_Index_one x 47 _) ?_
  rintro e w' ⟨rfl,rfl⟩
  refine ⟨?_,rfl⟩
  rw [← Lib.index_one]
 ·refine Calls.mono (Tryz.strings_Count_one s 47 w) ?_
  rintro e w' ⟨rfl,rfl⟩
  refine ⟨?_,rfl⟩
  show Ending.returned (.int .i64 ((s.data.toList.count 47 : Nat) : Int)) = .returned (.int .i64 ((Lib.count s.data.toList [47] : Nat) : Int))
  rw [Lib.count_one]
 ·rw [h2,if_pos (by decide)]

theorem qk_genSplit32 (s : ByteArray) (N : Nat) (w : World) (h1 : s.size < 4294967281) (h2 : (N : Int) = min ((Lib.countB s ⟨#[32]⟩ : Int) + 1) ((s.size : Int) + 1)) :
  Calls Tryz.prog 89 #[.string s,.string ⟨#[32]⟩,.int .i64 0,.int .i64 (-1)] w fun e w' =>
   e = .returned (.slice (some ⟨w.heap.size,0,none⟩) (Lib.splitB ⟨#[32]⟩ 0 (N - 1) s).length N) ∧ w' = w.alloc (.cells (Lib.cellsOf (Lib.splitB ⟨#[32]⟩ 0 (N - 1) s) N) 9) := by
 refine Any.strings_genSplit_core Tryz.lays221 (by kernel_rfl) s ⟨#[32]⟩ 0 (-1) N w h1 (by decide) (by decide) ?_ ?_ (by decide) (by decide) ?_
 ·intro x c _
  refine Calls.mono (Tryz.strings_Index_one x 32 _) ?_
  rintro e w' ⟨rfl,rfl⟩
  refine ⟨?_,rfl⟩
  rw [← Lib.index_one]
 ·refine Calls.mono (Tryz.strings_Count_one s 32 w) ?_
  rintro e w' ⟨rfl,rfl⟩
  refine ⟨?_,rfl⟩
  show Ending.returned (.int .i64 ((s.data.toList.count 32 : Nat) : Int)) = .returned (.int .i64 ((Lib.count s.data.toList [32] : Nat) : Int))
  rw [Lib.count_one]
 ·rw [h2,if_pos (by decide)]

end Go.Proofs.YtnjncjjegolojaaGreatDoor
