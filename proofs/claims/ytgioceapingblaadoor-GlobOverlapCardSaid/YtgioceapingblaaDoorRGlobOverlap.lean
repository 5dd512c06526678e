/-
  The statement GlobOverlapCardSaid: whatever the arguments, the law answers true and leaves its arguments as they were. Condition: the tables that the row lists hold what the text of the library lays; the card ties them to it.
-/
import Derived.Test.YtgioceapingblaaDoorPx
import Derived.Test.YtgioceapingblaaDoorPc
import Derived.Test.YtgioceapingblaaDoorRows
import Derived.Test.YtgioceapingblaaDoorCards
import Derived.Test.YtgioceapingblaaDoorTie
import Derived.Lay
import Derived.SevenTiedAt
namespace Go.Proofs.YtgioceapingblaaDoor
open Go.ChangeShapes Go.WideShapes Go.ChangeAt Go.RowKit Qk

theorem Tryd.own : ownKnob Tryd.prog.godebug = none := by kernel_rfl
theorem Tryd.laidOut : laidOutB Tryd.prog = true := by kernel_rfl

set_option maxRecDepth 100000 in
theorem globOverlap_lifted (os : Os) (started : os.Started) (H : Type) (enc : TypeId × Value → H) :
    ReturnsInHanded {} Tryd.checked os 4 .any (fun w args => (Rows.globOverlapSpec.pre enc Tryd.prog Tryd.f4 [] false w args ∧ laidMetH Tryd.prog Rows.globOverlapRow.laid w) ∧ sizedMet enc Tryd.prog Tryd.f4 (OpenSpec.ofChange Rows.globOverlapSpec) false w args) (Rows.globOverlapSpec.post enc Tryd.prog Tryd.f4 false true false false) := by
  refine returnsInHanded_of_change_and (C := Tryd.checked) (X := fun w _ => laidMetH Tryd.prog Rows.globOverlapRow.laid w) (fun _ _ _ hh h => h.of_heap hh) Tryd.own started (by kernel_rfl) Tryd.func4
    (ChangeSpec.witness_shaped (enc := enc) (C := Tryd.checked) (os := os) (X := fun w _ => laidMetH Tryd.prog Rows.globOverlapRow.laid w) false (World.laidAll Tryd.prog os Rows.globOverlapRow.laid) #[.string ⟨#[]⟩, .string ⟨#[]⟩] 8 (World.laidAll_os _ _ _)
      (World.shaped_of_ZipB (by kernel_rfl) (by kernel_rfl)) (by kernel_rfl) (by kernel_rfl) (by kernel_rfl)
      (by rw [MakeChecks.laidMetH_plain _ _ _ (by kernel_rfl)]; exact laidMet_laidAll _ (by kernel_rfl) (by kernel_rfl))) ?_
  intro W base args ds gs before hval0 hW _ _ _ _
  have hval : ∀ (j : Nat) t v, Tryd.f4.params[j]? = some t → args[j]? = some v → Value.okWide Tryd.prog W .any base t v := hval0
  have hW' := hW
  obtain ⟨p, q, hA0, hV, rfl, hfz, hnd⟩ := hW
  have hA : DataW.TrodAll enc Tryd.prog W 0 (fun _ => true) true Tryd.f4.params.toList args.toList ds p := hA0
  rw [Tryd.params4] at hA hval
  obtain ⟨v0, v1, d0, d1, p0, p1, rfl, rfl, rfl, h0, h1⟩ := trodAll_two hA
  obtain ⟨rfl, rfl⟩ := trodVars_none hV
  obtain ⟨a0, ⟨l0, e0, w0⟩, r0⟩ := arg_one (gl Tryd.prog) (ty := .str) (by kernel_rfl) (by kernel_rfl) (hval 0 9 v0 rfl rfl) h0
  cases e0
  obtain ⟨a1, ⟨l1, e1, w1⟩, r1⟩ := arg_one (gl Tryd.prog) (ty := .str) (by kernel_rfl) (by kernel_rfl) (hval 1 9 v1 rfl rfl) h1
  cases e1
  refine Calls.mono (calls_of Tryd.func4 (by kernel_rfl) (by kernel_rfl) k_4 (x := ⟨l0, l1⟩) trivial rfl rfl ⟨⟨_, rfl, r0⟩, ⟨_, rfl, r1⟩, trivial⟩) ?_
  rintro e W' ⟨rfl, hb⟩
  exact ⟨_, rfl, law_post Tryd.laidOut (by kernel_rfl) rfl (by kernel_rfl) Tryd.underlying4 hW' rfl hb⟩

theorem globOverlap_row : Rows.GlobOverlapSaid :=
  OpenClaim.holds_of_wide 4 Tryd.f4 rfl rfl rfl rfl rfl rfl rfl ⟨rfl, rfl, rfl, rfl, rfl⟩ rfl rfl rfl rfl rfl (by kernel_rfl) Tryd.func4 (by kernel_rfl)
    (of_decide_eq_true (by kernel_rfl)) (by unfold Func.isWrapper; rw [if_neg (of_decide_eq_false (by kernel_rfl))]; exact ⟨rfl, rfl⟩)
    (fun os started H enc _ => globOverlap_lifted os started H enc)

theorem globOverlap_holds : Rows.GlobOverlapCardSaid :=
  Claim7.holds_tied_plain_at .later [] [.data, .pinned] true (true, "838957b6bdf35259a30ca1c3fd6a9319478338c128fc1c4bf539a52352d03494") false
    globOverlap_row (fun _ h => by cases h) (by kernel_rfl) (fun _ h => by cases h) globOverlap_row_tie rfl ⟨rfl, rfl⟩ (by kernel_rfl) rfl
    (fun f fn hf hfn => by
      obtain rfl : f = 4 := Option.some.inj ((show Tryd.prog.funcNamed "quilt/quiltlaw32.GlobOverlap" = some 4 by kernel_rfl).symm.trans hf) |>.symm
      obtain rfl : fn = Tryd.f4 := (Option.some.inj (Tryd.func4.symm.trans hfn)).symm
      exact ⟨by kernel_rfl, fun j t ht => by
        rw [Tryd.params4] at ht
        have hm : t ∈ [9] := by
          have := Array.mem_of_getElem? ht
          simp at this ⊢
          exact this
        have hall : ([9].all fun u => !Tryd.prog.wantsStandIn u) = true := by kernel_rfl
        exact (show Tryd.prog.wantsStandIn t = false by simpa using List.all_eq_true.1 hall t hm)⟩)
    (by kernel_rfl)

end Go.Proofs.YtgioceapingblaaDoor
