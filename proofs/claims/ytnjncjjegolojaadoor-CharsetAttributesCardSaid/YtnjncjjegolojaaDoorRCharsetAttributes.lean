/-
  The statement CharsetAttributesCardSaid: whatever the arguments, the law answers true and leaves its arguments as they were. Condition: the tables that the row lists hold what the text of the library lays; the card ties them to it.
-/
import Derived.Test.YtnjncjjegolojaaDoorPx
import Derived.Test.YtnjncjjegolojaaDoorPi
import Derived.Test.YtnjncjjegolojaaDoorRows
import Derived.Test.YtnjncjjegolojaaDoorCards
import Derived.Test.YtnjncjjegolojaaDoorTie
import Derived.SevenTiedAt
namespace Go.Proofs.YtnjncjjegolojaaDoor
open Go.ChangeShapes Go.WideShapes Go.ChangeAt Go.RowKit Qk

theorem Tryd.own : ownKnob Tryd.prog.godebug = none := by kernel_rfl
theorem Tryd.laidOut : laidOutB Tryd.prog = true := by kernel_rfl
theorem tabs57 {W : World} (hL : laidMet Tryd.prog [("unicode/utf8.acceptRanges", Rows.laid_unicode_utf8_acceptRanges), ("unicode/utf8.first", Rows.laid_unicode_utf8_first)] W) : Lib.Utf8Tabs 1 2 W := by
  refine utf8Tabs_of_readsT (U8Types.of196 Tryd.lays196) ⟨by kernel_rfl, by kernel_rfl, by kernel_rfl, by kernel_rfl, by kernel_rfl, by kernel_rfl, by kernel_rfl⟩ ?_ ?_
  · have h := Lib.laidMet.reads hL (.tail _ (.head _))
    have e : Rows.laid_unicode_utf8_first = Lib.firstData := Pinned.utf8First_eq
    rw [e] at h
    exact h
  · have h := Lib.laidMet.reads hL (.head _)
    have e : (Rows.laid_unicode_utf8_acceptRanges : DataW Unit) = Lib.acceptData := by kernel_rfl
    rw [e] at h
    exact h
theorem maxLen57 {W : World} (h : W.ShapedOpen Tryd.prog) : ∃ m, W.cell? ⟨0, 0, none⟩ = some (.int .i64 m) :=
  cell_of_shapedOpen_int (P := Tryd.prog) (g := 0) (t := 3) (zero := #[.int .i64 0]) h (of_decide_eq_true (by kernel_rfl)) (by kernel_rfl) rfl (by kernel_rfl) (by kernel_rfl) Tryd.underlying3

set_option maxRecDepth 100000 in
theorem charsetAttributes_lifted (os : Os) (started : os.Started) (H : Type) (enc : TypeId × Value → H) :
    ReturnsInHanded {} Tryd.checked os 4 .any (fun w args => (Rows.charsetAttributesSpec.pre enc Tryd.prog Tryd.f4 [] false w args ∧ laidMetH Tryd.prog Rows.charsetAttributesRow.laid w) ∧ sizedMet enc Tryd.prog Tryd.f4 (OpenSpec.ofChange Rows.charsetAttributesSpec) false w args) (Rows.charsetAttributesSpec.post enc Tryd.prog Tryd.f4 false true false false) := by
  refine returns_and_shaped (C := Tryd.checked) (X := fun w _ => laidMetH Tryd.prog Rows.charsetAttributesRow.laid w) (fun _ _ _ hh h => h.of_heap hh) Tryd.own started (by kernel_rfl) Tryd.func4
    (ChangeSpec.witness_shaped (enc := enc) (C := Tryd.checked) (os := os) (X := fun w _ => laidMetH Tryd.prog Rows.charsetAttributesRow.laid w) false (World.laidAll Tryd.prog os Rows.charsetAttributesRow.laid) #[.string ⟨#[]⟩, .slice none 0 0, .string ⟨#[]⟩] 8 (World.laidAll_os _ _ _)
      (World.shaped_of_ZipB (by kernel_rfl) (by kernel_rfl)) (by kernel_rfl) (by kernel_rfl) (by kernel_rfl)
      (by rw [MakeChecks.laidMetH_plain _ _ _ (by kernel_rfl)]; exact laidMet_laidAll _ (by kernel_rfl) (by kernel_rfl))) ?_
  intro W base args ds gs before hval0 hW hL hsh
  have hval : ∀ (j : Nat) t v, Tryd.f4.params[j]? = some t → args[j]? = some v → Value.okWide Tryd.prog W .any base t v := hval0
  have hW' := hW
  have hL' : laidMet Tryd.prog Rows.charsetAttributesRow.laid W := by
    have h := hL
    rw [MakeChecks.laidMetH_plain _ _ _ (by kernel_rfl)] at h
    exact h
  have hbase : base57 fun b => W.heap[b]? := base_of (tabs57 hL') (maxLen57 hsh)
  obtain ⟨p, q, hA0, hV, rfl, hfz, hnd⟩ := hW
  have hA : DataW.TrodAll enc Tryd.prog W 0 (fun _ => true) true Tryd.f4.params.toList args.toList ds p := hA0
  rw [Tryd.params4] at hA hval
  obtain ⟨v0, v1, v2, d0, d1, d2, p0, p1, p2, rfl, rfl, rfl, h0, h1, h2⟩ := trodAll_three hA
  obtain ⟨rfl, rfl⟩ := trodVars_none hV
  obtain ⟨a0, ⟨l0, e0, w0⟩, r0⟩ := arg_one (gl Tryd.prog) (ty := .str) (by kernel_rfl) (by kernel_rfl) (hval 0 9 v0 rfl rfl) h0
  cases e0
  obtain ⟨a1, f1, r1⟩ := arg_one (gl Tryd.prog) (ty := (.sl attT)) (by kernel_rfl) (by kernel_rfl) (hval 1 27 v1 rfl rfl) h1
  obtain ⟨l1, e1, w1⟩ := fits_atts f1; cases e1
  obtain ⟨a2, ⟨l2, e2, w2⟩, r2⟩ := arg_one (gl Tryd.prog) (ty := .str) (by kernel_rfl) (by kernel_rfl) (hval 2 9 v2 rfl rfl) h2
  cases e2
  refine Calls.mono (calls_of Tryd.func4 (by kernel_rfl) (by kernel_rfl) k_4 (x := ⟨l0, l1, l2⟩) w1 rfl rfl ⟨⟨_, rfl, r0⟩, ⟨_, rfl, r1⟩, ⟨_, rfl, r2⟩, trivial⟩ hbase) ?_
  rintro e W' ⟨rfl, hb⟩
  exact ⟨_, rfl, law_post Tryd.laidOut (by kernel_rfl) rfl (by kernel_rfl) Tryd.underlying4 hW' rfl hb⟩

theorem charsetAttributes_row : Rows.CharsetAttributesSaid :=
  OpenClaim.holds_of_wide 4 Tryd.f4 rfl rfl rfl rfl rfl rfl rfl ⟨rfl, rfl, rfl, rfl, rfl⟩ rfl rfl rfl rfl rfl (by kernel_rfl) Tryd.func4 (by kernel_rfl)
    (of_decide_eq_true (by kernel_rfl)) (by unfold Func.isWrapper; rw [if_neg (of_decide_eq_false (by kernel_rfl))]; exact ⟨rfl, rfl⟩)
    (fun os started H enc _ => charsetAttributes_lifted os started H enc)

theorem charsetAttributes_holds : Rows.CharsetAttributesCardSaid :=
  Claim7.holds_tied_plain_at .later [] [.data, .pinned] true (true, "f6348e4e8bac64864c78e5c0b66ae3fa13355cefac66f54eee7659032daedfee") false
    charsetAttributes_row (fun _ h => by cases h) (by kernel_rfl) (fun _ h => by cases h) charsetAttributes_row_tie rfl ⟨rfl, rfl⟩ (by kernel_rfl) rfl
    (fun f fn hf hfn => by
      obtain rfl : f = 4 := Option.some.inj ((show Tryd.prog.funcNamed "quilt/quiltlaw57.CharsetAttributes" = some 4 by kernel_rfl).symm.trans hf) |>.symm
      obtain rfl : fn = Tryd.f4 := (Option.some.inj (Tryd.func4.symm.trans hfn)).symm
      exact ⟨by kernel_rfl, fun j t ht => by
        rw [Tryd.params4] at ht
        have hm : t ∈ [9, 27, 9] := by
          have := Array.mem_of_getElem? ht
          simp at this ⊢
          exact this
        have hall : ([9, 27, 9].all fun u => !Tryd.prog.wantsStandIn u) = true := by kernel_rfl
        exact (show Tryd.prog.wantsStandIn t = false by simpa using List.all_eq_true.1 hall t hm)⟩)
    (by kernel_rfl)

end Go.Proofs.YtnjncjjegolojaaDoor
