/-
  The statement CharsetLongCardSaid: whatever the arguments, the law answers true and leaves its arguments as they were. Condition: the tables that the row lists hold what the text of the library lays; the card ties them to it.
-/
import Derived.Test.YtnjncjjegolojaaGreatDoorPx
import Derived.Test.YtnjncjjegolojaaGreatDoorPi
import Derived.Test.YtnjncjjegolojaaGreatDoorRows
import Derived.Test.YtnjncjjegolojaaGreatDoorCards
import Derived.Test.YtnjncjjegolojaaGreatDoorTie
import Derived.SevenTiedAt
namespace Go.Proofs.YtnjncjjegolojaaGreatDoor
open Go.ChangeShapes Go.WideShapes Go.ChangeAt Go.RowKit Qk

theorem Tryz.own : ownKnob Tryz.prog.godebug = none := by kernel_rfl
theorem Tryz.laidOut : laidOutB Tryz.prog = true := by kernel_rfl
theorem tabs57 {W : World} (hL : laidMet Tryz.prog [("unicode/utf8.acceptRanges", Rows.laid_unicode_utf8_acceptRanges), ("unicode/utf8.first", Rows.laid_unicode_utf8_first)] W) : Lib.Utf8Tabs 1 2 W := by
  refine utf8Tabs_of_readsT (U8Types.of196 Tryz.lays196) ⟨by kernel_rfl, by kernel_rfl, by kernel_rfl, by kernel_rfl, by kernel_rfl, by kernel_rfl, by kernel_rfl⟩ ?_ ?_
  · have h := Lib.laidMet.reads hL (.tail _ (.head _))
    have e : Rows.laid_unicode_utf8_first = Lib.firstData := Pinned.utf8First_eq
    rw [e] at h
    exact h
  · have h := Lib.laidMet.reads hL (.head _)
    have e : (Rows.laid_unicode_utf8_acceptRanges : DataW Unit) = Lib.acceptData := by kernel_rfl
    rw [e] at h
    exact h
theorem maxLen57 {W : World} (h : W.ShapedOpen Tryz.prog) : ∃ m, W.cell? ⟨0, 0, none⟩ = some (.int .i64 m) :=
  cell_of_shapedOpen_int (P := Tryz.prog) (g := 0) (t := 3) (zero := #[.int .i64 0]) h (of_decide_eq_true (by kernel_rfl)) (by kernel_rfl) rfl (by kernel_rfl) (by kernel_rfl) Tryz.underlying3

set_option maxRecDepth 100000 in
theorem charsetLong_lifted (os : Os) (started : os.Started) (H : Type) (enc : TypeId × Value → H) :
    ReturnsInHanded {} Tryz.checked os 4 .any (fun w args => (Rows.charsetLongSpec.pre enc Tryz.prog Tryz.f4 [] false w args ∧ laidMetH Tryz.prog Rows.charsetLongRow.laid w) ∧ sizedMet enc Tryz.prog Tryz.f4 (OpenSpec.ofChange Rows.charsetLongSpec) false w args) (Rows.charsetLongSpec.post enc Tryz.prog Tryz.f4 false true false false) := by
  refine returns_and_shaped (C := Tryz.checked) (X := fun w _ => laidMetH Tryz.prog Rows.charsetLongRow.laid w) (fun _ _ _ hh h => h.of_heap hh) Tryz.own started (by kernel_rfl) Tryz.func4
    (ChangeSpec.witness_shaped (enc := enc) (C := Tryz.checked) (os := os) (X := fun w _ => laidMetH Tryz.prog Rows.charsetLongRow.laid w) false (World.laidAll Tryz.prog os Rows.charsetLongRow.laid) #[.agg #[.string ⟨#[]⟩, .int .i64 0, .int .i64 0], .string ⟨#[]⟩, .int .u32 0] 8 (World.laidAll_os _ _ _)
      (World.shaped_of_ZipB (by kernel_rfl) (by kernel_rfl)) (by kernel_rfl) (by kernel_rfl) (by kernel_rfl)
      (by rw [MakeChecks.laidMetH_plain _ _ _ (by kernel_rfl)]; exact laidMet_laidAll _ (by kernel_rfl) (by kernel_rfl))) ?_
  intro W base args ds gs before hval0 hW hL hsh
  have hval : ∀ (j : Nat) t v, Tryz.f4.params[j]? = some t → args[j]? = some v → Value.okWide Tryz.prog W .any base t v := hval0
  have hW' := hW
  have hL' : laidMet Tryz.prog Rows.charsetLongRow.laid W := by
    have h := hL
    rw [MakeChecks.laidMetH_plain _ _ _ (by kernel_rfl)] at h
    exact h
  have hbase : base57 fun b => W.heap[b]? := base_of (tabs57 hL') (maxLen57 hsh)
  obtain ⟨p, q, hA0, hV, rfl, hfz, hnd⟩ := hW
  have hA : DataW.TrodAll enc Tryz.prog W 0 (fun _ => true) true Tryz.f4.params.toList args.toList ds p := hA0
  rw [Tryz.params4] at hA hval
  obtain ⟨v0, v1, v2, d0, d1, d2, p0, p1, p2, rfl, rfl, rfl, h0, h1, h2⟩ := trodAll_three hA
  obtain ⟨rfl, rfl⟩ := trodVars_none hV
  obtain ⟨a0, f0, r0⟩ := arg_agg (gl Tryz.prog) (ty := attT) (by kernel_rfl) (by kernel_rfl) (hval 0 30 v0 rfl rfl) h0
  obtain ⟨l0, rfl⟩ := fits_att f0
  obtain ⟨a1, ⟨l1, e1, w1⟩, r1⟩ := arg_one (gl Tryz.prog) (ty := .str) (by kernel_rfl) (by kernel_rfl) (hval 1 9 v1 rfl rfl) h1
  cases e1
  obtain ⟨a2, ⟨y2, e2, w2⟩, r2⟩ := arg_one (gl Tryz.prog) (ty := (.int .u32)) (by kernel_rfl) (by kernel_rfl) (hval 2 31 v2 rfl rfl) h2
  cases e2; obtain ⟨l2, rfl, q2⟩ := u32_of w2
  refine Calls.mono (calls_of Tryz.func4 (by kernel_rfl) (by kernel_rfl) k_4 (x := ⟨l0, l1, l2⟩) q2 rfl rfl ⟨⟨_, rfl, r0⟩, ⟨_, rfl, r1⟩, ⟨_, rfl, r2⟩, trivial⟩ hbase) ?_
  rintro e W' ⟨rfl, hb⟩
  exact ⟨_, rfl, law_post Tryz.laidOut (by kernel_rfl) rfl (by kernel_rfl) Tryz.underlying4 hW' rfl hb⟩

theorem charsetLong_row : Rows.CharsetLongSaid :=
  OpenClaim.holds_of_wide 4 Tryz.f4 rfl rfl rfl rfl rfl rfl rfl ⟨rfl, rfl, rfl, rfl, rfl⟩ rfl rfl rfl rfl rfl (by kernel_rfl) Tryz.func4 (by kernel_rfl)
    (of_decide_eq_true (by kernel_rfl)) (by unfold Func.isWrapper; rw [if_neg (of_decide_eq_false (by kernel_rfl))]; exact ⟨rfl, rfl⟩)
    (fun os started H enc _ => charsetLong_lifted os started H enc)

theorem charsetLong_holds : Rows.CharsetLongCardSaid :=
  Claim7.holds_tied_plain_at .later [] [.data, .pinned] true (true, "a932366a3a7e9c0eefb9cc39f206380e59a4077324f37685f8bff512fee1666e") false
    charsetLong_row (fun _ h => by cases h) (by kernel_rfl) (fun _ h => by cases h) charsetLong_row_tie rfl ⟨rfl, rfl⟩ (by kernel_rfl) rfl
    (fun f fn hf hfn => by
      obtain rfl : f = 4 := Option.some.inj ((show Tryz.prog.funcNamed "quilt/quiltlaw57.CharsetLong" = some 4 by kernel_rfl).symm.trans hf) |>.symm
      obtain rfl : fn = Tryz.f4 := (Option.some.inj (Tryz.func4.symm.trans hfn)).symm
      exact ⟨by kernel_rfl, fun j t ht => by
        rw [Tryz.params4] at ht
        have hm : t ∈ [30, 9, 31] := by
          have := Array.mem_of_getElem? ht
          simp at this ⊢
          exact this
        have hall : ([30, 9, 31].all fun u => !Tryz.prog.wantsStandIn u) = true := by kernel_rfl
        exact (show Tryz.prog.wantsStandIn t = false by simpa using List.all_eq_true.1 hall t hm)⟩)
    (by kernel_rfl)

end Go.Proofs.YtnjncjjegolojaaGreatDoor
