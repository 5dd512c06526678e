/-
  The statement LamportTwiceSaid: whatever the arguments, the law answers true and leaves its arguments as they were. No condition.
-/
import Derived.Test.YtalfpjkemegbjaaNt
import Derived.Test.YtalfpjkemegbjaaNh
import Derived.Test.YtalfpjkemegbjaaRows
namespace Go.Proofs.Ytalfpjkemegbjaa
open Go.ChangeShapes Go.WideShapes Go.ChangeAt Go.RowKit Qk

theorem Try.own : ownKnob Try.prog.godebug = none := by kernel_rfl
theorem Try.laidOut : laidOutB Try.prog = true := by kernel_rfl

set_option maxRecDepth 100000 in
theorem lamportTwice_lifted (os : Os) (started : os.Started) (H : Type) (enc : TypeId × Value → H) :
    ReturnsInHanded {} Try.checked os 9 .any (Rows.lamportTwiceSpec.pre6 enc Try.prog Try.f9 Rows.lamportTwiceRow.domain false) (Rows.lamportTwiceSpec.post enc Try.prog Try.f9 false true false false) := by
  refine returnsInHanded_of_change (C := Try.checked) Try.own started (by kernel_rfl) Try.func9
    (ChangeSpec.witness6 (enc := enc) (C := Try.checked) false ⟨#[], #[.agg (Array.replicate 32 (.int .u8 0)), .agg #[.int .i64 0, .slice none 0 0, .slice none 0 0, .slice none 0 0], .agg #[.string ⟨#[]⟩, .string ⟨#[]⟩]], []⟩ 8 (by kernel_rfl) (by kernel_rfl) (by kernel_rfl) (by kernel_rfl)) ?_
  intro W base args ds gs before hval0 hW hcnd _
  have hval : ∀ (j : Nat) t v, Try.f9.params[j]? = some t → args[j]? = some v → Value.okWide Try.prog W .any base t v := hval0
  have hW' := hW
  obtain ⟨p, q, hA0, hV, rfl, hfz, hnd⟩ := hW
  have hA : DataW.TrodAll enc Try.prog W 0 (fun _ => true) true Try.f9.params.toList args.toList ds p := hA0
  rw [Try.params9] at hA hval
  obtain ⟨v0, v1, v2, d0, d1, d2, p0, p1, p2, rfl, rfl, rfl, h0, h1, h2⟩ := trodAll_three hA
  obtain ⟨rfl, rfl⟩ := trodVars_none hV
  obtain ⟨a0, f0, r0⟩ := arg_agg (gl Try.prog) (ty := (.arr 32 (.int .u8))) (by kernel_rfl) (by kernel_rfl) (hval 0 31 v0 rfl rfl) h0
  obtain ⟨l0, w0, rfl⟩ := fits_arr f0
  obtain ⟨a1, f1, r1⟩ := arg_agg (gl Try.prog) (ty := sgTy) (by kernel_rfl) (by kernel_rfl) (hval 1 26 v1 rfl rfl) h1
  obtain ⟨l1, w1, rfl⟩ := fits_sg f1
  obtain ⟨a2, f2, r2⟩ := arg_agg (gl Try.prog) (ty := (.arr 2 .str)) (by kernel_rfl) (by kernel_rfl) (hval 2 39 v2 rfl rfl) h2
  obtain ⟨l2, m2, rfl⟩ := fits_two f2
  refine Calls.mono (calls_of Try.func9 (by kernel_rfl) (by kernel_rfl) k_9 (x := ⟨l0, l1, l2, m2⟩) ⟨w0, w1⟩ rfl rfl ⟨⟨_, rfl, r0⟩, ⟨_, rfl, r1⟩, ⟨_, rfl, r2⟩, trivial⟩) ?_
  rintro e W' ⟨rfl, hb⟩
  exact ⟨_, rfl, law_post Try.laidOut (by kernel_rfl) rfl (by kernel_rfl) Try.underlying4 hW' rfl hb⟩

theorem lamportTwice_holds : Rows.LamportTwiceSaid :=
  OpenClaim.holds_of_wide 9 Try.f9 rfl rfl rfl rfl rfl rfl rfl ⟨rfl, rfl, rfl, rfl, rfl⟩ rfl rfl rfl rfl rfl (by kernel_rfl) Try.func9 (by kernel_rfl)
    (of_decide_eq_true (by kernel_rfl)) (by unfold Func.isWrapper; rw [if_neg (of_decide_eq_false (by kernel_rfl))]; exact ⟨rfl, rfl⟩)
    (fun os started H enc _ => lamportTwice_lifted os started H enc)

end Go.Proofs.Ytalfpjkemegbjaa
