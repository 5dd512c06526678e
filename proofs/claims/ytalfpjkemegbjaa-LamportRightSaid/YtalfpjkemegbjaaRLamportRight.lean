/-
  The statement LamportRightSaid: whatever the arguments, the law answers true and leaves its arguments as they were. No condition.
-/
import Derived.Test.YtalfpjkemegbjaaMt
import Derived.Test.YtalfpjkemegbjaaMh
import Derived.Test.YtalfpjkemegbjaaRows
namespace Go.Proofs.Ytalfpjkemegbjaa
open Go.ChangeShapes Go.WideShapes Go.ChangeAt Go.RowKit Qk

theorem Try.own : ownKnob Try.prog.godebug = none := by kernel_rfl
theorem Try.laidOut : laidOutB Try.prog = true := by kernel_rfl

set_option maxRecDepth 100000 in
theorem lamportRight_lifted (os : Os) (started : os.Started) (H : Type) (enc : TypeId × Value → H) :
    ReturnsInHanded {} Try.checked os 5 .any (Rows.lamportRightSpec.pre6 enc Try.prog Try.f5 Rows.lamportRightRow.domain false) (Rows.lamportRightSpec.post enc Try.prog Try.f5 false true false false) := by
  refine returnsInHanded_of_change (C := Try.checked) Try.own started (by kernel_rfl) Try.func5
    (ChangeSpec.witness6 (enc := enc) (C := Try.checked) false ⟨#[], #[.string ⟨#[]⟩, .string ⟨#[]⟩, .int .i64 0], []⟩ 8 (by kernel_rfl) (by kernel_rfl) (by kernel_rfl) (by kernel_rfl)) ?_
  intro W base args ds gs before hval0 hW hcnd _
  have hval : ∀ (j : Nat) t v, Try.f5.params[j]? = some t → args[j]? = some v → Value.okWide Try.prog W .any base t v := hval0
  have hW' := hW
  obtain ⟨p, q, hA0, hV, rfl, hfz, hnd⟩ := hW
  have hA : DataW.TrodAll enc Try.prog W 0 (fun _ => true) true Try.f5.params.toList args.toList ds p := hA0
  rw [Try.params5] at hA hval
  obtain ⟨v0, v1, v2, d0, d1, d2, p0, p1, p2, rfl, rfl, rfl, h0, h1, h2⟩ := trodAll_three hA
  obtain ⟨rfl, rfl⟩ := trodVars_none hV
  obtain ⟨a0, ⟨l0, e0, w0⟩, r0⟩ := arg_one (gl Try.prog) (ty := .str) (by kernel_rfl) (by kernel_rfl) (hval 0 9 v0 rfl rfl) h0
  cases e0
  obtain ⟨a1, ⟨l1, e1, w1⟩, r1⟩ := arg_one (gl Try.prog) (ty := .str) (by kernel_rfl) (by kernel_rfl) (hval 1 9 v1 rfl rfl) h1
  cases e1
  obtain ⟨a2, ⟨l2, e2, w2⟩, r2⟩ := arg_one (gl Try.prog) (ty := (.int .i64)) (by kernel_rfl) (by kernel_rfl) (hval 2 3 v2 rfl rfl) h2
  cases e2
  refine Calls.mono (calls_of Try.func5 (by kernel_rfl) (by kernel_rfl) k_5 (x := ⟨l0, l1, l2⟩) trivial rfl rfl ⟨⟨_, rfl, r0⟩, ⟨_, rfl, r1⟩, ⟨_, rfl, r2⟩, trivial⟩) ?_
  rintro e W' ⟨rfl, hb⟩
  exact ⟨_, rfl, law_post Try.laidOut (by kernel_rfl) rfl (by kernel_rfl) Try.underlying4 hW' rfl hb⟩

theorem lamportRight_holds : Rows.LamportRightSaid :=
  OpenClaim.holds_of_wide 5 Try.f5 rfl rfl rfl rfl rfl rfl rfl ⟨rfl, rfl, rfl, rfl, rfl⟩ rfl rfl rfl rfl rfl (by kernel_rfl) Try.func5 (by kernel_rfl)
    (of_decide_eq_true (by kernel_rfl)) (by unfold Func.isWrapper; rw [if_neg (of_decide_eq_false (by kernel_rfl))]; exact ⟨rfl, rfl⟩)
    (fun os started H enc _ => lamportRight_lifted os started H enc)

end Go.Proofs.Ytalfpjkemegbjaa
