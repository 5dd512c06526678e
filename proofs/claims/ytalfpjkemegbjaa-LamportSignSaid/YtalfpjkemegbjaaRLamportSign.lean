/-
  The statement LamportSignSaid: whatever the arguments, the law answers true and leaves its arguments as they were. No condition.
-/
import Derived.Test.YtalfpjkemegbjaaMt
import Derived.Test.YtalfpjkemegbjaaMh
import Derived.Test.YtalfpjkemegbjaaRows
namespace Go.Proofs.Ytalfpjkemegbjaa
open Go.ChangeShapes Go.WideShapes Go.ChangeAt Go.RowKit Qk

theorem Try.own : ownKnob Try.prog.godebug = none := by kernel_rfl
theorem Try.laidOut : laidOutB Try.prog = true := by kernel_rfl

set_option maxRecDepth 100000 in
theorem lamportSign_lifted (os : Os) (started : os.Started) (H : Type) (enc : TypeId × Value → H) :
    ReturnsInHanded {} Try.checked os 3 .any (Rows.lamportSignSpec.pre6 enc Try.prog Try.f3 Rows.lamportSignRow.domain false) (Rows.lamportSignSpec.post enc Try.prog Try.f3 false true false false) := by
  refine returnsInHanded_of_change (C := Try.checked) Try.own started (by kernel_rfl) Try.func3
    (ChangeSpec.witness6 (enc := enc) (C := Try.checked) false ⟨#[], #[.string ⟨#[]⟩, .int .i64 0, .string ⟨#[]⟩], []⟩ 8 (by kernel_rfl) (by kernel_rfl) (by kernel_rfl) (by kernel_rfl)) ?_
  intro W base args ds gs before hval0 hW hcnd _
  have hval : ∀ (j : Nat) t v, Try.f3.params[j]? = some t → args[j]? = some v → Value.okWide Try.prog W .any base t v := hval0
  have hW' := hW
  obtain ⟨p, q, hA0, hV, rfl, hfz, hnd⟩ := hW
  have hA : DataW.TrodAll enc Try.prog W 0 (fun _ => true) true Try.f3.params.toList args.toList ds p := hA0
  rw [Try.params3] at hA hval
  obtain ⟨v0, v1, v2, d0, d1, d2, p0, p1, p2, rfl, rfl, rfl, h0, h1, h2⟩ := trodAll_three hA
  obtain ⟨rfl, rfl⟩ := trodVars_none hV
  obtain ⟨a0, ⟨l0, e0, w0⟩, r0⟩ := arg_one (gl Try.prog) (ty := .str) (by kernel_rfl) (by kernel_rfl) (hval 0 9 v0 rfl rfl) h0
  cases e0
  obtain ⟨a1, ⟨l1, e1, w1⟩, r1⟩ := arg_one (gl Try.prog) (ty := (.int .i64)) (by kernel_rfl) (by kernel_rfl) (hval 1 3 v1 rfl rfl) h1
  cases e1
  obtain ⟨a2, ⟨l2, e2, w2⟩, r2⟩ := arg_one (gl Try.prog) (ty := .str) (by kernel_rfl) (by kernel_rfl) (hval 2 9 v2 rfl rfl) h2
  cases e2
  refine Calls.mono (calls_of Try.func3 (by kernel_rfl) (by kernel_rfl) k_3 (x := ⟨l0, l1, l2⟩) trivial rfl rfl ⟨⟨_, rfl, r0⟩, ⟨_, rfl, r1⟩, ⟨_, rfl, r2⟩, trivial⟩) ?_
  rintro e W' ⟨rfl, hb⟩
  exact ⟨_, rfl, law_post Try.laidOut (by kernel_rfl) rfl (by kernel_rfl) Try.underlying4 hW' rfl hb⟩

theorem lamportSign_holds : Rows.LamportSignSaid :=
  OpenClaim.holds_of_wide 3 Try.f3 rfl rfl rfl rfl rfl rfl rfl ⟨rfl, rfl, rfl, rfl, rfl⟩ rfl rfl rfl rfl rfl (by kernel_rfl) Try.func3 (by kernel_rfl)
    (of_decide_eq_true (by kernel_rfl)) (by unfold Func.isWrapper; rw [if_neg (of_decide_eq_false (by kernel_rfl))]; exact ⟨rfl, rfl⟩)
    (fun os started H enc _ => lamportSign_lifted os started H enc)

end Go.Proofs.Ytalfpjkemegbjaa
