/-
  Chapter 32: the tie of overlapping.
-/
import Derived.Test.YtgioceapingblaaDoorPu
import Derived.Test.YtgioceapingblaaDoorPj

/-
  More functions of this seat do what their intermediate forms say (printed by a program).
-/
namespace Go.Proofs.YtgioceapingblaaDoor
open Go.RowKit Qk

theorem k_53 : KeepsC (gl Tryd.prog) C_quiltref32_meet (fun _ => none) 53 #[] :=
  keeps_of (G := gl Tryd.prog) (E := envX [] [] [] [] [] [] [] 5 57 []) (envX_ok trivial trivial trivial trivial trivial trivial trivial trivial) Tryd.func53 (by kernel_rfl) (fun _ => (Nat.le_of_ble_eq_true (by kernel_rfl))) (fun _ _ => (plain_bool _).nn) d_ref_meet
theorem k_37 : KeepsC (gl Tryd.prog) C_quiltref32_common (fun _ => none) 37 #[] :=
  keeps_of (G := gl Tryd.prog) (E := envX [(53, C_quiltref32_meet)] [] [] [] [] [] [] 5 57 []) (envX_ok ⟨k_53, trivial⟩ trivial trivial trivial trivial trivial trivial trivial) Tryd.func37 (by kernel_rfl) (fun _ => (Nat.le_of_ble_eq_true (by kernel_rfl))) (fun _ _ => (plain_bool _).nn) d_ref_common
theorem k_19 : KeepsC (gl Tryd.prog) C_quiltref32_Overlap (fun _ => none) 19 #[] :=
  keeps_of (G := gl Tryd.prog) (E := envX [(33, C_quiltref32_glob), (37, C_quiltref32_common)] [] [] [] [] [] [] 5 57 []) (envX_ok ⟨k_33, k_37, trivial⟩ trivial trivial trivial trivial trivial trivial trivial) Tryd.func19 (by kernel_rfl) (fun _ => (Nat.le_of_ble_eq_true (by kernel_rfl))) (fun _ _ => (plain_bool _).nn) d_ref_Overlap
theorem k_4 : KeepsC (gl Tryd.prog) C_law2 (fun _ => none) 4 #[] :=
  keeps_of (G := gl Tryd.prog) (E := envX [(12, C_quiltlaw32_long), (18, C_glob_Overlap), (19, C_quiltref32_Overlap), (17, C_quiltlaw32_awake)] [] [] [] [] [] [] 5 57 []) (envX_ok ⟨k_12, k_18, k_19, k_17, trivial⟩ trivial trivial trivial trivial trivial trivial trivial) Tryd.func4 (by kernel_rfl) (fun _ => (Nat.le_of_ble_eq_true (by kernel_rfl))) (fun _ _ => (plain_bool _).nn) d_GlobOverlap

end Go.Proofs.YtgioceapingblaaDoor
