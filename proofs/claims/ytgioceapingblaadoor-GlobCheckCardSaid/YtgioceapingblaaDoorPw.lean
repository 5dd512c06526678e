/-
  Chapter 32: the tie of the fixed beginning.
-/
import Derived.Test.YtgioceapingblaaDoorPu
import Derived.Test.YtgioceapingblaaDoorPi

/-
  More functions of this seat do what their intermediate forms say (printed by a program).
-/
namespace Go.Proofs.YtgioceapingblaaDoor
open Go.RowKit Qk

theorem k_41 : KeepsC (gl Tryd.prog) C_quiltref32_certain (fun _ => none) 41 #[] :=
  keeps_of (G := gl Tryd.prog) (E := envX [] [] [] [] [] [] [] 5 57 []) (envX_ok trivial trivial trivial trivial trivial trivial trivial trivial) Tryd.func41 (by kernel_rfl) (fun _ => (Nat.le_of_ble_eq_true (by kernel_rfl))) (fun _ _ => (plain_str _).nn) d_ref_certain
theorem k_24 : KeepsC (gl Tryd.prog) C_quiltref32_Fixed (fun _ => none) 24 #[] :=
  keeps_of (G := gl Tryd.prog) (E := envX [(33, C_quiltref32_glob), (41, C_quiltref32_certain)] [] [] [] [] [] [] 5 57 []) (envX_ok ⟨k_33, k_41, trivial⟩ trivial trivial trivial trivial trivial trivial trivial) Tryd.func24 (by kernel_rfl) (fun _ => (Nat.le_of_ble_eq_true (by kernel_rfl))) (fun _ _ => (plain_str _).nn) d_ref_Fixed
theorem k_6 : KeepsC (gl Tryd.prog) C_law1 (fun _ => none) 6 #[] :=
  keeps_of (G := gl Tryd.prog) (E := envX [(12, C_quiltlaw32_long), (21, C_glob_Check), (22, C_quiltref32_Check), (23, C_glob_Fixed), (24, C_quiltref32_Fixed), (17, C_quiltlaw32_awake)] [] [] [] [] [] [] 5 57 []) (envX_ok ⟨k_12, k_21, k_22, k_23, k_24, k_17, trivial⟩ trivial trivial trivial trivial trivial trivial trivial) Tryd.func6 (by kernel_rfl) (fun _ => (Nat.le_of_ble_eq_true (by kernel_rfl))) (fun _ _ => (plain_bool _).nn) d_GlobCheck

end Go.Proofs.YtgioceapingblaaDoor
