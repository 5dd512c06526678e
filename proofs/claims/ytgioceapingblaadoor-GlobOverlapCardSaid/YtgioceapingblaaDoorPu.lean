/-
  Chapter 32: the tie of the reference.
-/
import Derived.Test.YtgioceapingblaaDoorPt
import Derived.Test.YtgioceapingblaaDoorPh

/-
  More functions of this seat do what their intermediate forms say (printed by a program).
-/
namespace Go.Proofs.YtgioceapingblaaDoor
open Go.RowKit Qk

theorem k_35 : KeepsF (gl Tryd.prog) F_quiltref32_Split 35 :=
  keepsF_of (G := gl Tryd.prog) (E := envX [] [] [] [] [] [] [] 5 57 []) (envX_ok trivial trivial trivial trivial trivial trivial trivial trivial) Tryd.func35 (by kernel_rfl) (fun _ => (Nat.le_of_ble_eq_true (by kernel_rfl))) d_ref_Split
theorem k_64 : KeepsC (gl Tryd.prog) C_quiltref32_one (fun _ => none) 64 #[] :=
  keeps_of (G := gl Tryd.prog) (E := envX [] [] [] [] [] [] [] 5 57 []) (envX_ok trivial trivial trivial trivial trivial trivial trivial trivial) Tryd.func64 (by kernel_rfl) (fun _ => (Nat.le_of_ble_eq_true (by kernel_rfl))) (fun x _ => nn_ref_one x) d_ref_one
theorem k_63 : KeepsH (gl Tryd.prog) H_quiltref32_class 63 :=
  keepsH_of (G := gl Tryd.prog) (E := envX [(64, C_quiltref32_one)] [] [] [] [] [] [] 5 57 []) (envX_ok ⟨k_64, trivial⟩ trivial trivial trivial trivial trivial trivial trivial) Tryd.func63 (by kernel_rfl) (Nat.le_of_ble_eq_true (by kernel_rfl))
theorem k_49 : KeepsC (gl Tryd.prog) C_quiltref32_parse (fun _ => none) 49 #[] :=
  keeps_of (G := gl Tryd.prog) (E := envX [(64, C_quiltref32_one)] [] [] [(63, H_quiltref32_class)] [] [] [] 5 57 []) (envX_ok ⟨k_64, trivial⟩ trivial trivial ⟨k_63, trivial⟩ trivial trivial trivial trivial) Tryd.func49 (by kernel_rfl) (fun _ => (Nat.le_of_ble_eq_true (by kernel_rfl))) (fun x _ => nn_ref_parse x) d_ref_parse
theorem k_33 : KeepsC (gl Tryd.prog) C_quiltref32_glob (fun _ => none) 33 #[] :=
  keeps_of (G := gl Tryd.prog) (E := envX [(49, C_quiltref32_parse)] [] [] [] [] [] [(35, F_quiltref32_Split)] 5 57 []) (envX_ok ⟨k_49, trivial⟩ trivial trivial trivial trivial trivial ⟨k_35, trivial⟩ trivial) Tryd.func33 (by kernel_rfl) (fun _ => (Nat.le_of_ble_eq_true (by kernel_rfl))) (fun x _ => nn_ref_glob x) d_ref_glob
theorem k_50 : KeepsC (gl Tryd.prog) C_quiltref32_component1 (fun _ => none) 50 #[] :=
  keeps_of (G := gl Tryd.prog) (E := envX [] [] [] [] [] [] [] 5 57 []) (envX_ok trivial trivial trivial trivial trivial trivial trivial trivial) Tryd.func50 (by kernel_rfl) (fun _ => (Nat.le_of_ble_eq_true (by kernel_rfl))) (fun _ _ => (plain_bool _).nn) d_ref_component1
theorem k_34 : KeepsF (gl Tryd.prog) F_quiltref32_after 34 :=
  keepsF_of (G := gl Tryd.prog) (E := envX [(50, C_quiltref32_component1)] [] [] [] [] [] [] 5 57 []) (envX_ok ⟨k_50, trivial⟩ trivial trivial trivial trivial trivial trivial trivial) Tryd.func34 (by kernel_rfl) (fun _ => (Nat.le_of_ble_eq_true (by kernel_rfl))) d_ref_after
theorem k_14 : KeepsC (gl Tryd.prog) C_quiltref32_Match (fun _ => none) 14 #[] :=
  keeps_of (G := gl Tryd.prog) (E := envX [(33, C_quiltref32_glob)] [] [] [] [] [] [(35, F_quiltref32_Split), (34, F_quiltref32_after)] 5 57 []) (envX_ok ⟨k_33, trivial⟩ trivial trivial trivial trivial trivial ⟨k_35, k_34, trivial⟩ trivial) Tryd.func14 (by kernel_rfl) (fun _ => (Nat.le_of_ble_eq_true (by kernel_rfl))) (fun _ _ => (plain_bool _).nn) d_ref_Match
theorem k_16 : KeepsC (gl Tryd.prog) C_quiltref32_Below (fun _ => none) 16 #[] :=
  keeps_of (G := gl Tryd.prog) (E := envX [(33, C_quiltref32_glob)] [] [] [] [] [] [(35, F_quiltref32_Split), (34, F_quiltref32_after)] 5 57 []) (envX_ok ⟨k_33, trivial⟩ trivial trivial trivial trivial trivial ⟨k_35, k_34, trivial⟩ trivial) Tryd.func16 (by kernel_rfl) (fun _ => (Nat.le_of_ble_eq_true (by kernel_rfl))) (fun _ _ => (plain_bool _).nn) d_ref_Below
theorem k_22 : KeepsC (gl Tryd.prog) C_quiltref32_Check (fun _ => none) 22 #[] :=
  keeps_of (G := gl Tryd.prog) (E := envX [(33, C_quiltref32_glob)] [] [] [] [] [] [] 5 57 []) (envX_ok ⟨k_33, trivial⟩ trivial trivial trivial trivial trivial trivial trivial) Tryd.func22 (by kernel_rfl) (fun _ => (Nat.le_of_ble_eq_true (by kernel_rfl))) (fun _ _ => (plain_int _ _).nn) d_ref_Check
theorem k_3 : KeepsC (gl Tryd.prog) C_law2 (fun _ => none) 3 #[] :=
  keeps_of (G := gl Tryd.prog) (E := envX [(12, C_quiltlaw32_long), (13, C_glob_Match), (14, C_quiltref32_Match), (15, C_glob_Below), (16, C_quiltref32_Below), (17, C_quiltlaw32_awake)] [] [] [] [] [] [] 5 57 []) (envX_ok ⟨k_12, k_13, k_14, k_15, k_16, k_17, trivial⟩ trivial trivial trivial trivial trivial trivial trivial) Tryd.func3 (by kernel_rfl) (fun _ => (Nat.le_of_ble_eq_true (by kernel_rfl))) (fun _ _ => (plain_bool _).nn) d_GlobMatch

end Go.Proofs.YtgioceapingblaaDoor
