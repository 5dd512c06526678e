/-
  Chapter 57: the tie of the reference of the attributes.
-/
import Derived.Test.YtnjncjjegolojaaDoorPt
import Derived.Test.YtnjncjjegolojaaDoorPu

/-
  More functions of this seat do what their intermediate forms say (printed by a program).
-/
namespace Go.Proofs.YtnjncjjegolojaaDoor
open Go.RowKit Qk

theorem k_70 : KeepsF (gl Tryd.prog) F_quiltref32_Split 70 :=
  keepsF_of (G := gl Tryd.prog) (E := envX [] [] [] [] [] [] [] 5 106 []) (envX_ok trivial trivial trivial trivial trivial trivial trivial trivial) Tryd.func70 (by kernel_rfl) (fun _ => (Nat.le_of_ble_eq_true (by kernel_rfl))) d_ref_Split
theorem k_110 : KeepsC (gl Tryd.prog) C_quiltref32_one (fun _ => none) 110 #[] :=
  keeps_of (G := gl Tryd.prog) (E := envX [] [] [] [] [] [] [] 5 106 []) (envX_ok trivial trivial trivial trivial trivial trivial trivial trivial) Tryd.func110 (by kernel_rfl) (fun _ => (Nat.le_of_ble_eq_true (by kernel_rfl))) (fun x _ => nn_ref_one x) d_ref_one
theorem k_109 : KeepsH (gl Tryd.prog) H_quiltref32_class 109 :=
  keepsH_of (G := gl Tryd.prog) (E := envX [(110, C_quiltref32_one)] [] [] [] [] [] [] 5 106 []) (envX_ok ⟨k_110, trivial⟩ trivial trivial trivial trivial trivial trivial trivial) Tryd.func109 (by kernel_rfl) (Nat.le_of_ble_eq_true (by kernel_rfl))
theorem k_91 : KeepsC (gl Tryd.prog) C_quiltref32_parse (fun _ => none) 91 #[] :=
  keeps_of (G := gl Tryd.prog) (E := envX [(110, C_quiltref32_one)] [] [] [(109, H_quiltref32_class)] [] [] [] 5 106 []) (envX_ok ⟨k_110, trivial⟩ trivial trivial ⟨k_109, trivial⟩ trivial trivial trivial trivial) Tryd.func91 (by kernel_rfl) (fun _ => (Nat.le_of_ble_eq_true (by kernel_rfl))) (fun x _ => nn_ref_parse x) d_ref_parse
theorem k_68 : KeepsC (gl Tryd.prog) C_quiltref32_glob (fun _ => none) 68 #[] :=
  keeps_of (G := gl Tryd.prog) (E := envX [(91, C_quiltref32_parse)] [] [] [] [] [] [(70, F_quiltref32_Split)] 5 106 []) (envX_ok ⟨k_91, trivial⟩ trivial trivial trivial trivial trivial ⟨k_70, trivial⟩ trivial) Tryd.func68 (by kernel_rfl) (fun _ => (Nat.le_of_ble_eq_true (by kernel_rfl))) (fun x _ => nn_ref_glob x) d_ref_glob
theorem k_92 : KeepsC (gl Tryd.prog) C_quiltref32_component1 (fun _ => none) 92 #[] :=
  keeps_of (G := gl Tryd.prog) (E := envX [] [] [] [] [] [] [] 5 106 []) (envX_ok trivial trivial trivial trivial trivial trivial trivial trivial) Tryd.func92 (by kernel_rfl) (fun _ => (Nat.le_of_ble_eq_true (by kernel_rfl))) (fun _ _ => (plain_bool _).nn) d_ref_component1
theorem k_69 : KeepsF (gl Tryd.prog) F_quiltref32_after 69 :=
  keepsF_of (G := gl Tryd.prog) (E := envX [(92, C_quiltref32_component1)] [] [] [] [] [] [] 5 106 []) (envX_ok ⟨k_92, trivial⟩ trivial trivial trivial trivial trivial trivial trivial) Tryd.func69 (by kernel_rfl) (fun _ => (Nat.le_of_ble_eq_true (by kernel_rfl))) d_ref_after
theorem k_41 : KeepsC (gl Tryd.prog) C_quiltref32_Match (fun _ => none) 41 #[] :=
  keeps_of (G := gl Tryd.prog) (E := envX [(68, C_quiltref32_glob)] [] [] [] [] [] [(70, F_quiltref32_Split), (69, F_quiltref32_after)] 5 106 []) (envX_ok ⟨k_68, trivial⟩ trivial trivial trivial trivial trivial ⟨k_70, k_69, trivial⟩ trivial) Tryd.func41 (by kernel_rfl) (fun _ => (Nat.le_of_ble_eq_true (by kernel_rfl))) (fun _ _ => (plain_bool _).nn) d_ref_Match
theorem k_67 : KeepsC (gl Tryd.prog) C_quiltref32_Check (fun _ => none) 67 #[] :=
  keeps_of (G := gl Tryd.prog) (E := envX [(68, C_quiltref32_glob)] [] [] [] [] [] [] 5 106 []) (envX_ok ⟨k_68, trivial⟩ trivial trivial trivial trivial trivial trivial trivial) Tryd.func67 (by kernel_rfl) (fun _ => (Nat.le_of_ble_eq_true (by kernel_rfl))) (fun _ _ => (plain_int _ _).nn) d_ref_Check
theorem k_39 : KeepsC (gl Tryd.prog) C_quiltref57_split (fun _ => none) 39 #[] :=
  keeps_of (G := gl Tryd.prog) (E := envX [] [] [] [] [] [] [] 5 106 []) (envX_ok trivial trivial trivial trivial trivial trivial trivial trivial) Tryd.func39 (by kernel_rfl) (fun _ => (Nat.le_of_ble_eq_true (by kernel_rfl))) (fun _ _ => nn_ilist _ _ _) d_rsplit
theorem k_66 : KeepsC (gl Tryd.prog) C_quiltref57_index (fun _ => none) 66 #[] :=
  keeps_of (G := gl Tryd.prog) (E := envX [] [] [] [] [] [] [] 5 106 []) (envX_ok trivial trivial trivial trivial trivial trivial trivial trivial) Tryd.func66 (by kernel_rfl) (fun _ => (Nat.le_of_ble_eq_true (by kernel_rfl))) (fun _ _ => (plain_int _ _).nn) d_index57
theorem k_40 : KeepsC (gl Tryd.prog) C_quiltref57_attribute (fun _ => none) 40 #[] :=
  keeps_of (G := gl Tryd.prog) (E := envX [(39, C_quiltref57_split), (66, C_quiltref57_index), (67, C_quiltref32_Check)] [] [] [] [] [] [] 5 106 []) (envX_ok ⟨k_39, k_66, k_67, trivial⟩ trivial trivial trivial trivial trivial trivial trivial) Tryd.func40 (by kernel_rfl) (fun _ => (Nat.le_of_ble_eq_true (by kernel_rfl))) (fun _ _ => nn_tup' (nnl_cons (nn_agg (nnl_attA _)) (nnl_one (plain_bool _).nn))) d_rattribute
theorem k_17 : KeepsC (gl Tryd.prog) C_quiltref57_Attributes (fun _ => none) 17 #[] :=
  keeps_of (G := gl Tryd.prog) (E := envX [(39, C_quiltref57_split), (40, C_quiltref57_attribute)] [] [] [] [] [] [] 5 106 []) (envX_ok ⟨k_39, k_40, trivial⟩ trivial trivial trivial trivial trivial trivial trivial) Tryd.func17 (by kernel_rfl) (fun _ => (Nat.le_of_ble_eq_true (by kernel_rfl))) (fun s _ => nn_Attributes s) d_rAttributes
theorem k_20 : KeepsC (gl Tryd.prog) C_quiltref57_Find (fun _ => none) 20 #[] :=
  keeps_of (G := gl Tryd.prog) (E := envX [(41, C_quiltref32_Match)] [] [] [] [] [] [] 5 106 []) (envX_ok ⟨k_41, trivial⟩ trivial trivial trivial trivial trivial trivial trivial) Tryd.func20 (by kernel_rfl) (fun _ => (Nat.le_of_ble_eq_true (by kernel_rfl))) (fun x _ => nn_find x) d_rFind
theorem k_18 : KeepsC (gl Tryd.prog) C_quiltref57_Same (fun _ => none) 18 #[] :=
  keeps_of (G := gl Tryd.prog) (E := envX [] [] [] [] [] [] [] 5 106 []) (envX_ok trivial trivial trivial trivial trivial trivial trivial trivial) Tryd.func18 (by kernel_rfl) (fun _ => (Nat.le_of_ble_eq_true (by kernel_rfl))) (fun _ _ => (plain_bool _).nn) d_Same
theorem k_4 : KeepsC (gl Tryd.prog) C_quiltlaw57_CharsetAttributes (fun _ => none) 4 #[] :=
  keeps_of (G := gl Tryd.prog) (E := envX [(15, C_quiltref57_Great), (10, C_quiltlaw57_awake), (16, C_charset_Attributes), (17, C_quiltref57_Attributes), (18, C_quiltref57_Same), (19, C_charset_Find), (20, C_quiltref57_Find)] [] [] [] [] [] [] 5 106 []) (envX_ok ⟨k_15, k_10, k_16, k_17, k_18, k_19, k_20, trivial⟩ trivial trivial trivial trivial trivial trivial trivial) Tryd.func4 (by kernel_rfl) (fun _ => (Nat.le_of_ble_eq_true (by kernel_rfl))) (fun _ _ => (plain_bool _).nn) d_CharsetAttributes

end Go.Proofs.YtnjncjjegolojaaDoor
