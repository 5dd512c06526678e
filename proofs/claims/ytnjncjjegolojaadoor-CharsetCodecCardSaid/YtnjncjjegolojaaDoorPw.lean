/-
  Chapter 57: the tie of the reference of the codings.
-/
import Derived.Test.YtnjncjjegolojaaDoorPt
import Derived.Test.YtnjncjjegolojaaDoorPq

/-
  More functions of this seat do what their intermediate forms say (printed by a program).
-/
namespace Go.Proofs.YtnjncjjegolojaaDoor
open Go.RowKit Qk

theorem k_29 : KeepsC (gl Tryd.prog) C_quiltref57_refused (fun _ => none) 29 #[] :=
  keeps_of (G := gl Tryd.prog) (E := envX [] [] [] [] [] [] [] 5 106 []) (envX_ok trivial trivial trivial trivial trivial trivial trivial trivial) Tryd.func29 (by kernel_rfl) (fun _ => (Nat.le_of_ble_eq_true (by kernel_rfl))) (fun _ _ => (plain_int _ _).nn) d_refused
theorem k_30 : KeepsC (gl Tryd.prog) C_quiltref57_latin (fun _ => none) 30 #[] :=
  keeps_of (G := gl Tryd.prog) (E := envX [] [] [] [] [] [] [] 5 106 []) (envX_ok trivial trivial trivial trivial trivial trivial trivial trivial) Tryd.func30 (by kernel_rfl) (fun _ => (Nat.le_of_ble_eq_true (by kernel_rfl))) (fun _ _ => nn_ilist _ _ _) d_latin
set_option maxRecDepth 8000 in
theorem k_56 : KeepsC (gl Tryd.prog) C_quiltref57_length (fun _ => none) 56 #[] :=
  keeps_of (G := gl Tryd.prog) (E := envX [] [] [] [] [] [] [] 5 106 []) (envX_ok trivial trivial trivial trivial trivial trivial trivial trivial) Tryd.func56 (by kernel_rfl) (fun _ => (Nat.le_of_ble_eq_true (by kernel_rfl))) (fun _ _ => (plain_int _ _).nn) d_length
theorem k_57 : KeepsC (gl Tryd.prog) C_quiltref57_valid (fun _ => none) 57 #[] :=
  keeps_of (G := gl Tryd.prog) (E := envX [] [] [] [] [] [] [] 5 106 []) (envX_ok trivial trivial trivial trivial trivial trivial trivial trivial) Tryd.func57 (by kernel_rfl) (fun _ => (Nat.le_of_ble_eq_true (by kernel_rfl))) (fun _ _ => (plain_bool _).nn) d_valid
set_option maxRecDepth 8000 in
theorem k_58 : KeepsC (gl Tryd.prog) C_quiltref57_utf8 (fun _ => none) 58 #[] :=
  keeps_of (G := gl Tryd.prog) (E := envX [] [] [] [] [] [] [] 5 106 []) (envX_ok trivial trivial trivial trivial trivial trivial trivial trivial) Tryd.func58 (by kernel_rfl) (fun _ => (Nat.le_of_ble_eq_true (by kernel_rfl))) (fun _ _ => (plain_str _).nn) d_utf8
theorem k_31 : KeepsC (gl Tryd.prog) C_quiltref57_Points (fun _ => none) 31 #[] :=
  keeps_of (G := gl Tryd.prog) (E := envX [(56, C_quiltref57_length), (57, C_quiltref57_valid), (58, C_quiltref57_utf8)] [] [] [] [] [] [] 5 106 []) (envX_ok ⟨k_56, k_57, k_58, trivial⟩ trivial trivial trivial trivial trivial trivial trivial) Tryd.func31 (by kernel_rfl) (fun _ => (Nat.le_of_ble_eq_true (by kernel_rfl))) (fun _ _ => nn_tup' (nnl_cons (nn_ilist _ _ _) (nnl_one (plain_bool _).nn))) d_Points
theorem k_32 : KeepsC (gl Tryd.prog) C_quiltref57_utf16 (fun _ => none) 32 #[] :=
  keeps_of (G := gl Tryd.prog) (E := envX [(57, C_quiltref57_valid)] [] [] [] [] [] [] 5 106 []) (envX_ok ⟨k_57, trivial⟩ trivial trivial trivial trivial trivial trivial trivial) Tryd.func32 (by kernel_rfl) (fun _ => (Nat.le_of_ble_eq_true (by kernel_rfl))) (fun _ _ => nn_tup' (nnl_cons (nn_ilist _ _ _) (nnl_one (plain_bool _).nn))) d_utf16
theorem k_34 : KeepsC (gl Tryd.prog) C_quiltref57_text (fun _ => none) 34 #[] :=
  keeps_of (G := gl Tryd.prog) (E := envX [(58, C_quiltref57_utf8)] [] [] [] [] [] [] 5 106 []) (envX_ok ⟨k_58, trivial⟩ trivial trivial trivial trivial trivial trivial trivial) Tryd.func34 (by kernel_rfl) (fun _ => (Nat.le_of_ble_eq_true (by kernel_rfl))) (fun _ _ => (plain_str _).nn) d_text
theorem k_33 : KeepsC (gl Tryd.prog) C_quiltref57_limited (fun _ => none) 33 #[] :=
  keeps_of (G := gl Tryd.prog) (E := envX [] [] [] [] [] [] [] 5 106 []) (envX_ok trivial trivial trivial trivial trivial trivial trivial trivial) Tryd.func33 (by kernel_rfl) (fun _ => (Nat.le_of_ble_eq_true (by kernel_rfl))) (fun _ _ => nn_tupS _) d_limited
theorem k_59 : KeepsC (gl Tryd.prog) C_quiltref57_two (fun _ => none) 59 #[] :=
  keeps_of (G := gl Tryd.prog) (E := envX [] [] [] [] [] [] [] 5 106 []) (envX_ok trivial trivial trivial trivial trivial trivial trivial trivial) Tryd.func59 (by kernel_rfl) (fun _ => (Nat.le_of_ble_eq_true (by kernel_rfl))) (fun _ _ => (plain_str _).nn) d_two
theorem k_35 : KeepsC (gl Tryd.prog) C_quiltref57_units (fun _ => none) 35 #[] :=
  keeps_of (G := gl Tryd.prog) (E := envX [(59, C_quiltref57_two)] [] [] [] [] [] [] 5 106 []) (envX_ok ⟨k_59, trivial⟩ trivial trivial trivial trivial trivial trivial trivial) Tryd.func35 (by kernel_rfl) (fun _ => (Nat.le_of_ble_eq_true (by kernel_rfl))) (fun _ _ => (plain_str _).nn) d_rUnits
theorem k_12 : KeepsC (gl Tryd.prog) C_quiltref57_Decode (fun _ => none) 12 #[] :=
  keeps_of (G := gl Tryd.prog) (E := envX [(29, C_quiltref57_refused), (30, C_quiltref57_latin), (31, C_quiltref57_Points), (32, C_quiltref57_utf16), (34, C_quiltref57_text), (33, C_quiltref57_limited)] [] [] [] [] [] [] 5 106 []) (envX_ok ⟨k_29, k_30, k_31, k_32, k_34, k_33, trivial⟩ trivial trivial trivial trivial trivial trivial trivial) Tryd.func12 (by kernel_rfl) (fun _ => (Nat.le_of_ble_eq_true (by kernel_rfl))) (fun _ _ => nn_tupS _) d_rDecode
theorem k_14 : KeepsC (gl Tryd.prog) C_quiltref57_Encode (fun _ => none) 14 #[] :=
  keeps_of (G := gl Tryd.prog) (E := envX [(29, C_quiltref57_refused), (31, C_quiltref57_Points), (35, C_quiltref57_units), (33, C_quiltref57_limited)] [] [] [] [] [] [] 5 106 []) (envX_ok ⟨k_29, k_31, k_35, k_33, trivial⟩ trivial trivial trivial trivial trivial trivial trivial) Tryd.func14 (by kernel_rfl) (fun _ => (Nat.le_of_ble_eq_true (by kernel_rfl))) (fun _ _ => nn_tupS _) d_rEncode
theorem k_3 : KeepsC (gl Tryd.prog) C_quiltlaw57_CharsetCodec (fun _ => none) 3 #[] :=
  keeps_of (G := gl Tryd.prog) (E := envX [(10, C_quiltlaw57_awake), (11, C_charset_Decode), (12, C_quiltref57_Decode), (13, C_charset_Encode), (14, C_quiltref57_Encode)] [] [] [] [] [] [] 5 106 []) (envX_ok ⟨k_10, k_11, k_12, k_13, k_14, trivial⟩ trivial trivial trivial trivial trivial trivial trivial) Tryd.func3 (by kernel_rfl) (fun _ => (Nat.le_of_ble_eq_true (by kernel_rfl))) (fun _ _ => (plain_bool _).nn) d_CharsetCodec

end Go.Proofs.YtnjncjjegolojaaDoor
