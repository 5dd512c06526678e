/-
  Chapter 57: the tie of the statement on character sets.
-/
import Derived.Test.YtnjncjjegolojaaDoorPt
import Derived.Test.YtnjncjjegolojaaDoorPn

/-
  More functions of this seat do what their intermediate forms say (printed by a program).
-/
namespace Go.Proofs.YtnjncjjegolojaaDoor
open Go.RowKit Qk

theorem k_48 : KeepsC (gl Tryd.prog) C_internal_stringslite_HasPrefix (fun _ => none) 48 #[] :=
  keeps_of (G := gl Tryd.prog) (E := envX [] [] [] [] [] [] [] 5 106 []) (envX_ok trivial trivial trivial trivial trivial trivial trivial trivial) Tryd.func48 (by kernel_rfl) (fun _ => (Nat.le_of_ble_eq_true (by kernel_rfl))) (fun _ _ => (plain_bool _).nn) d_hasPrefix_lite
theorem k_24 : KeepsC (gl Tryd.prog) C_strings_HasPrefix (fun _ => none) 24 #[] :=
  keeps_of (G := gl Tryd.prog) (E := envX [(48, C_internal_stringslite_HasPrefix)] [] [] [] [] [] [] 5 106 []) (envX_ok ⟨k_48, trivial⟩ trivial trivial trivial trivial trivial trivial trivial) Tryd.func24 (by kernel_rfl) (fun _ => (Nat.le_of_ble_eq_true (by kernel_rfl))) (fun _ _ => (plain_bool _).nn) d_hasPrefix
theorem k_8 : KeepsC (gl Tryd.prog) C_quiltlaw57_CharsetSets (fun _ => none) 8 #[] :=
  keeps_of (G := gl Tryd.prog) (E := envX [(10, C_quiltlaw57_awake), (24, C_strings_HasPrefix), (11, C_charset_Decode), (13, C_charset_Encode)] [] [] [] [] [] [] 5 106 []) (envX_ok ⟨k_10, k_24, k_11, k_13, trivial⟩ trivial trivial trivial trivial trivial trivial trivial) Tryd.func8 (by kernel_rfl) (fun _ => (Nat.le_of_ble_eq_true (by kernel_rfl))) (fun _ _ => (plain_bool _).nn) d_CharsetSets

end Go.Proofs.YtnjncjjegolojaaDoor
