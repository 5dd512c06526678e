/-
  Chapter 57: the tie of more statements.
-/
import Derived.Test.YtnjncjjegolojaaDoorPt
import Derived.Test.YtnjncjjegolojaaDoorPj

/-
  More functions of this seat do what their intermediate forms say (printed by a program).
-/
namespace Go.Proofs.YtnjncjjegolojaaDoor
open Go.RowKit Qk

theorem k_5 : KeepsC (gl Tryd.prog) C_quiltlaw57_CharsetInverse (fun _ => none) 5 #[] :=
  keeps_of (G := gl Tryd.prog) (E := envX [(10, C_quiltlaw57_awake), (11, C_charset_Decode), (13, C_charset_Encode)] [] [] [] [] [] [] 5 106 []) (envX_ok ⟨k_10, k_11, k_13, trivial⟩ trivial trivial trivial trivial trivial trivial trivial) Tryd.func5 (by kernel_rfl) (fun _ => (Nat.le_of_ble_eq_true (by kernel_rfl))) (fun _ _ => (plain_bool _).nn) d_CharsetInverse
theorem k_6 : KeepsC (gl Tryd.prog) C_quiltlaw57_CharsetRepoInverse (fun _ => none) 6 #[] :=
  keeps_of (G := gl Tryd.prog) (E := envX [(15, C_quiltref57_Great), (10, C_quiltlaw57_awake), (21, C_charset_ToRepo), (22, C_charset_FromRepo)] [] [] [] [] [] [] 5 106 []) (envX_ok ⟨k_15, k_10, k_21, k_22, trivial⟩ trivial trivial trivial trivial trivial trivial trivial) Tryd.func6 (by kernel_rfl) (fun _ => (Nat.le_of_ble_eq_true (by kernel_rfl))) (fun _ _ => (plain_bool _).nn) d_CharsetRepoInverse

end Go.Proofs.YtnjncjjegolojaaDoor
