/-
  Chapter 57: the tie of the statement on line endings.
-/
import Derived.Test.YtnjncjjegolojaaDoorPt
import Derived.Test.YtnjncjjegolojaaDoorPl
import Derived.Test.YtnjncjjegolojaaDoorShI

/-
  More functions of this seat do what their intermediate forms say (printed by a program).
-/
namespace Go.Proofs.YtnjncjjegolojaaDoor
open Go.RowKit Qk

theorem k_25 : KeepsC (gl Tryd.prog) C_strings_IndexByte (fun _ => none) 25 #[] :=
  keeps_IndexByte (G := gl Tryd.prog) Tryd.func25 (by kernel_rfl) (by kernel_rfl) Tryd.strings_IndexByte
theorem k_9 : KeepsC (gl Tryd.prog) C_quiltlaw57_CharsetLines (fun _ => none) 9 #[] :=
  keeps_of (G := gl Tryd.prog) (E := envX [(10, C_quiltlaw57_awake), (25, C_strings_IndexByte), (21, C_charset_ToRepo), (22, C_charset_FromRepo), (26, C_strings_ReplaceAll)] [] [] [] [] [] [] 5 106 []) (envX_ok ⟨k_10, k_25, k_21, k_22, k_26, trivial⟩ trivial trivial trivial trivial trivial trivial trivial) Tryd.func9 (by kernel_rfl) (fun _ => (Nat.le_of_ble_eq_true (by kernel_rfl))) (fun _ _ => (plain_bool _).nn) d_CharsetLines

end Go.Proofs.YtnjncjjegolojaaDoor
