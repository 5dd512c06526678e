/-
  Chapter 57: the tie of the law on long data.
-/
import Derived.Test.YtnjncjjegolojaaGreatDoorPt
import Derived.Test.YtnjncjjegolojaaGreatDoorPz

/-
  More functions of this seat do what their intermediate forms say (printed by a program).
-/
namespace Go.Proofs.YtnjncjjegolojaaGreatDoor
open Go.RowKit Qk

theorem k_11 : KeepsC (gl Tryz.prog) C_strings_Repeat (fun _ => none) 11 #[] :=
 keeps_repeat57 (G := gl Tryz.prog) Tryz.func11 (by kernel_rfl) (by kernel_rfl) (fun s c w h1 h2 => Tryz.strings_Repeat s c w h1 h2)
theorem k_4 : KeepsC (gl Tryz.prog) C_quiltlaw57_CharsetLong (fun _ => none) 4 #[] :=
 keeps_of (G := gl Tryz.prog) (E := envX [(6,C_quiltlaw57_awake),(11,C_strings_Repeat),(12,C_charset_Decode),(13,C_quiltref57_Decode),(14,C_charset_Encode),(15,C_quiltref57_Encode),(7,C_charset_ToRepo),(8,C_quiltref57_ToRepo),(9,C_charset_FromRepo),(10,C_quiltref57_FromRepo)] [] [] [] [] [] [] 5 49 []) (envX_ok ⟨k_6,k_11,k_12,k_13,k_14,k_15,k_7,k_8,k_9,k_10,trivial⟩ trivial trivial trivial trivial trivial trivial trivial) Tryz.func4 (by kernel_rfl) (fun _ => (Nat.le_of_ble_eq_true (by kernel_rfl))) (fun _ _ => (plain_bool _).nn) d_CharsetLong

end Go.Proofs.YtnjncjjegolojaaGreatDoor
