/-
  Chapter 32: the tie of joining.
-/
import Derived.Test.YtgioceapingblaaDoorPt
import Derived.Test.YtgioceapingblaaDoorPk
import Derived.Test.YtgioceapingblaaDoorSj

/-
  More functions of this seat do what their intermediate forms say (printed by a program).
-/
namespace Go.Proofs.YtgioceapingblaaDoor
open Go.RowKit Qk

theorem k_29 : KeepsC (gl Tryd.prog) C_strings_Join (fun _ => none) 29 #[] :=
  keeps_Join (G := gl Tryd.prog) Tryd.func29 (by kernel_rfl) (by kernel_rfl) (fun a c sep w => Tryd.strings_Join_none a c sep w) (fun bk o c xs sep w h1 h2 h3 h4 h5 => Tryd.strings_Join bk o c xs sep w h1 h2 h3 h4 h5)
theorem k_11 : KeepsC (gl Tryd.prog) C_law3 (fun _ => none) 11 #[] :=
  keeps_of (G := gl Tryd.prog) (E := envX [(25, C_quiltlaw32_whole), (21, C_glob_Check), (17, C_quiltlaw32_awake), (29, C_strings_Join), (13, C_glob_Match)] [] [] [] [] [] [(28, F_strings_Split)] 5 57 []) (envX_ok ⟨k_25, k_21, k_17, k_29, k_13, trivial⟩ trivial trivial trivial trivial trivial ⟨k_28, trivial⟩ trivial) Tryd.func11 (by kernel_rfl) (fun _ => (Nat.le_of_ble_eq_true (by kernel_rfl))) (fun _ _ => (plain_bool _).nn) d_GlobParts

end Go.Proofs.YtgioceapingblaaDoor
