/-
  Chapter 53: the tie to the program.
-/
import Derived.Test.YtalfpjkemegbjaaChecked
import Derived.Test.YtalfpjkemegbjaaSh
import Derived.Test.YtalfpjkemegbjaaNv
import Derived.Test.YtalfpjkemegbjaaNh
import Derived.Test.YtalfpjkemegbjaaNe
import Derived.Test.YtalfpjkemegbjaaNd

/-
  The functions of this seat do what their intermediate forms say (printed by a program).
-/
namespace Go.Proofs.Ytalfpjkemegbjaa
open Go.RowKit Qk

/-- The program, and the functions that closures stand for. -/
def gl (P : Program) : Gl := ⟨P, fun t => match t with | 1 => 64 | 2 => 55 | 3 => 65 | 4 => 54 | _ => 0, 5, 82⟩

theorem k_53 : KeepsH (gl Try.prog) H___strings_Builder__String 53 :=
  keeps_String Try.func53 (by kernel_rfl) (by kernel_rfl) (fun b p w h => qk_builder_none { Try.lays105 with } Try.Builder_Extra_105 b p w h) (fun b g cap p cur fr l w h0 h1 h2 h3 h4 h5 h6 h7 => qk_builder_row { Try.lays105 with } Try.Builder_Extra_105 b g cap p cur fr l w h0 h1 h2 h3 h4 h5 h6 h7)
theorem k_63 : KeepsC (gl Try.prog) C_strings_Repeat (fun _ => none) 63 #[] :=
  keeps_repeat (G := gl Try.prog) Try.func63 (by kernel_rfl) (by kernel_rfl) (fun s c w h1 h2 => Try.strings_Repeat s c w h1 h2)
theorem k_68 : KeepsC (gl Try.prog) C_math_bits_RotateLeft32 (fun _ => none) 68 #[] :=
  keeps_of (G := gl Try.prog) (E := envX [] [] [] [] [] [] [] 5 82) (envX_ok trivial trivial trivial trivial trivial trivial trivial) Try.func68 (by kernel_rfl) (fun _ => (Nat.le_of_ble_eq_true (by kernel_rfl))) (fun _ _ => (plain_int _ _).nn) d_RotateLeft32
theorem k_58 : KeepsC (gl Try.prog) C_sha256_right (fun _ => none) 58 #[] :=
  keeps_of (G := gl Try.prog) (E := envX [(68, C_math_bits_RotateLeft32)] [] [] [] [] [] [] 5 82) (envX_ok ⟨k_68, trivial⟩ trivial trivial trivial trivial trivial trivial) Try.func58 (by kernel_rfl) (fun _ => (Nat.le_of_ble_eq_true (by kernel_rfl))) (fun _ _ => (plain_int _ _).nn) d_right
theorem k_62 : KeepsC (gl Try.prog) C_quiltref02_rotate (fun _ => none) 62 #[] :=
  keeps_of (G := gl Try.prog) (E := envX [] [] [] [] [] [] [] 5 82) (envX_ok trivial trivial trivial trivial trivial trivial trivial) Try.func62 (by kernel_rfl) (fun _ => (Nat.le_of_ble_eq_true (by kernel_rfl))) (fun _ _ => (plain_int _ _).nn) d_rotate
theorem k_56 : KeepsC (gl Try.prog) C_sha256_schedule (fun _ => none) 56 #[] :=
  keeps_of (G := gl Try.prog) (E := envX [(58, C_sha256_right)] [] [] [] [] [] [] 5 82) (envX_ok ⟨k_58, trivial⟩ trivial trivial trivial trivial trivial trivial) Try.func56 (by kernel_rfl) (fun _ => (Nat.le_of_ble_eq_true (by kernel_rfl))) (fun _ _ => (plainA_ints _ _).nn) d_sha256_schedule
theorem k_60 : KeepsC (gl Try.prog) C_quiltref02_schedule (fun _ => none) 60 #[] :=
  keeps_of (G := gl Try.prog) (E := envX [(62, C_quiltref02_rotate)] [] [] [] [] [] [] 5 82) (envX_ok ⟨k_62, trivial⟩ trivial trivial trivial trivial trivial trivial) Try.func60 (by kernel_rfl) (fun _ => (Nat.le_of_ble_eq_true (by kernel_rfl))) (fun _ _ => (plainA_ints _ _).nn) d_ref_schedule
theorem k_57 : KeepsC (gl Try.prog) C_sha256_constants (fun _ => none) 57 #[] :=
  keeps_of (G := gl Try.prog) (E := envX [] [] [] [] [] [] [] 5 82) (envX_ok trivial trivial trivial trivial trivial trivial trivial) Try.func57 (by kernel_rfl) (fun _ => (Nat.le_of_ble_eq_true (by kernel_rfl))) (fun _ _ => (plainA_ints _ _).nn) d_constants
theorem k_61 : KeepsC (gl Try.prog) C_quiltref02_constants (fun _ => none) 61 #[] :=
  keeps_of (G := gl Try.prog) (E := envX [] [] [] [] [] [] [] 5 82) (envX_ok trivial trivial trivial trivial trivial trivial trivial) Try.func61 (by kernel_rfl) (fun _ => (Nat.le_of_ble_eq_true (by kernel_rfl))) (fun _ _ => (plainA_ints _ _).nn) d_ref_constants
theorem k_41 : KeepsC (gl Try.prog) C_sha256_initial (fun _ => none) 41 #[] :=
  keeps_of (G := gl Try.prog) (E := envX [] [] [] [] [] [] [] 5 82) (envX_ok trivial trivial trivial trivial trivial trivial trivial) Try.func41 (by kernel_rfl) (fun _ => (Nat.le_of_ble_eq_true (by kernel_rfl))) (fun _ _ => (plainA_ints _ _).nn) d_initial
theorem k_43 : KeepsC (gl Try.prog) C_sha256_compress (fun _ => none) 43 #[] :=
  keeps_of (G := gl Try.prog) (E := envX [(56, C_sha256_schedule), (57, C_sha256_constants), (58, C_sha256_right)] [] [] [] [] [] [] 5 82) (envX_ok ⟨k_56, k_57, k_58, trivial⟩ trivial trivial trivial trivial trivial trivial) Try.func43 (by kernel_rfl) (fun _ => (Nat.le_of_ble_eq_true (by kernel_rfl))) (fun _ _ => (plainA_ints _ _).nn) d_compress
theorem k_46 : KeepsC (gl Try.prog) C_quiltref02_step (fun _ => none) 46 #[] :=
  keeps_of (G := gl Try.prog) (E := envX [(60, C_quiltref02_schedule), (61, C_quiltref02_constants), (62, C_quiltref02_rotate)] [] [] [] [] [] [] 5 82) (envX_ok ⟨k_60, k_61, k_62, trivial⟩ trivial trivial trivial trivial trivial trivial) Try.func46 (by kernel_rfl) (fun _ => (Nat.le_of_ble_eq_true (by kernel_rfl))) (fun _ _ => (plainA_ints _ _).nn) d_step
theorem k_59 : KeepsC (gl Try.prog) C_quiltref02_zeros (fun _ => none) 59 #[] :=
  keeps_of (G := gl Try.prog) (E := envX [] [] [] [] [] [] [] 5 82) (envX_ok trivial trivial trivial trivial trivial trivial trivial) Try.func59 (by kernel_rfl) (fun _ => (Nat.le_of_ble_eq_true (by kernel_rfl))) (fun _ _ => (plain_str _).nn) d_ref_zeros
theorem k_45 : KeepsC (gl Try.prog) C_quiltref02_padded (fun _ => none) 45 #[] :=
  keeps_of (G := gl Try.prog) (E := envX [(59, C_quiltref02_zeros)] [] [] [] [] [] [] 5 82) (envX_ok ⟨k_59, trivial⟩ trivial trivial trivial trivial trivial trivial) Try.func45 (by kernel_rfl) (fun _ => (Nat.le_of_ble_eq_true (by kernel_rfl))) (fun _ _ => (plain_str _).nn) d_ref_padded
theorem k_28 : KeepsC (gl Try.prog) C_quiltref02_Bytes (fun _ => none) 28 #[] :=
  keeps_of (G := gl Try.prog) (E := envX [] [] [] [] [] [] [] 5 82) (envX_ok trivial trivial trivial trivial trivial trivial trivial) Try.func28 (by kernel_rfl) (fun _ => (Nat.le_of_ble_eq_true (by kernel_rfl))) (fun _ _ => (plain_str _).nn) d_ref_Bytes
theorem k_66 : KeepsC (gl Try.prog) C_quiltref02_mask (fun _ => none) 66 #[] :=
  keeps_of (G := gl Try.prog) (E := envX [] [] [] [] [] [] [] 5 82) (envX_ok trivial trivial trivial trivial trivial trivial trivial) Try.func66 (by kernel_rfl) (fun _ => (Nat.le_of_ble_eq_true (by kernel_rfl))) (fun _ _ => (plain_str _).nn) d_ref_mask
theorem k_27 : KeepsC (gl Try.prog) C_quiltref02_Sum (fun _ => none) 27 #[] :=
  keeps_of (G := gl Try.prog) (E := envX [(45, C_quiltref02_padded), (46, C_quiltref02_step)] [] [] [] [] [] [] 5 82) (envX_ok ⟨k_45, k_46, trivial⟩ trivial trivial trivial trivial trivial trivial) Try.func27 (by kernel_rfl) (fun _ => (Nat.le_of_ble_eq_true (by kernel_rfl))) (fun _ _ => (plainA_bys _).nn) d_ref_Sum
theorem k_49 : KeepsC (gl Try.prog) C_quiltref02_HMAC (fun _ => none) 49 #[] :=
  keeps_of (G := gl Try.prog) (E := envX [(27, C_quiltref02_Sum), (28, C_quiltref02_Bytes), (59, C_quiltref02_zeros), (66, C_quiltref02_mask)] [] [] [] [] [] [] 5 82) (envX_ok ⟨k_27, k_28, k_59, k_66, trivial⟩ trivial trivial trivial trivial trivial trivial) Try.func49 (by kernel_rfl) (fun _ => (Nat.le_of_ble_eq_true (by kernel_rfl))) (fun _ _ => (plainA_bys _).nn) d_ref_HMAC
theorem k_55 : KeepsI (gl Try.prog) T_sha256_blocks_1 55 :=
  keepsI_of (G := gl Try.prog) (E := envX [] [] [] [] [] [] [] 5 82) (envX_ok trivial trivial trivial trivial trivial trivial trivial) Try.func55 (by kernel_rfl) (Nat.le_of_ble_eq_true (by kernel_rfl))
theorem k_42 : KeepsH (gl Try.prog) H_sha256_blocks 42 :=
  keepsH_of (G := gl Try.prog) (E := envX [] [(55, 2)] [] [] [] [] [] 5 82) (envX_ok trivial ⟨rfl, trivial⟩ trivial trivial trivial trivial trivial) Try.func42 (by kernel_rfl) (Nat.le_of_ble_eq_true (by kernel_rfl))
theorem k_22 : KeepsC (gl Try.prog) C_sha256_Sum (fun _ => none) 22 #[] :=
  keeps_of (G := gl Try.prog) (E := envX [(41, C_sha256_initial), (43, C_sha256_compress)] [] [] [(42, H_sha256_blocks)] [] [(2, T_sha256_blocks_1)] [] 5 82) (envX_ok ⟨k_41, k_43, trivial⟩ trivial trivial ⟨k_42, trivial⟩ trivial ⟨k_55, trivial⟩ trivial) Try.func22 (by kernel_rfl) (fun _ => (Nat.le_of_ble_eq_true (by kernel_rfl))) (fun _ _ => (plainA_bys _).nn) d_sha256_Sum
theorem k_64 : KeepsC (gl Try.prog) C_sha256_HMAC_1 (fun _ => none) 64 #[] :=
  keeps_of (G := gl Try.prog) (E := envX [] [] [] [] [] [] [] 5 82) (envX_ok trivial trivial trivial trivial trivial trivial trivial) Try.func64 (by kernel_rfl) (fun _ => (Nat.le_of_ble_eq_true (by kernel_rfl))) (fun _ _ => (plain_str _).nn) d_sha256_HMAC_1
theorem k_47 : KeepsC (gl Try.prog) C_sha256_HMAC (fun _ => none) 47 #[] :=
  keeps_of (G := gl Try.prog) (E := envX [(22, C_sha256_Sum), (63, C_strings_Repeat)] [(64, 1)] [(1, C_sha256_HMAC_1)] [] [] [] [] 5 82) (envX_ok ⟨k_22, k_63, trivial⟩ ⟨rfl, trivial⟩ ⟨k_64, trivial⟩ trivial trivial trivial trivial) Try.func47 (by kernel_rfl) (fun _ => (Nat.le_of_ble_eq_true (by kernel_rfl))) (fun _ _ => (plainA_bys _).nn) d_sha256_HMAC
theorem k_67 : KeepsH (gl Try.prog) H___strings_Builder__copyCheck 67 :=
  keeps_copyCheck Try.func67 (by kernel_rfl) (by kernel_rfl) (fun b w h => Any.Builder_copyCheck_used { Try.lays105 with } Try.Builder_Extra_105.toX72 b w h) (fun b w h1 h2 h3 => Any.Builder_copyCheck_fresh { Try.lays105 with } Try.Builder_Extra_105.toX72 b w h1 h2 h3)
theorem k_51 : KeepsH (gl Try.prog) H___strings_Builder__WriteByte 51 :=
  KeepsH.weak (keepsH_of (F := ir___strings_Builder__WriteByte) (n := 2) (G := gl Try.prog) (E := envX [] [] [] [(67, H___strings_Builder__copyCheck)] [] [] [] 5 82) (envX_ok trivial trivial trivial ⟨k_67, trivial⟩ trivial trivial trivial) Try.func51 (by kernel_rfl) (Nat.le_of_ble_eq_true (by kernel_rfl))) w_WriteByte
theorem k_52 : KeepsH (gl Try.prog) H___strings_Builder__Write 52 :=
  KeepsH.weak (keepsH_of (F := ir___strings_Builder__Write) (n := 2) (G := gl Try.prog) (E := envX [] [] [] [(67, H___strings_Builder__copyCheck)] [] [] [] 5 82) (envX_ok trivial trivial trivial ⟨k_67, trivial⟩ trivial trivial trivial) Try.func52 (by kernel_rfl) (Nat.le_of_ble_eq_true (by kernel_rfl))) w_Write
theorem k_30 : KeepsC (gl Try.prog) C_lamport_secret (fun _ => none) 30 #[] :=
  keeps_of (G := gl Try.prog) (E := envX [(47, C_sha256_HMAC)] [] [] [] [] [] [] 5 82) (envX_ok ⟨k_47, trivial⟩ trivial trivial trivial trivial trivial trivial) Try.func30 (by kernel_rfl) (fun _ => (Nat.le_of_ble_eq_true (by kernel_rfl))) (fun _ _ => (plainA_bys _).nn) d_lamport_secret
theorem k_31 : KeepsC (gl Try.prog) C_lamport_public (fun _ => none) 31 #[] :=
  keeps_of (G := gl Try.prog) (E := envX [(22, C_sha256_Sum)] [] [] [] [] [] [] 5 82) (envX_ok ⟨k_22, trivial⟩ trivial trivial trivial trivial trivial trivial) Try.func31 (by kernel_rfl) (fun _ => (Nat.le_of_ble_eq_true (by kernel_rfl))) (fun _ _ => (plainA_bys _).nn) d_lamport_public
theorem k_33 : KeepsC (gl Try.prog) C_lamport_node (fun _ => none) 33 #[] :=
  keeps_of (G := gl Try.prog) (E := envX [(22, C_sha256_Sum)] [] [] [] [] [] [] 5 82) (envX_ok ⟨k_22, trivial⟩ trivial trivial trivial trivial trivial trivial) Try.func33 (by kernel_rfl) (fun _ => (Nat.le_of_ble_eq_true (by kernel_rfl))) (fun _ _ => (plainA_bys _).nn) d_lamport_node
theorem k_65 : KeepsI (gl Try.prog) T_lamport_published_1 65 :=
  keepsI_of (G := gl Try.prog) (E := envX [(30, C_lamport_secret), (31, C_lamport_public)] [] [] [] [] [] [] 5 82) (envX_ok ⟨k_30, k_31, trivial⟩ trivial trivial trivial trivial trivial trivial) Try.func65 (by kernel_rfl) (Nat.le_of_ble_eq_true (by kernel_rfl))
theorem k_48 : KeepsH (gl Try.prog) H_lamport_published 48 :=
  keepsH_of (G := gl Try.prog) (E := envX [] [(65, 3)] [] [] [] [] [] 5 82) (envX_ok trivial ⟨rfl, trivial⟩ trivial trivial trivial trivial trivial) Try.func48 (by kernel_rfl) (Nat.le_of_ble_eq_true (by kernel_rfl))
theorem k_29 : KeepsC (gl Try.prog) C_lamport_tag (fun _ => none) 29 #[] :=
  keeps_of (G := gl Try.prog) (E := envX [(22, C_sha256_Sum)] [] [] [] [] [] [] 5 82) (envX_ok ⟨k_22, trivial⟩ trivial trivial trivial trivial trivial trivial) Try.func29 (by kernel_rfl) (fun _ => (Nat.le_of_ble_eq_true (by kernel_rfl))) (fun _ _ => (plainA_ints _ _).nn) d_lamport_tag
theorem k_54 : KeepsI (gl Try.prog) T_lamport_claimed_1 54 :=
  keepsI_of (G := gl Try.prog) (E := envX [(29, C_lamport_tag), (31, C_lamport_public)] [] [] [] [] [] [] 5 82) (envX_ok ⟨k_29, k_31, trivial⟩ trivial trivial trivial trivial trivial trivial) Try.func54 (by kernel_rfl) (Nat.le_of_ble_eq_true (by kernel_rfl))
theorem k_40 : KeepsH (gl Try.prog) H_lamport_claimed 40 :=
  keepsH_of (G := gl Try.prog) (E := envX [] [(54, 4)] [] [] [] [] [] 5 82) (envX_ok trivial ⟨rfl, trivial⟩ trivial trivial trivial trivial trivial) Try.func40 (by kernel_rfl) (Nat.le_of_ble_eq_true (by kernel_rfl))
theorem k_39 : KeepsH (gl Try.prog) H_lamport_leafOf 39 :=
  keepsH_of (G := gl Try.prog) (E := envX [(22, C_sha256_Sum)] [] [] [(51, H___strings_Builder__WriteByte), (52, H___strings_Builder__Write), (53, H___strings_Builder__String)] [] [(3, T_lamport_published_1), (4, T_lamport_claimed_1)] [] 5 82) (envX_ok ⟨k_22, trivial⟩ trivial trivial ⟨k_51, k_52, k_53, trivial⟩ trivial ⟨k_65, k_54, trivial⟩ trivial) Try.func39 (by kernel_rfl) (Nat.le_of_ble_eq_true (by kernel_rfl))
theorem k_32 : KeepsC (gl Try.prog) C_lamport_leaf (fun _ => none) 32 #[] :=
  keeps_of (G := gl Try.prog) (E := envX [] [] [] [(48, H_lamport_published), (39, H_lamport_leafOf)] [] [] [] 5 82) (envX_ok trivial trivial trivial ⟨k_48, k_39, trivial⟩ trivial trivial trivial) Try.func32 (by kernel_rfl) (fun _ => (Nat.le_of_ble_eq_true (by kernel_rfl))) (fun _ _ => (plainA_bys _).nn) d_lamport_leaf
theorem k_14 : KeepsC (gl Try.prog) C_lamport_Public (fun _ => none) 14 #[] :=
  keeps_of (G := gl Try.prog) (E := envX [(32, C_lamport_leaf), (33, C_lamport_node)] [] [] [] [] [] [] 5 82) (envX_ok ⟨k_32, k_33, trivial⟩ trivial trivial trivial trivial trivial trivial) Try.func14 (by kernel_rfl) (fun _ => (Nat.le_of_ble_eq_true (by kernel_rfl))) (fun _ _ => (plainA_bys _).nn) d_lamport_Public
theorem k_12 : KeepsC (gl Try.prog) C_lamport_Sign (fun _ => none) 12 #[] :=
  keeps_of (G := gl Try.prog) (E := envX [(29, C_lamport_tag), (30, C_lamport_secret), (31, C_lamport_public), (32, C_lamport_leaf), (33, C_lamport_node)] [] [] [] [] [] [] 5 82) (envX_ok ⟨k_29, k_30, k_31, k_32, k_33, trivial⟩ trivial trivial trivial trivial trivial trivial) Try.func12 (by kernel_rfl) (fun _ => (Nat.le_of_ble_eq_true (by kernel_rfl))) (fun _ _ => nn_sgE _ _) d_lamport_Sign
theorem k_20 : KeepsC (gl Try.prog) C_lamport_Check (fun _ => none) 20 #[] :=
  keeps_of (G := gl Try.prog) (E := envX [] [] [] [] [] [] [] 5 82) (envX_ok trivial trivial trivial trivial trivial trivial trivial) Try.func20 (by kernel_rfl) (fun _ => (Nat.le_of_ble_eq_true (by kernel_rfl))) (fun _ _ => (plain_int _ _).nn) d_lamport_Check
theorem k_18 : KeepsC (gl Try.prog) C_lamport_Verify (fun _ => none) 18 #[] :=
  keeps_of (G := gl Try.prog) (E := envX [(20, C_lamport_Check), (33, C_lamport_node)] [] [] [(40, H_lamport_claimed), (39, H_lamport_leafOf)] [] [] [] 5 82) (envX_ok ⟨k_20, k_33, trivial⟩ trivial trivial ⟨k_40, k_39, trivial⟩ trivial trivial trivial) Try.func18 (by kernel_rfl) (fun _ => (Nat.le_of_ble_eq_true (by kernel_rfl))) (fun _ _ => (plain_bool _).nn) d_lamport_Verify
theorem k_35 : KeepsC (gl Try.prog) C_quiltref53_secret (fun _ => none) 35 #[] :=
  keeps_of (G := gl Try.prog) (E := envX [(49, C_quiltref02_HMAC)] [] [] [] [] [] [] 5 82) (envX_ok ⟨k_49, trivial⟩ trivial trivial trivial trivial trivial trivial) Try.func35 (by kernel_rfl) (fun _ => (Nat.le_of_ble_eq_true (by kernel_rfl))) (fun _ _ => (plainA_bys _).nn) d_ref_secret
theorem k_36 : KeepsC (gl Try.prog) C_quiltref53_public (fun _ => none) 36 #[] :=
  keeps_of (G := gl Try.prog) (E := envX [(28, C_quiltref02_Bytes), (27, C_quiltref02_Sum)] [] [] [] [] [] [] 5 82) (envX_ok ⟨k_28, k_27, trivial⟩ trivial trivial trivial trivial trivial trivial) Try.func36 (by kernel_rfl) (fun _ => (Nat.le_of_ble_eq_true (by kernel_rfl))) (fun _ _ => (plainA_bys _).nn) d_ref_public
theorem k_44 : KeepsC (gl Try.prog) C_quiltref53_above (fun _ => none) 44 #[] :=
  keeps_of (G := gl Try.prog) (E := envX [(28, C_quiltref02_Bytes)] [] [] [] [] [] [] 5 82) (envX_ok ⟨k_28, trivial⟩ trivial trivial trivial trivial trivial trivial) Try.func44 (by kernel_rfl) (fun _ => (Nat.le_of_ble_eq_true (by kernel_rfl))) (fun _ _ => (plain_str _).nn) d_ref_above
theorem k_38 : KeepsC (gl Try.prog) C_quiltref53_node (fun _ => none) 38 #[] :=
  keeps_of (G := gl Try.prog) (E := envX [(44, C_quiltref53_above), (27, C_quiltref02_Sum)] [] [] [] [] [] [] 5 82) (envX_ok ⟨k_44, k_27, trivial⟩ trivial trivial trivial trivial trivial trivial) Try.func38 (by kernel_rfl) (fun _ => (Nat.le_of_ble_eq_true (by kernel_rfl))) (fun _ _ => (plainA_bys _).nn) d_ref_node
theorem k_50 : KeepsC (gl Try.prog) C_quiltref53_leaf (fun _ => none) 50 #[] :=
  keeps_of (G := gl Try.prog) (E := envX [(35, C_quiltref53_secret), (36, C_quiltref53_public), (28, C_quiltref02_Bytes), (27, C_quiltref02_Sum)] [] [] [] [] [] [] 5 82) (envX_ok ⟨k_35, k_36, k_28, k_27, trivial⟩ trivial trivial trivial trivial trivial trivial) Try.func50 (by kernel_rfl) (fun _ => (Nat.le_of_ble_eq_true (by kernel_rfl))) (fun _ _ => (plainA_bys _).nn) d_ref_leaf
theorem k_37 : KeepsF (gl Try.prog) F_quiltref53_leaves 37 :=
  keepsF_of (G := gl Try.prog) (E := envX [(50, C_quiltref53_leaf)] [] [] [] [] [] [] 5 82) (envX_ok ⟨k_50, trivial⟩ trivial trivial trivial trivial trivial trivial) Try.func37 (by kernel_rfl) (fun _ => (Nat.le_of_ble_eq_true (by kernel_rfl))) d_ref_leaves
theorem k_15 : KeepsC (gl Try.prog) C_quiltref53_Public (fun _ => none) 15 #[] :=
  keeps_of (G := gl Try.prog) (E := envX [(38, C_quiltref53_node)] [] [] [] [] [] [(37, F_quiltref53_leaves)] 5 82) (envX_ok ⟨k_38, trivial⟩ trivial trivial trivial trivial trivial ⟨k_37, trivial⟩) Try.func15 (by kernel_rfl) (fun _ => (Nat.le_of_ble_eq_true (by kernel_rfl))) (fun _ _ => (plainA_bys _).nn) d_ref_Public
theorem k_24 : KeepsC (gl Try.prog) C_quiltref53_Tag (fun _ => none) 24 #[] :=
  keeps_of (G := gl Try.prog) (E := envX [(27, C_quiltref02_Sum), (28, C_quiltref02_Bytes)] [] [] [] [] [] [] 5 82) (envX_ok ⟨k_27, k_28, trivial⟩ trivial trivial trivial trivial trivial trivial) Try.func24 (by kernel_rfl) (fun _ => (Nat.le_of_ble_eq_true (by kernel_rfl))) (fun _ _ => (plain_str _).nn) d_ref_Tag
theorem k_34 : KeepsC (gl Try.prog) C_quiltref53_Bit (fun _ => none) 34 #[] :=
  keeps_of (G := gl Try.prog) (E := envX [] [] [] [] [] [] [] 5 82) (envX_ok trivial trivial trivial trivial trivial trivial trivial) Try.func34 (by kernel_rfl) (fun _ => (Nat.le_of_ble_eq_true (by kernel_rfl))) (fun _ _ => (plain_int _ _).nn) d_ref_Bit
theorem k_13 : KeepsC (gl Try.prog) C_quiltref53_Sign (fun _ => none) 13 #[] :=
  keeps_of (G := gl Try.prog) (E := envX [(24, C_quiltref53_Tag), (34, C_quiltref53_Bit), (35, C_quiltref53_secret), (36, C_quiltref53_public), (38, C_quiltref53_node)] [] [] [] [] [] [(37, F_quiltref53_leaves)] 5 82) (envX_ok ⟨k_24, k_34, k_35, k_36, k_38, trivial⟩ trivial trivial trivial trivial trivial ⟨k_37, trivial⟩) Try.func13 (by kernel_rfl) (fun _ => (Nat.le_of_ble_eq_true (by kernel_rfl))) (fun _ _ => nn_sgE _ _) d_ref_Sign
theorem k_21 : KeepsC (gl Try.prog) C_quiltref53_Check (fun _ => none) 21 #[] :=
  keeps_of (G := gl Try.prog) (E := envX [] [] [] [] [] [] [] 5 82) (envX_ok trivial trivial trivial trivial trivial trivial trivial) Try.func21 (by kernel_rfl) (fun _ => (Nat.le_of_ble_eq_true (by kernel_rfl))) (fun _ _ => (plain_int _ _).nn) d_ref_Check
theorem k_26 : KeepsF (gl Try.prog) F_quiltref53_Strings 26 :=
  keepsF_of (G := gl Try.prog) (E := envX [(28, C_quiltref02_Bytes), (27, C_quiltref02_Sum), (34, C_quiltref53_Bit), (44, C_quiltref53_above)] [] [] [] [] [] [] 5 82) (envX_ok ⟨k_28, k_27, k_34, k_44, trivial⟩ trivial trivial trivial trivial trivial trivial) Try.func26 (by kernel_rfl) (fun _ => (Nat.le_of_ble_eq_true (by kernel_rfl))) d_ref_Strings
theorem k_19 : KeepsC (gl Try.prog) C_quiltref53_Verify (fun _ => none) 19 #[] :=
  keeps_of (G := gl Try.prog) (E := envX [(21, C_quiltref53_Check), (24, C_quiltref53_Tag), (27, C_quiltref02_Sum)] [] [] [] [] [] [(26, F_quiltref53_Strings)] 5 82) (envX_ok ⟨k_21, k_24, k_27, trivial⟩ trivial trivial trivial trivial trivial ⟨k_26, trivial⟩) Try.func19 (by kernel_rfl) (fun _ => (Nat.le_of_ble_eq_true (by kernel_rfl))) (fun _ _ => (plain_bool _).nn) d_ref_Verify
theorem k_23 : KeepsC (gl Try.prog) C_quiltref02_Same (fun _ => none) 23 #[] :=
  keeps_of (G := gl Try.prog) (E := envX [] [] [] [] [] [] [] 5 82) (envX_ok trivial trivial trivial trivial trivial trivial trivial) Try.func23 (by kernel_rfl) (fun _ => (Nat.le_of_ble_eq_true (by kernel_rfl))) (fun _ _ => (plain_bool _).nn) d_ref_Same02
theorem k_16 : KeepsC (gl Try.prog) C_quiltref53_Same (fun _ => none) 16 #[] :=
  keeps_of (G := gl Try.prog) (E := envX [(23, C_quiltref02_Same)] [] [] [] [] [] [] 5 82) (envX_ok ⟨k_23, trivial⟩ trivial trivial trivial trivial trivial trivial) Try.func16 (by kernel_rfl) (fun _ => (Nat.le_of_ble_eq_true (by kernel_rfl))) (fun _ _ => (plain_bool _).nn) d_ref_Same53
theorem k_17 : KeepsC (gl Try.prog) C_quiltref53_Great (fun _ => none) 17 #[] :=
  keeps_of (G := gl Try.prog) (E := envX [] [] [] [] [] [] [] 5 82) (envX_ok trivial trivial trivial trivial trivial trivial trivial) Try.func17 (by kernel_rfl) (fun _ => (Nat.le_of_ble_eq_true (by kernel_rfl))) (fun _ _ => (plain_bool _).nn) d_ref_Great
theorem k_10 : KeepsC (gl Try.prog) C_quiltlaw53_long (fun _ => none) 10 #[] :=
  keeps_of (G := gl Try.prog) (E := envX [] [] [] [] [] [] [] 5 82) (envX_ok trivial trivial trivial trivial trivial trivial trivial) Try.func10 (by kernel_rfl) (fun _ => (Nat.le_of_ble_eq_true (by kernel_rfl))) (fun _ _ => (plain_bool _).nn) d_law_long
theorem k_11 : KeepsC (gl Try.prog) C_quiltlaw53_awake (fun _ => none) 11 #[] :=
  keeps_of (G := gl Try.prog) (E := envX [(14, C_lamport_Public), (12, C_lamport_Sign), (18, C_lamport_Verify)] [] [] [] [] [] [] 5 82) (envX_ok ⟨k_14, k_12, k_18, trivial⟩ trivial trivial trivial trivial trivial trivial) Try.func11 (by kernel_rfl) (fun _ => (Nat.le_of_ble_eq_true (by kernel_rfl))) (fun _ _ => (plain_bool _).nn) d_law53_awake
theorem k_3 : KeepsC (gl Try.prog) C_quiltlaw53_LamportSign (fun _ => none) 3 #[] :=
  keeps_of (G := gl Try.prog) (E := envX [(10, C_quiltlaw53_long), (11, C_quiltlaw53_awake), (12, C_lamport_Sign), (13, C_quiltref53_Sign), (14, C_lamport_Public), (15, C_quiltref53_Public), (16, C_quiltref53_Same)] [] [] [] [] [] [] 5 82) (envX_ok ⟨k_10, k_11, k_12, k_13, k_14, k_15, k_16, trivial⟩ trivial trivial trivial trivial trivial trivial) Try.func3 (by kernel_rfl) (fun _ => (Nat.le_of_ble_eq_true (by kernel_rfl))) (fun _ _ => (plain_bool _).nn) d_law_Sign
theorem k_4 : KeepsC (gl Try.prog) C_quiltlaw53_LamportVerify (fun _ => none) 4 #[] :=
  keeps_of (G := gl Try.prog) (E := envX [(10, C_quiltlaw53_long), (17, C_quiltref53_Great), (11, C_quiltlaw53_awake), (18, C_lamport_Verify), (19, C_quiltref53_Verify), (20, C_lamport_Check), (21, C_quiltref53_Check)] [] [] [] [] [] [] 5 82) (envX_ok ⟨k_10, k_17, k_11, k_18, k_19, k_20, k_21, trivial⟩ trivial trivial trivial trivial trivial trivial) Try.func4 (by kernel_rfl) (fun _ => (Nat.le_of_ble_eq_true (by kernel_rfl))) (fun _ _ => (plain_bool _).nn) d_law_Verify
theorem k_5 : KeepsC (gl Try.prog) C_quiltlaw53_LamportRight (fun _ => none) 5 #[] :=
  keeps_of (G := gl Try.prog) (E := envX [(10, C_quiltlaw53_long), (11, C_quiltlaw53_awake), (12, C_lamport_Sign), (20, C_lamport_Check), (14, C_lamport_Public), (18, C_lamport_Verify)] [] [] [] [] [] [] 5 82) (envX_ok ⟨k_10, k_11, k_12, k_20, k_14, k_18, trivial⟩ trivial trivial trivial trivial trivial trivial) Try.func5 (by kernel_rfl) (fun _ => (Nat.le_of_ble_eq_true (by kernel_rfl))) (fun _ _ => (plain_bool _).nn) d_law_Right
theorem k_6 : KeepsC (gl Try.prog) C_quiltlaw53_LamportReveals (fun _ => none) 6 #[] :=
  keeps_of (G := gl Try.prog) (E := envX [(10, C_quiltlaw53_long), (11, C_quiltlaw53_awake), (12, C_lamport_Sign), (20, C_lamport_Check), (22, C_sha256_Sum), (23, C_quiltref02_Same)] [] [] [] [] [] [] 5 82) (envX_ok ⟨k_10, k_11, k_12, k_20, k_22, k_23, trivial⟩ trivial trivial trivial trivial trivial trivial) Try.func6 (by kernel_rfl) (fun _ => (Nat.le_of_ble_eq_true (by kernel_rfl))) (fun _ _ => (plain_bool _).nn) d_law_Reveals
theorem k_7 : KeepsC (gl Try.prog) C_quiltlaw53_LamportTag (fun _ => none) 7 #[] :=
  keeps_of (G := gl Try.prog) (E := envX [(10, C_quiltlaw53_long), (17, C_quiltref53_Great), (24, C_quiltref53_Tag), (11, C_quiltlaw53_awake), (12, C_lamport_Sign), (16, C_quiltref53_Same), (18, C_lamport_Verify)] [] [] [] [] [] [] 5 82) (envX_ok ⟨k_10, k_17, k_24, k_11, k_12, k_16, k_18, trivial⟩ trivial trivial trivial trivial trivial trivial) Try.func7 (by kernel_rfl) (fun _ => (Nat.le_of_ble_eq_true (by kernel_rfl))) (fun _ _ => (plain_bool _).nn) d_law_Tag
theorem k_25 : KeepsC (gl Try.prog) C_quiltlaw53_collide (fun _ => none) 25 #[] :=
  keeps_of (G := gl Try.prog) (E := envX [(27, C_quiltref02_Sum)] [] [] [] [] [] [] 5 82) (envX_ok ⟨k_27, trivial⟩ trivial trivial trivial trivial trivial trivial) Try.func25 (by kernel_rfl) (fun _ => (Nat.le_of_ble_eq_true (by kernel_rfl))) (fun _ _ => (plain_bool _).nn) d_law_collide
theorem k_8 : KeepsC (gl Try.prog) C_quiltlaw53_LamportUnique (fun _ => none) 8 #[] :=
  keeps_of (G := gl Try.prog) (E := envX [(10, C_quiltlaw53_long), (17, C_quiltref53_Great), (21, C_quiltref53_Check), (16, C_quiltref53_Same), (24, C_quiltref53_Tag), (11, C_quiltlaw53_awake), (18, C_lamport_Verify), (25, C_quiltlaw53_collide)] [] [] [] [] [] [(26, F_quiltref53_Strings)] 5 82) (envX_ok ⟨k_10, k_17, k_21, k_16, k_24, k_11, k_18, k_25, trivial⟩ trivial trivial trivial trivial trivial ⟨k_26, trivial⟩) Try.func8 (by kernel_rfl) (fun _ => (Nat.le_of_ble_eq_true (by kernel_rfl))) (fun _ _ => (plain_bool _).nn) d_law_Unique
theorem k_9 : KeepsC (gl Try.prog) C_quiltlaw53_LamportTwice (fun _ => none) 9 #[] :=
  keeps_of (G := gl Try.prog) (E := envX [(10, C_quiltlaw53_long), (17, C_quiltref53_Great), (21, C_quiltref53_Check), (24, C_quiltref53_Tag), (11, C_quiltlaw53_awake), (18, C_lamport_Verify), (28, C_quiltref02_Bytes), (27, C_quiltref02_Sum), (25, C_quiltlaw53_collide)] [] [] [] [] [] [(26, F_quiltref53_Strings)] 5 82) (envX_ok ⟨k_10, k_17, k_21, k_24, k_11, k_18, k_28, k_27, k_25, trivial⟩ trivial trivial trivial trivial trivial ⟨k_26, trivial⟩) Try.func9 (by kernel_rfl) (fun _ => (Nat.le_of_ble_eq_true (by kernel_rfl))) (fun _ _ => (plain_bool _).nn) d_law_Twice

end Go.Proofs.Ytalfpjkemegbjaa
