/-
  Chapter 02: the tie to the program.
-/
import Derived.Test.YtkgemnhblcfacaaChecked
import Derived.Test.YtkgemnhblcfacaaSh
import Derived.Test.YtkgemnhblcfacaaMc
import Derived.Test.YtkgemnhblcfacaaMe
import Derived.Test.YtkgemnhblcfacaaMd

/-
  The functions of this seat do what their intermediate forms say (printed by a program).
-/
namespace Go.Proofs.Ytkgemnhblcfacaa
open Go.RowKit Qk

/-- The program, and the functions that closures stand for. -/
def gl (P : Program) : Gl := ⟨P, fun t => match t with | 1 => 31 | 2 => 38 | _ => 0⟩

theorem k_51 : KeepsC (gl Try.prog) C_internal_bytealg_Compare (fun _ => none) 51 #[] :=
  k_Compare Try.func51 (by kernel_rfl) (by kernel_rfl) (by kernel_rfl) (by kernel_rfl)
theorem k_59 : KeepsC (gl Try.prog) C_internal_bytealg_IndexByteString (fun _ => none) 59 #[] :=
  k_IndexByteString Try.func59 (by kernel_rfl) (by kernel_rfl) (by kernel_rfl) (by kernel_rfl)
theorem k_30 : KeepsC (gl Try.prog) C_strings_Repeat (fun _ => none) 30 #[] :=
  keeps_repeat (G := gl Try.prog) Try.func30 (by kernel_rfl) (by kernel_rfl) (fun s c w h1 h2 => Try.strings_Repeat s c w h1 h2)
theorem k_53 : KeepsC (gl Try.prog) C_math_bits_RotateLeft32 (fun _ => none) 53 #[] :=
  keeps_of (G := gl Try.prog) (E := envX [] [] [] [] [] []) (envX_ok trivial trivial trivial trivial trivial trivial) Try.func53 (by kernel_rfl) (fun _ => (Nat.le_of_ble_eq_true (by kernel_rfl))) (fun _ _ => (plain_int _ _).nn) d_RotateLeft32
theorem k_41 : KeepsC (gl Try.prog) C_sha256_right (fun _ => none) 41 #[] :=
  keeps_of (G := gl Try.prog) (E := envX [(53, C_math_bits_RotateLeft32)] [] [] [] [] []) (envX_ok ⟨k_53, trivial⟩ trivial trivial trivial trivial trivial) Try.func41 (by kernel_rfl) (fun _ => (Nat.le_of_ble_eq_true (by kernel_rfl))) (fun _ _ => (plain_int _ _).nn) d_right
theorem k_44 : KeepsC (gl Try.prog) C_quiltref02_rotate (fun _ => none) 44 #[] :=
  keeps_of (G := gl Try.prog) (E := envX [] [] [] [] [] []) (envX_ok trivial trivial trivial trivial trivial trivial) Try.func44 (by kernel_rfl) (fun _ => (Nat.le_of_ble_eq_true (by kernel_rfl))) (fun _ _ => (plain_int _ _).nn) d_rotate
theorem k_39 : KeepsC (gl Try.prog) C_sha256_schedule (fun _ => none) 39 #[] :=
  keeps_of (G := gl Try.prog) (E := envX [(41, C_sha256_right)] [] [] [] [] []) (envX_ok ⟨k_41, trivial⟩ trivial trivial trivial trivial trivial) Try.func39 (by kernel_rfl) (fun _ => (Nat.le_of_ble_eq_true (by kernel_rfl))) (fun _ _ => (plainA_ints _ _).nn) d_sha256_schedule
theorem k_42 : KeepsC (gl Try.prog) C_quiltref02_schedule (fun _ => none) 42 #[] :=
  keeps_of (G := gl Try.prog) (E := envX [(44, C_quiltref02_rotate)] [] [] [] [] []) (envX_ok ⟨k_44, trivial⟩ trivial trivial trivial trivial trivial) Try.func42 (by kernel_rfl) (fun _ => (Nat.le_of_ble_eq_true (by kernel_rfl))) (fun _ _ => (plainA_ints _ _).nn) d_ref_schedule
theorem k_40 : KeepsC (gl Try.prog) C_sha256_constants (fun _ => none) 40 #[] :=
  keeps_of (G := gl Try.prog) (E := envX [] [] [] [] [] []) (envX_ok trivial trivial trivial trivial trivial trivial) Try.func40 (by kernel_rfl) (fun _ => (Nat.le_of_ble_eq_true (by kernel_rfl))) (fun _ _ => (plainA_ints _ _).nn) d_constants
theorem k_43 : KeepsC (gl Try.prog) C_quiltref02_constants (fun _ => none) 43 #[] :=
  keeps_of (G := gl Try.prog) (E := envX [] [] [] [] [] []) (envX_ok trivial trivial trivial trivial trivial trivial) Try.func43 (by kernel_rfl) (fun _ => (Nat.le_of_ble_eq_true (by kernel_rfl))) (fun _ _ => (plainA_ints _ _).nn) d_ref_constants
theorem k_25 : KeepsC (gl Try.prog) C_sha256_initial (fun _ => none) 25 #[] :=
  keeps_of (G := gl Try.prog) (E := envX [] [] [] [] [] []) (envX_ok trivial trivial trivial trivial trivial trivial) Try.func25 (by kernel_rfl) (fun _ => (Nat.le_of_ble_eq_true (by kernel_rfl))) (fun _ _ => (plainA_ints _ _).nn) d_initial
theorem k_27 : KeepsC (gl Try.prog) C_sha256_compress (fun _ => none) 27 #[] :=
  keeps_of (G := gl Try.prog) (E := envX [(39, C_sha256_schedule), (40, C_sha256_constants), (41, C_sha256_right)] [] [] [] [] []) (envX_ok ⟨k_39, k_40, k_41, trivial⟩ trivial trivial trivial trivial trivial) Try.func27 (by kernel_rfl) (fun _ => (Nat.le_of_ble_eq_true (by kernel_rfl))) (fun _ _ => (plainA_ints _ _).nn) d_compress
theorem k_29 : KeepsC (gl Try.prog) C_quiltref02_step (fun _ => none) 29 #[] :=
  keeps_of (G := gl Try.prog) (E := envX [(42, C_quiltref02_schedule), (43, C_quiltref02_constants), (44, C_quiltref02_rotate)] [] [] [] [] []) (envX_ok ⟨k_42, k_43, k_44, trivial⟩ trivial trivial trivial trivial trivial) Try.func29 (by kernel_rfl) (fun _ => (Nat.le_of_ble_eq_true (by kernel_rfl))) (fun _ _ => (plainA_ints _ _).nn) d_step
theorem k_33 : KeepsC (gl Try.prog) C_quiltref02_zeros (fun _ => none) 33 #[] :=
  keeps_of (G := gl Try.prog) (E := envX [] [] [] [] [] []) (envX_ok trivial trivial trivial trivial trivial trivial) Try.func33 (by kernel_rfl) (fun _ => (Nat.le_of_ble_eq_true (by kernel_rfl))) (fun _ _ => (plain_str _).nn) d_ref_zeros
theorem k_28 : KeepsC (gl Try.prog) C_quiltref02_padded (fun _ => none) 28 #[] :=
  keeps_of (G := gl Try.prog) (E := envX [(33, C_quiltref02_zeros)] [] [] [] [] []) (envX_ok ⟨k_33, trivial⟩ trivial trivial trivial trivial trivial) Try.func28 (by kernel_rfl) (fun _ => (Nat.le_of_ble_eq_true (by kernel_rfl))) (fun _ _ => (plain_str _).nn) d_ref_padded
theorem k_32 : KeepsC (gl Try.prog) C_quiltref02_Bytes (fun _ => none) 32 #[] :=
  keeps_of (G := gl Try.prog) (E := envX [] [] [] [] [] []) (envX_ok trivial trivial trivial trivial trivial trivial) Try.func32 (by kernel_rfl) (fun _ => (Nat.le_of_ble_eq_true (by kernel_rfl))) (fun _ _ => (plain_str _).nn) d_ref_Bytes
theorem k_34 : KeepsC (gl Try.prog) C_quiltref02_mask (fun _ => none) 34 #[] :=
  keeps_of (G := gl Try.prog) (E := envX [] [] [] [] [] []) (envX_ok trivial trivial trivial trivial trivial trivial) Try.func34 (by kernel_rfl) (fun _ => (Nat.le_of_ble_eq_true (by kernel_rfl))) (fun _ _ => (plain_str _).nn) d_ref_mask
theorem k_12 : KeepsC (gl Try.prog) C_quiltref02_Sum (fun _ => none) 12 #[] :=
  keeps_of (G := gl Try.prog) (E := envX [(28, C_quiltref02_padded), (29, C_quiltref02_step)] [] [] [] [] []) (envX_ok ⟨k_28, k_29, trivial⟩ trivial trivial trivial trivial trivial) Try.func12 (by kernel_rfl) (fun _ => (Nat.le_of_ble_eq_true (by kernel_rfl))) (fun _ _ => (plainA_bys _).nn) d_ref_Sum
theorem k_15 : KeepsC (gl Try.prog) C_quiltref02_HMAC (fun _ => none) 15 #[] :=
  keeps_of (G := gl Try.prog) (E := envX [(12, C_quiltref02_Sum), (32, C_quiltref02_Bytes), (33, C_quiltref02_zeros), (34, C_quiltref02_mask)] [] [] [] [] []) (envX_ok ⟨k_12, k_32, k_33, k_34, trivial⟩ trivial trivial trivial trivial trivial) Try.func15 (by kernel_rfl) (fun _ => (Nat.le_of_ble_eq_true (by kernel_rfl))) (fun _ _ => (plainA_bys _).nn) d_ref_HMAC
theorem k_22 : KeepsC (gl Try.prog) C_quiltref02_Hex (fun _ => none) 22 #[] :=
  keeps_of (G := gl Try.prog) (E := envX [] [] [] [] [] []) (envX_ok trivial trivial trivial trivial trivial trivial) Try.func22 (by kernel_rfl) (fun _ => (Nat.le_of_ble_eq_true (by kernel_rfl))) (fun _ _ => (plain_str _).nn) d_ref_Hex
theorem k_37 : KeepsC (gl Try.prog) C_quiltref02_digit (fun _ => none) 37 #[] :=
  keeps_of (G := gl Try.prog) (E := envX [] [] [] [] [] []) (envX_ok trivial trivial trivial trivial trivial trivial) Try.func37 (by kernel_rfl) (fun _ => (Nat.le_of_ble_eq_true (by kernel_rfl))) (fun _ _ => (plain_int _ _).nn) d_ref_digit
theorem k_21 : KeepsC (gl Try.prog) C_quiltref02_Parse (fun _ => none) 21 #[] :=
  keeps_of (G := gl Try.prog) (E := envX [(37, C_quiltref02_digit)] [] [] [] [] []) (envX_ok ⟨k_37, trivial⟩ trivial trivial trivial trivial trivial) Try.func21 (by kernel_rfl) (fun _ => (Nat.le_of_ble_eq_true (by kernel_rfl))) (nn_parse) d_ref_Parse
theorem k_23 : KeepsC (gl Try.prog) C_quiltref02_Compare (fun _ => none) 23 #[] :=
  keeps_of (G := gl Try.prog) (E := envX [] [] [] [] [] []) (envX_ok trivial trivial trivial trivial trivial trivial) Try.func23 (by kernel_rfl) (fun _ => (Nat.le_of_ble_eq_true (by kernel_rfl))) (fun _ _ => (plain_int _ _).nn) d_ref_Compare
theorem k_24 : KeepsC (gl Try.prog) C_quiltref02_Xor (fun _ => none) 24 #[] :=
  keeps_of (G := gl Try.prog) (E := envX [] [] [] [] [] []) (envX_ok trivial trivial trivial trivial trivial trivial) Try.func24 (by kernel_rfl) (fun _ => (Nat.le_of_ble_eq_true (by kernel_rfl))) (fun _ _ => (plainA_bys _).nn) d_ref_Xor
theorem k_38 : KeepsI (gl Try.prog) T_sha256_blocks_1 38 :=
  keepsI_of (G := gl Try.prog) (E := envX [] [] [] [] [] []) (envX_ok trivial trivial trivial trivial trivial trivial) Try.func38 (by kernel_rfl) (Nat.le_of_ble_eq_true (by kernel_rfl))
theorem k_26 : KeepsH (gl Try.prog) H_sha256_blocks 26 :=
  keepsH_of (G := gl Try.prog) (E := envX [] [(38, 2)] [] [] [] []) (envX_ok trivial ⟨rfl, trivial⟩ trivial trivial trivial trivial) Try.func26 (by kernel_rfl) (Nat.le_of_ble_eq_true (by kernel_rfl))
theorem k_11 : KeepsC (gl Try.prog) C_sha256_Sum (fun _ => none) 11 #[] :=
  keeps_of (G := gl Try.prog) (E := envX [(25, C_sha256_initial), (27, C_sha256_compress)] [] [] [(26, H_sha256_blocks)] [] [(2, T_sha256_blocks_1)]) (envX_ok ⟨k_25, k_27, trivial⟩ trivial trivial ⟨k_26, trivial⟩ trivial ⟨k_38, trivial⟩) Try.func11 (by kernel_rfl) (fun _ => (Nat.le_of_ble_eq_true (by kernel_rfl))) (fun _ _ => (plainA_bys _).nn) d_sha256_Sum
theorem k_31 : KeepsC (gl Try.prog) C_sha256_HMAC_1 (fun _ => none) 31 #[] :=
  keeps_of (G := gl Try.prog) (E := envX [] [] [] [] [] []) (envX_ok trivial trivial trivial trivial trivial trivial) Try.func31 (by kernel_rfl) (fun _ => (Nat.le_of_ble_eq_true (by kernel_rfl))) (fun _ _ => (plain_str _).nn) d_sha256_HMAC_1
theorem k_14 : KeepsC (gl Try.prog) C_sha256_HMAC (fun _ => none) 14 #[] :=
  keeps_of (G := gl Try.prog) (E := envX [(11, C_sha256_Sum), (30, C_strings_Repeat)] [(31, 1)] [(1, C_sha256_HMAC_1)] [] [] []) (envX_ok ⟨k_11, k_30, trivial⟩ ⟨rfl, trivial⟩ ⟨k_31, trivial⟩ trivial trivial trivial) Try.func14 (by kernel_rfl) (fun _ => (Nat.le_of_ble_eq_true (by kernel_rfl))) (fun _ _ => (plainA_bys _).nn) d_sha256_HMAC
theorem k_18 : KeepsC (gl Try.prog) C_sha256_Hex (fun _ => none) 18 #[] :=
  keeps_of (G := gl Try.prog) (E := envX [] [] [] [] [] []) (envX_ok trivial trivial trivial trivial trivial trivial) Try.func18 (by kernel_rfl) (fun _ => (Nat.le_of_ble_eq_true (by kernel_rfl))) (fun _ _ => (plain_str _).nn) d_sha256_Hex
theorem k_52 : KeepsC (gl Try.prog) C_internal_stringslite_IndexByte (fun _ => none) 52 #[] :=
  keeps_of (G := gl Try.prog) (E := envX [(59, C_internal_bytealg_IndexByteString)] [] [] [] [] []) (envX_ok ⟨k_59, trivial⟩ trivial trivial trivial trivial trivial) Try.func52 (by kernel_rfl) (fun _ => (Nat.le_of_ble_eq_true (by kernel_rfl))) (fun _ _ => (plain_int _ _).nn) d_stringslite_IndexByte
theorem k_36 : KeepsC (gl Try.prog) C_strings_IndexByte (fun _ => none) 36 #[] :=
  keeps_of (G := gl Try.prog) (E := envX [(52, C_internal_stringslite_IndexByte)] [] [] [] [] []) (envX_ok ⟨k_52, trivial⟩ trivial trivial trivial trivial trivial) Try.func36 (by kernel_rfl) (fun _ => (Nat.le_of_ble_eq_true (by kernel_rfl))) (fun _ _ => (plain_int _ _).nn) d_strings_IndexByte
theorem k_20 : KeepsC (gl Try.prog) C_sha256_Parse (fun _ => none) 20 #[] :=
  keeps_of (G := gl Try.prog) (E := envX [(36, C_strings_IndexByte)] [] [] [] [] []) (envX_ok ⟨k_36, trivial⟩ trivial trivial trivial trivial trivial) Try.func20 (by kernel_rfl) (fun _ => (Nat.le_of_ble_eq_true (by kernel_rfl))) (nn_parse) d_sha256_Parse
theorem k_35 : KeepsC (gl Try.prog) C_bytes_Compare (fun _ => none) 35 #[] :=
  keeps_of (G := gl Try.prog) (E := envX [(51, C_internal_bytealg_Compare)] [] [] [] [] []) (envX_ok ⟨k_51, trivial⟩ trivial trivial trivial trivial trivial) Try.func35 (by kernel_rfl) (fun _ => (Nat.le_of_ble_eq_true (by kernel_rfl))) (fun _ _ => (plain_int _ _).nn) d_bytes_Compare
theorem k_17 : KeepsC (gl Try.prog) C_sha256_Compare (fun _ => none) 17 #[] :=
  keeps_of (G := gl Try.prog) (E := envX [(35, C_bytes_Compare)] [] [] [] [] []) (envX_ok ⟨k_35, trivial⟩ trivial trivial trivial trivial trivial) Try.func17 (by kernel_rfl) (fun _ => (Nat.le_of_ble_eq_true (by kernel_rfl))) (fun _ _ => (plain_int _ _).nn) d_sha256_Compare
theorem k_19 : KeepsC (gl Try.prog) C_sha256_Xor (fun _ => none) 19 #[] :=
  keeps_of (G := gl Try.prog) (E := envX [] [] [] [] [] []) (envX_ok trivial trivial trivial trivial trivial trivial) Try.func19 (by kernel_rfl) (fun _ => (Nat.le_of_ble_eq_true (by kernel_rfl))) (fun _ _ => (plainA_bys _).nn) d_sha256_Xor
theorem k_16 : KeepsC (gl Try.prog) C_quiltlaw02_masked (fun _ => none) 16 #[] :=
  keeps_of (G := gl Try.prog) (E := envX [] [] [] [] [] []) (envX_ok trivial trivial trivial trivial trivial trivial) Try.func16 (by kernel_rfl) (fun _ => (Nat.le_of_ble_eq_true (by kernel_rfl))) (fun _ _ => (plain_str _).nn) d_masked
theorem k_13 : KeepsC (gl Try.prog) C_quiltlaw02_awake (fun _ => none) 13 #[] :=
  keeps_of (G := gl Try.prog) (E := envX [(11, C_sha256_Sum), (18, C_sha256_Hex), (14, C_sha256_HMAC)] [] [] [] [] []) (envX_ok ⟨k_11, k_18, k_14, trivial⟩ trivial trivial trivial trivial trivial) Try.func13 (by kernel_rfl) (fun _ => (Nat.le_of_ble_eq_true (by kernel_rfl))) (fun _ _ => (plain_bool _).nn) d_awake
theorem k_3 : KeepsC (gl Try.prog) C_quiltlaw02_Sha256Sum (fun _ => none) 3 #[] :=
  keeps_of (G := gl Try.prog) (E := envX [(11, C_sha256_Sum), (12, C_quiltref02_Sum), (13, C_quiltlaw02_awake)] [] [] [] [] []) (envX_ok ⟨k_11, k_12, k_13, trivial⟩ trivial trivial trivial trivial trivial) Try.func3 (by kernel_rfl) (fun _ => (Nat.le_of_ble_eq_true (by kernel_rfl))) (fun _ _ => (plain_bool _).nn) d_law_Sum
theorem k_4 : KeepsC (gl Try.prog) C_quiltlaw02_Sha256HMAC (fun _ => none) 4 #[] :=
  keeps_of (G := gl Try.prog) (E := envX [(14, C_sha256_HMAC), (15, C_quiltref02_HMAC), (13, C_quiltlaw02_awake)] [] [] [] [] []) (envX_ok ⟨k_14, k_15, k_13, trivial⟩ trivial trivial trivial trivial trivial) Try.func4 (by kernel_rfl) (fun _ => (Nat.le_of_ble_eq_true (by kernel_rfl))) (fun _ _ => (plain_bool _).nn) d_law_HMAC
theorem k_5 : KeepsC (gl Try.prog) C_quiltlaw02_Sha256Nested (fun _ => none) 5 #[] :=
  keeps_of (G := gl Try.prog) (E := envX [(13, C_quiltlaw02_awake), (16, C_quiltlaw02_masked), (11, C_sha256_Sum), (14, C_sha256_HMAC)] [] [] [] [] []) (envX_ok ⟨k_13, k_16, k_11, k_14, trivial⟩ trivial trivial trivial trivial trivial) Try.func5 (by kernel_rfl) (fun _ => (Nat.le_of_ble_eq_true (by kernel_rfl))) (fun _ _ => (plain_bool _).nn) d_law_Nested
theorem k_6 : KeepsC (gl Try.prog) C_quiltlaw02_Sha256Keys (fun _ => none) 6 #[] :=
  keeps_of (G := gl Try.prog) (E := envX [(13, C_quiltlaw02_awake), (14, C_sha256_HMAC), (11, C_sha256_Sum)] [] [] [] [] []) (envX_ok ⟨k_13, k_14, k_11, trivial⟩ trivial trivial trivial trivial trivial) Try.func6 (by kernel_rfl) (fun _ => (Nat.le_of_ble_eq_true (by kernel_rfl))) (fun _ _ => (plain_bool _).nn) d_law_Keys
theorem k_7 : KeepsC (gl Try.prog) C_quiltlaw02_Sha256Order (fun _ => none) 7 #[] :=
  keeps_of (G := gl Try.prog) (E := envX [(17, C_sha256_Compare), (18, C_sha256_Hex), (13, C_quiltlaw02_awake)] [] [] [] [] []) (envX_ok ⟨k_17, k_18, k_13, trivial⟩ trivial trivial trivial trivial trivial) Try.func7 (by kernel_rfl) (fun _ => (Nat.le_of_ble_eq_true (by kernel_rfl))) (fun _ _ => (plain_bool _).nn) d_law_Order
theorem k_8 : KeepsC (gl Try.prog) C_quiltlaw02_Sha256Xor (fun _ => none) 8 #[] :=
  keeps_of (G := gl Try.prog) (E := envX [(19, C_sha256_Xor), (13, C_quiltlaw02_awake)] [] [] [] [] []) (envX_ok ⟨k_19, k_13, trivial⟩ trivial trivial trivial trivial trivial) Try.func8 (by kernel_rfl) (fun _ => (Nat.le_of_ble_eq_true (by kernel_rfl))) (fun _ _ => (plain_bool _).nn) d_law_Xor
theorem k_9 : KeepsC (gl Try.prog) C_quiltlaw02_Sha256RoundTrip (fun _ => none) 9 #[] :=
  keeps_of (G := gl Try.prog) (E := envX [(13, C_quiltlaw02_awake), (18, C_sha256_Hex), (20, C_sha256_Parse)] [] [] [] [] []) (envX_ok ⟨k_13, k_18, k_20, trivial⟩ trivial trivial trivial trivial trivial) Try.func9 (by kernel_rfl) (fun _ => (Nat.le_of_ble_eq_true (by kernel_rfl))) (fun _ _ => (plain_bool _).nn) d_law_RoundTrip
theorem k_10 : KeepsC (gl Try.prog) C_quiltlaw02_Sha256Digests (fun _ => none) 10 #[] :=
  keeps_of (G := gl Try.prog) (E := envX [(13, C_quiltlaw02_awake), (20, C_sha256_Parse), (21, C_quiltref02_Parse), (18, C_sha256_Hex), (22, C_quiltref02_Hex), (17, C_sha256_Compare), (23, C_quiltref02_Compare), (19, C_sha256_Xor), (24, C_quiltref02_Xor)] [] [] [] [] []) (envX_ok ⟨k_13, k_20, k_21, k_18, k_22, k_17, k_23, k_19, k_24, trivial⟩ trivial trivial trivial trivial trivial) Try.func10 (by kernel_rfl) (fun _ => (Nat.le_of_ble_eq_true (by kernel_rfl))) (fun _ _ => (plain_bool _).nn) d_law_Digests

end Go.Proofs.Ytkgemnhblcfacaa
