/-
  Chapter 32: the tie to the program.
-/
import Derived.Test.YtgioceapingblaaDoorChecked
import Derived.Test.YtgioceapingblaaDoorSh
import Derived.Test.YtgioceapingblaaDoorPv
import Derived.Test.YtgioceapingblaaDoorPf
import Derived.Test.YtgioceapingblaaDoorPg

/-
  The functions of this seat do what their intermediate forms say (printed by a program).
-/
namespace Go.Proofs.YtgioceapingblaaDoor
open Go.RowKit Qk

/-- The program, and the functions that closures stand for. -/
def gl (P : Program) : Gl := ⟨P, fun t => match t with | 1 => 59 | 2 => 62 | 3 => 76 | 4 => 65 | _ => 0, 5, 57⟩

theorem k_38 : KeepsC (gl Tryd.prog) C_strings_Index (fun _ => none) 38 #[] :=
  keeps_Index (G := gl Tryd.prog) Tryd.func38 (by kernel_rfl) (by kernel_rfl) (fun s c w => Tryd.strings_Index_one s c w)
theorem k_43 : KeepsF (gl Tryd.prog) F_strings_genSplit 43 :=
  keeps_genSplit (G := gl Tryd.prog) Tryd.func43 (by kernel_rfl) (by kernel_rfl) qk_genSplit
theorem k_28 : KeepsF (gl Tryd.prog) F_strings_Split 28 :=
  keepsF_of (G := gl Tryd.prog) (E := envX [] [] [] [] [] [] [(43, F_strings_genSplit)] 5 57 []) (envX_ok trivial trivial trivial trivial trivial trivial ⟨k_43, trivial⟩ trivial) Tryd.func28 (by kernel_rfl) (fun _ => (Nat.le_of_ble_eq_true (by kernel_rfl))) d_strings_Split
theorem k_20 : KeepsC (gl Tryd.prog) C_strings_Contains (fun _ => none) 20 #[] :=
  keeps_of (G := gl Tryd.prog) (E := envX [(38, C_strings_Index)] [] [] [] [] [] [] 5 57 []) (envX_ok ⟨k_38, trivial⟩ trivial trivial trivial trivial trivial trivial trivial) Tryd.func20 (by kernel_rfl) (fun _ => (Nat.le_of_ble_eq_true (by kernel_rfl))) (fun _ _ => (plain_bool _).nn) d_contains
theorem k_42 : KeepsC (gl Tryd.prog) C_internal_stringslite_HasPrefix (fun _ => none) 42 #[] :=
  keeps_of (G := gl Tryd.prog) (E := envX [] [] [] [] [] [] [] 5 57 []) (envX_ok trivial trivial trivial trivial trivial trivial trivial trivial) Tryd.func42 (by kernel_rfl) (fun _ => (Nat.le_of_ble_eq_true (by kernel_rfl))) (fun _ _ => (plain_bool _).nn) d_hasPrefix_lite
theorem k_27 : KeepsC (gl Tryd.prog) C_strings_HasPrefix (fun _ => none) 27 #[] :=
  keeps_of (G := gl Tryd.prog) (E := envX [(42, C_internal_stringslite_HasPrefix)] [] [] [] [] [] [] 5 57 []) (envX_ok ⟨k_42, trivial⟩ trivial trivial trivial trivial trivial trivial trivial) Tryd.func27 (by kernel_rfl) (fun _ => (Nat.le_of_ble_eq_true (by kernel_rfl))) (fun _ _ => (plain_bool _).nn) d_hasPrefix
theorem k_55 : KeepsH (gl Tryd.prog) H___strings_Builder__copyCheck 55 :=
  keeps_copyCheck Tryd.func55 (by kernel_rfl) (by kernel_rfl) (fun b w h => Any.Builder_copyCheck_used { Tryd.lays165 with } Tryd.Builder_Extra_165.toX72 b w h) (fun b w h1 h2 h3 => Any.Builder_copyCheck_fresh { Tryd.lays165 with } Tryd.Builder_Extra_165.toX72 b w h1 h2 h3)
theorem k_39 : KeepsH (gl Tryd.prog) H___strings_Builder__String 39 :=
  keeps_String Tryd.func39 (by kernel_rfl) (by kernel_rfl) (fun b p w h => qk_builder_none Tryd.lays169 Tryd.Builder_Extra_169 b p w h) (fun b g cap p cur fr l w h0 h1 h2 h3 h4 h5 h6 h7 => qk_builder_row Tryd.lays169 Tryd.Builder_Extra_169 b g cap p cur fr l w h0 h1 h2 h3 h4 h5 h6 h7)
theorem k_40 : KeepsH (gl Tryd.prog) H___strings_Builder__WriteByte 40 :=
  KeepsH.weak (keepsH_of (F := ir___strings_Builder__WriteByte) (n := 2) (G := gl Tryd.prog) (E := envX [] [] [] [(55, H___strings_Builder__copyCheck)] [] [] [] 5 57 []) (envX_ok trivial trivial trivial ⟨k_55, trivial⟩ trivial trivial trivial trivial) Tryd.func40 (by kernel_rfl) (Nat.le_of_ble_eq_true (by kernel_rfl))) w_WriteByte
theorem k_59 : KeepsC (gl Tryd.prog) C_glob_any (fun _ => none) 59 #[] :=
  keeps_of (G := gl Tryd.prog) (E := envX [] [] [] [] [] [] [] 5 57 []) (envX_ok trivial trivial trivial trivial trivial trivial trivial trivial) Tryd.func59 (by kernel_rfl) (fun _ => (Nat.le_of_ble_eq_true (by kernel_rfl))) (fun _ _ => (plain_bool _).nn) d_any
theorem k_62 : KeepsC (gl Tryd.prog) C_glob_lit (fun _ => none) 62 #[] :=
  keeps_of (G := gl Tryd.prog) (E := envX [] [] [] [] [] [] [] 5 57 []) (envX_ok trivial trivial trivial trivial trivial trivial trivial trivial) Tryd.func62 (by kernel_rfl) (fun _ => (Nat.le_of_ble_eq_true (by kernel_rfl))) (fun _ _ => (plain_bool _).nn) d_lit
theorem k_76 : KeepsC (gl Tryd.prog) C_glob_cls (fun _ => none) 76 #[] :=
  keeps_of (G := gl Tryd.prog) (E := envX [] [] [] [] [] [] [] 5 57 []) (envX_ok trivial trivial trivial trivial trivial trivial trivial trivial) Tryd.func76 (by kernel_rfl) (fun _ => (Nat.le_of_ble_eq_true (by kernel_rfl))) (fun _ _ => (plain_bool _).nn) d_cls
theorem k_61 : KeepsH (gl Tryd.prog) H___quilt_glob_parser__plain 61 :=
  keepsH_of (G := gl Tryd.prog) (E := envX [] [] [] [] [] [] [] 5 57 []) (envX_ok trivial trivial trivial trivial trivial trivial trivial trivial) Tryd.func61 (by kernel_rfl) (Nat.le_of_ble_eq_true (by kernel_rfl))
theorem k_75 : KeepsH (gl Tryd.prog) H___quilt_glob_parser__peek 75 :=
  keepsH_of (G := gl Tryd.prog) (E := envX [] [] [] [] [] [] [] 5 57 []) (envX_ok trivial trivial trivial trivial trivial trivial trivial trivial) Tryd.func75 (by kernel_rfl) (Nat.le_of_ble_eq_true (by kernel_rfl))
theorem k_77 : KeepsH (gl Tryd.prog) H_glob_some 77 :=
  keepsH_of (G := gl Tryd.prog) (E := envX [] [] [(1000059, C_glob_any), (2, C_glob_lit), (3, C_glob_cls)] [] [] [] [] 5 57 []) (envX_ok trivial trivial ⟨k_59, k_62, k_76, trivial⟩ trivial trivial trivial trivial trivial) Tryd.func77 (by kernel_rfl) (Nat.le_of_ble_eq_true (by kernel_rfl))
theorem k_60 : KeepsH (gl Tryd.prog) H___quilt_glob_parser__class 60 :=
  keepsH_of (G := gl Tryd.prog) (E := envX [] [(76, 3)] [(3, C_glob_cls)] [(75, H___quilt_glob_parser__peek), (61, H___quilt_glob_parser__plain), (77, H_glob_some)] [] [] [] 5 57 []) (envX_ok trivial ⟨rfl, trivial⟩ ⟨k_76, trivial⟩ ⟨k_75, k_61, k_77, trivial⟩ trivial trivial trivial trivial) Tryd.func60 (by kernel_rfl) (Nat.le_of_ble_eq_true (by kernel_rfl))
theorem k_46 : KeepsH (gl Tryd.prog) H___quilt_glob_parser__one 46 :=
  keepsH_of (G := gl Tryd.prog) (E := envX [] [(62, 2)] [(2, C_glob_lit)] [(60, H___quilt_glob_parser__class), (61, H___quilt_glob_parser__plain)] [] [] [] 5 57 []) (envX_ok trivial ⟨rfl, trivial⟩ ⟨k_62, trivial⟩ ⟨k_60, k_61, trivial⟩ trivial trivial trivial trivial) Tryd.func46 (by kernel_rfl) (Nat.le_of_ble_eq_true (by kernel_rfl))
theorem k_30 : KeepsC (gl Tryd.prog) C_glob_parse (fun _ => none) 30 #[] :=
  keeps_of (G := gl Tryd.prog) (E := envX [] [] [] [(46, H___quilt_glob_parser__one)] [] [] [(28, F_strings_Split)] 5 57 []) (envX_ok trivial trivial trivial ⟨k_46, trivial⟩ trivial trivial ⟨k_28, trivial⟩ trivial) Tryd.func30 (by kernel_rfl) (fun _ => (Nat.le_of_ble_eq_true (by kernel_rfl))) (fun x _ => nn_parse32 x) d_parse
theorem k_32 : KeepsF (gl Tryd.prog) F_glob_split 32 :=
  keepsF_of (G := gl Tryd.prog) (E := envX [] [] [] [] [] [] [(28, F_strings_Split)] 5 57 []) (envX_ok trivial trivial trivial trivial trivial trivial ⟨k_28, trivial⟩ trivial) Tryd.func32 (by kernel_rfl) (fun _ => (Nat.le_of_ble_eq_true (by kernel_rfl))) d_split
theorem k_51 : KeepsC (gl Tryd.prog) C_glob_ended (fun _ => none) 51 #[] :=
  keeps_of (G := gl Tryd.prog) (E := envX [] [] [] [] [] [] [] 5 57 []) (envX_ok trivial trivial trivial trivial trivial trivial trivial trivial) Tryd.func51 (by kernel_rfl) (fun _ => (Nat.le_of_ble_eq_true (by kernel_rfl))) (fun _ _ => (plain_bool _).nn) d_ended
theorem k_65 : KeepsI (gl Tryd.prog) T_glob_after_1 65 :=
  keepsI_of (G := gl Tryd.prog) (E := envX [] [] [(1000059, C_glob_any), (2, C_glob_lit), (3, C_glob_cls)] [] [] [] [] 5 57 []) (envX_ok trivial trivial ⟨k_59, k_62, k_76, trivial⟩ trivial trivial trivial trivial trivial) Tryd.func65 (by kernel_rfl) (Nat.le_of_ble_eq_true (by kernel_rfl))
theorem k_52 : KeepsB (gl Tryd.prog) B_glob_after 52 :=
  keepsB_of (G := gl Tryd.prog) (E := envX [] [(65, 4)] [] [] [] [] [] 5 57 []) (envX_ok trivial ⟨rfl, trivial⟩ trivial trivial trivial trivial trivial trivial) Tryd.func52 (by kernel_rfl) (fun _ => (Nat.le_of_ble_eq_true (by kernel_rfl))) d_after
theorem k_48 : KeepsC (gl Tryd.prog) C__quilt_glob_component__fits (fun _ => none) 48 #[] :=
  keeps_of (G := gl Tryd.prog) (E := envX [(51, C_glob_ended)] [] [] [] [] [(4, T_glob_after_1)] [] 5 57 [(52, B_glob_after)]) (envX_ok ⟨k_51, trivial⟩ trivial trivial trivial trivial ⟨k_65, trivial⟩ trivial ⟨k_52, trivial⟩) Tryd.func48 (by kernel_rfl) (fun _ => (Nat.le_of_ble_eq_true (by kernel_rfl))) (fun _ _ => (plain_bool _).nn) d_fits
theorem k_47 : KeepsH (gl Tryd.prog) H_glob_closure 47 :=
  keepsH_of (G := gl Tryd.prog) (E := envX [] [] [] [] [] [] [] 5 57 []) (envX_ok trivial trivial trivial trivial trivial trivial trivial trivial) Tryd.func47 (by kernel_rfl) (Nat.le_of_ble_eq_true (by kernel_rfl))
theorem k_31 : KeepsH (gl Tryd.prog) H_glob_walk 31 :=
  keepsH_of (G := gl Tryd.prog) (E := envX [(48, C__quilt_glob_component__fits)] [] [] [(47, H_glob_closure)] [] [] [] 5 57 []) (envX_ok ⟨k_48, trivial⟩ trivial trivial ⟨k_47, trivial⟩ trivial trivial trivial trivial) Tryd.func31 (by kernel_rfl) (Nat.le_of_ble_eq_true (by kernel_rfl))
theorem k_13 : KeepsC (gl Tryd.prog) C_glob_Match (fun _ => none) 13 #[] :=
  keeps_of (G := gl Tryd.prog) (E := envX [(30, C_glob_parse)] [] [] [(31, H_glob_walk)] [] [] [(32, F_glob_split)] 5 57 []) (envX_ok ⟨k_30, trivial⟩ trivial trivial ⟨k_31, trivial⟩ trivial trivial ⟨k_32, trivial⟩ trivial) Tryd.func13 (by kernel_rfl) (fun _ => (Nat.le_of_ble_eq_true (by kernel_rfl))) (fun _ _ => (plain_bool _).nn) d_match
theorem k_15 : KeepsC (gl Tryd.prog) C_glob_Below (fun _ => none) 15 #[] :=
  keeps_of (G := gl Tryd.prog) (E := envX [(30, C_glob_parse)] [] [] [(31, H_glob_walk)] [] [] [(32, F_glob_split)] 5 57 []) (envX_ok ⟨k_30, trivial⟩ trivial trivial ⟨k_31, trivial⟩ trivial trivial ⟨k_32, trivial⟩ trivial) Tryd.func15 (by kernel_rfl) (fun _ => (Nat.le_of_ble_eq_true (by kernel_rfl))) (fun _ _ => (plain_bool _).nn) d_below
theorem k_36 : KeepsC (gl Tryd.prog) C_glob_common (fun _ => none) 36 #[] :=
  keeps_of (G := gl Tryd.prog) (E := envX [(51, C_glob_ended)] [] [] [] [] [(4, T_glob_after_1)] [] 5 57 [(52, B_glob_after)]) (envX_ok ⟨k_51, trivial⟩ trivial trivial trivial trivial ⟨k_65, trivial⟩ trivial ⟨k_52, trivial⟩) Tryd.func36 (by kernel_rfl) (fun _ => (Nat.le_of_ble_eq_true (by kernel_rfl))) (fun _ _ => (plain_bool _).nn) d_common
theorem k_18 : KeepsC (gl Tryd.prog) C_glob_Overlap (fun _ => none) 18 #[] :=
  keeps_of (G := gl Tryd.prog) (E := envX [(30, C_glob_parse), (36, C_glob_common)] [] [] [] [] [] [] 5 57 []) (envX_ok ⟨k_30, k_36, trivial⟩ trivial trivial trivial trivial trivial trivial trivial) Tryd.func18 (by kernel_rfl) (fun _ => (Nat.le_of_ble_eq_true (by kernel_rfl))) (fun _ _ => (plain_bool _).nn) d_overlap
theorem k_21 : KeepsC (gl Tryd.prog) C_glob_Check (fun _ => none) 21 #[] :=
  keeps_of (G := gl Tryd.prog) (E := envX [(30, C_glob_parse)] [] [] [] [] [] [] 5 57 []) (envX_ok ⟨k_30, trivial⟩ trivial trivial trivial trivial trivial trivial trivial) Tryd.func21 (by kernel_rfl) (fun _ => (Nat.le_of_ble_eq_true (by kernel_rfl))) (fun _ _ => (plain_int _ _).nn) d_check
theorem k_23 : KeepsC (gl Tryd.prog) C_glob_Fixed (fun _ => none) 23 #[] :=
  keeps_of (G := gl Tryd.prog) (E := envX [(30, C_glob_parse)] [] [] [(39, H___strings_Builder__String), (40, H___strings_Builder__WriteByte)] [] [] [] 5 57 []) (envX_ok ⟨k_30, trivial⟩ trivial trivial ⟨k_39, k_40, trivial⟩ trivial trivial trivial trivial) Tryd.func23 (by kernel_rfl) (fun _ => (Nat.le_of_ble_eq_true (by kernel_rfl))) (fun _ _ => (plain_str _).nn) d_fixed
theorem k_17 : KeepsC (gl Tryd.prog) C_quiltlaw32_awake (fun _ => none) 17 #[] :=
  keeps_of (G := gl Tryd.prog) (E := envX [(13, C_glob_Match), (23, C_glob_Fixed), (18, C_glob_Overlap), (15, C_glob_Below)] [] [] [] [] [] [] 5 57 []) (envX_ok ⟨k_13, k_23, k_18, k_15, trivial⟩ trivial trivial trivial trivial trivial trivial trivial) Tryd.func17 (by kernel_rfl) (fun _ => (Nat.le_of_ble_eq_true (by kernel_rfl))) (fun _ _ => (plain_bool _).nn) d_awake
theorem k_12 : KeepsC (gl Tryd.prog) C_quiltlaw32_long (fun _ => none) 12 #[] :=
  keeps_of (G := gl Tryd.prog) (E := envX [] [] [] [] [] [] [] 5 57 []) (envX_ok trivial trivial trivial trivial trivial trivial trivial trivial) Tryd.func12 (by kernel_rfl) (fun _ => (Nat.le_of_ble_eq_true (by kernel_rfl))) (fun _ _ => (plain_bool _).nn) d_long
theorem k_25 : KeepsC (gl Tryd.prog) C_quiltlaw32_whole (fun _ => none) 25 #[] :=
  keeps_of (G := gl Tryd.prog) (E := envX [] [] [] [] [] [] [(28, F_strings_Split)] 5 57 []) (envX_ok trivial trivial trivial trivial trivial trivial ⟨k_28, trivial⟩ trivial) Tryd.func25 (by kernel_rfl) (fun _ => (Nat.le_of_ble_eq_true (by kernel_rfl))) (fun _ _ => (plain_bool _).nn) d_whole
theorem k_26 : KeepsC (gl Tryd.prog) C_quiltlaw32_quoted (fun _ => none) 26 #[] :=
  keeps_of (G := gl Tryd.prog) (E := envX [] [] [] [] [] [] [] 5 57 []) (envX_ok trivial trivial trivial trivial trivial trivial trivial trivial) Tryd.func26 (by kernel_rfl) (fun _ => (Nat.le_of_ble_eq_true (by kernel_rfl))) (fun _ _ => (plain_str _).nn) d_quoted
theorem k_5 : KeepsC (gl Tryd.prog) C_law3 (fun _ => none) 5 #[] :=
  keeps_of (G := gl Tryd.prog) (E := envX [(20, C_strings_Contains), (13, C_glob_Match), (17, C_quiltlaw32_awake)] [] [] [] [] [] [] 5 57 []) (envX_ok ⟨k_20, k_13, k_17, trivial⟩ trivial trivial trivial trivial trivial trivial trivial) Tryd.func5 (by kernel_rfl) (fun _ => (Nat.le_of_ble_eq_true (by kernel_rfl))) (fun _ _ => (plain_bool _).nn) d_GlobDeep
theorem k_7 : KeepsC (gl Tryd.prog) C_law2 (fun _ => none) 7 #[] :=
  keeps_of (G := gl Tryd.prog) (E := envX [(12, C_quiltlaw32_long), (25, C_quiltlaw32_whole), (17, C_quiltlaw32_awake), (26, C_quiltlaw32_quoted), (21, C_glob_Check), (13, C_glob_Match), (23, C_glob_Fixed)] [] [] [] [] [] [] 5 57 []) (envX_ok ⟨k_12, k_25, k_17, k_26, k_21, k_13, k_23, trivial⟩ trivial trivial trivial trivial trivial trivial trivial) Tryd.func7 (by kernel_rfl) (fun _ => (Nat.le_of_ble_eq_true (by kernel_rfl))) (fun _ _ => (plain_bool _).nn) d_GlobQuoted
theorem k_8 : KeepsC (gl Tryd.prog) C_law3 (fun _ => none) 8 #[] :=
  keeps_of (G := gl Tryd.prog) (E := envX [(12, C_quiltlaw32_long), (17, C_quiltlaw32_awake), (13, C_glob_Match), (18, C_glob_Overlap), (21, C_glob_Check)] [] [] [] [] [] [] 5 57 []) (envX_ok ⟨k_12, k_17, k_13, k_18, k_21, trivial⟩ trivial trivial trivial trivial trivial trivial trivial) Tryd.func8 (by kernel_rfl) (fun _ => (Nat.le_of_ble_eq_true (by kernel_rfl))) (fun _ _ => (plain_bool _).nn) d_GlobMeets
theorem k_9 : KeepsC (gl Tryd.prog) C_law3 (fun _ => none) 9 #[] :=
  keeps_of (G := gl Tryd.prog) (E := envX [(25, C_quiltlaw32_whole), (17, C_quiltlaw32_awake), (13, C_glob_Match), (15, C_glob_Below), (21, C_glob_Check)] [] [] [] [] [] [] 5 57 []) (envX_ok ⟨k_25, k_17, k_13, k_15, k_21, trivial⟩ trivial trivial trivial trivial trivial trivial trivial) Tryd.func9 (by kernel_rfl) (fun _ => (Nat.le_of_ble_eq_true (by kernel_rfl))) (fun _ _ => (plain_bool _).nn) d_GlobBelow
theorem k_10 : KeepsC (gl Tryd.prog) C_law2 (fun _ => none) 10 #[] :=
  keeps_of (G := gl Tryd.prog) (E := envX [(12, C_quiltlaw32_long), (13, C_glob_Match), (17, C_quiltlaw32_awake), (23, C_glob_Fixed), (27, C_strings_HasPrefix), (21, C_glob_Check)] [] [] [] [] [] [] 5 57 []) (envX_ok ⟨k_12, k_13, k_17, k_23, k_27, k_21, trivial⟩ trivial trivial trivial trivial trivial trivial trivial) Tryd.func10 (by kernel_rfl) (fun _ => (Nat.le_of_ble_eq_true (by kernel_rfl))) (fun _ _ => (plain_bool _).nn) d_GlobFixed

end Go.Proofs.YtgioceapingblaaDoor
