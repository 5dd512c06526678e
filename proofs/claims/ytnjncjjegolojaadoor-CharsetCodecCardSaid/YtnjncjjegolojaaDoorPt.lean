/-
  Chapter 57: the tie to the program.
-/
import Derived.Test.YtnjncjjegolojaaDoorChecked
import Derived.Test.YtnjncjjegolojaaDoorSh
import Derived.Test.YtnjncjjegolojaaDoorPv
import Derived.Test.YtnjncjjegolojaaDoorPi

/-
  The functions of this seat do what their intermediate forms say (printed by a program).
-/
namespace Go.Proofs.YtnjncjjegolojaaDoor
open Go.RowKit Qk

/-- The program, and the functions that closures stand for. -/
def gl (P : Program) : Gl := ⟨P, fun t => match t with | 1 => 95 | 2 => 98 | 3 => 112 | 4 => 114 | 5 => 88 | 6 => 87 | _ => 0, 5, 106, base57, mono57⟩

theorem k_78 : KeepsC (gl Tryd.prog) C_strings_Index (fun _ => none) 78 #[] :=
  keeps_Index (G := gl Tryd.prog) Tryd.func78 (by kernel_rfl) (by kernel_rfl) (fun s c w => Tryd.strings_Index_one s c w)
theorem k_71 : KeepsC (gl Tryd.prog) C_strings_Count (fun _ => none) 71 #[] :=
  keeps_Count (G := gl Tryd.prog) Tryd.func71 (by kernel_rfl) (by kernel_rfl) Tryd.strings_Count_one
theorem k_90 : KeepsF (gl Tryd.prog) F_strings_genSplit 90 :=
  keeps_genSplit (G := gl Tryd.prog) Tryd.func90 (by kernel_rfl) (by kernel_rfl) qk_genSplit
theorem k_90b : KeepsF (gl Tryd.prog) F_strings_genSplit32 90 :=
  keeps_genSplit32 (G := gl Tryd.prog) Tryd.func90 (by kernel_rfl) (by kernel_rfl) qk_genSplit32
theorem k_62 : KeepsF (gl Tryd.prog) F_strings_Split 62 :=
  keepsF_of (G := gl Tryd.prog) (E := envX [] [] [] [] [] [] [(90, F_strings_genSplit)] 5 106 []) (envX_ok trivial trivial trivial trivial trivial trivial ⟨k_90, trivial⟩ trivial) Tryd.func62 (by kernel_rfl) (fun _ => (Nat.le_of_ble_eq_true (by kernel_rfl))) d_strings_Split
theorem k_62b : KeepsF (gl Tryd.prog) F_strings_Split32 62 :=
  keepsF_of (G := gl Tryd.prog) (E := envX [] [] [] [] [] [] [(90, F_strings_genSplit32)] 5 106 []) (envX_ok trivial trivial trivial trivial trivial trivial ⟨k_90b, trivial⟩ trivial) Tryd.func62 (by kernel_rfl) (fun _ => (Nat.le_of_ble_eq_true (by kernel_rfl))) d_strings_Split32
theorem k_72 : KeepsC (gl Tryd.prog) C_strings_Contains (fun _ => none) 72 #[] :=
  keeps_of (G := gl Tryd.prog) (E := envX [(78, C_strings_Index)] [] [] [] [] [] [] 5 106 []) (envX_ok ⟨k_78, trivial⟩ trivial trivial trivial trivial trivial trivial trivial) Tryd.func72 (by kernel_rfl) (fun _ => (Nat.le_of_ble_eq_true (by kernel_rfl))) (fun _ _ => (plain_bool _).nn) d_contains
theorem k_101 : KeepsH (gl Tryd.prog) H___strings_Builder__copyCheck 101 :=
  keeps_copyCheck Tryd.func101 (by kernel_rfl) (by kernel_rfl) (fun b w h => Any.Builder_copyCheck_used { Tryd.lays165 with } Tryd.Builder_Extra_165.toX72 b w h) (fun b w h1 h2 h3 => Any.Builder_copyCheck_fresh { Tryd.lays165 with } Tryd.Builder_Extra_165.toX72 b w h1 h2 h3)
theorem k_81 : KeepsH (gl Tryd.prog) H___strings_Builder__String 81 :=
  keeps_String Tryd.func81 (by kernel_rfl) (by kernel_rfl) (fun b p w h => qk_builder_none Tryd.lays169 Tryd.Builder_Extra_169 b p w h) (fun b g cap p cur fr l w h0 h1 h2 h3 h4 h5 h6 h7 => qk_builder_row Tryd.lays169 Tryd.Builder_Extra_169 b g cap p cur fr l w h0 h1 h2 h3 h4 h5 h6 h7)
theorem k_84 : KeepsH (gl Tryd.prog) H___strings_Builder__WriteByte 84 :=
  KeepsH.weak (keepsH_of (F := ir___strings_Builder__WriteByte) (n := 2) (G := gl Tryd.prog) (E := envX [] [] [] [(101, H___strings_Builder__copyCheck)] [] [] [] 5 106 []) (envX_ok trivial trivial trivial ⟨k_101, trivial⟩ trivial trivial trivial trivial) Tryd.func84 (by kernel_rfl) (Nat.le_of_ble_eq_true (by kernel_rfl))) w_WriteByte
theorem k_95 : KeepsC (gl Tryd.prog) C_glob_any (fun _ => none) 95 #[] :=
  keeps_of (G := gl Tryd.prog) (E := envX [] [] [] [] [] [] [] 5 106 []) (envX_ok trivial trivial trivial trivial trivial trivial trivial trivial) Tryd.func95 (by kernel_rfl) (fun _ => (Nat.le_of_ble_eq_true (by kernel_rfl))) (fun _ _ => (plain_bool _).nn) d_any
theorem k_98 : KeepsC (gl Tryd.prog) C_glob_lit (fun _ => none) 98 #[] :=
  keeps_of (G := gl Tryd.prog) (E := envX [] [] [] [] [] [] [] 5 106 []) (envX_ok trivial trivial trivial trivial trivial trivial trivial trivial) Tryd.func98 (by kernel_rfl) (fun _ => (Nat.le_of_ble_eq_true (by kernel_rfl))) (fun _ _ => (plain_bool _).nn) d_lit
theorem k_112 : KeepsC (gl Tryd.prog) C_glob_cls (fun _ => none) 112 #[] :=
  keeps_of (G := gl Tryd.prog) (E := envX [] [] [] [] [] [] [] 5 106 []) (envX_ok trivial trivial trivial trivial trivial trivial trivial trivial) Tryd.func112 (by kernel_rfl) (fun _ => (Nat.le_of_ble_eq_true (by kernel_rfl))) (fun _ _ => (plain_bool _).nn) d_cls
theorem k_97 : KeepsH (gl Tryd.prog) H___quilt_glob_parser__plain 97 :=
  keepsH_of (G := gl Tryd.prog) (E := envX [] [] [] [] [] [] [] 5 106 []) (envX_ok trivial trivial trivial trivial trivial trivial trivial trivial) Tryd.func97 (by kernel_rfl) (Nat.le_of_ble_eq_true (by kernel_rfl))
theorem k_111 : KeepsH (gl Tryd.prog) H___quilt_glob_parser__peek 111 :=
  keepsH_of (G := gl Tryd.prog) (E := envX [] [] [] [] [] [] [] 5 106 []) (envX_ok trivial trivial trivial trivial trivial trivial trivial trivial) Tryd.func111 (by kernel_rfl) (Nat.le_of_ble_eq_true (by kernel_rfl))
theorem k_113 : KeepsH (gl Tryd.prog) H_glob_some 113 :=
  keepsH_of (G := gl Tryd.prog) (E := envX [] [] [(1000095, C_glob_any), (2, C_glob_lit), (3, C_glob_cls)] [] [] [] [] 5 106 []) (envX_ok trivial trivial ⟨k_95, k_98, k_112, trivial⟩ trivial trivial trivial trivial trivial) Tryd.func113 (by kernel_rfl) (Nat.le_of_ble_eq_true (by kernel_rfl))
theorem k_96 : KeepsH (gl Tryd.prog) H___quilt_glob_parser__class 96 :=
  keepsH_of (G := gl Tryd.prog) (E := envX [] [(112, 3)] [(3, C_glob_cls)] [(111, H___quilt_glob_parser__peek), (97, H___quilt_glob_parser__plain), (113, H_glob_some)] [] [] [] 5 106 []) (envX_ok trivial ⟨rfl, trivial⟩ ⟨k_112, trivial⟩ ⟨k_111, k_97, k_113, trivial⟩ trivial trivial trivial trivial) Tryd.func96 (by kernel_rfl) (Nat.le_of_ble_eq_true (by kernel_rfl))
theorem k_73 : KeepsH (gl Tryd.prog) H___quilt_glob_parser__one 73 :=
  keepsH_of (G := gl Tryd.prog) (E := envX [] [(98, 2)] [(2, C_glob_lit)] [(96, H___quilt_glob_parser__class), (97, H___quilt_glob_parser__plain)] [] [] [] 5 106 []) (envX_ok trivial ⟨rfl, trivial⟩ ⟨k_98, trivial⟩ ⟨k_96, k_97, trivial⟩ trivial trivial trivial trivial) Tryd.func73 (by kernel_rfl) (Nat.le_of_ble_eq_true (by kernel_rfl))
theorem k_45 : KeepsC (gl Tryd.prog) C_glob_parse (fun _ => none) 45 #[] :=
  keeps_of (G := gl Tryd.prog) (E := envX [] [] [] [(73, H___quilt_glob_parser__one)] [] [] [(62, F_strings_Split)] 5 106 []) (envX_ok trivial trivial trivial ⟨k_73, trivial⟩ trivial trivial ⟨k_62, trivial⟩ trivial) Tryd.func45 (by kernel_rfl) (fun _ => (Nat.le_of_ble_eq_true (by kernel_rfl))) (fun x _ => nn_parse32 x) d_parse
theorem k_47 : KeepsF (gl Tryd.prog) F_glob_split 47 :=
  keepsF_of (G := gl Tryd.prog) (E := envX [] [] [] [] [] [] [(62, F_strings_Split)] 5 106 []) (envX_ok trivial trivial trivial trivial trivial trivial ⟨k_62, trivial⟩ trivial) Tryd.func47 (by kernel_rfl) (fun _ => (Nat.le_of_ble_eq_true (by kernel_rfl))) d_split
theorem k_100 : KeepsC (gl Tryd.prog) C_glob_ended (fun _ => none) 100 #[] :=
  keeps_of (G := gl Tryd.prog) (E := envX [] [] [] [] [] [] [] 5 106 []) (envX_ok trivial trivial trivial trivial trivial trivial trivial trivial) Tryd.func100 (by kernel_rfl) (fun _ => (Nat.le_of_ble_eq_true (by kernel_rfl))) (fun _ _ => (plain_bool _).nn) d_ended
theorem k_114 : KeepsI (gl Tryd.prog) T_glob_after_1 114 :=
  keepsI_of (G := gl Tryd.prog) (E := envX [] [] [(1000095, C_glob_any), (2, C_glob_lit), (3, C_glob_cls)] [] [] [] [] 5 106 []) (envX_ok trivial trivial ⟨k_95, k_98, k_112, trivial⟩ trivial trivial trivial trivial trivial) Tryd.func114 (by kernel_rfl) (Nat.le_of_ble_eq_true (by kernel_rfl))
theorem k_99 : KeepsB (gl Tryd.prog) B_glob_after 99 :=
  keepsB_of (G := gl Tryd.prog) (E := envX [] [(114, 4)] [] [] [] [] [] 5 106 []) (envX_ok trivial ⟨rfl, trivial⟩ trivial trivial trivial trivial trivial trivial) Tryd.func99 (by kernel_rfl) (fun _ => (Nat.le_of_ble_eq_true (by kernel_rfl))) d_after
theorem k_75 : KeepsC (gl Tryd.prog) C__quilt_glob_component__fits (fun _ => none) 75 #[] :=
  keeps_of (G := gl Tryd.prog) (E := envX [(100, C_glob_ended)] [] [] [] [] [(4, T_glob_after_1)] [] 5 106 [(99, B_glob_after)]) (envX_ok ⟨k_100, trivial⟩ trivial trivial trivial trivial ⟨k_114, trivial⟩ trivial ⟨k_99, trivial⟩) Tryd.func75 (by kernel_rfl) (fun _ => (Nat.le_of_ble_eq_true (by kernel_rfl))) (fun _ _ => (plain_bool _).nn) d_fits
theorem k_74 : KeepsH (gl Tryd.prog) H_glob_closure 74 :=
  keepsH_of (G := gl Tryd.prog) (E := envX [] [] [] [] [] [] [] 5 106 []) (envX_ok trivial trivial trivial trivial trivial trivial trivial trivial) Tryd.func74 (by kernel_rfl) (Nat.le_of_ble_eq_true (by kernel_rfl))
theorem k_46 : KeepsH (gl Tryd.prog) H_glob_walk 46 :=
  keepsH_of (G := gl Tryd.prog) (E := envX [(75, C__quilt_glob_component__fits)] [] [] [(74, H_glob_closure)] [] [] [] 5 106 []) (envX_ok ⟨k_75, trivial⟩ trivial trivial ⟨k_74, trivial⟩ trivial trivial trivial trivial) Tryd.func46 (by kernel_rfl) (Nat.le_of_ble_eq_true (by kernel_rfl))
theorem k_23 : KeepsC (gl Tryd.prog) C_glob_Match (fun _ => none) 23 #[] :=
  keeps_of (G := gl Tryd.prog) (E := envX [(45, C_glob_parse)] [] [] [(46, H_glob_walk)] [] [] [(47, F_glob_split)] 5 106 []) (envX_ok ⟨k_45, trivial⟩ trivial trivial ⟨k_46, trivial⟩ trivial trivial ⟨k_47, trivial⟩ trivial) Tryd.func23 (by kernel_rfl) (fun _ => (Nat.le_of_ble_eq_true (by kernel_rfl))) (fun _ _ => (plain_bool _).nn) d_match
theorem k_63 : KeepsC (gl Tryd.prog) C_glob_Check (fun _ => none) 63 #[] :=
  keeps_of (G := gl Tryd.prog) (E := envX [(45, C_glob_parse)] [] [] [] [] [] [] 5 106 []) (envX_ok ⟨k_45, trivial⟩ trivial trivial trivial trivial trivial trivial trivial) Tryd.func63 (by kernel_rfl) (fun _ => (Nat.le_of_ble_eq_true (by kernel_rfl))) (fun _ _ => (plain_int _ _).nn) d_check
theorem k_79 : KeepsH (gl Tryd.prog) H___strings_Builder__WriteString 79 :=
  KeepsH.weak (keepsH_of (F := ir___strings_Builder__WriteString) (n := 2) (G := gl Tryd.prog) (E := envX [] [] [] [(101, H___strings_Builder__copyCheck)] [] [] [] 5 106 []) (envX_ok trivial trivial trivial ⟨k_101, trivial⟩ trivial trivial trivial trivial) Tryd.func79 (by kernel_rfl) (Nat.le_of_ble_eq_true (by kernel_rfl))) w_WriteString
theorem k_82 : KeepsC (gl Tryd.prog) C_unicode_utf8_ValidString (fun _ => none) 82 #[] :=
  keeps_Valid (G := gl Tryd.prog) Tryd.func82 (by kernel_rfl) (by kernel_rfl) (fun _ h => h) (fun s w hs hT => Any.utf8_ValidString Tryd.lays196 s w hs hT)
theorem k_80 : KeepsC (gl Tryd.prog) C_unicode_utf8_DecodeRuneInString (fun _ => none) 80 #[] :=
  keeps_never (G := gl Tryd.prog) (fun _ h => h)
theorem k_85 : KeepsC (gl Tryd.prog) C_strings_CutPrefix (fun _ => none) 85 #[] :=
  keeps_CutPrefix (G := gl Tryd.prog) Tryd.func85 (by kernel_rfl) (by kernel_rfl) Tryd.strings_CutPrefix
theorem k_37 : KeepsC (gl Tryd.prog) C_strings_TrimSuffix (fun _ => none) 37 #[] :=
  keeps_TrimSuffix (G := gl Tryd.prog) Tryd.func37 (by kernel_rfl) (by kernel_rfl) Tryd.strings_TrimSuffix
theorem k_26 : KeepsC (gl Tryd.prog) C_strings_ReplaceAll (fun _ => none) 26 #[] :=
  keeps_ReplaceAll (G := gl Tryd.prog) Tryd.func26 (by kernel_rfl) (by kernel_rfl) (fun _ h => h) (fun s o n m w hs hm h1 hl => Tryd.strings_ReplaceAll s o n m w hs hm h1 hl)
theorem k_120 : KeepsH (gl Tryd.prog) H_unicode_utf8_appendRuneNonASCII 120 :=
  keepsH_of (G := gl Tryd.prog) (E := envX [] [] [] [] [] [] [] 5 106 []) (envX_ok trivial trivial trivial trivial trivial trivial trivial trivial) Tryd.func120 (by kernel_rfl) (Nat.le_of_ble_eq_true (by kernel_rfl))
theorem k_106 : KeepsH (gl Tryd.prog) H_unicode_utf8_AppendRune 106 :=
  keepsH_of (G := gl Tryd.prog) (E := envX [] [] [] [(120, H_unicode_utf8_appendRuneNonASCII)] [] [] [] 5 106 []) (envX_ok trivial trivial trivial ⟨k_120, trivial⟩ trivial trivial trivial trivial) Tryd.func106 (by kernel_rfl) (Nat.le_of_ble_eq_true (by kernel_rfl))
theorem k_83 : KeepsH (gl Tryd.prog) H___strings_Builder__WriteRune 83 :=
  KeepsH.weak (keepsH_of (F := ir___strings_Builder__WriteRune) (n := 2) (G := gl Tryd.prog) (E := envX [] [] [] [(101, H___strings_Builder__copyCheck), (106, H_unicode_utf8_AppendRune)] [] [] [] 5 106 []) (envX_ok trivial trivial trivial ⟨k_101, k_106, trivial⟩ trivial trivial trivial trivial) Tryd.func83 (by kernel_rfl) (Nat.le_of_ble_eq_true (by kernel_rfl))) w_WriteRune
theorem k_51 : KeepsC (gl Tryd.prog) C_charset_same (fun _ => none) 51 #[] :=
  keeps_of (G := gl Tryd.prog) (E := envX [(82, C_unicode_utf8_ValidString)] [] [] [] [] [] [] 5 106 []) (envX_ok ⟨k_82, trivial⟩ trivial trivial trivial trivial trivial trivial trivial) Tryd.func51 (by kernel_rfl) (fun _ => (Nat.le_of_ble_eq_true (by kernel_rfl))) (fun _ _ => nn_tupB _) d_same
theorem k_52 : KeepsC (gl Tryd.prog) C_charset_fromLatin (fun _ => none) 52 #[] :=
  keeps_of (G := gl Tryd.prog) (E := envX [] [] [] [(83, H___strings_Builder__WriteRune), (81, H___strings_Builder__String)] [] [] [] 5 106 []) (envX_ok trivial trivial trivial ⟨k_83, k_81, trivial⟩ trivial trivial trivial trivial) Tryd.func52 (by kernel_rfl) (fun _ => (Nat.le_of_ble_eq_true (by kernel_rfl))) (fun _ _ => nn_tupB _) d_fromLatin
theorem k_53 : KeepsC (gl Tryd.prog) C_charset_toLatin (fun _ => none) 53 #[] :=
  keeps_of (G := gl Tryd.prog) (E := envX [(82, C_unicode_utf8_ValidString)] [] [] [(84, H___strings_Builder__WriteByte), (81, H___strings_Builder__String)] [] [] [] 5 106 []) (envX_ok ⟨k_82, trivial⟩ trivial trivial ⟨k_84, k_81, trivial⟩ trivial trivial trivial trivial) Tryd.func53 (by kernel_rfl) (fun _ => (Nat.le_of_ble_eq_true (by kernel_rfl))) (fun _ _ => nn_tupB _) d_toLatin
theorem k_86 : KeepsC (gl Tryd.prog) C_charset_units (fun _ => none) 86 #[] :=
  keeps_of (G := gl Tryd.prog) (E := envX [] [] [] [] [] [] [] 5 106 []) (envX_ok trivial trivial trivial trivial trivial trivial trivial trivial) Tryd.func86 (by kernel_rfl) (fun _ => (Nat.le_of_ble_eq_true (by kernel_rfl))) (fun x _ => nn_units x) d_units
theorem k_54 : KeepsC (gl Tryd.prog) C_charset_fromUtf16 (fun _ => none) 54 #[] :=
  keeps_of (G := gl Tryd.prog) (E := envX [(85, C_strings_CutPrefix), (86, C_charset_units)] [] [] [(83, H___strings_Builder__WriteRune), (81, H___strings_Builder__String)] [] [] [] 5 106 []) (envX_ok ⟨k_85, k_86, trivial⟩ trivial trivial ⟨k_83, k_81, trivial⟩ trivial trivial trivial trivial) Tryd.func54 (by kernel_rfl) (fun _ => (Nat.le_of_ble_eq_true (by kernel_rfl))) (fun _ _ => nn_tupB _) d_fromUtf16
theorem k_87 : KeepsH (gl Tryd.prog) H_charset_toUtf16_1 87 :=
  keepsH_of (G := gl Tryd.prog) (E := envX [] [] [] [(84, H___strings_Builder__WriteByte)] [] [] [] 5 106 []) (envX_ok trivial trivial trivial ⟨k_84, trivial⟩ trivial trivial trivial trivial) Tryd.func87 (by kernel_rfl) (Nat.le_of_ble_eq_true (by kernel_rfl))
theorem k_55 : KeepsC (gl Tryd.prog) C_charset_toUtf16 (fun _ => none) 55 #[] :=
  keeps_of (G := gl Tryd.prog) (E := envX [(82, C_unicode_utf8_ValidString)] [(87, 6)] [] [(79, H___strings_Builder__WriteString), (81, H___strings_Builder__String)] [(6, H_charset_toUtf16_1)] [] [] 5 106 []) (envX_ok ⟨k_82, trivial⟩ ⟨rfl, trivial⟩ trivial ⟨k_79, k_81, trivial⟩ ⟨k_87, trivial⟩ trivial trivial trivial) Tryd.func55 (by kernel_rfl) (fun _ => (Nat.le_of_ble_eq_true (by kernel_rfl))) (fun _ _ => nn_tupB _) d_toUtf16
theorem k_27 : KeepsC (gl Tryd.prog) C_charset_codings (fun _ => none) 27 #[] :=
  keeps_of (G := gl Tryd.prog) (E := envX [] [] [] [] [] [] [] 5 106 []) (envX_ok trivial trivial trivial trivial trivial trivial trivial trivial) Tryd.func27 (by kernel_rfl) (fun _ => (Nat.le_of_ble_eq_true (by kernel_rfl))) (fun _ _ => nn_sem _) d_codings
theorem k_64 : KeepsC (gl Tryd.prog) C_charset_charsets (fun _ => none) 64 #[] :=
  keeps_of (G := gl Tryd.prog) (E := envX [] [] [] [] [] [] [] 5 106 []) (envX_ok trivial trivial trivial trivial trivial trivial trivial trivial) Tryd.func64 (by kernel_rfl) (fun _ => (Nat.le_of_ble_eq_true (by kernel_rfl))) (fun _ _ => nn_sem _) d_charsets
theorem k_65 : KeepsC (gl Tryd.prog) C_charset_endings (fun _ => none) 65 #[] :=
  keeps_of (G := gl Tryd.prog) (E := envX [] [] [] [] [] [] [] 5 106 []) (envX_ok trivial trivial trivial trivial trivial trivial trivial trivial) Tryd.func65 (by kernel_rfl) (fun _ => (Nat.le_of_ble_eq_true (by kernel_rfl))) (fun _ _ => nn_sem _) d_endings
theorem k_28 : KeepsH (gl Tryd.prog) H_charset_convert 28 :=
  keepsH_of (G := gl Tryd.prog) (E := envX [] [] [(1000051, C_charset_same), (1000052, C_charset_fromLatin), (1000053, C_charset_toLatin), (1000054, C_charset_fromUtf16), (1000055, C_charset_toUtf16)] [] [] [] [] 5 106 []) (envX_ok trivial trivial ⟨k_51, k_52, k_53, k_54, k_55, trivial⟩ trivial trivial trivial trivial trivial) Tryd.func28 (by kernel_rfl) (Nat.le_of_ble_eq_true (by kernel_rfl))
theorem k_11 : KeepsC (gl Tryd.prog) C_charset_Decode (fun _ => none) 11 #[] :=
  keeps_of (G := gl Tryd.prog) (E := envX [(27, C_charset_codings)] [] [] [(28, H_charset_convert)] [] [] [] 5 106 []) (envX_ok ⟨k_27, trivial⟩ trivial trivial ⟨k_28, trivial⟩ trivial trivial trivial trivial) Tryd.func11 (by kernel_rfl) (fun _ => (Nat.le_of_ble_eq_true (by kernel_rfl))) (fun _ _ => nn_tupS _) d_Decode
theorem k_13 : KeepsC (gl Tryd.prog) C_charset_Encode (fun _ => none) 13 #[] :=
  keeps_of (G := gl Tryd.prog) (E := envX [(27, C_charset_codings)] [] [] [(28, H_charset_convert)] [] [] [] 5 106 []) (envX_ok ⟨k_27, trivial⟩ trivial trivial ⟨k_28, trivial⟩ trivial trivial trivial trivial) Tryd.func13 (by kernel_rfl) (fun _ => (Nat.le_of_ble_eq_true (by kernel_rfl))) (fun _ _ => nn_tupS _) d_Encode
theorem k_42 : KeepsC (gl Tryd.prog) C_charset_known (fun _ => none) 42 #[] :=
  keeps_of (G := gl Tryd.prog) (E := envX [(27, C_charset_codings)] [] [] [] [] [] [] 5 106 []) (envX_ok ⟨k_27, trivial⟩ trivial trivial trivial trivial trivial trivial trivial) Tryd.func42 (by kernel_rfl) (fun _ => (Nat.le_of_ble_eq_true (by kernel_rfl))) (fun _ _ => (plain_int _ _).nn) d_known
theorem k_43 : KeepsC (gl Tryd.prog) C_charset_toLf (fun _ => none) 43 #[] :=
  keeps_of (G := gl Tryd.prog) (E := envX [(26, C_strings_ReplaceAll), (71, C_strings_Count), (72, C_strings_Contains)] [] [] [] [] [] [] 5 106 []) (envX_ok ⟨k_26, k_71, k_72, trivial⟩ trivial trivial trivial trivial trivial trivial trivial) Tryd.func43 (by kernel_rfl) (fun _ => (Nat.le_of_ble_eq_true (by kernel_rfl))) (fun _ _ => nn_tupS _) d_toLf
theorem k_44 : KeepsC (gl Tryd.prog) C_charset_fromLf (fun _ => none) 44 #[] :=
  keeps_of (G := gl Tryd.prog) (E := envX [(72, C_strings_Contains), (26, C_strings_ReplaceAll)] [] [] [] [] [] [] 5 106 []) (envX_ok ⟨k_72, k_26, trivial⟩ trivial trivial trivial trivial trivial trivial trivial) Tryd.func44 (by kernel_rfl) (fun _ => (Nat.le_of_ble_eq_true (by kernel_rfl))) (fun _ _ => nn_tupS _) d_fromLf
theorem k_19 : KeepsC (gl Tryd.prog) C_charset_Find (fun _ => none) 19 #[] :=
  keeps_of (G := gl Tryd.prog) (E := envX [(23, C_glob_Match)] [] [] [] [] [] [] 5 106 []) (envX_ok ⟨k_23, trivial⟩ trivial trivial trivial trivial trivial trivial trivial) Tryd.func19 (by kernel_rfl) (fun _ => (Nat.le_of_ble_eq_true (by kernel_rfl))) (fun x _ => nn_find x) d_Find
theorem k_21 : KeepsC (gl Tryd.prog) C_charset_ToRepo (fun _ => none) 21 #[] :=
  keeps_of (G := gl Tryd.prog) (E := envX [(19, C_charset_Find), (42, C_charset_known), (11, C_charset_Decode), (43, C_charset_toLf)] [] [] [] [] [] [] 5 106 []) (envX_ok ⟨k_19, k_42, k_11, k_43, trivial⟩ trivial trivial trivial trivial trivial trivial trivial) Tryd.func21 (by kernel_rfl) (fun _ => (Nat.le_of_ble_eq_true (by kernel_rfl))) (fun _ _ => nn_tupS _) d_ToRepo
theorem k_22 : KeepsC (gl Tryd.prog) C_charset_FromRepo (fun _ => none) 22 #[] :=
  keeps_of (G := gl Tryd.prog) (E := envX [(19, C_charset_Find), (42, C_charset_known), (44, C_charset_fromLf), (13, C_charset_Encode)] [] [] [] [] [] [] 5 106 []) (envX_ok ⟨k_19, k_42, k_44, k_13, trivial⟩ trivial trivial trivial trivial trivial trivial trivial) Tryd.func22 (by kernel_rfl) (fun _ => (Nat.le_of_ble_eq_true (by kernel_rfl))) (fun _ _ => nn_tupS _) d_FromRepo
theorem k_88 : KeepsI (gl Tryd.prog) T_strings_splitSeq_1 88 :=
  keepsI_of (G := gl Tryd.prog) (E := envX [(80, C_unicode_utf8_DecodeRuneInString), (78, C_strings_Index)] [] [] [] [] [] [] 5 106 []) (envX_ok ⟨k_80, k_78, trivial⟩ trivial trivial trivial trivial trivial trivial trivial) Tryd.func88 (by kernel_rfl) (Nat.le_of_ble_eq_true (by kernel_rfl))
theorem k_60 : KeepsH (gl Tryd.prog) H_strings_splitSeq 60 :=
  keepsH_of (G := gl Tryd.prog) (E := envX [] [(88, 5)] [] [] [] [] [] 5 106 []) (envX_ok trivial ⟨rfl, trivial⟩ trivial trivial trivial trivial trivial trivial) Tryd.func60 (by kernel_rfl) (Nat.le_of_ble_eq_true (by kernel_rfl))
theorem k_36 : KeepsH (gl Tryd.prog) H_strings_SplitSeq 36 :=
  keepsH_of (G := gl Tryd.prog) (E := envX [] [] [] [(60, H_strings_splitSeq)] [] [] [] 5 106 []) (envX_ok trivial trivial trivial ⟨k_60, trivial⟩ trivial trivial trivial trivial) Tryd.func36 (by kernel_rfl) (Nat.le_of_ble_eq_true (by kernel_rfl))
theorem k_38 : KeepsC (gl Tryd.prog) C_charset_attribute (fun _ => none) 38 #[] :=
  keeps_of (G := gl Tryd.prog) (E := envX [(63, C_glob_Check), (64, C_charset_charsets), (65, C_charset_endings)] [] [] [] [] [] [(62, F_strings_Split32)] 5 106 []) (envX_ok ⟨k_63, k_64, k_65, trivial⟩ trivial trivial trivial trivial trivial ⟨k_62b, trivial⟩ trivial) Tryd.func38 (by kernel_rfl) (fun _ => (Nat.le_of_ble_eq_true (by kernel_rfl))) (fun _ _ => nn_attribute _) d_attribute
theorem k_16 : KeepsC (gl Tryd.prog) C_charset_Attributes (fun _ => none) 16 #[] :=
  keeps_of (G := gl Tryd.prog) (E := envX [(37, C_strings_TrimSuffix), (38, C_charset_attribute)] [] [] [(36, H_strings_SplitSeq)] [] [(5, T_strings_splitSeq_1)] [] 5 106 []) (envX_ok ⟨k_37, k_38, trivial⟩ trivial trivial ⟨k_36, trivial⟩ trivial ⟨k_88, trivial⟩ trivial trivial) Tryd.func16 (by kernel_rfl) (fun _ => (Nat.le_of_ble_eq_true (by kernel_rfl))) (fun _ _ => nn_Attributes _) d_Attributes
theorem k_10 : KeepsC (gl Tryd.prog) C_quiltlaw57_awake (fun _ => none) 10 #[] :=
  keeps_of (G := gl Tryd.prog) (E := envX [(16, C_charset_Attributes), (22, C_charset_FromRepo), (21, C_charset_ToRepo)] [] [] [] [] [] [] 5 106 []) (envX_ok ⟨k_16, k_22, k_21, trivial⟩ trivial trivial trivial trivial trivial trivial trivial) Tryd.func10 (by kernel_rfl) (fun _ => (Nat.le_of_ble_eq_true (by kernel_rfl))) (fun _ _ => (plain_bool _).nn) d_awake57
theorem k_15 : KeepsC (gl Tryd.prog) C_quiltref57_Great (fun _ => none) 15 #[] :=
  keeps_of (G := gl Tryd.prog) (E := envX [] [] [] [] [] [] [] 5 106 []) (envX_ok trivial trivial trivial trivial trivial trivial trivial trivial) Tryd.func15 (by kernel_rfl) (fun _ => (Nat.le_of_ble_eq_true (by kernel_rfl))) (fun _ _ => (plain_bool _).nn) d_Great
end Go.Proofs.YtnjncjjegolojaaDoor
