/-
  Chapter 57: the tie to the program.
-/
import Derived.Test.YtnjncjjegolojaaGreatDoorChecked
import Derived.Test.YtnjncjjegolojaaGreatDoorSh
import Derived.Test.YtnjncjjegolojaaGreatDoorPv
import Derived.Test.YtnjncjjegolojaaGreatDoorPi
import Derived.Test.YtnjncjjegolojaaGreatDoorPy

/-
  The functions of this seat do what their intermediate forms say (printed by a program).
-/
namespace Go.Proofs.YtnjncjjegolojaaGreatDoor
open Go.RowKit Qk

/-- The program, and the functions that closures stand for. -/
def gl (P : Program) : Gl := ⟨P,fun t => match t with | 1 => 101 | 2 => 104 | 3 => 115 | 4 => 117 | 5 => 86 | 6 => 85 | _ => 0,5,49,base57,mono57⟩

theorem k_74 : KeepsC (gl Tryz.prog) C_strings_Index (fun _ => none) 74 #[] :=
 keeps_Index (G := gl Tryz.prog) Tryz.func74 (by kernel_rfl) (by kernel_rfl) (fun s c w => Tryz.strings_Index_one s c w)
theorem k_45 : KeepsC (gl Tryz.prog) C_strings_Count (fun _ => none) 45 #[] :=
 keeps_Count (G := gl Tryz.prog) Tryz.func45 (by kernel_rfl) (by kernel_rfl) Tryz.strings_Count_one
theorem k_89 : KeepsF (gl Tryz.prog) F_strings_genSplit 89 :=
 keeps_genSplit (G := gl Tryz.prog) Tryz.func89 (by kernel_rfl) (by kernel_rfl) qk_genSplit
theorem k_89b : KeepsF (gl Tryz.prog) F_strings_genSplit32 89 :=
 keeps_genSplit32 (G := gl Tryz.prog) Tryz.func89 (by kernel_rfl) (by kernel_rfl) qk_genSplit32
theorem k_64 : KeepsF (gl Tryz.prog) F_strings_Split 64 :=
 keepsF_of (G := gl Tryz.prog) (E := envX [] [] [] [] [] [] [(89,F_strings_genSplit)] 5 49 []) (envX_ok trivial trivial trivial trivial trivial trivial ⟨k_89,trivial⟩ trivial) Tryz.func64 (by kernel_rfl) (fun _ => (Nat.le_of_ble_eq_true (by kernel_rfl))) d_strings_Split
theorem k_64b : KeepsF (gl Tryz.prog) F_strings_Split32 64 :=
 keepsF_of (G := gl Tryz.prog) (E := envX [] [] [] [] [] [] [(89,F_strings_genSplit32)] 5 49 []) (envX_ok trivial trivial trivial trivial trivial trivial ⟨k_89b,trivial⟩ trivial) Tryz.func64 (by kernel_rfl) (fun _ => (Nat.le_of_ble_eq_true (by kernel_rfl))) d_strings_Split32
theorem k_46 : KeepsC (gl Tryz.prog) C_strings_Contains (fun _ => none) 46 #[] :=
 keeps_of (G := gl Tryz.prog) (E := envX [(74,C_strings_Index)] [] [] [] [] [] [] 5 49 []) (envX_ok ⟨k_74,trivial⟩ trivial trivial trivial trivial trivial trivial trivial) Tryz.func46 (by kernel_rfl) (fun _ => (Nat.le_of_ble_eq_true (by kernel_rfl))) (fun _ _ => (plain_bool _).nn) d_contains
theorem k_51 : KeepsH (gl Tryz.prog) H___strings_Builder__copyCheck 51 :=
 keeps_copyCheck Tryz.func51 (by kernel_rfl) (by kernel_rfl) (fun b w h => Any.Builder_copyCheck_used { Tryz.lays165 with } Tryz.Builder_Extra_165.toX72 b w h) (fun b w h1 h2 h3 => Any.Builder_copyCheck_fresh { Tryz.lays165 with } Tryz.Builder_Extra_165.toX72 b w h1 h2 h3)
theorem k_30 : KeepsH (gl Tryz.prog) H___strings_Builder__String 30 :=
 keeps_String Tryz.func30 (by kernel_rfl) (by kernel_rfl) (fun b p w h => qk_builder_none Tryz.lays169 Tryz.Builder_Extra_169 b p w h) (fun b g cap p cur fr l w h0 h1 h2 h3 h4 h5 h6 h7 => qk_builder_row Tryz.lays169 Tryz.Builder_Extra_169 b g cap p cur fr l w h0 h1 h2 h3 h4 h5 h6 h7)
theorem k_82 : KeepsH (gl Tryz.prog) H___strings_Builder__WriteByte 82 :=
 KeepsH.weak (keepsH_of (F := ir___strings_Builder__WriteByte) (n := 2) (G := gl Tryz.prog) (E := envX [] [] [] [(51,H___strings_Builder__copyCheck)] [] [] [] 5 49 []) (envX_ok trivial trivial trivial ⟨k_51,trivial⟩ trivial trivial trivial trivial) Tryz.func82 (by kernel_rfl) (Nat.le_of_ble_eq_true (by kernel_rfl))) w_WriteByte
theorem k_101 : KeepsC (gl Tryz.prog) C_glob_any (fun _ => none) 101 #[] :=
 keeps_of (G := gl Tryz.prog) (E := envX [] [] [] [] [] [] [] 5 49 []) (envX_ok trivial trivial trivial trivial trivial trivial trivial trivial) Tryz.func101 (by kernel_rfl) (fun _ => (Nat.le_of_ble_eq_true (by kernel_rfl))) (fun _ _ => (plain_bool _).nn) d_any
theorem k_104 : KeepsC (gl Tryz.prog) C_glob_lit (fun _ => none) 104 #[] :=
 keeps_of (G := gl Tryz.prog) (E := envX [] [] [] [] [] [] [] 5 49 []) (envX_ok trivial trivial trivial trivial trivial trivial trivial trivial) Tryz.func104 (by kernel_rfl) (fun _ => (Nat.le_of_ble_eq_true (by kernel_rfl))) (fun _ _ => (plain_bool _).nn) d_lit
theorem k_115 : KeepsC (gl Tryz.prog) C_glob_cls (fun _ => none) 115 #[] :=
 keeps_of (G := gl Tryz.prog) (E := envX [] [] [] [] [] [] [] 5 49 []) (envX_ok trivial trivial trivial trivial trivial trivial trivial trivial) Tryz.func115 (by kernel_rfl) (fun _ => (Nat.le_of_ble_eq_true (by kernel_rfl))) (fun _ _ => (plain_bool _).nn) d_cls
theorem k_103 : KeepsH (gl Tryz.prog) H___quilt_glob_parser__plain 103 :=
 keepsH_of (G := gl Tryz.prog) (E := envX [] [] [] [] [] [] [] 5 49 []) (envX_ok trivial trivial trivial trivial trivial trivial trivial trivial) Tryz.func103 (by kernel_rfl) (Nat.le_of_ble_eq_true (by kernel_rfl))
theorem k_114 : KeepsH (gl Tryz.prog) H___quilt_glob_parser__peek 114 :=
 keepsH_of (G := gl Tryz.prog) (E := envX [] [] [] [] [] [] [] 5 49 []) (envX_ok trivial trivial trivial trivial trivial trivial trivial trivial) Tryz.func114 (by kernel_rfl) (Nat.le_of_ble_eq_true (by kernel_rfl))
theorem k_116 : KeepsH (gl Tryz.prog) H_glob_some 116 :=
 keepsH_of (G := gl Tryz.prog) (E := envX [] [] [(1000101,C_glob_any),(2,C_glob_lit),(3,C_glob_cls)] [] [] [] [] 5 49 []) (envX_ok trivial trivial ⟨k_101,k_104,k_115,trivial⟩ trivial trivial trivial trivial trivial) Tryz.func116 (by kernel_rfl) (Nat.le_of_ble_eq_true (by kernel_rfl))
theorem k_102 : KeepsH (gl Tryz.prog) H___quilt_glob_parser__class 102 :=
 keepsH_of (G := gl Tryz.prog) (E := envX [] [(115,3)] [(3,C_glob_cls)] [(114,H___quilt_glob_parser__peek),(103,H___quilt_glob_parser__plain),(116,H_glob_some)] [] [] [] 5 49 []) (envX_ok trivial ⟨rfl,trivial⟩ ⟨k_115,trivial⟩ ⟨k_114,k_103,k_116,trivial⟩ trivial trivial trivial trivial) Tryz.func102 (by kernel_rfl) (Nat.le_of_ble_eq_true (by kernel_rfl))
theorem k_90 : KeepsH (gl Tryz.prog) H___quilt_glob_parser__one 90 :=
 keepsH_of (G := gl Tryz.prog) (E := envX [] [(104,2)] [(2,C_glob_lit)] [(102,H___quilt_glob_parser__class),(103,H___quilt_glob_parser__plain)] [] [] [] 5 49 []) (envX_ok trivial ⟨rfl,trivial⟩ ⟨k_104,trivial⟩ ⟨k_102,k_103,trivial⟩ trivial trivial trivial trivial) Tryz.func90 (by kernel_rfl) (Nat.le_of_ble_eq_true (by kernel_rfl))
theorem k_68 : KeepsC (gl Tryz.prog) C_glob_parse (fun _ => none) 68 #[] :=
 keeps_of (G := gl Tryz.prog) (E := envX [] [] [] [(90,H___quilt_glob_parser__one)] [] [] [(64,F_strings_Split)] 5 49 []) (envX_ok trivial trivial trivial ⟨k_90,trivial⟩ trivial trivial ⟨k_64,trivial⟩ trivial) Tryz.func68 (by kernel_rfl) (fun _ => (Nat.le_of_ble_eq_true (by kernel_rfl))) (fun x _ => nn_parse32 x) d_parse
theorem k_70 : KeepsF (gl Tryz.prog) F_glob_split 70 :=
 keepsF_of (G := gl Tryz.prog) (E := envX [] [] [] [] [] [] [(64,F_strings_Split)] 5 49 []) (envX_ok trivial trivial trivial trivial trivial trivial ⟨k_64,trivial⟩ trivial) Tryz.func70 (by kernel_rfl) (fun _ => (Nat.le_of_ble_eq_true (by kernel_rfl))) d_split
theorem k_106 : KeepsC (gl Tryz.prog) C_glob_ended (fun _ => none) 106 #[] :=
 keeps_of (G := gl Tryz.prog) (E := envX [] [] [] [] [] [] [] 5 49 []) (envX_ok trivial trivial trivial trivial trivial trivial trivial trivial) Tryz.func106 (by kernel_rfl) (fun _ => (Nat.le_of_ble_eq_true (by kernel_rfl))) (fun _ _ => (plain_bool _).nn) d_ended
theorem k_117 : KeepsI (gl Tryz.prog) T_glob_after_1 117 :=
 keepsI_of (G := gl Tryz.prog) (E := envX [] [] [(1000101,C_glob_any),(2,C_glob_lit),(3,C_glob_cls)] [] [] [] [] 5 49 []) (envX_ok trivial trivial ⟨k_101,k_104,k_115,trivial⟩ trivial trivial trivial trivial trivial) Tryz.func117 (by kernel_rfl) (Nat.le_of_ble_eq_true (by kernel_rfl))
theorem k_105 : KeepsB (gl Tryz.prog) B_glob_after 105 :=
 keepsB_of (G := gl Tryz.prog) (E := envX [] [(117,4)] [] [] [] [] [] 5 49 []) (envX_ok trivial ⟨rfl,trivial⟩ trivial trivial trivial trivial trivial trivial) Tryz.func105 (by kernel_rfl) (fun _ => (Nat.le_of_ble_eq_true (by kernel_rfl))) d_after
theorem k_92 : KeepsC (gl Tryz.prog) C__quilt_glob_component__fits (fun _ => none) 92 #[] :=
 keeps_of (G := gl Tryz.prog) (E := envX [(106,C_glob_ended)] [] [] [] [] [(4,T_glob_after_1)] [] 5 49 [(105,B_glob_after)]) (envX_ok ⟨k_106,trivial⟩ trivial trivial trivial trivial ⟨k_117,trivial⟩ trivial ⟨k_105,trivial⟩) Tryz.func92 (by kernel_rfl) (fun _ => (Nat.le_of_ble_eq_true (by kernel_rfl))) (fun _ _ => (plain_bool _).nn) d_fits
theorem k_91 : KeepsH (gl Tryz.prog) H_glob_closure 91 :=
 keepsH_of (G := gl Tryz.prog) (E := envX [] [] [] [] [] [] [] 5 49 []) (envX_ok trivial trivial trivial trivial trivial trivial trivial trivial) Tryz.func91 (by kernel_rfl) (Nat.le_of_ble_eq_true (by kernel_rfl))
theorem k_69 : KeepsH (gl Tryz.prog) H_glob_walk 69 :=
 keepsH_of (G := gl Tryz.prog) (E := envX [(92,C__quilt_glob_component__fits)] [] [] [(91,H_glob_closure)] [] [] [] 5 49 []) (envX_ok ⟨k_92,trivial⟩ trivial trivial ⟨k_91,trivial⟩ trivial trivial trivial trivial) Tryz.func69 (by kernel_rfl) (Nat.le_of_ble_eq_true (by kernel_rfl))
theorem k_43 : KeepsC (gl Tryz.prog) C_glob_Match (fun _ => none) 43 #[] :=
 keeps_of (G := gl Tryz.prog) (E := envX [(68,C_glob_parse)] [] [] [(69,H_glob_walk)] [] [] [(70,F_glob_split)] 5 49 []) (envX_ok ⟨k_68,trivial⟩ trivial trivial ⟨k_69,trivial⟩ trivial trivial ⟨k_70,trivial⟩ trivial) Tryz.func43 (by kernel_rfl) (fun _ => (Nat.le_of_ble_eq_true (by kernel_rfl))) (fun _ _ => (plain_bool _).nn) d_match
theorem k_65 : KeepsC (gl Tryz.prog) C_glob_Check (fun _ => none) 65 #[] :=
 keeps_of (G := gl Tryz.prog) (E := envX [(68,C_glob_parse)] [] [] [] [] [] [] 5 49 []) (envX_ok ⟨k_68,trivial⟩ trivial trivial trivial trivial trivial trivial trivial) Tryz.func65 (by kernel_rfl) (fun _ => (Nat.le_of_ble_eq_true (by kernel_rfl))) (fun _ _ => (plain_int _ _).nn) d_check
theorem k_28 : KeepsH (gl Tryz.prog) H___strings_Builder__WriteString 28 :=
 KeepsH.weak (keepsH_of (F := ir___strings_Builder__WriteString) (n := 2) (G := gl Tryz.prog) (E := envX [] [] [] [(51,H___strings_Builder__copyCheck)] [] [] [] 5 49 []) (envX_ok trivial trivial trivial ⟨k_51,trivial⟩ trivial trivial trivial trivial) Tryz.func28 (by kernel_rfl) (Nat.le_of_ble_eq_true (by kernel_rfl))) w_WriteString
theorem k_80 : KeepsC (gl Tryz.prog) C_unicode_utf8_ValidString (fun _ => none) 80 #[] :=
 keeps_Valid (G := gl Tryz.prog) Tryz.func80 (by kernel_rfl) (by kernel_rfl) (fun _ h => h) (fun s w hs hT => Any.utf8_ValidString Tryz.lays196 s w hs hT)
theorem k_87 : KeepsC (gl Tryz.prog) C_unicode_utf8_DecodeRuneInString (fun _ => none) 87 #[] :=
 keeps_never (G := gl Tryz.prog) (fun _ h => h)
theorem k_83 : KeepsC (gl Tryz.prog) C_strings_CutPrefix (fun _ => none) 83 #[] :=
 keeps_CutPrefix (G := gl Tryz.prog) Tryz.func83 (by kernel_rfl) (by kernel_rfl) Tryz.strings_CutPrefix
theorem k_41 : KeepsC (gl Tryz.prog) C_strings_TrimSuffix (fun _ => none) 41 #[] :=
 keeps_TrimSuffix (G := gl Tryz.prog) Tryz.func41 (by kernel_rfl) (by kernel_rfl) Tryz.strings_TrimSuffix
theorem k_44 : KeepsC (gl Tryz.prog) C_strings_ReplaceAll (fun _ => none) 44 #[] :=
 keeps_ReplaceAll (G := gl Tryz.prog) Tryz.func44 (by kernel_rfl) (by kernel_rfl) (fun _ h => h) (fun s o n m w hs hm h1 hl => Tryz.strings_ReplaceAll s o n m w hs hm h1 hl)
theorem k_113 : KeepsH (gl Tryz.prog) H_unicode_utf8_appendRuneNonASCII 113 :=
 keepsH_of (G := gl Tryz.prog) (E := envX [] [] [] [] [] [] [] 5 49 []) (envX_ok trivial trivial trivial trivial trivial trivial trivial trivial) Tryz.func113 (by kernel_rfl) (Nat.le_of_ble_eq_true (by kernel_rfl))
theorem k_97 : KeepsH (gl Tryz.prog) H_unicode_utf8_AppendRune 97 :=
 keepsH_of (G := gl Tryz.prog) (E := envX [] [] [] [(113,H_unicode_utf8_appendRuneNonASCII)] [] [] [] 5 49 []) (envX_ok trivial trivial trivial ⟨k_113,trivial⟩ trivial trivial trivial trivial) Tryz.func97 (by kernel_rfl) (Nat.le_of_ble_eq_true (by kernel_rfl))
theorem k_81 : KeepsH (gl Tryz.prog) H___strings_Builder__WriteRune 81 :=
 KeepsH.weak (keepsH_of (F := ir___strings_Builder__WriteRune) (n := 2) (G := gl Tryz.prog) (E := envX [] [] [] [(51,H___strings_Builder__copyCheck),(97,H_unicode_utf8_AppendRune)] [] [] [] 5 49 []) (envX_ok trivial trivial trivial ⟨k_51,k_97,trivial⟩ trivial trivial trivial trivial) Tryz.func81 (by kernel_rfl) (Nat.le_of_ble_eq_true (by kernel_rfl))) w_WriteRune
theorem k_53 : KeepsC (gl Tryz.prog) C_charset_same (fun _ => none) 53 #[] :=
 keeps_of (G := gl Tryz.prog) (E := envX [(80,C_unicode_utf8_ValidString)] [] [] [] [] [] [] 5 49 []) (envX_ok ⟨k_80,trivial⟩ trivial trivial trivial trivial trivial trivial trivial) Tryz.func53 (by kernel_rfl) (fun _ => (Nat.le_of_ble_eq_true (by kernel_rfl))) (fun _ _ => nn_tupB _) d_same
theorem k_54 : KeepsC (gl Tryz.prog) C_charset_fromLatin (fun _ => none) 54 #[] :=
 keeps_of (G := gl Tryz.prog) (E := envX [] [] [] [(81,H___strings_Builder__WriteRune),(30,H___strings_Builder__String)] [] [] [] 5 49 []) (envX_ok trivial trivial trivial ⟨k_81,k_30,trivial⟩ trivial trivial trivial trivial) Tryz.func54 (by kernel_rfl) (fun _ => (Nat.le_of_ble_eq_true (by kernel_rfl))) (fun _ _ => nn_tupB _) d_fromLatin
theorem k_55 : KeepsC (gl Tryz.prog) C_charset_toLatin (fun _ => none) 55 #[] :=
 keeps_of (G := gl Tryz.prog) (E := envX [(80,C_unicode_utf8_ValidString)] [] [] [(82,H___strings_Builder__WriteByte),(30,H___strings_Builder__String)] [] [] [] 5 49 []) (envX_ok ⟨k_80,trivial⟩ trivial trivial ⟨k_82,k_30,trivial⟩ trivial trivial trivial trivial) Tryz.func55 (by kernel_rfl) (fun _ => (Nat.le_of_ble_eq_true (by kernel_rfl))) (fun _ _ => nn_tupB _) d_toLatin
theorem k_84 : KeepsC (gl Tryz.prog) C_charset_units (fun _ => none) 84 #[] :=
 keeps_of (G := gl Tryz.prog) (E := envX [] [] [] [] [] [] [] 5 49 []) (envX_ok trivial trivial trivial trivial trivial trivial trivial trivial) Tryz.func84 (by kernel_rfl) (fun _ => (Nat.le_of_ble_eq_true (by kernel_rfl))) (fun x _ => nn_units x) d_units
theorem k_56 : KeepsC (gl Tryz.prog) C_charset_fromUtf16 (fun _ => none) 56 #[] :=
 keeps_of (G := gl Tryz.prog) (E := envX [(83,C_strings_CutPrefix),(84,C_charset_units)] [] [] [(81,H___strings_Builder__WriteRune),(30,H___strings_Builder__String)] [] [] [] 5 49 []) (envX_ok ⟨k_83,k_84,trivial⟩ trivial trivial ⟨k_81,k_30,trivial⟩ trivial trivial trivial trivial) Tryz.func56 (by kernel_rfl) (fun _ => (Nat.le_of_ble_eq_true (by kernel_rfl))) (fun _ _ => nn_tupB _) d_fromUtf16
theorem k_85 : KeepsH (gl Tryz.prog) H_charset_toUtf16_1 85 :=
 keepsH_of (G := gl Tryz.prog) (E := envX [] [] [] [(82,H___strings_Builder__WriteByte)] [] [] [] 5 49 []) (envX_ok trivial trivial trivial ⟨k_82,trivial⟩ trivial trivial trivial trivial) Tryz.func85 (by kernel_rfl) (Nat.le_of_ble_eq_true (by kernel_rfl))
theorem k_57 : KeepsC (gl Tryz.prog) C_charset_toUtf16 (fun _ => none) 57 #[] :=
 keeps_of (G := gl Tryz.prog) (E := envX [(80,C_unicode_utf8_ValidString)] [(85,6)] [] [(28,H___strings_Builder__WriteString),(30,H___strings_Builder__String)] [(6,H_charset_toUtf16_1)] [] [] 5 49 []) (envX_ok ⟨k_80,trivial⟩ ⟨rfl,trivial⟩ trivial ⟨k_28,k_30,trivial⟩ ⟨k_85,trivial⟩ trivial trivial trivial) Tryz.func57 (by kernel_rfl) (fun _ => (Nat.le_of_ble_eq_true (by kernel_rfl))) (fun _ _ => nn_tupB _) d_toUtf16
theorem k_31 : KeepsC (gl Tryz.prog) C_charset_codings (fun _ => none) 31 #[] :=
 keeps_of (G := gl Tryz.prog) (E := envX [] [] [] [] [] [] [] 5 49 []) (envX_ok trivial trivial trivial trivial trivial trivial trivial trivial) Tryz.func31 (by kernel_rfl) (fun _ => (Nat.le_of_ble_eq_true (by kernel_rfl))) (fun _ _ => nn_sem _) d_codings
theorem k_66 : KeepsC (gl Tryz.prog) C_charset_charsets (fun _ => none) 66 #[] :=
 keeps_of (G := gl Tryz.prog) (E := envX [] [] [] [] [] [] [] 5 49 []) (envX_ok trivial trivial trivial trivial trivial trivial trivial trivial) Tryz.func66 (by kernel_rfl) (fun _ => (Nat.le_of_ble_eq_true (by kernel_rfl))) (fun _ _ => nn_sem _) d_charsets
theorem k_67 : KeepsC (gl Tryz.prog) C_charset_endings (fun _ => none) 67 #[] :=
 keeps_of (G := gl Tryz.prog) (E := envX [] [] [] [] [] [] [] 5 49 []) (envX_ok trivial trivial trivial trivial trivial trivial trivial trivial) Tryz.func67 (by kernel_rfl) (fun _ => (Nat.le_of_ble_eq_true (by kernel_rfl))) (fun _ _ => nn_sem _) d_endings
theorem k_32 : KeepsH (gl Tryz.prog) H_charset_convert 32 :=
 keepsH_of (G := gl Tryz.prog) (E := envX [] [] [(1000053,C_charset_same),(1000054,C_charset_fromLatin),(1000055,C_charset_toLatin),(1000056,C_charset_fromUtf16),(1000057,C_charset_toUtf16)] [] [] [] [] 5 49 []) (envX_ok trivial trivial ⟨k_53,k_54,k_55,k_56,k_57,trivial⟩ trivial trivial trivial trivial trivial) Tryz.func32 (by kernel_rfl) (Nat.le_of_ble_eq_true (by kernel_rfl))
theorem k_12 : KeepsC (gl Tryz.prog) C_charset_Decode (fun _ => none) 12 #[] :=
 keeps_of (G := gl Tryz.prog) (E := envX [(31,C_charset_codings)] [] [] [(32,H_charset_convert)] [] [] [] 5 49 []) (envX_ok ⟨k_31,trivial⟩ trivial trivial ⟨k_32,trivial⟩ trivial trivial trivial trivial) Tryz.func12 (by kernel_rfl) (fun _ => (Nat.le_of_ble_eq_true (by kernel_rfl))) (fun _ _ => nn_tupS _) d_Decode
theorem k_14 : KeepsC (gl Tryz.prog) C_charset_Encode (fun _ => none) 14 #[] :=
 keeps_of (G := gl Tryz.prog) (E := envX [(31,C_charset_codings)] [] [] [(32,H_charset_convert)] [] [] [] 5 49 []) (envX_ok ⟨k_31,trivial⟩ trivial trivial ⟨k_32,trivial⟩ trivial trivial trivial trivial) Tryz.func14 (by kernel_rfl) (fun _ => (Nat.le_of_ble_eq_true (by kernel_rfl))) (fun _ _ => nn_tupS _) d_Encode
theorem k_18 : KeepsC (gl Tryz.prog) C_charset_known (fun _ => none) 18 #[] :=
 keeps_of (G := gl Tryz.prog) (E := envX [(31,C_charset_codings)] [] [] [] [] [] [] 5 49 []) (envX_ok ⟨k_31,trivial⟩ trivial trivial trivial trivial trivial trivial trivial) Tryz.func18 (by kernel_rfl) (fun _ => (Nat.le_of_ble_eq_true (by kernel_rfl))) (fun _ _ => (plain_int _ _).nn) d_known
theorem k_19 : KeepsC (gl Tryz.prog) C_charset_toLf (fun _ => none) 19 #[] :=
 keeps_of (G := gl Tryz.prog) (E := envX [(44,C_strings_ReplaceAll),(45,C_strings_Count),(46,C_strings_Contains)] [] [] [] [] [] [] 5 49 []) (envX_ok ⟨k_44,k_45,k_46,trivial⟩ trivial trivial trivial trivial trivial trivial trivial) Tryz.func19 (by kernel_rfl) (fun _ => (Nat.le_of_ble_eq_true (by kernel_rfl))) (fun _ _ => nn_tupS _) d_toLf
theorem k_24 : KeepsC (gl Tryz.prog) C_charset_fromLf (fun _ => none) 24 #[] :=
 keeps_of (G := gl Tryz.prog) (E := envX [(46,C_strings_Contains),(44,C_strings_ReplaceAll)] [] [] [] [] [] [] 5 49 []) (envX_ok ⟨k_46,k_44,trivial⟩ trivial trivial trivial trivial trivial trivial trivial) Tryz.func24 (by kernel_rfl) (fun _ => (Nat.le_of_ble_eq_true (by kernel_rfl))) (fun _ _ => nn_tupS _) d_fromLf
theorem k_17 : KeepsC (gl Tryz.prog) C_charset_Find (fun _ => none) 17 #[] :=
 keeps_of (G := gl Tryz.prog) (E := envX [(43,C_glob_Match)] [] [] [] [] [] [] 5 49 []) (envX_ok ⟨k_43,trivial⟩ trivial trivial trivial trivial trivial trivial trivial) Tryz.func17 (by kernel_rfl) (fun _ => (Nat.le_of_ble_eq_true (by kernel_rfl))) (fun x _ => nn_find x) d_Find
theorem k_7 : KeepsC (gl Tryz.prog) C_charset_ToRepo (fun _ => none) 7 #[] :=
 keeps_of (G := gl Tryz.prog) (E := envX [(17,C_charset_Find),(18,C_charset_known),(12,C_charset_Decode),(19,C_charset_toLf)] [] [] [] [] [] [] 5 49 []) (envX_ok ⟨k_17,k_18,k_12,k_19,trivial⟩ trivial trivial trivial trivial trivial trivial trivial) Tryz.func7 (by kernel_rfl) (fun _ => (Nat.le_of_ble_eq_true (by kernel_rfl))) (fun _ _ => nn_tupS _) d_ToRepo
theorem k_9 : KeepsC (gl Tryz.prog) C_charset_FromRepo (fun _ => none) 9 #[] :=
 keeps_of (G := gl Tryz.prog) (E := envX [(17,C_charset_Find),(18,C_charset_known),(24,C_charset_fromLf),(14,C_charset_Encode)] [] [] [] [] [] [] 5 49 []) (envX_ok ⟨k_17,k_18,k_24,k_14,trivial⟩ trivial trivial trivial trivial trivial trivial trivial) Tryz.func9 (by kernel_rfl) (fun _ => (Nat.le_of_ble_eq_true (by kernel_rfl))) (fun _ _ => nn_tupS _) d_FromRepo
theorem k_86 : KeepsI (gl Tryz.prog) T_strings_splitSeq_1 86 :=
 keepsI_of (G := gl Tryz.prog) (E := envX [(87,C_unicode_utf8_DecodeRuneInString),(74,C_strings_Index)] [] [] [] [] [] [] 5 49 []) (envX_ok ⟨k_87,k_74,trivial⟩ trivial trivial trivial trivial trivial trivial trivial) Tryz.func86 (by kernel_rfl) (Nat.le_of_ble_eq_true (by kernel_rfl))
theorem k_62 : KeepsH (gl Tryz.prog) H_strings_splitSeq 62 :=
 keepsH_of (G := gl Tryz.prog) (E := envX [] [(86,5)] [] [] [] [] [] 5 49 []) (envX_ok trivial ⟨rfl,trivial⟩ trivial trivial trivial trivial trivial trivial) Tryz.func62 (by kernel_rfl) (Nat.le_of_ble_eq_true (by kernel_rfl))
theorem k_40 : KeepsH (gl Tryz.prog) H_strings_SplitSeq 40 :=
 keepsH_of (G := gl Tryz.prog) (E := envX [] [] [] [(62,H_strings_splitSeq)] [] [] [] 5 49 []) (envX_ok trivial trivial trivial ⟨k_62,trivial⟩ trivial trivial trivial trivial) Tryz.func40 (by kernel_rfl) (Nat.le_of_ble_eq_true (by kernel_rfl))
theorem k_42 : KeepsC (gl Tryz.prog) C_charset_attribute (fun _ => none) 42 #[] :=
 keeps_of (G := gl Tryz.prog) (E := envX [(65,C_glob_Check),(66,C_charset_charsets),(67,C_charset_endings)] [] [] [] [] [] [(64,F_strings_Split32)] 5 49 []) (envX_ok ⟨k_65,k_66,k_67,trivial⟩ trivial trivial trivial trivial trivial ⟨k_64b,trivial⟩ trivial) Tryz.func42 (by kernel_rfl) (fun _ => (Nat.le_of_ble_eq_true (by kernel_rfl))) (fun _ _ => nn_attribute _) d_attribute
theorem k_16 : KeepsC (gl Tryz.prog) C_charset_Attributes (fun _ => none) 16 #[] :=
 keeps_of (G := gl Tryz.prog) (E := envX [(41,C_strings_TrimSuffix),(42,C_charset_attribute)] [] [] [(40,H_strings_SplitSeq)] [] [(5,T_strings_splitSeq_1)] [] 5 49 []) (envX_ok ⟨k_41,k_42,trivial⟩ trivial trivial ⟨k_40,trivial⟩ trivial ⟨k_86,trivial⟩ trivial trivial) Tryz.func16 (by kernel_rfl) (fun _ => (Nat.le_of_ble_eq_true (by kernel_rfl))) (fun _ _ => nn_Attributes _) d_Attributes
theorem k_6 : KeepsC (gl Tryz.prog) C_quiltlaw57_awake (fun _ => none) 6 #[] :=
 keeps_of (G := gl Tryz.prog) (E := envX [(16,C_charset_Attributes),(9,C_charset_FromRepo),(7,C_charset_ToRepo)] [] [] [] [] [] [] 5 49 []) (envX_ok ⟨k_16,k_9,k_7,trivial⟩ trivial trivial trivial trivial trivial trivial trivial) Tryz.func6 (by kernel_rfl) (fun _ => (Nat.le_of_ble_eq_true (by kernel_rfl))) (fun _ _ => (plain_bool _).nn) d_awake57
theorem k_5 : KeepsC (gl Tryz.prog) C_quiltref57_Great (fun _ => none) 5 #[] :=
 keeps_of (G := gl Tryz.prog) (E := envX [] [] [] [] [] [] [] 5 49 []) (envX_ok trivial trivial trivial trivial trivial trivial trivial trivial) Tryz.func5 (by kernel_rfl) (fun _ => (Nat.le_of_ble_eq_true (by kernel_rfl))) (fun _ _ => (plain_bool _).nn) d_Great
theorem k_33 : KeepsC (gl Tryz.prog) C_quiltref57_refused (fun _ => none) 33 #[] :=
 keeps_of (G := gl Tryz.prog) (E := envX [] [] [] [] [] [] [] 5 49 []) (envX_ok trivial trivial trivial trivial trivial trivial trivial trivial) Tryz.func33 (by kernel_rfl) (fun _ => (Nat.le_of_ble_eq_true (by kernel_rfl))) (fun _ _ => (plain_int _ _).nn) d_refused
theorem k_34 : KeepsC (gl Tryz.prog) C_quiltref57_latin (fun _ => none) 34 #[] :=
 keeps_of (G := gl Tryz.prog) (E := envX [] [] [] [] [] [] [] 5 49 []) (envX_ok trivial trivial trivial trivial trivial trivial trivial trivial) Tryz.func34 (by kernel_rfl) (fun _ => (Nat.le_of_ble_eq_true (by kernel_rfl))) (fun _ _ => nn_ilist _ _ _) d_latin
set_option maxRecDepth 8000 in
theorem k_58 : KeepsC (gl Tryz.prog) C_quiltref57_length (fun _ => none) 58 #[] :=
 keeps_of (G := gl Tryz.prog) (E := envX [] [] [] [] [] [] [] 5 49 []) (envX_ok trivial trivial trivial trivial trivial trivial trivial trivial) Tryz.func58 (by kernel_rfl) (fun _ => (Nat.le_of_ble_eq_true (by kernel_rfl))) (fun _ _ => (plain_int _ _).nn) d_length
theorem k_59 : KeepsC (gl Tryz.prog) C_quiltref57_valid (fun _ => none) 59 #[] :=
 keeps_of (G := gl Tryz.prog) (E := envX [] [] [] [] [] [] [] 5 49 []) (envX_ok trivial trivial trivial trivial trivial trivial trivial trivial) Tryz.func59 (by kernel_rfl) (fun _ => (Nat.le_of_ble_eq_true (by kernel_rfl))) (fun _ _ => (plain_bool _).nn) d_valid
set_option maxRecDepth 8000 in
theorem k_60 : KeepsC (gl Tryz.prog) C_quiltref57_utf8 (fun _ => none) 60 #[] :=
 keeps_of (G := gl Tryz.prog) (E := envX [] [] [] [] [] [] [] 5 49 []) (envX_ok trivial trivial trivial trivial trivial trivial trivial trivial) Tryz.func60 (by kernel_rfl) (fun _ => (Nat.le_of_ble_eq_true (by kernel_rfl))) (fun _ _ => (plain_str _).nn) d_utf8
theorem k_35 : KeepsC (gl Tryz.prog) C_quiltref57_Points (fun _ => none) 35 #[] :=
 keeps_of (G := gl Tryz.prog) (E := envX [(58,C_quiltref57_length),(59,C_quiltref57_valid),(60,C_quiltref57_utf8)] [] [] [] [] [] [] 5 49 []) (envX_ok ⟨k_58,k_59,k_60,trivial⟩ trivial trivial trivial trivial trivial trivial trivial) Tryz.func35 (by kernel_rfl) (fun _ => (Nat.le_of_ble_eq_true (by kernel_rfl))) (fun _ _ => nn_tup' (nnl_cons (nn_ilist _ _ _) (nnl_one (plain_bool _).nn))) d_Points
theorem k_36 : KeepsC (gl Tryz.prog) C_quiltref57_utf16 (fun _ => none) 36 #[] :=
 keeps_of (G := gl Tryz.prog) (E := envX [(59,C_quiltref57_valid)] [] [] [] [] [] [] 5 49 []) (envX_ok ⟨k_59,trivial⟩ trivial trivial trivial trivial trivial trivial trivial) Tryz.func36 (by kernel_rfl) (fun _ => (Nat.le_of_ble_eq_true (by kernel_rfl))) (fun _ _ => nn_tup' (nnl_cons (nn_ilist _ _ _) (nnl_one (plain_bool _).nn))) d_utf16
theorem k_38 : KeepsC (gl Tryz.prog) C_quiltref57_text (fun _ => none) 38 #[] :=
 keeps_of (G := gl Tryz.prog) (E := envX [(60,C_quiltref57_utf8)] [] [] [] [] [] [] 5 49 []) (envX_ok ⟨k_60,trivial⟩ trivial trivial trivial trivial trivial trivial trivial) Tryz.func38 (by kernel_rfl) (fun _ => (Nat.le_of_ble_eq_true (by kernel_rfl))) (fun _ _ => (plain_str _).nn) d_text
theorem k_37 : KeepsC (gl Tryz.prog) C_quiltref57_limited (fun _ => none) 37 #[] :=
 keeps_of (G := gl Tryz.prog) (E := envX [] [] [] [] [] [] [] 5 49 []) (envX_ok trivial trivial trivial trivial trivial trivial trivial trivial) Tryz.func37 (by kernel_rfl) (fun _ => (Nat.le_of_ble_eq_true (by kernel_rfl))) (fun _ _ => nn_tupS _) d_limited
theorem k_61 : KeepsC (gl Tryz.prog) C_quiltref57_two (fun _ => none) 61 #[] :=
 keeps_of (G := gl Tryz.prog) (E := envX [] [] [] [] [] [] [] 5 49 []) (envX_ok trivial trivial trivial trivial trivial trivial trivial trivial) Tryz.func61 (by kernel_rfl) (fun _ => (Nat.le_of_ble_eq_true (by kernel_rfl))) (fun _ _ => (plain_str _).nn) d_two
theorem k_39 : KeepsC (gl Tryz.prog) C_quiltref57_units (fun _ => none) 39 #[] :=
 keeps_of (G := gl Tryz.prog) (E := envX [(61,C_quiltref57_two)] [] [] [] [] [] [] 5 49 []) (envX_ok ⟨k_61,trivial⟩ trivial trivial trivial trivial trivial trivial trivial) Tryz.func39 (by kernel_rfl) (fun _ => (Nat.le_of_ble_eq_true (by kernel_rfl))) (fun _ _ => (plain_str _).nn) d_rUnits
theorem k_13 : KeepsC (gl Tryz.prog) C_quiltref57_Decode (fun _ => none) 13 #[] :=
 keeps_of (G := gl Tryz.prog) (E := envX [(33,C_quiltref57_refused),(34,C_quiltref57_latin),(35,C_quiltref57_Points),(36,C_quiltref57_utf16),(38,C_quiltref57_text),(37,C_quiltref57_limited)] [] [] [] [] [] [] 5 49 []) (envX_ok ⟨k_33,k_34,k_35,k_36,k_38,k_37,trivial⟩ trivial trivial trivial trivial trivial trivial trivial) Tryz.func13 (by kernel_rfl) (fun _ => (Nat.le_of_ble_eq_true (by kernel_rfl))) (fun _ _ => nn_tupS _) d_rDecode
theorem k_15 : KeepsC (gl Tryz.prog) C_quiltref57_Encode (fun _ => none) 15 #[] :=
 keeps_of (G := gl Tryz.prog) (E := envX [(33,C_quiltref57_refused),(35,C_quiltref57_Points),(39,C_quiltref57_units),(37,C_quiltref57_limited)] [] [] [] [] [] [] 5 49 []) (envX_ok ⟨k_33,k_35,k_39,k_37,trivial⟩ trivial trivial trivial trivial trivial trivial trivial) Tryz.func15 (by kernel_rfl) (fun _ => (Nat.le_of_ble_eq_true (by kernel_rfl))) (fun _ _ => nn_tupS _) d_rEncode
theorem k_77 : KeepsF (gl Tryz.prog) F_quiltref32_Split 77 :=
 keepsF_of (G := gl Tryz.prog) (E := envX [] [] [] [] [] [] [] 5 49 []) (envX_ok trivial trivial trivial trivial trivial trivial trivial trivial) Tryz.func77 (by kernel_rfl) (fun _ => (Nat.le_of_ble_eq_true (by kernel_rfl))) d_ref_Split
theorem k_112 : KeepsC (gl Tryz.prog) C_quiltref32_one (fun _ => none) 112 #[] :=
 keeps_of (G := gl Tryz.prog) (E := envX [] [] [] [] [] [] [] 5 49 []) (envX_ok trivial trivial trivial trivial trivial trivial trivial trivial) Tryz.func112 (by kernel_rfl) (fun _ => (Nat.le_of_ble_eq_true (by kernel_rfl))) (fun x _ => nn_ref_one x) d_ref_one
theorem k_111 : KeepsH (gl Tryz.prog) H_quiltref32_class 111 :=
 keepsH_of (G := gl Tryz.prog) (E := envX [(112,C_quiltref32_one)] [] [] [] [] [] [] 5 49 []) (envX_ok ⟨k_112,trivial⟩ trivial trivial trivial trivial trivial trivial trivial) Tryz.func111 (by kernel_rfl) (Nat.le_of_ble_eq_true (by kernel_rfl))
theorem k_94 : KeepsC (gl Tryz.prog) C_quiltref32_parse (fun _ => none) 94 #[] :=
 keeps_of (G := gl Tryz.prog) (E := envX [(112,C_quiltref32_one)] [] [] [(111,H_quiltref32_class)] [] [] [] 5 49 []) (envX_ok ⟨k_112,trivial⟩ trivial trivial ⟨k_111,trivial⟩ trivial trivial trivial trivial) Tryz.func94 (by kernel_rfl) (fun _ => (Nat.le_of_ble_eq_true (by kernel_rfl))) (fun x _ => nn_ref_parse x) d_ref_parse
theorem k_75 : KeepsC (gl Tryz.prog) C_quiltref32_glob (fun _ => none) 75 #[] :=
 keeps_of (G := gl Tryz.prog) (E := envX [(94,C_quiltref32_parse)] [] [] [] [] [] [(77,F_quiltref32_Split)] 5 49 []) (envX_ok ⟨k_94,trivial⟩ trivial trivial trivial trivial trivial ⟨k_77,trivial⟩ trivial) Tryz.func75 (by kernel_rfl) (fun _ => (Nat.le_of_ble_eq_true (by kernel_rfl))) (fun x _ => nn_ref_glob x) d_ref_glob
theorem k_95 : KeepsC (gl Tryz.prog) C_quiltref32_component1 (fun _ => none) 95 #[] :=
 keeps_of (G := gl Tryz.prog) (E := envX [] [] [] [] [] [] [] 5 49 []) (envX_ok trivial trivial trivial trivial trivial trivial trivial trivial) Tryz.func95 (by kernel_rfl) (fun _ => (Nat.le_of_ble_eq_true (by kernel_rfl))) (fun _ _ => (plain_bool _).nn) d_ref_component1
theorem k_76 : KeepsF (gl Tryz.prog) F_quiltref32_after 76 :=
 keepsF_of (G := gl Tryz.prog) (E := envX [(95,C_quiltref32_component1)] [] [] [] [] [] [] 5 49 []) (envX_ok ⟨k_95,trivial⟩ trivial trivial trivial trivial trivial trivial trivial) Tryz.func76 (by kernel_rfl) (fun _ => (Nat.le_of_ble_eq_true (by kernel_rfl))) d_ref_after
theorem k_47 : KeepsC (gl Tryz.prog) C_quiltref32_Match (fun _ => none) 47 #[] :=
 keeps_of (G := gl Tryz.prog) (E := envX [(75,C_quiltref32_glob)] [] [] [] [] [] [(77,F_quiltref32_Split),(76,F_quiltref32_after)] 5 49 []) (envX_ok ⟨k_75,trivial⟩ trivial trivial trivial trivial trivial ⟨k_77,k_76,trivial⟩ trivial) Tryz.func47 (by kernel_rfl) (fun _ => (Nat.le_of_ble_eq_true (by kernel_rfl))) (fun _ _ => (plain_bool _).nn) d_ref_Match
theorem k_20 : KeepsC (gl Tryz.prog) C_quiltref57_Find (fun _ => none) 20 #[] :=
 keeps_of (G := gl Tryz.prog) (E := envX [(47,C_quiltref32_Match)] [] [] [] [] [] [] 5 49 []) (envX_ok ⟨k_47,trivial⟩ trivial trivial trivial trivial trivial trivial trivial) Tryz.func20 (by kernel_rfl) (fun _ => (Nat.le_of_ble_eq_true (by kernel_rfl))) (fun x _ => nn_find x) d_rFind
theorem k_21 : KeepsC (gl Tryz.prog) C_quiltref57_unknown (fun _ => none) 21 #[] :=
 keeps_of (G := gl Tryz.prog) (E := envX [] [] [] [] [] [] [] 5 49 []) (envX_ok trivial trivial trivial trivial trivial trivial trivial trivial) Tryz.func21 (by kernel_rfl) (fun _ => (Nat.le_of_ble_eq_true (by kernel_rfl))) (fun _ _ => (plain_int _ _).nn) d_unknown
theorem k_22 : KeepsC (gl Tryz.prog) C_quiltref57_clean (fun _ => none) 22 #[] :=
 keeps_of (G := gl Tryz.prog) (E := envX [] [] [] [] [] [] [] 5 49 []) (envX_ok trivial trivial trivial trivial trivial trivial trivial trivial) Tryz.func22 (by kernel_rfl) (fun _ => (Nat.le_of_ble_eq_true (by kernel_rfl))) (fun _ _ => (plain_bool _).nn) d_clean
theorem k_23 : KeepsC (gl Tryz.prog) C_quiltref57_without (fun _ => none) 23 #[] :=
 keeps_of (G := gl Tryz.prog) (E := envX [] [] [] [] [] [] [] 5 49 []) (envX_ok trivial trivial trivial trivial trivial trivial trivial trivial) Tryz.func23 (by kernel_rfl) (fun _ => (Nat.le_of_ble_eq_true (by kernel_rfl))) (fun _ _ => nn_tupB _) d_without
theorem k_8 : KeepsC (gl Tryz.prog) C_quiltref57_ToRepo (fun _ => none) 8 #[] :=
 keeps_of (G := gl Tryz.prog) (E := envX [(20,C_quiltref57_Find),(21,C_quiltref57_unknown),(13,C_quiltref57_Decode),(22,C_quiltref57_clean),(23,C_quiltref57_without)] [] [] [] [] [] [] 5 49 []) (envX_ok ⟨k_20,k_21,k_13,k_22,k_23,trivial⟩ trivial trivial trivial trivial trivial trivial trivial) Tryz.func8 (by kernel_rfl) (fun _ => (Nat.le_of_ble_eq_true (by kernel_rfl))) (fun _ _ => nn_tupS _) d_rToRepo
theorem k_10 : KeepsC (gl Tryz.prog) C_quiltref57_FromRepo (fun _ => none) 10 #[] :=
 keeps_of (G := gl Tryz.prog) (E := envX [(20,C_quiltref57_Find),(21,C_quiltref57_unknown),(22,C_quiltref57_clean),(15,C_quiltref57_Encode)] [] [] [] [] [] [] 5 49 []) (envX_ok ⟨k_20,k_21,k_22,k_15,trivial⟩ trivial trivial trivial trivial trivial trivial trivial) Tryz.func10 (by kernel_rfl) (fun _ => (Nat.le_of_ble_eq_true (by kernel_rfl))) (fun _ _ => nn_tupS _) d_rFromRepo
theorem k_3 : KeepsC (gl Tryz.prog) C_quiltlaw57_CharsetRepo (fun _ => none) 3 #[] :=
 keeps_of (G := gl Tryz.prog) (E := envX [(5,C_quiltref57_Great),(6,C_quiltlaw57_awake),(7,C_charset_ToRepo),(8,C_quiltref57_ToRepo),(9,C_charset_FromRepo),(10,C_quiltref57_FromRepo)] [] [] [] [] [] [] 5 49 []) (envX_ok ⟨k_5,k_6,k_7,k_8,k_9,k_10,trivial⟩ trivial trivial trivial trivial trivial trivial trivial) Tryz.func3 (by kernel_rfl) (fun _ => (Nat.le_of_ble_eq_true (by kernel_rfl))) (fun _ _ => (plain_bool _).nn) d_CharsetRepo

end Go.Proofs.YtnjncjjegolojaaGreatDoor
