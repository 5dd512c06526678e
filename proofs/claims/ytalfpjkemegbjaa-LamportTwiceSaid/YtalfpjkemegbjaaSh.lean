/-
  What the shelf lays at this program, in plain words.
-/
import Derived.Shelf.Strings.Builder1
import Derived.Shelf.Strings.Builder2
import Derived.Shelf.Strings.BuilderF
import Derived.Shelf.Strings.Prefix
import Derived.Shelf.Bits.Mul64
import Derived.Shelf.Strings.Repeat
import Derived.Test.YtalfpjkemegbjaaProg

/-
  DERIVED: THE SHELF's CONTRACTS AT THIS DUMP, IN PLAIN WORDS (tools/lay-plain.mjs out of 'YtalfpjkemegbjaaSh.lean', which tools/lay-shelf.mjs wrote): THE SAME DECLARATIONS UNDER THE SAME NAMES: 'import', 'namespace', 'open', 'def', 'theorem' AND NOTHING ELSE: no command of the shelf's: FOR A HAND-IN. Each laying: the table of numbers ('.._ren') and one theorem, a field a fact of the dump's own or the kernel's comparison; each contract: ONE APPLICATION.
-/
namespace Go.Proofs
open Go.Shelf
def Try.lays169_ren : Go.Shelf.Ren := ⟨fun | 169 => 53 | n => n, fun | 70 => 80 | 9 => 9 | 0 => 0 | 72 => 82 | 37 => 40 | 127 => 102 | 3 => 3 | 5 => 5 | n => n, fun | n => n⟩
theorem Try.lays169 : Go.Proofs.Lays.n169 Try.prog Try.lays169_ren := {
  mixed := by kernel_rfl
  f169 := Try.func53.trans (congrArg some (by kernel_rfl))
  t0 := Try.underlying0
  a0 := Try.isAgg0
  z0 := Try.sizeOf0
  v0 := Try.zeroValue0
  t3 := Try.underlying3
  a3 := Try.isAgg3
  z3 := Try.sizeOf3
  v3 := Try.zeroValue3
  t9 := Try.underlying9
  a9 := Try.isAgg9
  z9 := Try.sizeOf9
  v9 := Try.zeroValue9
  t37 := Try.underlying40
  a37 := Try.isAgg40
  z37 := Try.sizeOf40
  v37 := Try.zeroValue40
  t70 := Try.underlying80
  a70 := Try.isAgg80
  z70 := Try.sizeOf80
  v70 := Try.zeroValue80
  t72 := Try.underlying82
  a72 := Try.isAgg82
  z72 := Try.sizeOf82
  v72 := Try.zeroValue82
  t127 := Try.underlying102
  a127 := Try.isAgg102
  z127 := Try.sizeOf102
  v127 := Try.zeroValue102 }
theorem Try.Builder_Extra_169 : Builder.Extra Try.prog Try.lays169_ren := {
  sizeBuilder := by kernel_rfl
  liesBuilder := by kernel_rfl
  t5 := Try.underlying5
  a5 := Try.isAgg5
  z5 := Try.sizeOf5
  v5 := Try.zeroValue5
  infoByte := by kernel_rfl
  cellsByte := by kernel_rfl
  sizeByte := by kernel_rfl
  neB5 := by decide }
open Go.RowKit in
/-- (*strings.Builder).String: "String returns the accumulated string.": WHATEVER THE BUILDER HOLDS. (LAID: no walk: one application.) -/
theorem Try.Builder_String_any (B b : Nat) (l : List UInt8) (w : World) (h : Lib.IsBuilder 82 5 B b (Lib.byteCells l) w) (hBw : B ≤ w.heap.size) :
    Calls Try.prog 53 #[.pointer (some ⟨b, 0, none⟩)] w fun e w' => e = .returned (.string ⟨l.toArray⟩) ∧ Below B w w' := Any.Builder_String_any Try.lays169 Try.Builder_Extra_169 B b l w h hBw
def Try.lays105_ren : Go.Shelf.Ren := ⟨fun | 105 => 63 | 212 => 69 | 99 => 70 | 165 => 71 | 166 => 72 | 170 => 73 | 169 => 53 | 263 => 75 | 264 => 76 | 206 => 77 | 240 => 67 | 241 => 78 | 276 => 74 | 277 => 79 | n => n, fun | 9 => 9 | 3 => 3 | 4 => 4 | 20 => 20 | 0 => 0 | 46 => 77 | 109 => 103 | 5 => 5 | 72 => 82 | 76 => 86 | 51 => 67 | 146 => 111 | 53 => 92 | 148 => 113 | 70 => 80 | 37 => 40 | 75 => 84 | 127 => 102 | 164 => 109 | 80 => 88 | n => n, fun | n => n⟩
theorem Try.lays105 : Go.Proofs.Lays.n105 Try.prog Try.lays105_ren := {
  mixed := by kernel_rfl
  f99 := Try.func70.trans (congrArg some (by kernel_rfl))
  f105 := Try.func63.trans (congrArg some (by kernel_rfl))
  f165 := Try.func71.trans (congrArg some (by kernel_rfl))
  f166 := Try.func72.trans (congrArg some (by kernel_rfl))
  f169 := Try.func53.trans (congrArg some (by kernel_rfl))
  f170 := Try.func73.trans (congrArg some (by kernel_rfl))
  f206 := Try.func77.trans (congrArg some (by kernel_rfl))
  f212 := Try.func69.trans (congrArg some (by kernel_rfl))
  f240 := Try.func67.trans (congrArg some (by kernel_rfl))
  f241 := Try.func78.trans (congrArg some (by kernel_rfl))
  f263 := Try.func75.trans (congrArg some (by kernel_rfl))
  f264 := Try.func76.trans (congrArg some (by kernel_rfl))
  f276 := Try.func74.trans (congrArg some (by kernel_rfl))
  f277 := Try.func79.trans (congrArg some (by kernel_rfl))
  t0 := Try.underlying0
  a0 := Try.isAgg0
  z0 := Try.sizeOf0
  v0 := Try.zeroValue0
  t3 := Try.underlying3
  a3 := Try.isAgg3
  z3 := Try.sizeOf3
  v3 := Try.zeroValue3
  t4 := Try.underlying4
  a4 := Try.isAgg4
  z4 := Try.sizeOf4
  v4 := Try.zeroValue4
  t5 := Try.underlying5
  a5 := Try.isAgg5
  z5 := Try.sizeOf5
  v5 := Try.zeroValue5
  t9 := Try.underlying9
  a9 := Try.isAgg9
  z9 := Try.sizeOf9
  v9 := Try.zeroValue9
  t20 := Try.underlying20
  a20 := Try.isAgg20
  z20 := Try.sizeOf20
  v20 := Try.zeroValue20
  t37 := Try.underlying40
  a37 := Try.isAgg40
  z37 := Try.sizeOf40
  v37 := Try.zeroValue40
  t46 := Try.underlying77
  a46 := Try.isAgg77
  z46 := Try.sizeOf77
  v46 := Try.zeroValue77
  t51 := Try.underlying67
  a51 := Try.isAgg67
  z51 := Try.sizeOf67
  v51 := Try.zeroValue67
  t53 := Try.underlying92
  a53 := Try.isAgg92
  z53 := Try.sizeOf92
  v53 := Try.zeroValue92
  t70 := Try.underlying80
  a70 := Try.isAgg80
  z70 := Try.sizeOf80
  v70 := Try.zeroValue80
  t72 := Try.underlying82
  a72 := Try.isAgg82
  z72 := Try.sizeOf82
  v72 := Try.zeroValue82
  t75 := Try.underlying84
  a75 := Try.isAgg84
  z75 := Try.sizeOf84
  v75 := Try.zeroValue84
  t76 := Try.underlying86
  a76 := Try.isAgg86
  z76 := Try.sizeOf86
  v76 := Try.zeroValue86
  t109 := Try.underlying103
  a109 := Try.isAgg103
  z109 := Try.sizeOf103
  v109 := Try.zeroValue103
  t127 := Try.underlying102
  a127 := Try.isAgg102
  z127 := Try.sizeOf102
  v127 := Try.zeroValue102
  t146 := Try.underlying111
  a146 := Try.isAgg111
  z146 := Try.sizeOf111
  v146 := Try.zeroValue111
  t148 := Try.underlying113
  a148 := Try.isAgg113
  z148 := Try.sizeOf113
  v148 := Try.zeroValue113
  t164 := Try.underlying109
  a164 := Try.isAgg109
  z164 := Try.sizeOf109
  v164 := Try.zeroValue109 }
theorem Try.Builder_Extra_105 : Builder.Extra Try.prog Try.lays105_ren := {
  sizeBuilder := by kernel_rfl
  liesBuilder := by kernel_rfl
  t5 := Try.underlying5
  a5 := Try.isAgg5
  z5 := Try.sizeOf5
  v5 := Try.zeroValue5
  infoByte := by kernel_rfl
  cellsByte := by kernel_rfl
  sizeByte := by kernel_rfl
  neB5 := by decide }
open Go.RowKit Go.Lib in
/-- **strings.Repeat: count ≥ 0, the result within one allocation: count copies of s.** (LAID: no walk: one application.) -/
theorem Try.strings_Repeat (s : ByteArray) (c : Nat) (w : World) (hc : c ≤ 9223372036854775807) (hlen : s.size * c ≤ 140737488355328) :
    Calls Try.prog 63 #[.string s, .int .i64 c] w fun e w' => e = .returned (.string ⟨(Lib.repeatL s.data.toList c).toArray⟩) ∧ Below w.heap.size w w' := Any.strings_Repeat Try.lays105 Try.Builder_Extra_105 s c w hc hlen
end Go.Proofs
