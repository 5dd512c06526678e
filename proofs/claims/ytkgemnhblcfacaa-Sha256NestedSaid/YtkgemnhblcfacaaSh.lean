/-
  What the shelf lays at this program, in plain words.
-/
import Derived.Shelf.Strings.Builder1
import Derived.Shelf.Strings.Builder2
import Derived.Shelf.Small.Strs
import Derived.Shelf.Strings.BuilderF
import Derived.Shelf.Strings.Search1
import Derived.Shelf.Strings.Prefix
import Derived.Shelf.Bits.Mul64
import Derived.Shelf.Strings.Repeat
import Derived.Test.YtkgemnhblcfacaaProg

/-
  DERIVED: THE SHELF's CONTRACTS AT THIS DUMP, IN PLAIN WORDS (tools/lay-plain.mjs out of 'YtkgemnhblcfacaaSh.lean', which tools/lay-shelf.mjs wrote): THE SAME DECLARATIONS UNDER THE SAME NAMES: 'import', 'namespace', 'open', 'def', 'theorem' AND NOTHING ELSE: no command of the shelf's: FOR A HAND-IN. Each laying: the table of numbers ('.._ren') and one theorem, a field a fact of the dump's own or the kernel's comparison; each contract: ONE APPLICATION.
-/
namespace Go.Proofs
open Go.Shelf
def Try.lays105_ren : Go.Shelf.Ren := ⟨fun | 105 => 30 | 212 => 45 | 99 => 46 | 165 => 47 | 166 => 48 | 170 => 49 | 169 => 50 | 263 => 54 | 264 => 55 | 206 => 56 | 240 => 57 | 241 => 58 | 276 => 60 | 277 => 61 | n => n, fun | 9 => 9 | 3 => 3 | 4 => 4 | 20 => 20 | 0 => 0 | 46 => 48 | 109 => 61 | 5 => 5 | 72 => 65 | 76 => 69 | 51 => 40 | 146 => 73 | 53 => 55 | 148 => 75 | 70 => 63 | 37 => 30 | 75 => 68 | 127 => 77 | 164 => 78 | 80 => 72 | n => n, fun | n => n⟩
theorem Try.lays105 : Go.Proofs.Lays.n105 Try.prog Try.lays105_ren := {
  mixed := by kernel_rfl
  f99 := Try.func46.trans (congrArg some (by kernel_rfl))
  f105 := Try.func30.trans (congrArg some (by kernel_rfl))
  f165 := Try.func47.trans (congrArg some (by kernel_rfl))
  f166 := Try.func48.trans (congrArg some (by kernel_rfl))
  f169 := Try.func50.trans (congrArg some (by kernel_rfl))
  f170 := Try.func49.trans (congrArg some (by kernel_rfl))
  f206 := Try.func56.trans (congrArg some (by kernel_rfl))
  f212 := Try.func45.trans (congrArg some (by kernel_rfl))
  f240 := Try.func57.trans (congrArg some (by kernel_rfl))
  f241 := Try.func58.trans (congrArg some (by kernel_rfl))
  f263 := Try.func54.trans (congrArg some (by kernel_rfl))
  f264 := Try.func55.trans (congrArg some (by kernel_rfl))
  f276 := Try.func60.trans (congrArg some (by kernel_rfl))
  f277 := Try.func61.trans (congrArg some (by kernel_rfl))
  t0 := Try.underlying0
  a0 := Try.isAgg0
  z0 := Try.sizeOf0
  v0 := Try.zeroValue0
  t3 := Try.underlying3
  a3 := Try.isAgg3
  z3 := Try.sizeOf3
  v3 := Try.zeroValue3
  t4 := Try.underlying4
  a4 := Try.isAgg4
  z4 := Try.sizeOf4
  v4 := Try.zeroValue4
  t5 := Try.underlying5
  a5 := Try.isAgg5
  z5 := Try.sizeOf5
  v5 := Try.zeroValue5
  t9 := Try.underlying9
  a9 := Try.isAgg9
  z9 := Try.sizeOf9
  v9 := Try.zeroValue9
  t20 := Try.underlying20
  a20 := Try.isAgg20
  z20 := Try.sizeOf20
  v20 := Try.zeroValue20
  t37 := Try.underlying30
  a37 := Try.isAgg30
  z37 := Try.sizeOf30
  v37 := Try.zeroValue30
  t46 := Try.underlying48
  a46 := Try.isAgg48
  z46 := Try.sizeOf48
  v46 := Try.zeroValue48
  t51 := Try.underlying40
  a51 := Try.isAgg40
  z51 := Try.sizeOf40
  v51 := Try.zeroValue40
  t53 := Try.underlying55
  a53 := Try.isAgg55
  z53 := Try.sizeOf55
  v53 := Try.zeroValue55
  t70 := Try.underlying63
  a70 := Try.isAgg63
  z70 := Try.sizeOf63
  v70 := Try.zeroValue63
  t72 := Try.underlying65
  a72 := Try.isAgg65
  z72 := Try.sizeOf65
  v72 := Try.zeroValue65
  t75 := Try.underlying68
  a75 := Try.isAgg68
  z75 := Try.sizeOf68
  v75 := Try.zeroValue68
  t76 := Try.underlying69
  a76 := Try.isAgg69
  z76 := Try.sizeOf69
  v76 := Try.zeroValue69
  t109 := Try.underlying61
  a109 := Try.isAgg61
  z109 := Try.sizeOf61
  v109 := Try.zeroValue61
  t127 := Try.underlying77
  a127 := Try.isAgg77
  z127 := Try.sizeOf77
  v127 := Try.zeroValue77
  t146 := Try.underlying73
  a146 := Try.isAgg73
  z146 := Try.sizeOf73
  v146 := Try.zeroValue73
  t148 := Try.underlying75
  a148 := Try.isAgg75
  z148 := Try.sizeOf75
  v148 := Try.zeroValue75
  t164 := Try.underlying78
  a164 := Try.isAgg78
  z164 := Try.sizeOf78
  v164 := Try.zeroValue78 }
theorem Try.Builder_Extra_105 : Builder.Extra Try.prog Try.lays105_ren := {
  sizeBuilder := by kernel_rfl
  liesBuilder := by kernel_rfl
  t5 := Try.underlying5
  a5 := Try.isAgg5
  z5 := Try.sizeOf5
  v5 := Try.zeroValue5
  infoByte := by kernel_rfl
  cellsByte := by kernel_rfl
  sizeByte := by kernel_rfl
  neB5 := by decide }
open Go.RowKit Go.Lib in
/-- **strings.Repeat: count ≥ 0, the result within one allocation: count copies of s.** (LAID: no walk: one application.) -/
theorem Try.strings_Repeat (s : ByteArray) (c : Nat) (w : World) (hc : c ≤ 9223372036854775807) (hlen : s.size * c ≤ 140737488355328) :
    Calls Try.prog 30 #[.string s, .int .i64 c] w fun e w' => e = .returned (.string ⟨(Lib.repeatL s.data.toList c).toArray⟩) ∧ Below w.heap.size w w' := Any.strings_Repeat Try.lays105 Try.Builder_Extra_105 s c w hc hlen
end Go.Proofs
