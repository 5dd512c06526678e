/-
  What the shelf lays at this program, in plain words.
-/
import Derived.Shelf.Unicode.ValidAny
import Derived.Shelf.Strings.Builder1
import Derived.Shelf.Strings.Builder2
import Derived.Shelf.Small.Strs
import Derived.Shelf.Small.Wraps
import Derived.Shelf.Strings.BuilderF
import Derived.Shelf.Utf8.RuneCount
import Derived.Shelf.Strings.Builder2Cap
import Derived.Shelf.Strings.Search1
import Derived.Shelf.Strings.Search2
import Derived.Shelf.Strings.Search3
import Derived.Shelf.Strings.Count
import Derived.Shelf.LaysM
import Derived.Shelf.Strings.Shaped
import Derived.Shelf.Strings.Prefix
import Derived.Shelf.Strings.Split
import Derived.Shelf.Strings.Replace
import Derived.Shelf.Strings.SplitShaped
import Derived.Shelf.Unicode.Decode
import Derived.Shelf.Strings.RuneCount
import Derived.Shelf.Strings.Explode
import Derived.Shelf.Unicode.DecodeSlow
import Derived.Shelf.Unicode.DecodeAny
import Derived.Test.YtnjncjjegolojaaDoorProg

/-
  DERIVED: THE SHELF's CONTRACTS AT THIS DUMP, IN PLAIN WORDS (tools/lay-plain.mjs out of 'YtnjncjjegolojaaDoorSh.lean', which tools/lay-shelf.mjs wrote): THE SAME DECLARATIONS UNDER THE SAME NAMES: 'import', 'namespace', 'open', 'def', 'theorem' AND NOTHING ELSE: no command of the shelf's: FOR A HAND-IN. Each laying: the table of numbers ('.._ren') and one theorem, a field a fact of the dump's own or the kernel's comparison; each contract: ONE APPLICATION.
-/
namespace Go.Proofs
open Go.Shelf
def Tryd.lays169_ren : Go.Shelf.Ren := ⟨fun | 169 => 81 | n => n, fun | 70 => 104 | 9 => 9 | 0 => 0 | 72 => 106 | 37 => 57 | 127 => 136 | 3 => 3 | 5 => 5 | n => n, fun | n => n⟩
theorem Tryd.lays169 : Go.Proofs.Lays.n169 Tryd.prog Tryd.lays169_ren := {
  mixed := by kernel_rfl
  f169 := Tryd.func81.trans (congrArg some (by kernel_rfl))
  t0 := Tryd.underlying0
  a0 := Tryd.isAgg0
  z0 := Tryd.sizeOf0
  v0 := Tryd.zeroValue0
  t3 := Tryd.underlying3
  a3 := Tryd.isAgg3
  z3 := Tryd.sizeOf3
  v3 := Tryd.zeroValue3
  t9 := Tryd.underlying9
  a9 := Tryd.isAgg9
  z9 := Tryd.sizeOf9
  v9 := Tryd.zeroValue9
  t37 := Tryd.underlying57
  a37 := Tryd.isAgg57
  z37 := Tryd.sizeOf57
  v37 := Tryd.zeroValue57
  t70 := Tryd.underlying104
  a70 := Tryd.isAgg104
  z70 := Tryd.sizeOf104
  v70 := Tryd.zeroValue104
  t72 := Tryd.underlying106
  a72 := Tryd.isAgg106
  z72 := Tryd.sizeOf106
  v72 := Tryd.zeroValue106
  t127 := Tryd.underlying136
  a127 := Tryd.isAgg136
  z127 := Tryd.sizeOf136
  v127 := Tryd.zeroValue136 }
theorem Tryd.Builder_Extra_169 : Builder.Extra Tryd.prog Tryd.lays169_ren := {
  sizeBuilder := by kernel_rfl
  liesBuilder := by kernel_rfl
  t5 := Tryd.underlying5
  a5 := Tryd.isAgg5
  z5 := Tryd.sizeOf5
  v5 := Tryd.zeroValue5
  infoByte := by kernel_rfl
  cellsByte := by kernel_rfl
  sizeByte := by kernel_rfl
  neB5 := by decide }
open Go.RowKit in
/-- (*strings.Builder).String: "String returns the accumulated string.": WHATEVER THE BUILDER HOLDS. (LAID: no walk: one application.) -/
theorem Tryd.Builder_String_any (B b : Nat) (l : List UInt8) (w : World) (h : Lib.IsBuilder 106 5 B b (Lib.byteCells l) w) (hBw : B ≤ w.heap.size) :
    Calls Tryd.prog 81 #[.pointer (some ⟨b, 0, none⟩)] w fun e w' => e = .returned (.string ⟨l.toArray⟩) ∧ Below B w w' := Any.Builder_String_any Tryd.lays169 Tryd.Builder_Extra_169 B b l w h hBw
def Tryd.lays165_ren : Go.Shelf.Ren := ⟨fun | 165 => 77 | 240 => 101 | 241 => 102 | 276 => 115 | 277 => 116 | n => n, fun | 70 => 104 | 3 => 3 | 0 => 0 | 4 => 4 | 9 => 9 | 20 => 20 | 72 => 106 | 37 => 57 | 164 => 153 | 5 => 5 | n => n, fun | n => n⟩
theorem Tryd.lays165 : Go.Proofs.Lays.n165 Tryd.prog Tryd.lays165_ren := {
  mixed := by kernel_rfl
  f165 := Tryd.func77.trans (congrArg some (by kernel_rfl))
  f240 := Tryd.func101.trans (congrArg some (by kernel_rfl))
  f241 := Tryd.func102.trans (congrArg some (by kernel_rfl))
  f276 := Tryd.func115.trans (congrArg some (by kernel_rfl))
  f277 := Tryd.func116.trans (congrArg some (by kernel_rfl))
  t0 := Tryd.underlying0
  a0 := Tryd.isAgg0
  z0 := Tryd.sizeOf0
  v0 := Tryd.zeroValue0
  t3 := Tryd.underlying3
  a3 := Tryd.isAgg3
  z3 := Tryd.sizeOf3
  v3 := Tryd.zeroValue3
  t4 := Tryd.underlying4
  a4 := Tryd.isAgg4
  z4 := Tryd.sizeOf4
  v4 := Tryd.zeroValue4
  t9 := Tryd.underlying9
  a9 := Tryd.isAgg9
  z9 := Tryd.sizeOf9
  v9 := Tryd.zeroValue9
  t20 := Tryd.underlying20
  a20 := Tryd.isAgg20
  z20 := Tryd.sizeOf20
  v20 := Tryd.zeroValue20
  t37 := Tryd.underlying57
  a37 := Tryd.isAgg57
  z37 := Tryd.sizeOf57
  v37 := Tryd.zeroValue57
  t70 := Tryd.underlying104
  a70 := Tryd.isAgg104
  z70 := Tryd.sizeOf104
  v70 := Tryd.zeroValue104
  t72 := Tryd.underlying106
  a72 := Tryd.isAgg106
  z72 := Tryd.sizeOf106
  v72 := Tryd.zeroValue106
  t164 := Tryd.underlying153
  a164 := Tryd.isAgg153
  z164 := Tryd.sizeOf153
  v164 := Tryd.zeroValue153 }
theorem Tryd.Builder_Extra_165 : Builder.Extra Tryd.prog Tryd.lays165_ren := {
  sizeBuilder := by kernel_rfl
  liesBuilder := by kernel_rfl
  t5 := Tryd.underlying5
  a5 := Tryd.isAgg5
  z5 := Tryd.sizeOf5
  v5 := Tryd.zeroValue5
  infoByte := by kernel_rfl
  cellsByte := by kernel_rfl
  sizeByte := by kernel_rfl
  neB5 := by decide }
open Go.RowKit in
/-- (*strings.Builder).Grow AT A BUILDER THAT HAS NOT BEEN WRITTEN ('var b strings.Builder; b.Grow(n)'): "Grow grows b's capacity, if necessary, to guarantee space for another n bytes.": it holds no byte behind it as before it. (LAID: no walk: one application.) -/
theorem Tryd.Builder_Grow_fresh (B b n : Nat) (w : World) (hB : B ≤ b) (hbk : w.heap[b]? = some (.cells #[.pointer none, .slice none 0 0] 106 (0, 0))) (hBw : B ≤ w.heap.size) (hn : n ≤ 281474976710656) :
    Calls Tryd.prog 77 #[.pointer (some ⟨b, 0, none⟩), .int .i64 n] w fun e w' => e = .returned (.tuple #[]) ∧ (Lib.BuilderAt 106 5 B b (.pointer (some ⟨b, 0, none⟩)) [] w' ∧ Below B w w') := Any.Builder_Grow_fresh Tryd.lays165 Tryd.Builder_Extra_165 B b n w hB hbk hBw hn
def Tryd.lays103_ren : Go.Shelf.Ren := ⟨fun | 103 => 85 | 210 => 107 | 206 => 48 | n => n, fun | 9 => 9 | 4 => 4 | 24 => 74 | 3 => 3 | n => n, fun | n => n⟩
theorem Tryd.lays103 : Go.Proofs.Lays.n103 Tryd.prog Tryd.lays103_ren := {
  mixed := by kernel_rfl
  f103 := Tryd.func85.trans (congrArg some (by kernel_rfl))
  f206 := Tryd.func48.trans (congrArg some (by kernel_rfl))
  f210 := Tryd.func107.trans (congrArg some (by kernel_rfl))
  t3 := Tryd.underlying3
  a3 := Tryd.isAgg3
  z3 := Tryd.sizeOf3
  v3 := Tryd.zeroValue3
  t4 := Tryd.underlying4
  a4 := Tryd.isAgg4
  z4 := Tryd.sizeOf4
  v4 := Tryd.zeroValue4
  t9 := Tryd.underlying9
  a9 := Tryd.isAgg9
  z9 := Tryd.sizeOf9
  v9 := Tryd.zeroValue9
  t24 := Tryd.underlying74
  a24 := Tryd.isAgg74
  z24 := Tryd.sizeOf74
  v24 := Tryd.zeroValue74 }
open Go.RowKit in
/-- strings.CutPrefix: "CutPrefix returns s without the provided leading prefix string and reports whether it found the prefix. If s doesn't start with prefix, CutPrefix returns s, false. If prefix is the empty string, CutPrefix returns s, true.": IT RETURNS '(Lib.trimPrefix s p, Lib.hasPrefix s p)'; the world is as it was. (LAID: no walk: one application.) -/
theorem Tryd.strings_CutPrefix (s p : ByteArray) (w : World) :
    Calls Tryd.prog 85 #[.string s, .string p] w fun e w' => e = .returned (.tuple #[.string ⟨(Lib.trimPrefix s.data.toList p.data.toList).toArray⟩, .bool (Lib.hasPrefix s.data.toList p.data.toList)]) ∧ w' = w := Any.strings_CutPrefix Tryd.lays103 s p w
def Tryd.lays143_ren : Go.Shelf.Ren := ⟨fun | 143 => 78 | 219 => 103 | 217 => 49 | 225 => 117 | 224 => 118 | 267 => 119 | 266 => 76 | 314 => 121 | n => n, fun | 9 => 9 | 3 => 3 | 4 => 4 | 5 => 5 | 46 => 76 | 146 => 159 | 51 => 158 | n => n, fun | 1 => 0 | n => n⟩
theorem Tryd.lays143 : Go.Proofs.Lays.n143 Tryd.prog Tryd.lays143_ren := {
  mixed := by kernel_rfl
  f143 := Tryd.func78.trans (congrArg some (by kernel_rfl))
  f217 := Tryd.func49.trans (congrArg some (by kernel_rfl))
  f219 := Tryd.func103.trans (congrArg some (by kernel_rfl))
  f224 := Tryd.func118.trans (congrArg some (by kernel_rfl))
  f225 := Tryd.func117.trans (congrArg some (by kernel_rfl))
  f266 := Tryd.func76.trans (congrArg some (by kernel_rfl))
  f267 := Tryd.func119.trans (congrArg some (by kernel_rfl))
  f314 := Tryd.func121.trans (congrArg some (by kernel_rfl))
  t3 := Tryd.underlying3
  a3 := Tryd.isAgg3
  z3 := Tryd.sizeOf3
  v3 := Tryd.zeroValue3
  t4 := Tryd.underlying4
  a4 := Tryd.isAgg4
  z4 := Tryd.sizeOf4
  v4 := Tryd.zeroValue4
  t5 := Tryd.underlying5
  a5 := Tryd.isAgg5
  z5 := Tryd.sizeOf5
  v5 := Tryd.zeroValue5
  t9 := Tryd.underlying9
  a9 := Tryd.isAgg9
  z9 := Tryd.sizeOf9
  v9 := Tryd.zeroValue9
  t46 := Tryd.underlying76
  a46 := Tryd.isAgg76
  z46 := Tryd.sizeOf76
  v46 := Tryd.zeroValue76
  t51 := Tryd.underlying158
  a51 := Tryd.isAgg158
  z51 := Tryd.sizeOf158
  v51 := Tryd.zeroValue158
  t146 := Tryd.underlying159
  a146 := Tryd.isAgg159
  z146 := Tryd.sizeOf159
  v146 := Tryd.zeroValue159
  g1 := by kernel_rfl }
open Go.RowKit Go.Lib in
/-- strings.Index: "Index returns the index of the first instance of substr in s, or -1 if substr is not present in s.": AT A substr OF ONE BYTE c: IT RETURNS 'Lib.indexByte s c'; the world is as it was. (LAID: no walk: one application.) -/
theorem Tryd.strings_Index_one (s : ByteArray) (c : UInt8) (w : World) :
    Calls Tryd.prog 78 #[.string s, .string ⟨#[c]⟩] w fun e w' => e = .returned (.int .i64 (Lib.indexByte s.data.toList c)) ∧ w' = w := Any.strings_Index_one Tryd.lays143 s c w
def Tryd.lays144_ren : Go.Shelf.Ren := ⟨fun | 144 => 72 | 143 => 78 | 219 => 103 | 217 => 49 | 225 => 117 | 224 => 118 | 267 => 119 | 266 => 76 | 314 => 121 | n => n, fun | 9 => 9 | 4 => 4 | 3 => 3 | 5 => 5 | 46 => 76 | 146 => 159 | 51 => 158 | n => n, fun | 1 => 0 | n => n⟩
theorem Tryd.lays144 : Go.Proofs.Lays.n144 Tryd.prog Tryd.lays144_ren := {
  mixed := by kernel_rfl
  f143 := Tryd.func78.trans (congrArg some (by kernel_rfl))
  f144 := Tryd.func72.trans (congrArg some (by kernel_rfl))
  f217 := Tryd.func49.trans (congrArg some (by kernel_rfl))
  f219 := Tryd.func103.trans (congrArg some (by kernel_rfl))
  f224 := Tryd.func118.trans (congrArg some (by kernel_rfl))
  f225 := Tryd.func117.trans (congrArg some (by kernel_rfl))
  f266 := Tryd.func76.trans (congrArg some (by kernel_rfl))
  f267 := Tryd.func119.trans (congrArg some (by kernel_rfl))
  f314 := Tryd.func121.trans (congrArg some (by kernel_rfl))
  t3 := Tryd.underlying3
  a3 := Tryd.isAgg3
  z3 := Tryd.sizeOf3
  v3 := Tryd.zeroValue3
  t4 := Tryd.underlying4
  a4 := Tryd.isAgg4
  z4 := Tryd.sizeOf4
  v4 := Tryd.zeroValue4
  t5 := Tryd.underlying5
  a5 := Tryd.isAgg5
  z5 := Tryd.sizeOf5
  v5 := Tryd.zeroValue5
  t9 := Tryd.underlying9
  a9 := Tryd.isAgg9
  z9 := Tryd.sizeOf9
  v9 := Tryd.zeroValue9
  t46 := Tryd.underlying76
  a46 := Tryd.isAgg76
  z46 := Tryd.sizeOf76
  v46 := Tryd.zeroValue76
  t51 := Tryd.underlying158
  a51 := Tryd.isAgg158
  z51 := Tryd.sizeOf158
  v51 := Tryd.zeroValue158
  t146 := Tryd.underlying159
  a146 := Tryd.isAgg159
  z146 := Tryd.sizeOf159
  v146 := Tryd.zeroValue159
  g1 := by kernel_rfl }
open Go.RowKit Go.Lib in
/-- strings.Contains: "Contains reports whether substr is within s.": AT A substr OF ONE BYTE c: IT RETURNS 'decide (0 ≤ Lib.indexByte s c)'; the world is as it was. (LAID: no walk: one application.) -/
theorem Tryd.strings_Contains_one (s : ByteArray) (c : UInt8) (w : World) :
    Calls Tryd.prog 72 #[.string s, .string ⟨#[c]⟩] w fun e w' => e = .returned (.bool (decide (0 ≤ Lib.indexByte s.data.toList c))) ∧ w' = w := Any.strings_Contains_one Tryd.lays144 s c w
def Tryd.lays138_ren : Go.Shelf.Ren := ⟨fun | 138 => 71 | 195 => 93 | 218 => 94 | 143 => 78 | 219 => 103 | 217 => 49 | 225 => 117 | 224 => 118 | 267 => 119 | 266 => 76 | 314 => 121 | n => n, fun | 9 => 9 | 3 => 3 | 4 => 4 | 5 => 5 | 0 => 0 | 46 => 76 | 146 => 159 | 51 => 158 | n => n, fun | 1 => 0 | n => n⟩
theorem Tryd.lays138 : Go.Proofs.Lays.n138 Tryd.prog Tryd.lays138_ren := {
  mixed := by kernel_rfl
  f138 := Tryd.func71.trans (congrArg some (by kernel_rfl))
  f143 := Tryd.func78.trans (congrArg some (by kernel_rfl))
  f195 := Tryd.func93.trans (congrArg some (by kernel_rfl))
  f217 := Tryd.func49.trans (congrArg some (by kernel_rfl))
  f218 := Tryd.func94.trans (congrArg some (by kernel_rfl))
  f219 := Tryd.func103.trans (congrArg some (by kernel_rfl))
  f224 := Tryd.func118.trans (congrArg some (by kernel_rfl))
  f225 := Tryd.func117.trans (congrArg some (by kernel_rfl))
  f266 := Tryd.func76.trans (congrArg some (by kernel_rfl))
  f267 := Tryd.func119.trans (congrArg some (by kernel_rfl))
  f314 := Tryd.func121.trans (congrArg some (by kernel_rfl))
  t0 := Tryd.underlying0
  a0 := Tryd.isAgg0
  z0 := Tryd.sizeOf0
  v0 := Tryd.zeroValue0
  t3 := Tryd.underlying3
  a3 := Tryd.isAgg3
  z3 := Tryd.sizeOf3
  v3 := Tryd.zeroValue3
  t4 := Tryd.underlying4
  a4 := Tryd.isAgg4
  z4 := Tryd.sizeOf4
  v4 := Tryd.zeroValue4
  t5 := Tryd.underlying5
  a5 := Tryd.isAgg5
  z5 := Tryd.sizeOf5
  v5 := Tryd.zeroValue5
  t9 := Tryd.underlying9
  a9 := Tryd.isAgg9
  z9 := Tryd.sizeOf9
  v9 := Tryd.zeroValue9
  t46 := Tryd.underlying76
  a46 := Tryd.isAgg76
  z46 := Tryd.sizeOf76
  v46 := Tryd.zeroValue76
  t51 := Tryd.underlying158
  a51 := Tryd.isAgg158
  z51 := Tryd.sizeOf158
  v51 := Tryd.zeroValue158
  t146 := Tryd.underlying159
  a146 := Tryd.isAgg159
  z146 := Tryd.sizeOf159
  v146 := Tryd.zeroValue159
  g1 := by kernel_rfl }
open Go.RowKit Go.Lib in
/-- strings.Count AT A substr OF ONE BYTE ('hp'): "Count counts the number of non-overlapping instances of substr in s.": IT RETURNS 'Lib.countByte s (that byte)'; the world is as it was. ✋ NO CONTRACT HERE YET at an empty substr (utf8.RuneCountInString) or at a longer one (a loop over strings.Index). (LAID: no walk: one application.) -/
theorem Tryd.strings_Count_one (s : ByteArray) (c : UInt8) (w : World) :
    Calls Tryd.prog 71 #[.string s, .string ⟨#[c]⟩] w fun e w' => e = .returned (.int .i64 (Lib.countByte s.data.toList c)) ∧ w' = w := Any.strings_Count_one Tryd.lays138 s c w
def Tryd.lays102_ren : Go.Shelf.Ren := ⟨fun | 102 => 37 | 209 => 61 | 207 => 89 | n => n, fun | 9 => 9 | 4 => 4 | 3 => 3 | n => n, fun | n => n⟩
theorem Tryd.lays102 : Go.Proofs.Lays.n102 Tryd.prog Tryd.lays102_ren := {
  mixed := by kernel_rfl
  f102 := Tryd.func37.trans (congrArg some (by kernel_rfl))
  f207 := Tryd.func89.trans (congrArg some (by kernel_rfl))
  f209 := Tryd.func61.trans (congrArg some (by kernel_rfl))
  t3 := Tryd.underlying3
  a3 := Tryd.isAgg3
  z3 := Tryd.sizeOf3
  v3 := Tryd.zeroValue3
  t4 := Tryd.underlying4
  a4 := Tryd.isAgg4
  z4 := Tryd.sizeOf4
  v4 := Tryd.zeroValue4
  t9 := Tryd.underlying9
  a9 := Tryd.isAgg9
  z9 := Tryd.sizeOf9
  v9 := Tryd.zeroValue9 }
open Go.RowKit Go.Lib in
/-- strings.TrimSuffix: "TrimSuffix returns s without the provided trailing suffix string. If s doesn't end with suffix, s is returned unchanged.": IT RETURNS 'Lib.trimSuffix s suffix'; the world is as it was. (LAID: no walk: one application.) -/
theorem Tryd.strings_TrimSuffix (s p : ByteArray) (w : World) (hs : s.size ≤ 9223372036854775807) :
    Calls Tryd.prog 37 #[.string s, .string p] w fun e w' => e = .returned (.string ⟨(Lib.trimSuffix s.data.toList p.data.toList).toArray⟩) ∧ w' = w := Any.strings_TrimSuffix Tryd.lays102 s p w hs
def Tryd.lays221_ren : Go.Shelf.Ren := ⟨fun | 221 => 90 | 268 => 108 | 138 => 71 | 143 => 78 | 195 => 93 | 197 => 80 | 218 => 94 | 219 => 103 | 260 => 104 | 217 => 49 | 225 => 117 | 224 => 118 | 267 => 119 | 266 => 76 | 314 => 121 | n => n, fun | 9 => 9 | 3 => 3 | 31 => 64 | 4 => 4 | 0 => 0 | 105 => 112 | 21 => 21 | 5 => 5 | 46 => 76 | 119 => 138 | 139 => 141 | 138 => 140 | 146 => 159 | 51 => 158 | n => n, fun | 1 => 0 | 3 => 1 | 4 => 2 | n => n⟩
theorem Tryd.lays221 : Go.Proofs.Lays.n221 Tryd.prog Tryd.lays221_ren := {
  mixed := by kernel_rfl
  f138 := Tryd.func71.trans (congrArg some (by kernel_rfl))
  f143 := Tryd.func78.trans (congrArg some (by kernel_rfl))
  f195 := Tryd.func93.trans (congrArg some (by kernel_rfl))
  f197 := Tryd.func80.trans (congrArg some (by kernel_rfl))
  f217 := Tryd.func49.trans (congrArg some (by kernel_rfl))
  f218 := Tryd.func94.trans (congrArg some (by kernel_rfl))
  f219 := Tryd.func103.trans (congrArg some (by kernel_rfl))
  f221 := Tryd.func90.trans (congrArg some (by kernel_rfl))
  f224 := Tryd.func118.trans (congrArg some (by kernel_rfl))
  f225 := Tryd.func117.trans (congrArg some (by kernel_rfl))
  f260 := Tryd.func104.trans (congrArg some (by kernel_rfl))
  f266 := Tryd.func76.trans (congrArg some (by kernel_rfl))
  f267 := Tryd.func119.trans (congrArg some (by kernel_rfl))
  f268 := Tryd.func108.trans (congrArg some (by kernel_rfl))
  f314 := Tryd.func121.trans (congrArg some (by kernel_rfl))
  t0 := Tryd.underlying0
  a0 := Tryd.isAgg0
  z0 := Tryd.sizeOf0
  v0 := Tryd.zeroValue0
  t3 := Tryd.underlying3
  a3 := Tryd.isAgg3
  z3 := Tryd.sizeOf3
  v3 := Tryd.zeroValue3
  t4 := Tryd.underlying4
  a4 := Tryd.isAgg4
  z4 := Tryd.sizeOf4
  v4 := Tryd.zeroValue4
  t5 := Tryd.underlying5
  a5 := Tryd.isAgg5
  z5 := Tryd.sizeOf5
  v5 := Tryd.zeroValue5
  t9 := Tryd.underlying9
  a9 := Tryd.isAgg9
  z9 := Tryd.sizeOf9
  v9 := Tryd.zeroValue9
  t21 := Tryd.underlying21
  a21 := Tryd.isAgg21
  z21 := Tryd.sizeOf21
  v21 := Tryd.zeroValue21
  t31 := Tryd.underlying64
  a31 := Tryd.isAgg64
  z31 := Tryd.sizeOf64
  v31 := Tryd.zeroValue64
  t46 := Tryd.underlying76
  a46 := Tryd.isAgg76
  z46 := Tryd.sizeOf76
  v46 := Tryd.zeroValue76
  t51 := Tryd.underlying158
  a51 := Tryd.isAgg158
  z51 := Tryd.sizeOf158
  v51 := Tryd.zeroValue158
  t105 := Tryd.underlying112
  a105 := Tryd.isAgg112
  z105 := Tryd.sizeOf112
  v105 := Tryd.zeroValue112
  t119 := Tryd.underlying138
  a119 := Tryd.isAgg138
  z119 := Tryd.sizeOf138
  t138 := Tryd.underlying140
  a138 := Tryd.isAgg140
  z138 := Tryd.sizeOf140
  v138 := Tryd.zeroValue140
  t139 := Tryd.underlying141
  a139 := Tryd.isAgg141
  z139 := Tryd.sizeOf141
  v139 := Tryd.zeroValue141
  t146 := Tryd.underlying159
  a146 := Tryd.isAgg159
  z146 := Tryd.sizeOf159
  v146 := Tryd.zeroValue159
  g1 := by kernel_rfl
  g3 := by kernel_rfl
  g4 := by kernel_rfl }
open Go.RowKit Go.Lib in
theorem Tryd.strings_genSplit (s sep : ByteArray) (sv : Nat) (n : Int) (N : Nat) (m : Int) (w : World) (hs : s.size < 4294967281) (hm : w.cell? ⟨0, 0, none⟩ = some (.int .i64 m)) (h1 : 1 ≤ sep.size) (hsv : sv ≤ sep.size) (hn0 : n ≠ 0) (hn63 : n ≤ 9223372036854775807) (hN : (N : Int) = min (if n < 0 then (Lib.countB s sep : Int) + 1 else n) ((s.size : Int) + 1)) :
    Calls Tryd.prog 90 #[.string s, .string sep, .int .i64 sv, .int .i64 n] w fun e w' =>
      e = .returned (.slice (some ⟨w.heap.size, 0, none⟩) (Lib.splitB sep sv (N - 1) s).length N) ∧ w' = w.alloc (.cells (Lib.cellsOf (Lib.splitB sep sv (N - 1) s) N) 9) := Any.strings_genSplit Tryd.lays221 (by kernel_rfl) s sep sv n N m w hs hm h1 hsv hn0 hn63 hN
def Tryd.lays155_ren : Go.Shelf.Ren := ⟨fun | 155 => 26 | 154 => 50 | 138 => 71 | 165 => 77 | 143 => 78 | 166 => 79 | 197 => 80 | 169 => 81 | 195 => 93 | 218 => 94 | 240 => 101 | 241 => 102 | 219 => 103 | 260 => 104 | 276 => 115 | 277 => 116 | 217 => 49 | 225 => 117 | 224 => 118 | 267 => 119 | 266 => 76 | 314 => 121 | n => n, fun | 9 => 9 | 3 => 3 | 4 => 4 | 72 => 106 | 0 => 0 | 76 => 110 | 105 => 112 | 21 => 21 | 5 => 5 | 70 => 104 | 20 => 20 | 37 => 57 | 75 => 109 | 127 => 136 | 164 => 153 | 46 => 76 | 119 => 138 | 139 => 141 | 138 => 140 | 146 => 159 | 51 => 158 | 80 => 114 | n => n, fun | 1 => 0 | 3 => 1 | 4 => 2 | n => n⟩
theorem Tryd.lays155 : Go.Proofs.Lays.n155 Tryd.prog Tryd.lays155_ren := {
  mixed := by kernel_rfl
  f138 := Tryd.func71.trans (congrArg some (by kernel_rfl))
  f143 := Tryd.func78.trans (congrArg some (by kernel_rfl))
  f154 := Tryd.func50.trans (congrArg some (by kernel_rfl))
  f155 := Tryd.func26.trans (congrArg some (by kernel_rfl))
  f165 := Tryd.func77.trans (congrArg some (by kernel_rfl))
  f166 := Tryd.func79.trans (congrArg some (by kernel_rfl))
  f169 := Tryd.func81.trans (congrArg some (by kernel_rfl))
  f195 := Tryd.func93.trans (congrArg some (by kernel_rfl))
  f197 := Tryd.func80.trans (congrArg some (by kernel_rfl))
  f217 := Tryd.func49.trans (congrArg some (by kernel_rfl))
  f218 := Tryd.func94.trans (congrArg some (by kernel_rfl))
  f219 := Tryd.func103.trans (congrArg some (by kernel_rfl))
  f224 := Tryd.func118.trans (congrArg some (by kernel_rfl))
  f225 := Tryd.func117.trans (congrArg some (by kernel_rfl))
  f240 := Tryd.func101.trans (congrArg some (by kernel_rfl))
  f241 := Tryd.func102.trans (congrArg some (by kernel_rfl))
  f260 := Tryd.func104.trans (congrArg some (by kernel_rfl))
  f266 := Tryd.func76.trans (congrArg some (by kernel_rfl))
  f267 := Tryd.func119.trans (congrArg some (by kernel_rfl))
  f276 := Tryd.func115.trans (congrArg some (by kernel_rfl))
  f277 := Tryd.func116.trans (congrArg some (by kernel_rfl))
  f314 := Tryd.func121.trans (congrArg some (by kernel_rfl))
  t0 := Tryd.underlying0
  a0 := Tryd.isAgg0
  z0 := Tryd.sizeOf0
  v0 := Tryd.zeroValue0
  t3 := Tryd.underlying3
  a3 := Tryd.isAgg3
  z3 := Tryd.sizeOf3
  v3 := Tryd.zeroValue3
  t4 := Tryd.underlying4
  a4 := Tryd.isAgg4
  z4 := Tryd.sizeOf4
  v4 := Tryd.zeroValue4
  t5 := Tryd.underlying5
  a5 := Tryd.isAgg5
  z5 := Tryd.sizeOf5
  v5 := Tryd.zeroValue5
  t9 := Tryd.underlying9
  a9 := Tryd.isAgg9
  z9 := Tryd.sizeOf9
  v9 := Tryd.zeroValue9
  t20 := Tryd.underlying20
  a20 := Tryd.isAgg20
  z20 := Tryd.sizeOf20
  v20 := Tryd.zeroValue20
  t21 := Tryd.underlying21
  a21 := Tryd.isAgg21
  z21 := Tryd.sizeOf21
  v21 := Tryd.zeroValue21
  t37 := Tryd.underlying57
  a37 := Tryd.isAgg57
  z37 := Tryd.sizeOf57
  v37 := Tryd.zeroValue57
  t46 := Tryd.underlying76
  a46 := Tryd.isAgg76
  z46 := Tryd.sizeOf76
  v46 := Tryd.zeroValue76
  t51 := Tryd.underlying158
  a51 := Tryd.isAgg158
  z51 := Tryd.sizeOf158
  v51 := Tryd.zeroValue158
  t70 := Tryd.underlying104
  a70 := Tryd.isAgg104
  z70 := Tryd.sizeOf104
  v70 := Tryd.zeroValue104
  t72 := Tryd.underlying106
  a72 := Tryd.isAgg106
  z72 := Tryd.sizeOf106
  v72 := Tryd.zeroValue106
  t75 := Tryd.underlying109
  a75 := Tryd.isAgg109
  z75 := Tryd.sizeOf109
  v75 := Tryd.zeroValue109
  t76 := Tryd.underlying110
  a76 := Tryd.isAgg110
  z76 := Tryd.sizeOf110
  v76 := Tryd.zeroValue110
  t105 := Tryd.underlying112
  a105 := Tryd.isAgg112
  z105 := Tryd.sizeOf112
  v105 := Tryd.zeroValue112
  t119 := Tryd.underlying138
  a119 := Tryd.isAgg138
  z119 := Tryd.sizeOf138
  t127 := Tryd.underlying136
  a127 := Tryd.isAgg136
  z127 := Tryd.sizeOf136
  v127 := Tryd.zeroValue136
  t138 := Tryd.underlying140
  a138 := Tryd.isAgg140
  z138 := Tryd.sizeOf140
  v138 := Tryd.zeroValue140
  t139 := Tryd.underlying141
  a139 := Tryd.isAgg141
  z139 := Tryd.sizeOf141
  v139 := Tryd.zeroValue141
  t146 := Tryd.underlying159
  a146 := Tryd.isAgg159
  z146 := Tryd.sizeOf159
  v146 := Tryd.zeroValue159
  t164 := Tryd.underlying153
  a164 := Tryd.isAgg153
  z164 := Tryd.sizeOf153
  v164 := Tryd.zeroValue153
  g1 := by kernel_rfl
  g3 := by kernel_rfl
  g4 := by kernel_rfl }
theorem Tryd.Builder_Extra_155 : Builder.Extra Tryd.prog Tryd.lays155_ren := {
  sizeBuilder := by kernel_rfl
  liesBuilder := by kernel_rfl
  t5 := Tryd.underlying5
  a5 := Tryd.isAgg5
  z5 := Tryd.sizeOf5
  v5 := Tryd.zeroValue5
  infoByte := by kernel_rfl
  cellsByte := by kernel_rfl
  sizeByte := by kernel_rfl
  neB5 := by decide }
open Go.RowKit Go.Lib in
/-- strings.ReplaceAll: "ReplaceAll returns a copy of the string s with all non-overlapping instances of old replaced by new.": AT AN old THAT IS NOT EMPTY: 'Lib.replaceAll s old new'. (LAID: no walk: one application.) -/
theorem Tryd.strings_ReplaceAll (s old new : ByteArray) (m : Int) (w : World) (hs : s.size < 4294967281) (hm : w.cell? ⟨0, 0, none⟩ = some (.int .i64 m)) (h1 : 1 ≤ old.size) (hlen : s.size + Lib.countB s old * new.size ≤ 140737488355328) :
    Calls Tryd.prog 26 #[.string s, .string old, .string new] w fun e w' =>
      e = .returned (.string ⟨(Lib.replaceAll s.data.toList old.data.toList new.data.toList).toArray⟩) ∧ Below w.heap.size w w' := Any.strings_ReplaceAll Tryd.lays155 Tryd.Builder_Extra_155 s old new m w hs hm h1 hlen
def Tryd.lays196_ren : Go.Shelf.Ren := ⟨fun | 196 => 82 | 259 => 105 | n => n, fun | 9 => 9 | 4 => 4 | 3 => 3 | 5 => 5 | 12 => 12 | 119 => 138 | 0 => 0 | 46 => 76 | 139 => 141 | 138 => 140 | 53 => 157 | n => n, fun | 3 => 1 | 4 => 2 | n => n⟩
theorem Tryd.lays196 : Go.Proofs.Lays.n196 Tryd.prog Tryd.lays196_ren := {
  mixed := by kernel_rfl
  f196 := Tryd.func82.trans (congrArg some (by kernel_rfl))
  f259 := Tryd.func105.trans (congrArg some (by kernel_rfl))
  t0 := Tryd.underlying0
  a0 := Tryd.isAgg0
  z0 := Tryd.sizeOf0
  v0 := Tryd.zeroValue0
  t3 := Tryd.underlying3
  a3 := Tryd.isAgg3
  z3 := Tryd.sizeOf3
  v3 := Tryd.zeroValue3
  t4 := Tryd.underlying4
  a4 := Tryd.isAgg4
  z4 := Tryd.sizeOf4
  v4 := Tryd.zeroValue4
  t5 := Tryd.underlying5
  a5 := Tryd.isAgg5
  z5 := Tryd.sizeOf5
  v5 := Tryd.zeroValue5
  t9 := Tryd.underlying9
  a9 := Tryd.isAgg9
  z9 := Tryd.sizeOf9
  v9 := Tryd.zeroValue9
  t12 := Tryd.underlying12
  a12 := Tryd.isAgg12
  z12 := Tryd.sizeOf12
  v12 := Tryd.zeroValue12
  t46 := Tryd.underlying76
  a46 := Tryd.isAgg76
  z46 := Tryd.sizeOf76
  v46 := Tryd.zeroValue76
  t53 := Tryd.underlying157
  a53 := Tryd.isAgg157
  z53 := Tryd.sizeOf157
  v53 := Tryd.zeroValue157
  t119 := Tryd.underlying138
  a119 := Tryd.isAgg138
  z119 := Tryd.sizeOf138
  t138 := Tryd.underlying140
  a138 := Tryd.isAgg140
  z138 := Tryd.sizeOf140
  v138 := Tryd.zeroValue140
  t139 := Tryd.underlying141
  a139 := Tryd.isAgg141
  z139 := Tryd.sizeOf141
  v139 := Tryd.zeroValue141
  g3 := by kernel_rfl
  g4 := by kernel_rfl }
end Go.Proofs
