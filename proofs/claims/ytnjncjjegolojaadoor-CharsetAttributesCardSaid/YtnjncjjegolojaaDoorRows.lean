/-
  NARROWER THAN 'FOR EVERY INPUT', by the rows' own cells (each row's printed sentence says how): CharsetCodec: laid · CharsetAttributes: laid · CharsetInverse: laid · CharsetRepoInverse: laid · CharsetLast: laid · CharsetSets: laid · CharsetLines: laid.
  DERIVED. THE GIVEN ROWS OF THIS SEAT. 7 by the template 'for every input the law returns true; each argument reads behind the call as it read before'; 0 by the template 'total and deterministic' (their statements: YtnjncjjegolojaaDoorTotals.lean).
  GIVEN WITH THE SEED: the statements are not yours to turn. If you find one false, say at which input.
  Laid BY PROGRAM, IN A SANDBOX (cutbox-rows.mjs): the forced cells as the released guide's own fill.sh prints them over the translation 0c0b7b1815f5cc74… (all of the seat's roots in one cut). By AI agents, Wed Nov 11 2026. No macro, syntax, notation, axiom, sorry.
-/
import Derived.Test.YtnjncjjegolojaaDoorChecked
import GoSem.PinnedTables
import GoSem.Claim
import GoSem.ClaimJoined
import GoSem.ClaimMapViews
import Derived.JoinedTies
import Derived.KernelRfl
namespace Go.Proofs.YtnjncjjegolojaaDoor
/- THE CELL 'sum', in the pinned program and in every row, IS THE sha256 OF THE DUMP (.gsa) THAT YtnjncjjegolojaaDoorProg.lean LOADS. Nothing in Lean hashes anything: it is a label: what it is worth is what the hold of that sum in a sandbox is worth. -/
noncomputable def Tryd.pinned : Pinned := { name := "ytnjncjjegolojaadoor", sum := "0c0b7b1815f5cc74706fd73bac629db21e882f7bdac9e87397ee9516013bc977", checked := Tryd.checked }
namespace Rows
def none {H : Type} : Left H := { results := [], args := [] }

/- WHAT THE LISTED PACKAGE-LEVEL VARIABLES READ AS WHEN THE CALL BEGINS. Each datum BY PROGRAM (the guide's laid-datum.mjs) off the statement by which the dump's own 'gosem.cut.vars' lays the variable. In a bare row this is a premise. The card (YtnjncjjegolojaaDoorCards.lean) ties it to the program's text. -/
def laid_unicode_utf8_acceptRanges {H : Type} : DataW H := .agg [.agg [.lit (.int .u8 128), .lit (.int .u8 191)], .agg [.lit (.int .u8 160), .lit (.int .u8 191)], .agg [.lit (.int .u8 128), .lit (.int .u8 159)], .agg [.lit (.int .u8 144), .lit (.int .u8 191)], .agg [.lit (.int .u8 128), .lit (.int .u8 143)], .agg [.lit (.int .u8 0), .lit (.int .u8 0)], .agg [.lit (.int .u8 0), .lit (.int .u8 0)], .agg [.lit (.int .u8 0), .lit (.int .u8 0)], .agg [.lit (.int .u8 0), .lit (.int .u8 0)], .agg [.lit (.int .u8 0), .lit (.int .u8 0)], .agg [.lit (.int .u8 0), .lit (.int .u8 0)], .agg [.lit (.int .u8 0), .lit (.int .u8 0)], .agg [.lit (.int .u8 0), .lit (.int .u8 0)], .agg [.lit (.int .u8 0), .lit (.int .u8 0)], .agg [.lit (.int .u8 0), .lit (.int .u8 0)], .agg [.lit (.int .u8 0), .lit (.int .u8 0)]]
/-- One of Go's own tables, pinned by name: the form's constant. -/
def laid_unicode_utf8_first : DataW Unit := Go.Pinned.utf8First

/-- 'quiltlaw57.CharsetCodec': WHATEVER THE INPUT: true; the input reads as it did. -/
def charsetCodecSpec : ChangeSpec := { name := "charsetCodec", fn := fun _ => fun
  | [d1, d2] => { results := [.lit (.bool true)], args := [d1, d2] }
  | _ => none }
def charsetCodecRow : OpenClaim := { program := "ytnjncjjegolojaadoor", sum := "0c0b7b1815f5cc74706fd73bac629db21e882f7bdac9e87397ee9516013bc977", func := "quilt/quiltlaw57.CharsetCodec", spec := "charsetCodec", inPlace := ["internal/bytealg.IndexByteString", "internal/bytealg.IndexString", "internal/bytealg.CountString", "internal/abi.NoEscape", "internal/bytealg.MakeNoZero"], unfollowed := true, recurses := true, named := ["unicode/utf8.first", "unicode/utf8.acceptRanges", "internal/bytealg.MaxLen"], apart := false, laid := [("unicode/utf8.acceptRanges", laid_unicode_utf8_acceptRanges), ("unicode/utf8.first", laid_unicode_utf8_first)] }
def CharsetCodecSaid : Prop := charsetCodecRow.holds Tryd.pinned (OpenSpec.ofChange charsetCodecSpec)

/-- ITS FALSE NEIGHBOUR: 'it returns false'. Refute it at one input. -/
def charsetCodecWrong : ChangeSpec := { name := "charsetCodec", fn := fun _ => fun
  | [d1, d2] => { results := [.lit (.bool false)], args := [d1, d2] }
  | _ => none }
def CharsetCodecWrongFalsely : Prop := charsetCodecRow.holds Tryd.pinned (OpenSpec.ofChange charsetCodecWrong)

/-- 'quiltlaw57.CharsetAttributes': WHATEVER THE INPUT: true; the input reads as it did. -/
def charsetAttributesSpec : ChangeSpec := { name := "charsetAttributes", fn := fun _ => fun
  | [d1, d2, d3] => { results := [.lit (.bool true)], args := [d1, d2, d3] }
  | _ => none }
def charsetAttributesRow : OpenClaim := { program := "ytnjncjjegolojaadoor", sum := "0c0b7b1815f5cc74706fd73bac629db21e882f7bdac9e87397ee9516013bc977", func := "quilt/quiltlaw57.CharsetAttributes", spec := "charsetAttributes", inPlace := ["internal/bytealg.IndexByteString", "internal/bytealg.IndexString", "internal/bytealg.CountString", "internal/abi.NoEscape", "internal/bytealg.MakeNoZero"], unfollowed := true, recurses := true, named := ["unicode/utf8.first", "unicode/utf8.acceptRanges", "internal/bytealg.MaxLen"], apart := false, laid := [("unicode/utf8.acceptRanges", laid_unicode_utf8_acceptRanges), ("unicode/utf8.first", laid_unicode_utf8_first)] }
def CharsetAttributesSaid : Prop := charsetAttributesRow.holds Tryd.pinned (OpenSpec.ofChange charsetAttributesSpec)

/-- ITS FALSE NEIGHBOUR: 'it returns false'. Refute it at one input. -/
def charsetAttributesWrong : ChangeSpec := { name := "charsetAttributes", fn := fun _ => fun
  | [d1, d2, d3] => { results := [.lit (.bool false)], args := [d1, d2, d3] }
  | _ => none }
def CharsetAttributesWrongFalsely : Prop := charsetAttributesRow.holds Tryd.pinned (OpenSpec.ofChange charsetAttributesWrong)

/-- 'quiltlaw57.CharsetInverse': WHATEVER THE INPUT: true; the input reads as it did. -/
def charsetInverseSpec : ChangeSpec := { name := "charsetInverse", fn := fun _ => fun
  | [d1, d2] => { results := [.lit (.bool true)], args := [d1, d2] }
  | _ => none }
def charsetInverseRow : OpenClaim := { program := "ytnjncjjegolojaadoor", sum := "0c0b7b1815f5cc74706fd73bac629db21e882f7bdac9e87397ee9516013bc977", func := "quilt/quiltlaw57.CharsetInverse", spec := "charsetInverse", inPlace := ["internal/bytealg.IndexByteString", "internal/bytealg.IndexString", "internal/bytealg.CountString", "internal/abi.NoEscape", "internal/bytealg.MakeNoZero"], unfollowed := true, recurses := true, named := ["unicode/utf8.first", "unicode/utf8.acceptRanges", "internal/bytealg.MaxLen"], apart := false, laid := [("unicode/utf8.acceptRanges", laid_unicode_utf8_acceptRanges), ("unicode/utf8.first", laid_unicode_utf8_first)] }
def CharsetInverseSaid : Prop := charsetInverseRow.holds Tryd.pinned (OpenSpec.ofChange charsetInverseSpec)

/-- ITS FALSE NEIGHBOUR: 'it returns false'. Refute it at one input. -/
def charsetInverseWrong : ChangeSpec := { name := "charsetInverse", fn := fun _ => fun
  | [d1, d2] => { results := [.lit (.bool false)], args := [d1, d2] }
  | _ => none }
def CharsetInverseWrongFalsely : Prop := charsetInverseRow.holds Tryd.pinned (OpenSpec.ofChange charsetInverseWrong)

/-- 'quiltlaw57.CharsetRepoInverse': WHATEVER THE INPUT: true; the input reads as it did. -/
def charsetRepoInverseSpec : ChangeSpec := { name := "charsetRepoInverse", fn := fun _ => fun
  | [d1, d2, d3] => { results := [.lit (.bool true)], args := [d1, d2, d3] }
  | _ => none }
def charsetRepoInverseRow : OpenClaim := { program := "ytnjncjjegolojaadoor", sum := "0c0b7b1815f5cc74706fd73bac629db21e882f7bdac9e87397ee9516013bc977", func := "quilt/quiltlaw57.CharsetRepoInverse", spec := "charsetRepoInverse", inPlace := ["internal/bytealg.IndexByteString", "internal/bytealg.IndexString", "internal/bytealg.CountString", "internal/abi.NoEscape", "internal/bytealg.MakeNoZero"], unfollowed := true, recurses := true, named := ["unicode/utf8.first", "unicode/utf8.acceptRanges", "internal/bytealg.MaxLen"], apart := false, laid := [("unicode/utf8.acceptRanges", laid_unicode_utf8_acceptRanges), ("unicode/utf8.first", laid_unicode_utf8_first)] }
def CharsetRepoInverseSaid : Prop := charsetRepoInverseRow.holds Tryd.pinned (OpenSpec.ofChange charsetRepoInverseSpec)

/-- ITS FALSE NEIGHBOUR: 'it returns false'. Refute it at one input. -/
def charsetRepoInverseWrong : ChangeSpec := { name := "charsetRepoInverse", fn := fun _ => fun
  | [d1, d2, d3] => { results := [.lit (.bool false)], args := [d1, d2, d3] }
  | _ => none }
def CharsetRepoInverseWrongFalsely : Prop := charsetRepoInverseRow.holds Tryd.pinned (OpenSpec.ofChange charsetRepoInverseWrong)

/-- 'quiltlaw57.CharsetLast': WHATEVER THE INPUT: true; the input reads as it did. -/
def charsetLastSpec : ChangeSpec := { name := "charsetLast", fn := fun _ => fun
  | [d1, d2, d3] => { results := [.lit (.bool true)], args := [d1, d2, d3] }
  | _ => none }
def charsetLastRow : OpenClaim := { program := "ytnjncjjegolojaadoor", sum := "0c0b7b1815f5cc74706fd73bac629db21e882f7bdac9e87397ee9516013bc977", func := "quilt/quiltlaw57.CharsetLast", spec := "charsetLast", inPlace := ["internal/bytealg.IndexByteString", "internal/bytealg.IndexString", "internal/bytealg.CountString", "internal/abi.NoEscape", "internal/bytealg.MakeNoZero"], unfollowed := true, recurses := true, named := ["unicode/utf8.first", "unicode/utf8.acceptRanges", "internal/bytealg.MaxLen"], apart := false, laid := [("unicode/utf8.acceptRanges", laid_unicode_utf8_acceptRanges), ("unicode/utf8.first", laid_unicode_utf8_first)] }
def CharsetLastSaid : Prop := charsetLastRow.holds Tryd.pinned (OpenSpec.ofChange charsetLastSpec)

/-- ITS FALSE NEIGHBOUR: 'it returns false'. Refute it at one input. -/
def charsetLastWrong : ChangeSpec := { name := "charsetLast", fn := fun _ => fun
  | [d1, d2, d3] => { results := [.lit (.bool false)], args := [d1, d2, d3] }
  | _ => none }
def CharsetLastWrongFalsely : Prop := charsetLastRow.holds Tryd.pinned (OpenSpec.ofChange charsetLastWrong)

/-- 'quiltlaw57.CharsetSets': WHATEVER THE INPUT: true; the input reads as it did. -/
def charsetSetsSpec : ChangeSpec := { name := "charsetSets", fn := fun _ => fun
  | [d] => { results := [.lit (.bool true)], args := [d] }
  | _ => none }
def charsetSetsRow : OpenClaim := { program := "ytnjncjjegolojaadoor", sum := "0c0b7b1815f5cc74706fd73bac629db21e882f7bdac9e87397ee9516013bc977", func := "quilt/quiltlaw57.CharsetSets", spec := "charsetSets", inPlace := ["internal/bytealg.IndexByteString", "internal/bytealg.IndexString", "internal/bytealg.CountString", "internal/abi.NoEscape", "internal/bytealg.MakeNoZero"], unfollowed := true, recurses := true, named := ["unicode/utf8.first", "unicode/utf8.acceptRanges", "internal/bytealg.MaxLen"], apart := false, laid := [("unicode/utf8.acceptRanges", laid_unicode_utf8_acceptRanges), ("unicode/utf8.first", laid_unicode_utf8_first)] }
def CharsetSetsSaid : Prop := charsetSetsRow.holds Tryd.pinned (OpenSpec.ofChange charsetSetsSpec)

/-- ITS FALSE NEIGHBOUR: 'it returns false'. Refute it at one input. -/
def charsetSetsWrong : ChangeSpec := { name := "charsetSets", fn := fun _ => fun
  | [d] => { results := [.lit (.bool false)], args := [d] }
  | _ => none }
def CharsetSetsWrongFalsely : Prop := charsetSetsRow.holds Tryd.pinned (OpenSpec.ofChange charsetSetsWrong)

/-- 'quiltlaw57.CharsetLines': WHATEVER THE INPUT: true; the input reads as it did. -/
def charsetLinesSpec : ChangeSpec := { name := "charsetLines", fn := fun _ => fun
  | [d] => { results := [.lit (.bool true)], args := [d] }
  | _ => none }
def charsetLinesRow : OpenClaim := { program := "ytnjncjjegolojaadoor", sum := "0c0b7b1815f5cc74706fd73bac629db21e882f7bdac9e87397ee9516013bc977", func := "quilt/quiltlaw57.CharsetLines", spec := "charsetLines", inPlace := ["internal/bytealg.IndexByteString", "internal/bytealg.IndexString", "internal/bytealg.CountString", "internal/abi.NoEscape", "internal/bytealg.MakeNoZero"], unfollowed := true, recurses := true, named := ["unicode/utf8.first", "unicode/utf8.acceptRanges", "internal/bytealg.MaxLen"], apart := false, laid := [("unicode/utf8.acceptRanges", laid_unicode_utf8_acceptRanges), ("unicode/utf8.first", laid_unicode_utf8_first)] }
def CharsetLinesSaid : Prop := charsetLinesRow.holds Tryd.pinned (OpenSpec.ofChange charsetLinesSpec)

/-- ITS FALSE NEIGHBOUR: 'it returns false'. Refute it at one input. -/
def charsetLinesWrong : ChangeSpec := { name := "charsetLines", fn := fun _ => fun
  | [d] => { results := [.lit (.bool false)], args := [d] }
  | _ => none }
def CharsetLinesWrongFalsely : Prop := charsetLinesRow.holds Tryd.pinned (OpenSpec.ofChange charsetLinesWrong)

/- THE SECOND FORM. 'bulk': how many values and letters a reading holds, each counted each time it is reached (what is shared counts as often as it is met; a slice's spare places count too). A statement '..UptoSaid' is the law's where the arguments, and the package variables that the reading takes, are together of bulk at most 1048576: NARROWER than '..Said'. Prove '..Said' where nothing that the law and all that it calls make is longer than what came in: it says more and counts as full. Else prove '..UptoSaid'. A law counts once. -/
mutual
def uptoBulk {H : Type} : DataW H → Nat
  | .lit (.string bytes) => bytes.length + 1
  | .lit _ => 1
  | .nil => 1
  | .ptr d => uptoBulk d + 1
  | .slice elems spare => uptoBulkAll elems + uptoBulkAll spare + 1
  | .agg parts => uptoBulkAll parts + 1
  | .iface _ d => uptoBulk d + 1
  | .map entries => uptoBulkEntries entries + 1
  | .held _ => 1
def uptoBulkAll {H : Type} : List (DataW H) → Nat
  | [] => 0
  | d :: r => uptoBulk d + uptoBulkAll r
def uptoBulkEntries {H : Type} : List (Lit × DataW H) → Nat
  | [] => 0
  | x :: r => uptoBulkEntry x + uptoBulkEntries r
def uptoBulkEntry {H : Type} : Lit × DataW H → Nat
  | (.string bytes, d) => bytes.length + uptoBulk d + 1
  | (_, d) => uptoBulk d + 1
 end
def uptoSmall : (H : Type) → List (DataW H) → Bool := fun _ ds => decide (uptoBulkAll ds ≤ 1048576)
def OpenSpec.upto (s : _root_.Go.ChangeSpec) : _root_.Go.OpenSpec := { _root_.Go.OpenSpec.ofChange s with cond := some uptoSmall }

/-- 'quiltlaw57.CharsetCodec', WHERE WHAT IT READS IS OF BULK AT MOST 1048576: true; the input reads as it did. -/
def charsetCodecUptoRow : OpenClaim := { program := "ytnjncjjegolojaadoor", sum := "0c0b7b1815f5cc74706fd73bac629db21e882f7bdac9e87397ee9516013bc977", func := "quilt/quiltlaw57.CharsetCodec", spec := "charsetCodec", inPlace := ["internal/bytealg.IndexByteString", "internal/bytealg.IndexString", "internal/bytealg.CountString", "internal/abi.NoEscape", "internal/bytealg.MakeNoZero"], unfollowed := true, recurses := true, named := ["unicode/utf8.first", "unicode/utf8.acceptRanges", "internal/bytealg.MaxLen"], apart := false, laid := [("unicode/utf8.acceptRanges", laid_unicode_utf8_acceptRanges), ("unicode/utf8.first", laid_unicode_utf8_first)], narrowed := true }
def CharsetCodecUptoSaid : Prop := charsetCodecUptoRow.holds Tryd.pinned (OpenSpec.upto charsetCodecSpec)

/-- 'quiltlaw57.CharsetAttributes', WHERE WHAT IT READS IS OF BULK AT MOST 1048576: true; the input reads as it did. -/
def charsetAttributesUptoRow : OpenClaim := { program := "ytnjncjjegolojaadoor", sum := "0c0b7b1815f5cc74706fd73bac629db21e882f7bdac9e87397ee9516013bc977", func := "quilt/quiltlaw57.CharsetAttributes", spec := "charsetAttributes", inPlace := ["internal/bytealg.IndexByteString", "internal/bytealg.IndexString", "internal/bytealg.CountString", "internal/abi.NoEscape", "internal/bytealg.MakeNoZero"], unfollowed := true, recurses := true, named := ["unicode/utf8.first", "unicode/utf8.acceptRanges", "internal/bytealg.MaxLen"], apart := false, laid := [("unicode/utf8.acceptRanges", laid_unicode_utf8_acceptRanges), ("unicode/utf8.first", laid_unicode_utf8_first)], narrowed := true }
def CharsetAttributesUptoSaid : Prop := charsetAttributesUptoRow.holds Tryd.pinned (OpenSpec.upto charsetAttributesSpec)

/-- 'quiltlaw57.CharsetInverse', WHERE WHAT IT READS IS OF BULK AT MOST 1048576: true; the input reads as it did. -/
def charsetInverseUptoRow : OpenClaim := { program := "ytnjncjjegolojaadoor", sum := "0c0b7b1815f5cc74706fd73bac629db21e882f7bdac9e87397ee9516013bc977", func := "quilt/quiltlaw57.CharsetInverse", spec := "charsetInverse", inPlace := ["internal/bytealg.IndexByteString", "internal/bytealg.IndexString", "internal/bytealg.CountString", "internal/abi.NoEscape", "internal/bytealg.MakeNoZero"], unfollowed := true, recurses := true, named := ["unicode/utf8.first", "unicode/utf8.acceptRanges", "internal/bytealg.MaxLen"], apart := false, laid := [("unicode/utf8.acceptRanges", laid_unicode_utf8_acceptRanges), ("unicode/utf8.first", laid_unicode_utf8_first)], narrowed := true }
def CharsetInverseUptoSaid : Prop := charsetInverseUptoRow.holds Tryd.pinned (OpenSpec.upto charsetInverseSpec)

/-- 'quiltlaw57.CharsetRepoInverse', WHERE WHAT IT READS IS OF BULK AT MOST 1048576: true; the input reads as it did. -/
def charsetRepoInverseUptoRow : OpenClaim := { program := "ytnjncjjegolojaadoor", sum := "0c0b7b1815f5cc74706fd73bac629db21e882f7bdac9e87397ee9516013bc977", func := "quilt/quiltlaw57.CharsetRepoInverse", spec := "charsetRepoInverse", inPlace := ["internal/bytealg.IndexByteString", "internal/bytealg.IndexString", "internal/bytealg.CountString", "internal/abi.NoEscape", "internal/bytealg.MakeNoZero"], unfollowed := true, recurses := true, named := ["unicode/utf8.first", "unicode/utf8.acceptRanges", "internal/bytealg.MaxLen"], apart := false, laid := [("unicode/utf8.acceptRanges", laid_unicode_utf8_acceptRanges), ("unicode/utf8.first", laid_unicode_utf8_first)], narrowed := true }
def CharsetRepoInverseUptoSaid : Prop := charsetRepoInverseUptoRow.holds Tryd.pinned (OpenSpec.upto charsetRepoInverseSpec)

/-- 'quiltlaw57.CharsetLast', WHERE WHAT IT READS IS OF BULK AT MOST 1048576: true; the input reads as it did. -/
def charsetLastUptoRow : OpenClaim := { program := "ytnjncjjegolojaadoor", sum := "0c0b7b1815f5cc74706fd73bac629db21e882f7bdac9e87397ee9516013bc977", func := "quilt/quiltlaw57.CharsetLast", spec := "charsetLast", inPlace := ["internal/bytealg.IndexByteString", "internal/bytealg.IndexString", "internal/bytealg.CountString", "internal/abi.NoEscape", "internal/bytealg.MakeNoZero"], unfollowed := true, recurses := true, named := ["unicode/utf8.first", "unicode/utf8.acceptRanges", "internal/bytealg.MaxLen"], apart := false, laid := [("unicode/utf8.acceptRanges", laid_unicode_utf8_acceptRanges), ("unicode/utf8.first", laid_unicode_utf8_first)], narrowed := true }
def CharsetLastUptoSaid : Prop := charsetLastUptoRow.holds Tryd.pinned (OpenSpec.upto charsetLastSpec)

/-- 'quiltlaw57.CharsetSets', WHERE WHAT IT READS IS OF BULK AT MOST 1048576: true; the input reads as it did. -/
def charsetSetsUptoRow : OpenClaim := { program := "ytnjncjjegolojaadoor", sum := "0c0b7b1815f5cc74706fd73bac629db21e882f7bdac9e87397ee9516013bc977", func := "quilt/quiltlaw57.CharsetSets", spec := "charsetSets", inPlace := ["internal/bytealg.IndexByteString", "internal/bytealg.IndexString", "internal/bytealg.CountString", "internal/abi.NoEscape", "internal/bytealg.MakeNoZero"], unfollowed := true, recurses := true, named := ["unicode/utf8.first", "unicode/utf8.acceptRanges", "internal/bytealg.MaxLen"], apart := false, laid := [("unicode/utf8.acceptRanges", laid_unicode_utf8_acceptRanges), ("unicode/utf8.first", laid_unicode_utf8_first)], narrowed := true }
def CharsetSetsUptoSaid : Prop := charsetSetsUptoRow.holds Tryd.pinned (OpenSpec.upto charsetSetsSpec)

/-- 'quiltlaw57.CharsetLines', WHERE WHAT IT READS IS OF BULK AT MOST 1048576: true; the input reads as it did. -/
def charsetLinesUptoRow : OpenClaim := { program := "ytnjncjjegolojaadoor", sum := "0c0b7b1815f5cc74706fd73bac629db21e882f7bdac9e87397ee9516013bc977", func := "quilt/quiltlaw57.CharsetLines", spec := "charsetLines", inPlace := ["internal/bytealg.IndexByteString", "internal/bytealg.IndexString", "internal/bytealg.CountString", "internal/abi.NoEscape", "internal/bytealg.MakeNoZero"], unfollowed := true, recurses := true, named := ["unicode/utf8.first", "unicode/utf8.acceptRanges", "internal/bytealg.MaxLen"], apart := false, laid := [("unicode/utf8.acceptRanges", laid_unicode_utf8_acceptRanges), ("unicode/utf8.first", laid_unicode_utf8_first)], narrowed := true }
def CharsetLinesUptoSaid : Prop := charsetLinesUptoRow.holds Tryd.pinned (OpenSpec.upto charsetLinesSpec)

end Rows
end Go.Proofs.YtnjncjjegolojaaDoor
