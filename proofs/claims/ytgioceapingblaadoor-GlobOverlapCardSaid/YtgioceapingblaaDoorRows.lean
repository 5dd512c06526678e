/-
  NARROWER THAN 'FOR EVERY INPUT', by the rows' own cells (each row's printed sentence says how): GlobMatch: laid · GlobOverlap: laid · GlobDeep: laid · GlobCheck: laid · GlobQuoted: laid · GlobMeets: laid · GlobBelow: laid · GlobFixed: laid · GlobParts: laid.
  DERIVED. THE GIVEN ROWS OF THIS SEAT. 9 by the template 'for every input the law returns true; each argument reads behind the call as it read before'; 0 by the template 'total and deterministic' (their statements: YtgioceapingblaaDoorTotals.lean).
  GIVEN WITH THE SEED: the statements are not yours to turn. If you find one false, say at which input.
  Laid BY PROGRAM, IN A SANDBOX (cutbox-rows.mjs): the forced cells as the released guide's own fill.sh prints them over the translation 69ccd60f378b5fbe… (all of the seat's roots in one cut). By AI agents, Wed Nov 11 2026. No macro, syntax, notation, axiom, sorry.
-/
import Derived.Test.YtgioceapingblaaDoorChecked
import GoSem.PinnedTables
import GoSem.Claim
import GoSem.ClaimJoined
import GoSem.ClaimMapViews
import Derived.JoinedTies
import Derived.KernelRfl
namespace Go.Proofs.YtgioceapingblaaDoor
/- THE CELL 'sum', in the pinned program and in every row, IS THE sha256 OF THE DUMP (.gsa) THAT YtgioceapingblaaDoorProg.lean LOADS. Nothing in Lean hashes anything: it is a label: what it is worth is what the hold of that sum in a sandbox is worth. -/
noncomputable def Tryd.pinned : Pinned := { name := "ytgioceapingblaadoor", sum := "69ccd60f378b5fbe66b9ca6708bed3a61195f585401085737ff3bb0937b19457", checked := Tryd.checked }
namespace Rows
def none {H : Type} : Left H := { results := [], args := [] }

/- WHAT THE LISTED PACKAGE-LEVEL VARIABLES READ AS WHEN THE CALL BEGINS. Each datum BY PROGRAM (the guide's laid-datum.mjs) off the statement by which the dump's own 'gosem.cut.vars' lays the variable. In a bare row this is a premise. The card (YtgioceapingblaaDoorCards.lean) ties it to the program's text. -/
def laid_unicode_utf8_acceptRanges {H : Type} : DataW H := .agg [.agg [.lit (.int .u8 128), .lit (.int .u8 191)], .agg [.lit (.int .u8 160), .lit (.int .u8 191)], .agg [.lit (.int .u8 128), .lit (.int .u8 159)], .agg [.lit (.int .u8 144), .lit (.int .u8 191)], .agg [.lit (.int .u8 128), .lit (.int .u8 143)], .agg [.lit (.int .u8 0), .lit (.int .u8 0)], .agg [.lit (.int .u8 0), .lit (.int .u8 0)], .agg [.lit (.int .u8 0), .lit (.int .u8 0)], .agg [.lit (.int .u8 0), .lit (.int .u8 0)], .agg [.lit (.int .u8 0), .lit (.int .u8 0)], .agg [.lit (.int .u8 0), .lit (.int .u8 0)], .agg [.lit (.int .u8 0), .lit (.int .u8 0)], .agg [.lit (.int .u8 0), .lit (.int .u8 0)], .agg [.lit (.int .u8 0), .lit (.int .u8 0)], .agg [.lit (.int .u8 0), .lit (.int .u8 0)], .agg [.lit (.int .u8 0), .lit (.int .u8 0)]]
/-- One of Go's own tables, pinned by name: the form's constant. -/
def laid_unicode_utf8_first : DataW Unit := Go.Pinned.utf8First

/-- 'quiltlaw32.GlobMatch': WHATEVER THE INPUT: true; the input reads as it did. -/
def globMatchSpec : ChangeSpec := { name := "globMatch", fn := fun _ => fun
  | [d1, d2] => { results := [.lit (.bool true)], args := [d1, d2] }
  | _ => none }
def globMatchRow : OpenClaim := { program := "ytgioceapingblaadoor", sum := "69ccd60f378b5fbe66b9ca6708bed3a61195f585401085737ff3bb0937b19457", func := "quilt/quiltlaw32.GlobMatch", spec := "globMatch", inPlace := ["internal/bytealg.CountString", "internal/bytealg.IndexByteString", "internal/bytealg.IndexString", "internal/abi.NoEscape"], unfollowed := true, recurses := true, named := ["unicode/utf8.first", "unicode/utf8.acceptRanges", "internal/bytealg.MaxLen"], plainKeys := false, apart := false, laid := [("unicode/utf8.acceptRanges", laid_unicode_utf8_acceptRanges), ("unicode/utf8.first", laid_unicode_utf8_first)] }
def GlobMatchSaid : Prop := globMatchRow.holds Tryd.pinned (OpenSpec.ofChange globMatchSpec)

/-- ITS FALSE NEIGHBOUR: 'it returns false'. Refute it at one input. -/
def globMatchWrong : ChangeSpec := { name := "globMatch", fn := fun _ => fun
  | [d1, d2] => { results := [.lit (.bool false)], args := [d1, d2] }
  | _ => none }
def GlobMatchWrongFalsely : Prop := globMatchRow.holds Tryd.pinned (OpenSpec.ofChange globMatchWrong)

/-- 'quiltlaw32.GlobOverlap': WHATEVER THE INPUT: true; the input reads as it did. -/
def globOverlapSpec : ChangeSpec := { name := "globOverlap", fn := fun _ => fun
  | [d1, d2] => { results := [.lit (.bool true)], args := [d1, d2] }
  | _ => none }
def globOverlapRow : OpenClaim := { program := "ytgioceapingblaadoor", sum := "69ccd60f378b5fbe66b9ca6708bed3a61195f585401085737ff3bb0937b19457", func := "quilt/quiltlaw32.GlobOverlap", spec := "globOverlap", inPlace := ["internal/bytealg.CountString", "internal/bytealg.IndexByteString", "internal/bytealg.IndexString", "internal/abi.NoEscape"], unfollowed := true, recurses := true, named := ["unicode/utf8.first", "unicode/utf8.acceptRanges", "internal/bytealg.MaxLen"], plainKeys := false, apart := false, laid := [("unicode/utf8.acceptRanges", laid_unicode_utf8_acceptRanges), ("unicode/utf8.first", laid_unicode_utf8_first)] }
def GlobOverlapSaid : Prop := globOverlapRow.holds Tryd.pinned (OpenSpec.ofChange globOverlapSpec)

/-- ITS FALSE NEIGHBOUR: 'it returns false'. Refute it at one input. -/
def globOverlapWrong : ChangeSpec := { name := "globOverlap", fn := fun _ => fun
  | [d1, d2] => { results := [.lit (.bool false)], args := [d1, d2] }
  | _ => none }
def GlobOverlapWrongFalsely : Prop := globOverlapRow.holds Tryd.pinned (OpenSpec.ofChange globOverlapWrong)

/-- 'quiltlaw32.GlobDeep': WHATEVER THE INPUT: true; the input reads as it did. -/
def globDeepSpec : ChangeSpec := { name := "globDeep", fn := fun _ => fun
  | [d1, d2, d3] => { results := [.lit (.bool true)], args := [d1, d2, d3] }
  | _ => none }
def globDeepRow : OpenClaim := { program := "ytgioceapingblaadoor", sum := "69ccd60f378b5fbe66b9ca6708bed3a61195f585401085737ff3bb0937b19457", func := "quilt/quiltlaw32.GlobDeep", spec := "globDeep", inPlace := ["internal/bytealg.IndexByteString", "internal/bytealg.IndexString", "internal/bytealg.CountString", "internal/abi.NoEscape"], unfollowed := true, recurses := true, named := ["internal/bytealg.MaxLen", "unicode/utf8.first", "unicode/utf8.acceptRanges"], plainKeys := false, apart := false, laid := [("unicode/utf8.acceptRanges", laid_unicode_utf8_acceptRanges), ("unicode/utf8.first", laid_unicode_utf8_first)] }
def GlobDeepSaid : Prop := globDeepRow.holds Tryd.pinned (OpenSpec.ofChange globDeepSpec)

/-- ITS FALSE NEIGHBOUR: 'it returns false'. Refute it at one input. -/
def globDeepWrong : ChangeSpec := { name := "globDeep", fn := fun _ => fun
  | [d1, d2, d3] => { results := [.lit (.bool false)], args := [d1, d2, d3] }
  | _ => none }
def GlobDeepWrongFalsely : Prop := globDeepRow.holds Tryd.pinned (OpenSpec.ofChange globDeepWrong)

/-- 'quiltlaw32.GlobCheck': WHATEVER THE INPUT: true; the input reads as it did. -/
def globCheckSpec : ChangeSpec := { name := "globCheck", fn := fun _ => fun
  | [d] => { results := [.lit (.bool true)], args := [d] }
  | _ => none }
def globCheckRow : OpenClaim := { program := "ytgioceapingblaadoor", sum := "69ccd60f378b5fbe66b9ca6708bed3a61195f585401085737ff3bb0937b19457", func := "quilt/quiltlaw32.GlobCheck", spec := "globCheck", inPlace := ["internal/bytealg.CountString", "internal/bytealg.IndexByteString", "internal/bytealg.IndexString", "internal/abi.NoEscape"], unfollowed := true, recurses := true, named := ["unicode/utf8.first", "unicode/utf8.acceptRanges", "internal/bytealg.MaxLen"], plainKeys := false, apart := false, laid := [("unicode/utf8.acceptRanges", laid_unicode_utf8_acceptRanges), ("unicode/utf8.first", laid_unicode_utf8_first)] }
def GlobCheckSaid : Prop := globCheckRow.holds Tryd.pinned (OpenSpec.ofChange globCheckSpec)

/-- ITS FALSE NEIGHBOUR: 'it returns false'. Refute it at one input. -/
def globCheckWrong : ChangeSpec := { name := "globCheck", fn := fun _ => fun
  | [d] => { results := [.lit (.bool false)], args := [d] }
  | _ => none }
def GlobCheckWrongFalsely : Prop := globCheckRow.holds Tryd.pinned (OpenSpec.ofChange globCheckWrong)

/-- 'quiltlaw32.GlobQuoted': WHATEVER THE INPUT: true; the input reads as it did. -/
def globQuotedSpec : ChangeSpec := { name := "globQuoted", fn := fun _ => fun
  | [d1, d2] => { results := [.lit (.bool true)], args := [d1, d2] }
  | _ => none }
def globQuotedRow : OpenClaim := { program := "ytgioceapingblaadoor", sum := "69ccd60f378b5fbe66b9ca6708bed3a61195f585401085737ff3bb0937b19457", func := "quilt/quiltlaw32.GlobQuoted", spec := "globQuoted", inPlace := ["internal/bytealg.CountString", "internal/bytealg.IndexByteString", "internal/bytealg.IndexString", "internal/abi.NoEscape"], unfollowed := true, recurses := true, named := ["unicode/utf8.first", "unicode/utf8.acceptRanges", "internal/bytealg.MaxLen"], plainKeys := false, apart := false, laid := [("unicode/utf8.acceptRanges", laid_unicode_utf8_acceptRanges), ("unicode/utf8.first", laid_unicode_utf8_first)] }
def GlobQuotedSaid : Prop := globQuotedRow.holds Tryd.pinned (OpenSpec.ofChange globQuotedSpec)

/-- ITS FALSE NEIGHBOUR: 'it returns false'. Refute it at one input. -/
def globQuotedWrong : ChangeSpec := { name := "globQuoted", fn := fun _ => fun
  | [d1, d2] => { results := [.lit (.bool false)], args := [d1, d2] }
  | _ => none }
def GlobQuotedWrongFalsely : Prop := globQuotedRow.holds Tryd.pinned (OpenSpec.ofChange globQuotedWrong)

/-- 'quiltlaw32.GlobMeets': WHATEVER THE INPUT: true; the input reads as it did. -/
def globMeetsSpec : ChangeSpec := { name := "globMeets", fn := fun _ => fun
  | [d1, d2, d3] => { results := [.lit (.bool true)], args := [d1, d2, d3] }
  | _ => none }
def globMeetsRow : OpenClaim := { program := "ytgioceapingblaadoor", sum := "69ccd60f378b5fbe66b9ca6708bed3a61195f585401085737ff3bb0937b19457", func := "quilt/quiltlaw32.GlobMeets", spec := "globMeets", inPlace := ["internal/bytealg.CountString", "internal/bytealg.IndexByteString", "internal/bytealg.IndexString", "internal/abi.NoEscape"], unfollowed := true, recurses := true, named := ["unicode/utf8.first", "unicode/utf8.acceptRanges", "internal/bytealg.MaxLen"], plainKeys := false, apart := false, laid := [("unicode/utf8.acceptRanges", laid_unicode_utf8_acceptRanges), ("unicode/utf8.first", laid_unicode_utf8_first)] }
def GlobMeetsSaid : Prop := globMeetsRow.holds Tryd.pinned (OpenSpec.ofChange globMeetsSpec)

/-- ITS FALSE NEIGHBOUR: 'it returns false'. Refute it at one input. -/
def globMeetsWrong : ChangeSpec := { name := "globMeets", fn := fun _ => fun
  | [d1, d2, d3] => { results := [.lit (.bool false)], args := [d1, d2, d3] }
  | _ => none }
def GlobMeetsWrongFalsely : Prop := globMeetsRow.holds Tryd.pinned (OpenSpec.ofChange globMeetsWrong)

/-- 'quiltlaw32.GlobBelow': WHATEVER THE INPUT: true; the input reads as it did. -/
def globBelowSpec : ChangeSpec := { name := "globBelow", fn := fun _ => fun
  | [d1, d2, d3] => { results := [.lit (.bool true)], args := [d1, d2, d3] }
  | _ => none }
def globBelowRow : OpenClaim := { program := "ytgioceapingblaadoor", sum := "69ccd60f378b5fbe66b9ca6708bed3a61195f585401085737ff3bb0937b19457", func := "quilt/quiltlaw32.GlobBelow", spec := "globBelow", inPlace := ["internal/bytealg.CountString", "internal/bytealg.IndexByteString", "internal/bytealg.IndexString", "internal/abi.NoEscape"], unfollowed := true, recurses := true, named := ["unicode/utf8.first", "unicode/utf8.acceptRanges", "internal/bytealg.MaxLen"], plainKeys := false, apart := false, laid := [("unicode/utf8.acceptRanges", laid_unicode_utf8_acceptRanges), ("unicode/utf8.first", laid_unicode_utf8_first)] }
def GlobBelowSaid : Prop := globBelowRow.holds Tryd.pinned (OpenSpec.ofChange globBelowSpec)

/-- ITS FALSE NEIGHBOUR: 'it returns false'. Refute it at one input. -/
def globBelowWrong : ChangeSpec := { name := "globBelow", fn := fun _ => fun
  | [d1, d2, d3] => { results := [.lit (.bool false)], args := [d1, d2, d3] }
  | _ => none }
def GlobBelowWrongFalsely : Prop := globBelowRow.holds Tryd.pinned (OpenSpec.ofChange globBelowWrong)

/-- 'quiltlaw32.GlobFixed': WHATEVER THE INPUT: true; the input reads as it did. -/
def globFixedSpec : ChangeSpec := { name := "globFixed", fn := fun _ => fun
  | [d1, d2] => { results := [.lit (.bool true)], args := [d1, d2] }
  | _ => none }
def globFixedRow : OpenClaim := { program := "ytgioceapingblaadoor", sum := "69ccd60f378b5fbe66b9ca6708bed3a61195f585401085737ff3bb0937b19457", func := "quilt/quiltlaw32.GlobFixed", spec := "globFixed", inPlace := ["internal/bytealg.CountString", "internal/bytealg.IndexByteString", "internal/bytealg.IndexString", "internal/abi.NoEscape"], unfollowed := true, recurses := true, named := ["unicode/utf8.first", "unicode/utf8.acceptRanges", "internal/bytealg.MaxLen"], plainKeys := false, apart := false, laid := [("unicode/utf8.acceptRanges", laid_unicode_utf8_acceptRanges), ("unicode/utf8.first", laid_unicode_utf8_first)] }
def GlobFixedSaid : Prop := globFixedRow.holds Tryd.pinned (OpenSpec.ofChange globFixedSpec)

/-- ITS FALSE NEIGHBOUR: 'it returns false'. Refute it at one input. -/
def globFixedWrong : ChangeSpec := { name := "globFixed", fn := fun _ => fun
  | [d1, d2] => { results := [.lit (.bool false)], args := [d1, d2] }
  | _ => none }
def GlobFixedWrongFalsely : Prop := globFixedRow.holds Tryd.pinned (OpenSpec.ofChange globFixedWrong)

/-- 'quiltlaw32.GlobParts': WHATEVER THE INPUT: true; the input reads as it did. -/
def globPartsSpec : ChangeSpec := { name := "globParts", fn := fun _ => fun
  | [d1, d2, d3] => { results := [.lit (.bool true)], args := [d1, d2, d3] }
  | _ => none }
def globPartsRow : OpenClaim := { program := "ytgioceapingblaadoor", sum := "69ccd60f378b5fbe66b9ca6708bed3a61195f585401085737ff3bb0937b19457", func := "quilt/quiltlaw32.GlobParts", spec := "globParts", inPlace := ["internal/bytealg.CountString", "internal/bytealg.IndexByteString", "internal/bytealg.IndexString", "internal/abi.NoEscape", "internal/bytealg.MakeNoZero"], unfollowed := true, recurses := true, named := ["unicode/utf8.first", "unicode/utf8.acceptRanges", "internal/bytealg.MaxLen"], plainKeys := false, apart := false, laid := [("unicode/utf8.acceptRanges", laid_unicode_utf8_acceptRanges), ("unicode/utf8.first", laid_unicode_utf8_first)] }
def GlobPartsSaid : Prop := globPartsRow.holds Tryd.pinned (OpenSpec.ofChange globPartsSpec)

/-- ITS FALSE NEIGHBOUR: 'it returns false'. Refute it at one input. -/
def globPartsWrong : ChangeSpec := { name := "globParts", fn := fun _ => fun
  | [d1, d2, d3] => { results := [.lit (.bool false)], args := [d1, d2, d3] }
  | _ => none }
def GlobPartsWrongFalsely : Prop := globPartsRow.holds Tryd.pinned (OpenSpec.ofChange globPartsWrong)

/- THE SECOND FORM. 'bulk': how many values and letters a reading holds, each counted each time it is reached (what is shared counts as often as it is met; a slice's spare places count too). A statement '..UptoSaid' is the law's where the arguments, and the package variables that the reading takes, are together of bulk at most 1048576: NARROWER than '..Said'. Prove '..Said' where nothing that the law and all that it calls make is longer than what came in: it says more and counts as full. Else prove '..UptoSaid'. A law counts once. -/
mutual
def uptoBulk {H : Type} : DataW H → Nat
  | .lit (.string bytes) => bytes.length + 1
  | .lit _ => 1
  | .nil => 1
  | .ptr d => uptoBulk d + 1
  | .slice elems spare => uptoBulkAll elems + uptoBulkAll spare + 1
  | .agg parts => uptoBulkAll parts + 1
  | .iface _ d => uptoBulk d + 1
  | .map entries => uptoBulkEntries entries + 1
  | .held _ => 1
def uptoBulkAll {H : Type} : List (DataW H) → Nat
  | [] => 0
  | d :: r => uptoBulk d + uptoBulkAll r
def uptoBulkEntries {H : Type} : List (Lit × DataW H) → Nat
  | [] => 0
  | x :: r => uptoBulkEntry x + uptoBulkEntries r
def uptoBulkEntry {H : Type} : Lit × DataW H → Nat
  | (.string bytes, d) => bytes.length + uptoBulk d + 1
  | (_, d) => uptoBulk d + 1
 end
def uptoSmall : (H : Type) → List (DataW H) → Bool := fun _ ds => decide (uptoBulkAll ds ≤ 1048576)
def OpenSpec.upto (s : _root_.Go.ChangeSpec) : _root_.Go.OpenSpec := { _root_.Go.OpenSpec.ofChange s with cond := some uptoSmall }

/-- 'quiltlaw32.GlobMatch', WHERE WHAT IT READS IS OF BULK AT MOST 1048576: true; the input reads as it did. -/
def globMatchUptoRow : OpenClaim := { program := "ytgioceapingblaadoor", sum := "69ccd60f378b5fbe66b9ca6708bed3a61195f585401085737ff3bb0937b19457", func := "quilt/quiltlaw32.GlobMatch", spec := "globMatch", inPlace := ["internal/bytealg.CountString", "internal/bytealg.IndexByteString", "internal/bytealg.IndexString", "internal/abi.NoEscape"], unfollowed := true, recurses := true, named := ["unicode/utf8.first", "unicode/utf8.acceptRanges", "internal/bytealg.MaxLen"], plainKeys := false, apart := false, laid := [("unicode/utf8.acceptRanges", laid_unicode_utf8_acceptRanges), ("unicode/utf8.first", laid_unicode_utf8_first)], narrowed := true }
def GlobMatchUptoSaid : Prop := globMatchUptoRow.holds Tryd.pinned (OpenSpec.upto globMatchSpec)

/-- 'quiltlaw32.GlobOverlap', WHERE WHAT IT READS IS OF BULK AT MOST 1048576: true; the input reads as it did. -/
def globOverlapUptoRow : OpenClaim := { program := "ytgioceapingblaadoor", sum := "69ccd60f378b5fbe66b9ca6708bed3a61195f585401085737ff3bb0937b19457", func := "quilt/quiltlaw32.GlobOverlap", spec := "globOverlap", inPlace := ["internal/bytealg.CountString", "internal/bytealg.IndexByteString", "internal/bytealg.IndexString", "internal/abi.NoEscape"], unfollowed := true, recurses := true, named := ["unicode/utf8.first", "unicode/utf8.acceptRanges", "internal/bytealg.MaxLen"], plainKeys := false, apart := false, laid := [("unicode/utf8.acceptRanges", laid_unicode_utf8_acceptRanges), ("unicode/utf8.first", laid_unicode_utf8_first)], narrowed := true }
def GlobOverlapUptoSaid : Prop := globOverlapUptoRow.holds Tryd.pinned (OpenSpec.upto globOverlapSpec)

/-- 'quiltlaw32.GlobDeep', WHERE WHAT IT READS IS OF BULK AT MOST 1048576: true; the input reads as it did. -/
def globDeepUptoRow : OpenClaim := { program := "ytgioceapingblaadoor", sum := "69ccd60f378b5fbe66b9ca6708bed3a61195f585401085737ff3bb0937b19457", func := "quilt/quiltlaw32.GlobDeep", spec := "globDeep", inPlace := ["internal/bytealg.IndexByteString", "internal/bytealg.IndexString", "internal/bytealg.CountString", "internal/abi.NoEscape"], unfollowed := true, recurses := true, named := ["internal/bytealg.MaxLen", "unicode/utf8.first", "unicode/utf8.acceptRanges"], plainKeys := false, apart := false, laid := [("unicode/utf8.acceptRanges", laid_unicode_utf8_acceptRanges), ("unicode/utf8.first", laid_unicode_utf8_first)], narrowed := true }
def GlobDeepUptoSaid : Prop := globDeepUptoRow.holds Tryd.pinned (OpenSpec.upto globDeepSpec)

/-- 'quiltlaw32.GlobCheck', WHERE WHAT IT READS IS OF BULK AT MOST 1048576: true; the input reads as it did. -/
def globCheckUptoRow : OpenClaim := { program := "ytgioceapingblaadoor", sum := "69ccd60f378b5fbe66b9ca6708bed3a61195f585401085737ff3bb0937b19457", func := "quilt/quiltlaw32.GlobCheck", spec := "globCheck", inPlace := ["internal/bytealg.CountString", "internal/bytealg.IndexByteString", "internal/bytealg.IndexString", "internal/abi.NoEscape"], unfollowed := true, recurses := true, named := ["unicode/utf8.first", "unicode/utf8.acceptRanges", "internal/bytealg.MaxLen"], plainKeys := false, apart := false, laid := [("unicode/utf8.acceptRanges", laid_unicode_utf8_acceptRanges), ("unicode/utf8.first", laid_unicode_utf8_first)], narrowed := true }
def GlobCheckUptoSaid : Prop := globCheckUptoRow.holds Tryd.pinned (OpenSpec.upto globCheckSpec)

/-- 'quiltlaw32.GlobQuoted', WHERE WHAT IT READS IS OF BULK AT MOST 1048576: true; the input reads as it did. -/
def globQuotedUptoRow : OpenClaim := { program := "ytgioceapingblaadoor", sum := "69ccd60f378b5fbe66b9ca6708bed3a61195f585401085737ff3bb0937b19457", func := "quilt/quiltlaw32.GlobQuoted", spec := "globQuoted", inPlace := ["internal/bytealg.CountString", "internal/bytealg.IndexByteString", "internal/bytealg.IndexString", "internal/abi.NoEscape"], unfollowed := true, recurses := true, named := ["unicode/utf8.first", "unicode/utf8.acceptRanges", "internal/bytealg.MaxLen"], plainKeys := false, apart := false, laid := [("unicode/utf8.acceptRanges", laid_unicode_utf8_acceptRanges), ("unicode/utf8.first", laid_unicode_utf8_first)], narrowed := true }
def GlobQuotedUptoSaid : Prop := globQuotedUptoRow.holds Tryd.pinned (OpenSpec.upto globQuotedSpec)

/-- 'quiltlaw32.GlobMeets', WHERE WHAT IT READS IS OF BULK AT MOST 1048576: true; the input reads as it did. -/
def globMeetsUptoRow : OpenClaim := { program := "ytgioceapingblaadoor", sum := "69ccd60f378b5fbe66b9ca6708bed3a61195f585401085737ff3bb0937b19457", func := "quilt/quiltlaw32.GlobMeets", spec := "globMeets", inPlace := ["internal/bytealg.CountString", "internal/bytealg.IndexByteString", "internal/bytealg.IndexString", "internal/abi.NoEscape"], unfollowed := true, recurses := true, named := ["unicode/utf8.first", "unicode/utf8.acceptRanges", "internal/bytealg.MaxLen"], plainKeys := false, apart := false, laid := [("unicode/utf8.acceptRanges", laid_unicode_utf8_acceptRanges), ("unicode/utf8.first", laid_unicode_utf8_first)], narrowed := true }
def GlobMeetsUptoSaid : Prop := globMeetsUptoRow.holds Tryd.pinned (OpenSpec.upto globMeetsSpec)

/-- 'quiltlaw32.GlobBelow', WHERE WHAT IT READS IS OF BULK AT MOST 1048576: true; the input reads as it did. -/
def globBelowUptoRow : OpenClaim := { program := "ytgioceapingblaadoor", sum := "69ccd60f378b5fbe66b9ca6708bed3a61195f585401085737ff3bb0937b19457", func := "quilt/quiltlaw32.GlobBelow", spec := "globBelow", inPlace := ["internal/bytealg.CountString", "internal/bytealg.IndexByteString", "internal/bytealg.IndexString", "internal/abi.NoEscape"], unfollowed := true, recurses := true, named := ["unicode/utf8.first", "unicode/utf8.acceptRanges", "internal/bytealg.MaxLen"], plainKeys := false, apart := false, laid := [("unicode/utf8.acceptRanges", laid_unicode_utf8_acceptRanges), ("unicode/utf8.first", laid_unicode_utf8_first)], narrowed := true }
def GlobBelowUptoSaid : Prop := globBelowUptoRow.holds Tryd.pinned (OpenSpec.upto globBelowSpec)

/-- 'quiltlaw32.GlobFixed', WHERE WHAT IT READS IS OF BULK AT MOST 1048576: true; the input reads as it did. -/
def globFixedUptoRow : OpenClaim := { program := "ytgioceapingblaadoor", sum := "69ccd60f378b5fbe66b9ca6708bed3a61195f585401085737ff3bb0937b19457", func := "quilt/quiltlaw32.GlobFixed", spec := "globFixed", inPlace := ["internal/bytealg.CountString", "internal/bytealg.IndexByteString", "internal/bytealg.IndexString", "internal/abi.NoEscape"], unfollowed := true, recurses := true, named := ["unicode/utf8.first", "unicode/utf8.acceptRanges", "internal/bytealg.MaxLen"], plainKeys := false, apart := false, laid := [("unicode/utf8.acceptRanges", laid_unicode_utf8_acceptRanges), ("unicode/utf8.first", laid_unicode_utf8_first)], narrowed := true }
def GlobFixedUptoSaid : Prop := globFixedUptoRow.holds Tryd.pinned (OpenSpec.upto globFixedSpec)

/-- 'quiltlaw32.GlobParts', WHERE WHAT IT READS IS OF BULK AT MOST 1048576: true; the input reads as it did. -/
def globPartsUptoRow : OpenClaim := { program := "ytgioceapingblaadoor", sum := "69ccd60f378b5fbe66b9ca6708bed3a61195f585401085737ff3bb0937b19457", func := "quilt/quiltlaw32.GlobParts", spec := "globParts", inPlace := ["internal/bytealg.CountString", "internal/bytealg.IndexByteString", "internal/bytealg.IndexString", "internal/abi.NoEscape", "internal/bytealg.MakeNoZero"], unfollowed := true, recurses := true, named := ["unicode/utf8.first", "unicode/utf8.acceptRanges", "internal/bytealg.MaxLen"], plainKeys := false, apart := false, laid := [("unicode/utf8.acceptRanges", laid_unicode_utf8_acceptRanges), ("unicode/utf8.first", laid_unicode_utf8_first)], narrowed := true }
def GlobPartsUptoSaid : Prop := globPartsUptoRow.holds Tryd.pinned (OpenSpec.upto globPartsSpec)

end Rows
end Go.Proofs.YtgioceapingblaaDoor
