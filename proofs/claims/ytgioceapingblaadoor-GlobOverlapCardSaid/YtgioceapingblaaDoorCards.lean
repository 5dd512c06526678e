/-
  DERIVED. GIVEN WITH THE SEED: THE CARDS: each row of YtgioceapingblaaDoorRows.lean that lists a variable, with what it lists TIED to the program's text (the seventh form; the later family's looks); each row that meets fmt, with fmt's text TOLD by the authors' own Lean function (tested against real Go, not proved from fmt's source: count such statements apart). THE CARD IS WHAT COUNTS. Prove the row's statement (the work); the ties are given (YtgioceapingblaaDoorTie.lean); close each card by the builder's one call (the guide's Derived/Test/ToyasCard.lean, 'card_holds'). Laid BY PROGRAM, IN A SANDBOX (cutbox-door.mjs). By AI agents, Wed Nov 11 2026. No macro, syntax, notation, axiom, sorry.
-/
import Derived.Test.YtgioceapingblaaDoorRows
import GoSem.ClaimSeven
namespace Go.Proofs.YtgioceapingblaaDoor
namespace Rows

/-- THE TIED CARD OF 'quiltlaw32.GlobMatch'. -/
def globMatchCard : Claim7 := { stood := { row := globMatchRow, standIns := [], harness := (true, "838957b6bdf35259a30ca1c3fd6a9319478338c128fc1c4bf539a52352d03494"), looks := false }, kinds := [], alts := [], laidByText := true, laidKinds := [.data, .pinned], laidTests := true, laidLooks := .later }
def GlobMatchCardSaid : Prop := Claim7.holds Tryd.pinned (.plain (OpenSpec.ofChange globMatchSpec)) globMatchCard

/-- THE TIED CARD OF 'quiltlaw32.GlobOverlap'. -/
def globOverlapCard : Claim7 := { stood := { row := globOverlapRow, standIns := [], harness := (true, "838957b6bdf35259a30ca1c3fd6a9319478338c128fc1c4bf539a52352d03494"), looks := false }, kinds := [], alts := [], laidByText := true, laidKinds := [.data, .pinned], laidTests := true, laidLooks := .later }
def GlobOverlapCardSaid : Prop := Claim7.holds Tryd.pinned (.plain (OpenSpec.ofChange globOverlapSpec)) globOverlapCard

/-- THE TIED CARD OF 'quiltlaw32.GlobDeep'. -/
def globDeepCard : Claim7 := { stood := { row := globDeepRow, standIns := [], harness := (true, "838957b6bdf35259a30ca1c3fd6a9319478338c128fc1c4bf539a52352d03494"), looks := false }, kinds := [], alts := [], laidByText := true, laidKinds := [.data, .pinned], laidTests := true, laidLooks := .later }
def GlobDeepCardSaid : Prop := Claim7.holds Tryd.pinned (.plain (OpenSpec.ofChange globDeepSpec)) globDeepCard

/-- THE TIED CARD OF 'quiltlaw32.GlobCheck'. -/
def globCheckCard : Claim7 := { stood := { row := globCheckRow, standIns := [], harness := (true, "838957b6bdf35259a30ca1c3fd6a9319478338c128fc1c4bf539a52352d03494"), looks := false }, kinds := [], alts := [], laidByText := true, laidKinds := [.data, .pinned], laidTests := true, laidLooks := .later }
def GlobCheckCardSaid : Prop := Claim7.holds Tryd.pinned (.plain (OpenSpec.ofChange globCheckSpec)) globCheckCard

/-- THE TIED CARD OF 'quiltlaw32.GlobQuoted'. -/
def globQuotedCard : Claim7 := { stood := { row := globQuotedRow, standIns := [], harness := (true, "838957b6bdf35259a30ca1c3fd6a9319478338c128fc1c4bf539a52352d03494"), looks := false }, kinds := [], alts := [], laidByText := true, laidKinds := [.data, .pinned], laidTests := true, laidLooks := .later }
def GlobQuotedCardSaid : Prop := Claim7.holds Tryd.pinned (.plain (OpenSpec.ofChange globQuotedSpec)) globQuotedCard

/-- THE TIED CARD OF 'quiltlaw32.GlobMeets'. -/
def globMeetsCard : Claim7 := { stood := { row := globMeetsRow, standIns := [], harness := (true, "838957b6bdf35259a30ca1c3fd6a9319478338c128fc1c4bf539a52352d03494"), looks := false }, kinds := [], alts := [], laidByText := true, laidKinds := [.data, .pinned], laidTests := true, laidLooks := .later }
def GlobMeetsCardSaid : Prop := Claim7.holds Tryd.pinned (.plain (OpenSpec.ofChange globMeetsSpec)) globMeetsCard

/-- THE TIED CARD OF 'quiltlaw32.GlobBelow'. -/
def globBelowCard : Claim7 := { stood := { row := globBelowRow, standIns := [], harness := (true, "838957b6bdf35259a30ca1c3fd6a9319478338c128fc1c4bf539a52352d03494"), looks := false }, kinds := [], alts := [], laidByText := true, laidKinds := [.data, .pinned], laidTests := true, laidLooks := .later }
def GlobBelowCardSaid : Prop := Claim7.holds Tryd.pinned (.plain (OpenSpec.ofChange globBelowSpec)) globBelowCard

/-- THE TIED CARD OF 'quiltlaw32.GlobFixed'. -/
def globFixedCard : Claim7 := { stood := { row := globFixedRow, standIns := [], harness := (true, "838957b6bdf35259a30ca1c3fd6a9319478338c128fc1c4bf539a52352d03494"), looks := false }, kinds := [], alts := [], laidByText := true, laidKinds := [.data, .pinned], laidTests := true, laidLooks := .later }
def GlobFixedCardSaid : Prop := Claim7.holds Tryd.pinned (.plain (OpenSpec.ofChange globFixedSpec)) globFixedCard

/-- THE TIED CARD OF 'quiltlaw32.GlobParts'. -/
def globPartsCard : Claim7 := { stood := { row := globPartsRow, standIns := [], harness := (true, "838957b6bdf35259a30ca1c3fd6a9319478338c128fc1c4bf539a52352d03494"), looks := false }, kinds := [], alts := [], laidByText := true, laidKinds := [.data, .pinned], laidTests := true, laidLooks := .later }
def GlobPartsCardSaid : Prop := Claim7.holds Tryd.pinned (.plain (OpenSpec.ofChange globPartsSpec)) globPartsCard

/-- THE SECOND FORM's CARD OF 'quiltlaw32.GlobMatch'. -/
def globMatchUptoCard : Claim7 := { stood := { row := globMatchUptoRow, standIns := [], harness := (true, "838957b6bdf35259a30ca1c3fd6a9319478338c128fc1c4bf539a52352d03494"), looks := false }, kinds := [], alts := [], laidByText := true, laidKinds := [.data, .pinned], laidTests := true, laidLooks := .later }
def GlobMatchUptoCardSaid : Prop := Claim7.holds Tryd.pinned (.plain (OpenSpec.upto globMatchSpec)) globMatchUptoCard

/-- THE SECOND FORM's CARD OF 'quiltlaw32.GlobOverlap'. -/
def globOverlapUptoCard : Claim7 := { stood := { row := globOverlapUptoRow, standIns := [], harness := (true, "838957b6bdf35259a30ca1c3fd6a9319478338c128fc1c4bf539a52352d03494"), looks := false }, kinds := [], alts := [], laidByText := true, laidKinds := [.data, .pinned], laidTests := true, laidLooks := .later }
def GlobOverlapUptoCardSaid : Prop := Claim7.holds Tryd.pinned (.plain (OpenSpec.upto globOverlapSpec)) globOverlapUptoCard

/-- THE SECOND FORM's CARD OF 'quiltlaw32.GlobDeep'. -/
def globDeepUptoCard : Claim7 := { stood := { row := globDeepUptoRow, standIns := [], harness := (true, "838957b6bdf35259a30ca1c3fd6a9319478338c128fc1c4bf539a52352d03494"), looks := false }, kinds := [], alts := [], laidByText := true, laidKinds := [.data, .pinned], laidTests := true, laidLooks := .later }
def GlobDeepUptoCardSaid : Prop := Claim7.holds Tryd.pinned (.plain (OpenSpec.upto globDeepSpec)) globDeepUptoCard

/-- THE SECOND FORM's CARD OF 'quiltlaw32.GlobCheck'. -/
def globCheckUptoCard : Claim7 := { stood := { row := globCheckUptoRow, standIns := [], harness := (true, "838957b6bdf35259a30ca1c3fd6a9319478338c128fc1c4bf539a52352d03494"), looks := false }, kinds := [], alts := [], laidByText := true, laidKinds := [.data, .pinned], laidTests := true, laidLooks := .later }
def GlobCheckUptoCardSaid : Prop := Claim7.holds Tryd.pinned (.plain (OpenSpec.upto globCheckSpec)) globCheckUptoCard

/-- THE SECOND FORM's CARD OF 'quiltlaw32.GlobQuoted'. -/
def globQuotedUptoCard : Claim7 := { stood := { row := globQuotedUptoRow, standIns := [], harness := (true, "838957b6bdf35259a30ca1c3fd6a9319478338c128fc1c4bf539a52352d03494"), looks := false }, kinds := [], alts := [], laidByText := true, laidKinds := [.data, .pinned], laidTests := true, laidLooks := .later }
def GlobQuotedUptoCardSaid : Prop := Claim7.holds Tryd.pinned (.plain (OpenSpec.upto globQuotedSpec)) globQuotedUptoCard

/-- THE SECOND FORM's CARD OF 'quiltlaw32.GlobMeets'. -/
def globMeetsUptoCard : Claim7 := { stood := { row := globMeetsUptoRow, standIns := [], harness := (true, "838957b6bdf35259a30ca1c3fd6a9319478338c128fc1c4bf539a52352d03494"), looks := false }, kinds := [], alts := [], laidByText := true, laidKinds := [.data, .pinned], laidTests := true, laidLooks := .later }
def GlobMeetsUptoCardSaid : Prop := Claim7.holds Tryd.pinned (.plain (OpenSpec.upto globMeetsSpec)) globMeetsUptoCard

/-- THE SECOND FORM's CARD OF 'quiltlaw32.GlobBelow'. -/
def globBelowUptoCard : Claim7 := { stood := { row := globBelowUptoRow, standIns := [], harness := (true, "838957b6bdf35259a30ca1c3fd6a9319478338c128fc1c4bf539a52352d03494"), looks := false }, kinds := [], alts := [], laidByText := true, laidKinds := [.data, .pinned], laidTests := true, laidLooks := .later }
def GlobBelowUptoCardSaid : Prop := Claim7.holds Tryd.pinned (.plain (OpenSpec.upto globBelowSpec)) globBelowUptoCard

/-- THE SECOND FORM's CARD OF 'quiltlaw32.GlobFixed'. -/
def globFixedUptoCard : Claim7 := { stood := { row := globFixedUptoRow, standIns := [], harness := (true, "838957b6bdf35259a30ca1c3fd6a9319478338c128fc1c4bf539a52352d03494"), looks := false }, kinds := [], alts := [], laidByText := true, laidKinds := [.data, .pinned], laidTests := true, laidLooks := .later }
def GlobFixedUptoCardSaid : Prop := Claim7.holds Tryd.pinned (.plain (OpenSpec.upto globFixedSpec)) globFixedUptoCard

/-- THE SECOND FORM's CARD OF 'quiltlaw32.GlobParts'. -/
def globPartsUptoCard : Claim7 := { stood := { row := globPartsUptoRow, standIns := [], harness := (true, "838957b6bdf35259a30ca1c3fd6a9319478338c128fc1c4bf539a52352d03494"), looks := false }, kinds := [], alts := [], laidByText := true, laidKinds := [.data, .pinned], laidTests := true, laidLooks := .later }
def GlobPartsUptoCardSaid : Prop := Claim7.holds Tryd.pinned (.plain (OpenSpec.upto globPartsSpec)) globPartsUptoCard
end Rows
end Go.Proofs.YtgioceapingblaaDoor
