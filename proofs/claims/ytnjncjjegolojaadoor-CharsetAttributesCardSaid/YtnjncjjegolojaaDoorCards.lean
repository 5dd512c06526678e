/-
  DERIVED. GIVEN WITH THE SEED: THE CARDS: each row of YtnjncjjegolojaaDoorRows.lean that lists a variable, with what it lists TIED to the program's text (the seventh form; the later family's looks); each row that meets fmt, with fmt's text TOLD by the authors' own Lean function (tested against real Go, not proved from fmt's source: count such statements apart). THE CARD IS WHAT COUNTS. Prove the row's statement (the work); the ties are given (YtnjncjjegolojaaDoorTie.lean); close each card by the builder's one call (the guide's Derived/Test/ToyasCard.lean, 'card_holds'). Laid BY PROGRAM, IN A SANDBOX (cutbox-door.mjs). By AI agents, Wed Nov 11 2026. No macro, syntax, notation, axiom, sorry.
-/
import Derived.Test.YtnjncjjegolojaaDoorRows
import GoSem.ClaimSeven
namespace Go.Proofs.YtnjncjjegolojaaDoor
namespace Rows

/-- THE TIED CARD OF 'quiltlaw57.CharsetCodec'. -/
def charsetCodecCard : Claim7 := { stood := { row := charsetCodecRow, standIns := [], harness := (true, "f6348e4e8bac64864c78e5c0b66ae3fa13355cefac66f54eee7659032daedfee"), looks := false }, kinds := [], alts := [], laidByText := true, laidKinds := [.data, .pinned], laidTests := true, laidLooks := .later }
def CharsetCodecCardSaid : Prop := Claim7.holds Tryd.pinned (.plain (OpenSpec.ofChange charsetCodecSpec)) charsetCodecCard

/-- THE TIED CARD OF 'quiltlaw57.CharsetAttributes'. -/
def charsetAttributesCard : Claim7 := { stood := { row := charsetAttributesRow, standIns := [], harness := (true, "f6348e4e8bac64864c78e5c0b66ae3fa13355cefac66f54eee7659032daedfee"), looks := false }, kinds := [], alts := [], laidByText := true, laidKinds := [.data, .pinned], laidTests := true, laidLooks := .later }
def CharsetAttributesCardSaid : Prop := Claim7.holds Tryd.pinned (.plain (OpenSpec.ofChange charsetAttributesSpec)) charsetAttributesCard

/-- THE TIED CARD OF 'quiltlaw57.CharsetInverse'. -/
def charsetInverseCard : Claim7 := { stood := { row := charsetInverseRow, standIns := [], harness := (true, "f6348e4e8bac64864c78e5c0b66ae3fa13355cefac66f54eee7659032daedfee"), looks := false }, kinds := [], alts := [], laidByText := true, laidKinds := [.data, .pinned], laidTests := true, laidLooks := .later }
def CharsetInverseCardSaid : Prop := Claim7.holds Tryd.pinned (.plain (OpenSpec.ofChange charsetInverseSpec)) charsetInverseCard

/-- THE TIED CARD OF 'quiltlaw57.CharsetRepoInverse'. -/
def charsetRepoInverseCard : Claim7 := { stood := { row := charsetRepoInverseRow, standIns := [], harness := (true, "f6348e4e8bac64864c78e5c0b66ae3fa13355cefac66f54eee7659032daedfee"), looks := false }, kinds := [], alts := [], laidByText := true, laidKinds := [.data, .pinned], laidTests := true, laidLooks := .later }
def CharsetRepoInverseCardSaid : Prop := Claim7.holds Tryd.pinned (.plain (OpenSpec.ofChange charsetRepoInverseSpec)) charsetRepoInverseCard

/-- THE TIED CARD OF 'quiltlaw57.CharsetLast'. -/
def charsetLastCard : Claim7 := { stood := { row := charsetLastRow, standIns := [], harness := (true, "f6348e4e8bac64864c78e5c0b66ae3fa13355cefac66f54eee7659032daedfee"), looks := false }, kinds := [], alts := [], laidByText := true, laidKinds := [.data, .pinned], laidTests := true, laidLooks := .later }
def CharsetLastCardSaid : Prop := Claim7.holds Tryd.pinned (.plain (OpenSpec.ofChange charsetLastSpec)) charsetLastCard

/-- THE TIED CARD OF 'quiltlaw57.CharsetSets'. -/
def charsetSetsCard : Claim7 := { stood := { row := charsetSetsRow, standIns := [], harness := (true, "f6348e4e8bac64864c78e5c0b66ae3fa13355cefac66f54eee7659032daedfee"), looks := false }, kinds := [], alts := [], laidByText := true, laidKinds := [.data, .pinned], laidTests := true, laidLooks := .later }
def CharsetSetsCardSaid : Prop := Claim7.holds Tryd.pinned (.plain (OpenSpec.ofChange charsetSetsSpec)) charsetSetsCard

/-- THE TIED CARD OF 'quiltlaw57.CharsetLines'. -/
def charsetLinesCard : Claim7 := { stood := { row := charsetLinesRow, standIns := [], harness := (true, "f6348e4e8bac64864c78e5c0b66ae3fa13355cefac66f54eee7659032daedfee"), looks := false }, kinds := [], alts := [], laidByText := true, laidKinds := [.data, .pinned], laidTests := true, laidLooks := .later }
def CharsetLinesCardSaid : Prop := Claim7.holds Tryd.pinned (.plain (OpenSpec.ofChange charsetLinesSpec)) charsetLinesCard

/-- THE SECOND FORM's CARD OF 'quiltlaw57.CharsetCodec'. -/
def charsetCodecUptoCard : Claim7 := { stood := { row := charsetCodecUptoRow, standIns := [], harness := (true, "f6348e4e8bac64864c78e5c0b66ae3fa13355cefac66f54eee7659032daedfee"), looks := false }, kinds := [], alts := [], laidByText := true, laidKinds := [.data, .pinned], laidTests := true, laidLooks := .later }
def CharsetCodecUptoCardSaid : Prop := Claim7.holds Tryd.pinned (.plain (OpenSpec.upto charsetCodecSpec)) charsetCodecUptoCard

/-- THE SECOND FORM's CARD OF 'quiltlaw57.CharsetAttributes'. -/
def charsetAttributesUptoCard : Claim7 := { stood := { row := charsetAttributesUptoRow, standIns := [], harness := (true, "f6348e4e8bac64864c78e5c0b66ae3fa13355cefac66f54eee7659032daedfee"), looks := false }, kinds := [], alts := [], laidByText := true, laidKinds := [.data, .pinned], laidTests := true, laidLooks := .later }
def CharsetAttributesUptoCardSaid : Prop := Claim7.holds Tryd.pinned (.plain (OpenSpec.upto charsetAttributesSpec)) charsetAttributesUptoCard

/-- THE SECOND FORM's CARD OF 'quiltlaw57.CharsetInverse'. -/
def charsetInverseUptoCard : Claim7 := { stood := { row := charsetInverseUptoRow, standIns := [], harness := (true, "f6348e4e8bac64864c78e5c0b66ae3fa13355cefac66f54eee7659032daedfee"), looks := false }, kinds := [], alts := [], laidByText := true, laidKinds := [.data, .pinned], laidTests := true, laidLooks := .later }
def CharsetInverseUptoCardSaid : Prop := Claim7.holds Tryd.pinned (.plain (OpenSpec.upto charsetInverseSpec)) charsetInverseUptoCard

/-- THE SECOND FORM's CARD OF 'quiltlaw57.CharsetRepoInverse'. -/
def charsetRepoInverseUptoCard : Claim7 := { stood := { row := charsetRepoInverseUptoRow, standIns := [], harness := (true, "f6348e4e8bac64864c78e5c0b66ae3fa13355cefac66f54eee7659032daedfee"), looks := false }, kinds := [], alts := [], laidByText := true, laidKinds := [.data, .pinned], laidTests := true, laidLooks := .later }
def CharsetRepoInverseUptoCardSaid : Prop := Claim7.holds Tryd.pinned (.plain (OpenSpec.upto charsetRepoInverseSpec)) charsetRepoInverseUptoCard

/-- THE SECOND FORM's CARD OF 'quiltlaw57.CharsetLast'. -/
def charsetLastUptoCard : Claim7 := { stood := { row := charsetLastUptoRow, standIns := [], harness := (true, "f6348e4e8bac64864c78e5c0b66ae3fa13355cefac66f54eee7659032daedfee"), looks := false }, kinds := [], alts := [], laidByText := true, laidKinds := [.data, .pinned], laidTests := true, laidLooks := .later }
def CharsetLastUptoCardSaid : Prop := Claim7.holds Tryd.pinned (.plain (OpenSpec.upto charsetLastSpec)) charsetLastUptoCard

/-- THE SECOND FORM's CARD OF 'quiltlaw57.CharsetSets'. -/
def charsetSetsUptoCard : Claim7 := { stood := { row := charsetSetsUptoRow, standIns := [], harness := (true, "f6348e4e8bac64864c78e5c0b66ae3fa13355cefac66f54eee7659032daedfee"), looks := false }, kinds := [], alts := [], laidByText := true, laidKinds := [.data, .pinned], laidTests := true, laidLooks := .later }
def CharsetSetsUptoCardSaid : Prop := Claim7.holds Tryd.pinned (.plain (OpenSpec.upto charsetSetsSpec)) charsetSetsUptoCard

/-- THE SECOND FORM's CARD OF 'quiltlaw57.CharsetLines'. -/
def charsetLinesUptoCard : Claim7 := { stood := { row := charsetLinesUptoRow, standIns := [], harness := (true, "f6348e4e8bac64864c78e5c0b66ae3fa13355cefac66f54eee7659032daedfee"), looks := false }, kinds := [], alts := [], laidByText := true, laidKinds := [.data, .pinned], laidTests := true, laidLooks := .later }
def CharsetLinesUptoCardSaid : Prop := Claim7.holds Tryd.pinned (.plain (OpenSpec.upto charsetLinesSpec)) charsetLinesUptoCard
end Rows
end Go.Proofs.YtnjncjjegolojaaDoor
