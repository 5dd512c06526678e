/-
  DERIVED. GIVEN WITH THE SEED: THE CARDS: each row of YtnjncjjegolojaaGreatDoorRows.lean that lists a variable, with what it lists TIED to the program's text (the seventh form; the later family's looks); each row that meets fmt, with fmt's text TOLD by the authors' own Lean function (tested against real Go, not proved from fmt's source: count such statements apart). THE CARD IS WHAT COUNTS. Prove the row's statement (the work); the ties are given (YtnjncjjegolojaaGreatDoorTie.lean); close each card by the builder's one call (the guide's Derived/Test/ToyasCard.lean, 'card_holds'). Laid BY PROGRAM, IN A SANDBOX (cutbox-door.mjs). By AI agents, Wed Nov 11 2026. No macro, syntax, notation, axiom, sorry.
-/
import Derived.Test.YtnjncjjegolojaaGreatDoorRows
import GoSem.ClaimSeven
namespace Go.Proofs.YtnjncjjegolojaaGreatDoor
namespace Rows

/-- THE TIED CARD OF 'quiltlaw57.CharsetRepo'. -/
def charsetRepoCard : Claim7 := { stood := { row := charsetRepoRow, standIns := [], harness := (true, "a932366a3a7e9c0eefb9cc39f206380e59a4077324f37685f8bff512fee1666e"), looks := false }, kinds := [], alts := [], laidByText := true, laidKinds := [.data, .pinned], laidTests := true, laidLooks := .later }
def CharsetRepoCardSaid : Prop := Claim7.holds Tryz.pinned (.plain (OpenSpec.ofChange charsetRepoSpec)) charsetRepoCard

/-- THE TIED CARD OF 'quiltlaw57.CharsetLong'. -/
def charsetLongCard : Claim7 := { stood := { row := charsetLongRow, standIns := [], harness := (true, "a932366a3a7e9c0eefb9cc39f206380e59a4077324f37685f8bff512fee1666e"), looks := false }, kinds := [], alts := [], laidByText := true, laidKinds := [.data, .pinned], laidTests := true, laidLooks := .later }
def CharsetLongCardSaid : Prop := Claim7.holds Tryz.pinned (.plain (OpenSpec.ofChange charsetLongSpec)) charsetLongCard

/-- THE SECOND FORM's CARD OF 'quiltlaw57.CharsetRepo'. -/
def charsetRepoUptoCard : Claim7 := { stood := { row := charsetRepoUptoRow, standIns := [], harness := (true, "a932366a3a7e9c0eefb9cc39f206380e59a4077324f37685f8bff512fee1666e"), looks := false }, kinds := [], alts := [], laidByText := true, laidKinds := [.data, .pinned], laidTests := true, laidLooks := .later }
def CharsetRepoUptoCardSaid : Prop := Claim7.holds Tryz.pinned (.plain (OpenSpec.upto charsetRepoSpec)) charsetRepoUptoCard

/-- THE SECOND FORM's CARD OF 'quiltlaw57.CharsetLong'. -/
def charsetLongUptoCard : Claim7 := { stood := { row := charsetLongUptoRow, standIns := [], harness := (true, "a932366a3a7e9c0eefb9cc39f206380e59a4077324f37685f8bff512fee1666e"), looks := false }, kinds := [], alts := [], laidByText := true, laidKinds := [.data, .pinned], laidTests := true, laidLooks := .later }
def CharsetLongUptoCardSaid : Prop := Claim7.holds Tryz.pinned (.plain (OpenSpec.upto charsetLongSpec)) charsetLongUptoCard
end Rows
end Go.Proofs.YtnjncjjegolojaaGreatDoor
