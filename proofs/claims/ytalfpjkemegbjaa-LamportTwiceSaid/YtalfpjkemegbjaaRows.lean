/-
  No cell of these rows narrows 'for every input' (looked for: loops, veiled, ifaces, maps, wideKeys, modest, calm, conditions, laid).
  DERIVED. THE GIVEN ROWS OF THIS SEAT. 7 by the template 'for every input the law returns true; each argument reads behind the call as it read before'; 0 by the template 'total and deterministic' (their statements: YtalfpjkemegbjaaTotals.lean).
  GIVEN WITH THE SEED: the statements are not yours to turn. If you find one false, say at which input.
  Laid BY PROGRAM, IN A SANDBOX (cutbox-rows.mjs): the forced cells as the released guide's own fill.sh prints them over the translation 168e4c8be1866dce… (all of the seat's roots in one cut). By AI agents, Wed Nov 11 2026. No macro, syntax, notation, axiom, sorry.
-/
import Derived.Test.YtalfpjkemegbjaaChecked
import GoSem.Claim
import GoSem.ClaimJoined
import GoSem.ClaimMapViews
import Derived.JoinedTies
import Derived.KernelRfl
namespace Go.Proofs.Ytalfpjkemegbjaa
/- THE CELL 'sum', in the pinned program and in every row, IS THE sha256 OF THE DUMP (.gsa) THAT YtalfpjkemegbjaaProg.lean LOADS. Nothing in Lean hashes anything: it is a label: what it is worth is what the hold of that sum in a sandbox is worth. -/
noncomputable def Try.pinned : Pinned := { name := "ytalfpjkemegbjaa", sum := "168e4c8be1866dce17bf608f8c57716d2f9d0cc9aa53fb7d841e881beaf749bf", checked := Try.checked }
namespace Rows
def none {H : Type} : Left H := { results := [], args := [] }

/-- 'quiltlaw53.LamportSign': WHATEVER THE INPUT: true; the input reads as it did. -/
def lamportSignSpec : ChangeSpec := { name := "lamportSign", fn := fun _ => fun
  | [d1, d2, d3] => { results := [.lit (.bool true)], args := [d1, d2, d3] }
  | _ => none }
def lamportSignRow : OpenClaim := { program := "ytalfpjkemegbjaa", sum := "168e4c8be1866dce17bf608f8c57716d2f9d0cc9aa53fb7d841e881beaf749bf", func := "quilt/quiltlaw53.LamportSign", spec := "lamportSign", inPlace := ["internal/abi.NoEscape", "internal/bytealg.MakeNoZero"], unfollowed := true, recurses := true, plainKeys := false, apart := false }
def LamportSignSaid : Prop := lamportSignRow.holds Try.pinned (OpenSpec.ofChange lamportSignSpec)

/-- ITS FALSE NEIGHBOUR: 'it returns false'. Refute it at one input. -/
def lamportSignWrong : ChangeSpec := { name := "lamportSign", fn := fun _ => fun
  | [d1, d2, d3] => { results := [.lit (.bool false)], args := [d1, d2, d3] }
  | _ => none }
def LamportSignWrongFalsely : Prop := lamportSignRow.holds Try.pinned (OpenSpec.ofChange lamportSignWrong)

/-- 'quiltlaw53.LamportVerify': WHATEVER THE INPUT: true; the input reads as it did. -/
def lamportVerifySpec : ChangeSpec := { name := "lamportVerify", fn := fun _ => fun
  | [d1, d2, d3] => { results := [.lit (.bool true)], args := [d1, d2, d3] }
  | _ => none }
def lamportVerifyRow : OpenClaim := { program := "ytalfpjkemegbjaa", sum := "168e4c8be1866dce17bf608f8c57716d2f9d0cc9aa53fb7d841e881beaf749bf", func := "quilt/quiltlaw53.LamportVerify", spec := "lamportVerify", inPlace := ["internal/abi.NoEscape", "internal/bytealg.MakeNoZero"], unfollowed := true, recurses := true, plainKeys := false, apart := false }
def LamportVerifySaid : Prop := lamportVerifyRow.holds Try.pinned (OpenSpec.ofChange lamportVerifySpec)

/-- ITS FALSE NEIGHBOUR: 'it returns false'. Refute it at one input. -/
def lamportVerifyWrong : ChangeSpec := { name := "lamportVerify", fn := fun _ => fun
  | [d1, d2, d3] => { results := [.lit (.bool false)], args := [d1, d2, d3] }
  | _ => none }
def LamportVerifyWrongFalsely : Prop := lamportVerifyRow.holds Try.pinned (OpenSpec.ofChange lamportVerifyWrong)

/-- 'quiltlaw53.LamportRight': WHATEVER THE INPUT: true; the input reads as it did. -/
def lamportRightSpec : ChangeSpec := { name := "lamportRight", fn := fun _ => fun
  | [d1, d2, d3] => { results := [.lit (.bool true)], args := [d1, d2, d3] }
  | _ => none }
def lamportRightRow : OpenClaim := { program := "ytalfpjkemegbjaa", sum := "168e4c8be1866dce17bf608f8c57716d2f9d0cc9aa53fb7d841e881beaf749bf", func := "quilt/quiltlaw53.LamportRight", spec := "lamportRight", inPlace := ["internal/abi.NoEscape", "internal/bytealg.MakeNoZero"], unfollowed := true, recurses := true, plainKeys := false, apart := false }
def LamportRightSaid : Prop := lamportRightRow.holds Try.pinned (OpenSpec.ofChange lamportRightSpec)

/-- ITS FALSE NEIGHBOUR: 'it returns false'. Refute it at one input. -/
def lamportRightWrong : ChangeSpec := { name := "lamportRight", fn := fun _ => fun
  | [d1, d2, d3] => { results := [.lit (.bool false)], args := [d1, d2, d3] }
  | _ => none }
def LamportRightWrongFalsely : Prop := lamportRightRow.holds Try.pinned (OpenSpec.ofChange lamportRightWrong)

/-- 'quiltlaw53.LamportReveals': WHATEVER THE INPUT: true; the input reads as it did. -/
def lamportRevealsSpec : ChangeSpec := { name := "lamportReveals", fn := fun _ => fun
  | [d1, d2, d3] => { results := [.lit (.bool true)], args := [d1, d2, d3] }
  | _ => none }
def lamportRevealsRow : OpenClaim := { program := "ytalfpjkemegbjaa", sum := "168e4c8be1866dce17bf608f8c57716d2f9d0cc9aa53fb7d841e881beaf749bf", func := "quilt/quiltlaw53.LamportReveals", spec := "lamportReveals", inPlace := ["internal/abi.NoEscape", "internal/bytealg.MakeNoZero"], unfollowed := true, recurses := true, plainKeys := false, apart := false }
def LamportRevealsSaid : Prop := lamportRevealsRow.holds Try.pinned (OpenSpec.ofChange lamportRevealsSpec)

/-- ITS FALSE NEIGHBOUR: 'it returns false'. Refute it at one input. -/
def lamportRevealsWrong : ChangeSpec := { name := "lamportReveals", fn := fun _ => fun
  | [d1, d2, d3] => { results := [.lit (.bool false)], args := [d1, d2, d3] }
  | _ => none }
def LamportRevealsWrongFalsely : Prop := lamportRevealsRow.holds Try.pinned (OpenSpec.ofChange lamportRevealsWrong)

/-- 'quiltlaw53.LamportTag': WHATEVER THE INPUT: true; the input reads as it did. -/
def lamportTagSpec : ChangeSpec := { name := "lamportTag", fn := fun _ => fun
  | [d1, d2] => { results := [.lit (.bool true)], args := [d1, d2] }
  | _ => none }
def lamportTagRow : OpenClaim := { program := "ytalfpjkemegbjaa", sum := "168e4c8be1866dce17bf608f8c57716d2f9d0cc9aa53fb7d841e881beaf749bf", func := "quilt/quiltlaw53.LamportTag", spec := "lamportTag", inPlace := ["internal/abi.NoEscape", "internal/bytealg.MakeNoZero"], unfollowed := true, recurses := true, plainKeys := false, apart := false }
def LamportTagSaid : Prop := lamportTagRow.holds Try.pinned (OpenSpec.ofChange lamportTagSpec)

/-- ITS FALSE NEIGHBOUR: 'it returns false'. Refute it at one input. -/
def lamportTagWrong : ChangeSpec := { name := "lamportTag", fn := fun _ => fun
  | [d1, d2] => { results := [.lit (.bool false)], args := [d1, d2] }
  | _ => none }
def LamportTagWrongFalsely : Prop := lamportTagRow.holds Try.pinned (OpenSpec.ofChange lamportTagWrong)

/-- 'quiltlaw53.LamportUnique': WHATEVER THE INPUT: true; the input reads as it did. -/
def lamportUniqueSpec : ChangeSpec := { name := "lamportUnique", fn := fun _ => fun
  | [d1, d2, d3] => { results := [.lit (.bool true)], args := [d1, d2, d3] }
  | _ => none }
def lamportUniqueRow : OpenClaim := { program := "ytalfpjkemegbjaa", sum := "168e4c8be1866dce17bf608f8c57716d2f9d0cc9aa53fb7d841e881beaf749bf", func := "quilt/quiltlaw53.LamportUnique", spec := "lamportUnique", inPlace := ["internal/abi.NoEscape", "internal/bytealg.MakeNoZero"], unfollowed := true, recurses := true, plainKeys := false, apart := false }
def LamportUniqueSaid : Prop := lamportUniqueRow.holds Try.pinned (OpenSpec.ofChange lamportUniqueSpec)

/-- ITS FALSE NEIGHBOUR: 'it returns false'. Refute it at one input. -/
def lamportUniqueWrong : ChangeSpec := { name := "lamportUnique", fn := fun _ => fun
  | [d1, d2, d3] => { results := [.lit (.bool false)], args := [d1, d2, d3] }
  | _ => none }
def LamportUniqueWrongFalsely : Prop := lamportUniqueRow.holds Try.pinned (OpenSpec.ofChange lamportUniqueWrong)

/-- 'quiltlaw53.LamportTwice': WHATEVER THE INPUT: true; the input reads as it did. -/
def lamportTwiceSpec : ChangeSpec := { name := "lamportTwice", fn := fun _ => fun
  | [d1, d2, d3] => { results := [.lit (.bool true)], args := [d1, d2, d3] }
  | _ => none }
def lamportTwiceRow : OpenClaim := { program := "ytalfpjkemegbjaa", sum := "168e4c8be1866dce17bf608f8c57716d2f9d0cc9aa53fb7d841e881beaf749bf", func := "quilt/quiltlaw53.LamportTwice", spec := "lamportTwice", inPlace := ["internal/abi.NoEscape", "internal/bytealg.MakeNoZero"], unfollowed := true, recurses := true, plainKeys := false, apart := false }
def LamportTwiceSaid : Prop := lamportTwiceRow.holds Try.pinned (OpenSpec.ofChange lamportTwiceSpec)

/-- ITS FALSE NEIGHBOUR: 'it returns false'. Refute it at one input. -/
def lamportTwiceWrong : ChangeSpec := { name := "lamportTwice", fn := fun _ => fun
  | [d1, d2, d3] => { results := [.lit (.bool false)], args := [d1, d2, d3] }
  | _ => none }
def LamportTwiceWrongFalsely : Prop := lamportTwiceRow.holds Try.pinned (OpenSpec.ofChange lamportTwiceWrong)

/- THE SECOND FORM. 'bulk': how many values and letters a reading holds, each counted each time it is reached (what is shared counts as often as it is met; a slice's spare places count too). A statement '..UptoSaid' is the law's where the arguments, and the package variables that the reading takes, are together of bulk at most 1048576: NARROWER than '..Said'. Prove '..Said' where nothing that the law and all that it calls make is longer than what came in: it says more and counts as full. Else prove '..UptoSaid'. A law counts once. -/
mutual
def uptoBulk {H : Type} : DataW H → Nat
  | .lit (.string bytes) => bytes.length + 1
  | .lit _ => 1
  | .nil => 1
  | .ptr d => uptoBulk d + 1
  | .slice elems spare => uptoBulkAll elems + uptoBulkAll spare + 1
  | .agg parts => uptoBulkAll parts + 1
  | .iface _ d => uptoBulk d + 1
  | .map entries => uptoBulkEntries entries + 1
  | .held _ => 1
def uptoBulkAll {H : Type} : List (DataW H) → Nat
  | [] => 0
  | d :: r => uptoBulk d + uptoBulkAll r
def uptoBulkEntries {H : Type} : List (Lit × DataW H) → Nat
  | [] => 0
  | x :: r => uptoBulkEntry x + uptoBulkEntries r
def uptoBulkEntry {H : Type} : Lit × DataW H → Nat
  | (.string bytes, d) => bytes.length + uptoBulk d + 1
  | (_, d) => uptoBulk d + 1
 end
def uptoSmall : (H : Type) → List (DataW H) → Bool := fun _ ds => decide (uptoBulkAll ds ≤ 1048576)
def OpenSpec.upto (s : _root_.Go.ChangeSpec) : _root_.Go.OpenSpec := { _root_.Go.OpenSpec.ofChange s with cond := some uptoSmall }

/-- 'quiltlaw53.LamportSign', WHERE WHAT IT READS IS OF BULK AT MOST 1048576: true; the input reads as it did. -/
def lamportSignUptoRow : OpenClaim := { program := "ytalfpjkemegbjaa", sum := "168e4c8be1866dce17bf608f8c57716d2f9d0cc9aa53fb7d841e881beaf749bf", func := "quilt/quiltlaw53.LamportSign", spec := "lamportSign", inPlace := ["internal/abi.NoEscape", "internal/bytealg.MakeNoZero"], unfollowed := true, recurses := true, plainKeys := false, apart := false, narrowed := true }
def LamportSignUptoSaid : Prop := lamportSignUptoRow.holds Try.pinned (OpenSpec.upto lamportSignSpec)

/-- 'quiltlaw53.LamportVerify', WHERE WHAT IT READS IS OF BULK AT MOST 1048576: true; the input reads as it did. -/
def lamportVerifyUptoRow : OpenClaim := { program := "ytalfpjkemegbjaa", sum := "168e4c8be1866dce17bf608f8c57716d2f9d0cc9aa53fb7d841e881beaf749bf", func := "quilt/quiltlaw53.LamportVerify", spec := "lamportVerify", inPlace := ["internal/abi.NoEscape", "internal/bytealg.MakeNoZero"], unfollowed := true, recurses := true, plainKeys := false, apart := false, narrowed := true }
def LamportVerifyUptoSaid : Prop := lamportVerifyUptoRow.holds Try.pinned (OpenSpec.upto lamportVerifySpec)

/-- 'quiltlaw53.LamportRight', WHERE WHAT IT READS IS OF BULK AT MOST 1048576: true; the input reads as it did. -/
def lamportRightUptoRow : OpenClaim := { program := "ytalfpjkemegbjaa", sum := "168e4c8be1866dce17bf608f8c57716d2f9d0cc9aa53fb7d841e881beaf749bf", func := "quilt/quiltlaw53.LamportRight", spec := "lamportRight", inPlace := ["internal/abi.NoEscape", "internal/bytealg.MakeNoZero"], unfollowed := true, recurses := true, plainKeys := false, apart := false, narrowed := true }
def LamportRightUptoSaid : Prop := lamportRightUptoRow.holds Try.pinned (OpenSpec.upto lamportRightSpec)

/-- 'quiltlaw53.LamportReveals', WHERE WHAT IT READS IS OF BULK AT MOST 1048576: true; the input reads as it did. -/
def lamportRevealsUptoRow : OpenClaim := { program := "ytalfpjkemegbjaa", sum := "168e4c8be1866dce17bf608f8c57716d2f9d0cc9aa53fb7d841e881beaf749bf", func := "quilt/quiltlaw53.LamportReveals", spec := "lamportReveals", inPlace := ["internal/abi.NoEscape", "internal/bytealg.MakeNoZero"], unfollowed := true, recurses := true, plainKeys := false, apart := false, narrowed := true }
def LamportRevealsUptoSaid : Prop := lamportRevealsUptoRow.holds Try.pinned (OpenSpec.upto lamportRevealsSpec)

/-- 'quiltlaw53.LamportTag', WHERE WHAT IT READS IS OF BULK AT MOST 1048576: true; the input reads as it did. -/
def lamportTagUptoRow : OpenClaim := { program := "ytalfpjkemegbjaa", sum := "168e4c8be1866dce17bf608f8c57716d2f9d0cc9aa53fb7d841e881beaf749bf", func := "quilt/quiltlaw53.LamportTag", spec := "lamportTag", inPlace := ["internal/abi.NoEscape", "internal/bytealg.MakeNoZero"], unfollowed := true, recurses := true, plainKeys := false, apart := false, narrowed := true }
def LamportTagUptoSaid : Prop := lamportTagUptoRow.holds Try.pinned (OpenSpec.upto lamportTagSpec)

/-- 'quiltlaw53.LamportUnique', WHERE WHAT IT READS IS OF BULK AT MOST 1048576: true; the input reads as it did. -/
def lamportUniqueUptoRow : OpenClaim := { program := "ytalfpjkemegbjaa", sum := "168e4c8be1866dce17bf608f8c57716d2f9d0cc9aa53fb7d841e881beaf749bf", func := "quilt/quiltlaw53.LamportUnique", spec := "lamportUnique", inPlace := ["internal/abi.NoEscape", "internal/bytealg.MakeNoZero"], unfollowed := true, recurses := true, plainKeys := false, apart := false, narrowed := true }
def LamportUniqueUptoSaid : Prop := lamportUniqueUptoRow.holds Try.pinned (OpenSpec.upto lamportUniqueSpec)

/-- 'quiltlaw53.LamportTwice', WHERE WHAT IT READS IS OF BULK AT MOST 1048576: true; the input reads as it did. -/
def lamportTwiceUptoRow : OpenClaim := { program := "ytalfpjkemegbjaa", sum := "168e4c8be1866dce17bf608f8c57716d2f9d0cc9aa53fb7d841e881beaf749bf", func := "quilt/quiltlaw53.LamportTwice", spec := "lamportTwice", inPlace := ["internal/abi.NoEscape", "internal/bytealg.MakeNoZero"], unfollowed := true, recurses := true, plainKeys := false, apart := false, narrowed := true }
def LamportTwiceUptoSaid : Prop := lamportTwiceUptoRow.holds Try.pinned (OpenSpec.upto lamportTwiceSpec)

end Rows
end Go.Proofs.Ytalfpjkemegbjaa
