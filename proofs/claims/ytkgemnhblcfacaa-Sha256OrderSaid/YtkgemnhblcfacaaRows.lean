/-
  No cell of these rows narrows 'for every input' (looked for: loops, veiled, ifaces, maps, wideKeys, modest, calm, conditions, laid).
  DERIVED. THE GIVEN ROWS OF THIS SEAT. 8 by the template 'for every input the law returns true; each argument reads behind the call as it read before'; 0 by the template 'total and deterministic' (their statements: YtkgemnhblcfacaaTotals.lean).
  GIVEN WITH THE SEED: the statements are not yours to turn. If you find one false, say at which input.
  Laid BY PROGRAM, IN A SANDBOX (cutbox-rows.mjs): the forced cells as the released guide's own fill.sh prints them over the translation fedfec7f6d4b2161… (all of the seat's roots in one cut). By AI agents, Wed Nov 11 2026. No macro, syntax, notation, axiom, sorry.
-/
import Derived.Test.YtkgemnhblcfacaaChecked
import GoSem.Claim
import GoSem.ClaimJoined
import GoSem.ClaimMapViews
import Derived.JoinedTies
import Derived.KernelRfl
namespace Go.Proofs.Ytkgemnhblcfacaa
/- THE CELL 'sum', in the pinned program and in every row, IS THE sha256 OF THE DUMP (.gsa) THAT YtkgemnhblcfacaaProg.lean LOADS. Nothing in Lean hashes anything: it is a label: what it is worth is what the hold of that sum in a sandbox is worth. -/
noncomputable def Try.pinned : Pinned := { name := "ytkgemnhblcfacaa", sum := "fedfec7f6d4b2161933895432144a3a4ca658916b171ee4ef40994cb7052e9ae", checked := Try.checked }
namespace Rows
def none {H : Type} : Left H := { results := [], args := [] }

/-- 'quiltlaw02.Sha256Sum': WHATEVER THE INPUT: true; the input reads as it did. -/
def sha256SumSpec : ChangeSpec := { name := "sha256Sum", fn := fun _ => fun
  | [d] => { results := [.lit (.bool true)], args := [d] }
  | _ => none }
def sha256SumRow : OpenClaim := { program := "ytkgemnhblcfacaa", sum := "fedfec7f6d4b2161933895432144a3a4ca658916b171ee4ef40994cb7052e9ae", func := "quilt/quiltlaw02.Sha256Sum", spec := "sha256Sum", inPlace := ["internal/abi.NoEscape", "internal/bytealg.MakeNoZero"], unfollowed := true, recurses := true, apart := false }
def Sha256SumSaid : Prop := sha256SumRow.holds Try.pinned (OpenSpec.ofChange sha256SumSpec)

/-- ITS FALSE NEIGHBOUR: 'it returns false'. Refute it at one input. -/
def sha256SumWrong : ChangeSpec := { name := "sha256Sum", fn := fun _ => fun
  | [d] => { results := [.lit (.bool false)], args := [d] }
  | _ => none }
def Sha256SumWrongFalsely : Prop := sha256SumRow.holds Try.pinned (OpenSpec.ofChange sha256SumWrong)

/-- 'quiltlaw02.Sha256HMAC': WHATEVER THE INPUT: true; the input reads as it did. -/
def sha256HMACSpec : ChangeSpec := { name := "sha256HMAC", fn := fun _ => fun
  | [d1, d2] => { results := [.lit (.bool true)], args := [d1, d2] }
  | _ => none }
def sha256HMACRow : OpenClaim := { program := "ytkgemnhblcfacaa", sum := "fedfec7f6d4b2161933895432144a3a4ca658916b171ee4ef40994cb7052e9ae", func := "quilt/quiltlaw02.Sha256HMAC", spec := "sha256HMAC", inPlace := ["internal/abi.NoEscape", "internal/bytealg.MakeNoZero"], unfollowed := true, recurses := true, apart := false }
def Sha256HMACSaid : Prop := sha256HMACRow.holds Try.pinned (OpenSpec.ofChange sha256HMACSpec)

/-- ITS FALSE NEIGHBOUR: 'it returns false'. Refute it at one input. -/
def sha256HMACWrong : ChangeSpec := { name := "sha256HMAC", fn := fun _ => fun
  | [d1, d2] => { results := [.lit (.bool false)], args := [d1, d2] }
  | _ => none }
def Sha256HMACWrongFalsely : Prop := sha256HMACRow.holds Try.pinned (OpenSpec.ofChange sha256HMACWrong)

/-- 'quiltlaw02.Sha256Nested': WHATEVER THE INPUT: true; the input reads as it did. -/
def sha256NestedSpec : ChangeSpec := { name := "sha256Nested", fn := fun _ => fun
  | [d1, d2] => { results := [.lit (.bool true)], args := [d1, d2] }
  | _ => none }
def sha256NestedRow : OpenClaim := { program := "ytkgemnhblcfacaa", sum := "fedfec7f6d4b2161933895432144a3a4ca658916b171ee4ef40994cb7052e9ae", func := "quilt/quiltlaw02.Sha256Nested", spec := "sha256Nested", inPlace := ["internal/abi.NoEscape", "internal/bytealg.MakeNoZero"], unfollowed := true, recurses := true, apart := false }
def Sha256NestedSaid : Prop := sha256NestedRow.holds Try.pinned (OpenSpec.ofChange sha256NestedSpec)

/-- ITS FALSE NEIGHBOUR: 'it returns false'. Refute it at one input. -/
def sha256NestedWrong : ChangeSpec := { name := "sha256Nested", fn := fun _ => fun
  | [d1, d2] => { results := [.lit (.bool false)], args := [d1, d2] }
  | _ => none }
def Sha256NestedWrongFalsely : Prop := sha256NestedRow.holds Try.pinned (OpenSpec.ofChange sha256NestedWrong)

/-- 'quiltlaw02.Sha256Keys': WHATEVER THE INPUT: true; the input reads as it did. -/
def sha256KeysSpec : ChangeSpec := { name := "sha256Keys", fn := fun _ => fun
  | [d1, d2] => { results := [.lit (.bool true)], args := [d1, d2] }
  | _ => none }
def sha256KeysRow : OpenClaim := { program := "ytkgemnhblcfacaa", sum := "fedfec7f6d4b2161933895432144a3a4ca658916b171ee4ef40994cb7052e9ae", func := "quilt/quiltlaw02.Sha256Keys", spec := "sha256Keys", inPlace := ["internal/abi.NoEscape", "internal/bytealg.MakeNoZero"], unfollowed := true, recurses := true, apart := false }
def Sha256KeysSaid : Prop := sha256KeysRow.holds Try.pinned (OpenSpec.ofChange sha256KeysSpec)

/-- ITS FALSE NEIGHBOUR: 'it returns false'. Refute it at one input. -/
def sha256KeysWrong : ChangeSpec := { name := "sha256Keys", fn := fun _ => fun
  | [d1, d2] => { results := [.lit (.bool false)], args := [d1, d2] }
  | _ => none }
def Sha256KeysWrongFalsely : Prop := sha256KeysRow.holds Try.pinned (OpenSpec.ofChange sha256KeysWrong)

/-- 'quiltlaw02.Sha256Order': WHATEVER THE INPUT: true; the input reads as it did. -/
def sha256OrderSpec : ChangeSpec := { name := "sha256Order", fn := fun _ => fun
  | [d1, d2, d3] => { results := [.lit (.bool true)], args := [d1, d2, d3] }
  | _ => none }
def sha256OrderRow : OpenClaim := { program := "ytkgemnhblcfacaa", sum := "fedfec7f6d4b2161933895432144a3a4ca658916b171ee4ef40994cb7052e9ae", func := "quilt/quiltlaw02.Sha256Order", spec := "sha256Order", inPlace := ["internal/bytealg.Compare", "internal/abi.NoEscape", "internal/bytealg.MakeNoZero"], unfollowed := true, recurses := true, apart := false }
def Sha256OrderSaid : Prop := sha256OrderRow.holds Try.pinned (OpenSpec.ofChange sha256OrderSpec)

/-- ITS FALSE NEIGHBOUR: 'it returns false'. Refute it at one input. -/
def sha256OrderWrong : ChangeSpec := { name := "sha256Order", fn := fun _ => fun
  | [d1, d2, d3] => { results := [.lit (.bool false)], args := [d1, d2, d3] }
  | _ => none }
def Sha256OrderWrongFalsely : Prop := sha256OrderRow.holds Try.pinned (OpenSpec.ofChange sha256OrderWrong)

/-- 'quiltlaw02.Sha256Xor': WHATEVER THE INPUT: true; the input reads as it did. -/
def sha256XorSpec : ChangeSpec := { name := "sha256Xor", fn := fun _ => fun
  | [d1, d2, d3] => { results := [.lit (.bool true)], args := [d1, d2, d3] }
  | _ => none }
def sha256XorRow : OpenClaim := { program := "ytkgemnhblcfacaa", sum := "fedfec7f6d4b2161933895432144a3a4ca658916b171ee4ef40994cb7052e9ae", func := "quilt/quiltlaw02.Sha256Xor", spec := "sha256Xor", inPlace := ["internal/abi.NoEscape", "internal/bytealg.MakeNoZero"], unfollowed := true, recurses := true, apart := false }
def Sha256XorSaid : Prop := sha256XorRow.holds Try.pinned (OpenSpec.ofChange sha256XorSpec)

/-- ITS FALSE NEIGHBOUR: 'it returns false'. Refute it at one input. -/
def sha256XorWrong : ChangeSpec := { name := "sha256Xor", fn := fun _ => fun
  | [d1, d2, d3] => { results := [.lit (.bool false)], args := [d1, d2, d3] }
  | _ => none }
def Sha256XorWrongFalsely : Prop := sha256XorRow.holds Try.pinned (OpenSpec.ofChange sha256XorWrong)

/-- 'quiltlaw02.Sha256RoundTrip': WHATEVER THE INPUT: true; the input reads as it did. -/
def sha256RoundTripSpec : ChangeSpec := { name := "sha256RoundTrip", fn := fun _ => fun
  | [d1, d2] => { results := [.lit (.bool true)], args := [d1, d2] }
  | _ => none }
def sha256RoundTripRow : OpenClaim := { program := "ytkgemnhblcfacaa", sum := "fedfec7f6d4b2161933895432144a3a4ca658916b171ee4ef40994cb7052e9ae", func := "quilt/quiltlaw02.Sha256RoundTrip", spec := "sha256RoundTrip", inPlace := ["internal/abi.NoEscape", "internal/bytealg.MakeNoZero", "internal/bytealg.IndexByteString"], unfollowed := true, recurses := true, apart := false }
def Sha256RoundTripSaid : Prop := sha256RoundTripRow.holds Try.pinned (OpenSpec.ofChange sha256RoundTripSpec)

/-- ITS FALSE NEIGHBOUR: 'it returns false'. Refute it at one input. -/
def sha256RoundTripWrong : ChangeSpec := { name := "sha256RoundTrip", fn := fun _ => fun
  | [d1, d2] => { results := [.lit (.bool false)], args := [d1, d2] }
  | _ => none }
def Sha256RoundTripWrongFalsely : Prop := sha256RoundTripRow.holds Try.pinned (OpenSpec.ofChange sha256RoundTripWrong)

/-- 'quiltlaw02.Sha256Digests': WHATEVER THE INPUT: true; the input reads as it did. -/
def sha256DigestsSpec : ChangeSpec := { name := "sha256Digests", fn := fun _ => fun
  | [d1, d2, d3] => { results := [.lit (.bool true)], args := [d1, d2, d3] }
  | _ => none }
def sha256DigestsRow : OpenClaim := { program := "ytkgemnhblcfacaa", sum := "fedfec7f6d4b2161933895432144a3a4ca658916b171ee4ef40994cb7052e9ae", func := "quilt/quiltlaw02.Sha256Digests", spec := "sha256Digests", inPlace := ["internal/abi.NoEscape", "internal/bytealg.MakeNoZero", "internal/bytealg.IndexByteString", "internal/bytealg.Compare"], unfollowed := true, recurses := true, apart := false }
def Sha256DigestsSaid : Prop := sha256DigestsRow.holds Try.pinned (OpenSpec.ofChange sha256DigestsSpec)

/-- ITS FALSE NEIGHBOUR: 'it returns false'. Refute it at one input. -/
def sha256DigestsWrong : ChangeSpec := { name := "sha256Digests", fn := fun _ => fun
  | [d1, d2, d3] => { results := [.lit (.bool false)], args := [d1, d2, d3] }
  | _ => none }
def Sha256DigestsWrongFalsely : Prop := sha256DigestsRow.holds Try.pinned (OpenSpec.ofChange sha256DigestsWrong)

/- THE SECOND FORM. 'bulk': how many values and letters a reading holds, each counted each time it is reached (what is shared counts as often as it is met; a slice's spare places count too). A statement '..UptoSaid' is the law's where the arguments, and the package variables that the reading takes, are together of bulk at most 1048576: NARROWER than '..Said'. Prove '..Said' where nothing that the law and all that it calls make is longer than what came in: it says more and counts as full. Else prove '..UptoSaid'. A law counts once. -/
mutual
def uptoBulk {H : Type} : DataW H → Nat
  | .lit (.string bytes) => bytes.length + 1
  | .lit _ => 1
  | .nil => 1
  | .ptr d => uptoBulk d + 1
  | .slice elems spare => uptoBulkAll elems + uptoBulkAll spare + 1
  | .agg parts => uptoBulkAll parts + 1
  | .iface _ d => uptoBulk d + 1
  | .map entries => uptoBulkEntries entries + 1
  | .held _ => 1
def uptoBulkAll {H : Type} : List (DataW H) → Nat
  | [] => 0
  | d :: r => uptoBulk d + uptoBulkAll r
def uptoBulkEntries {H : Type} : List (Lit × DataW H) → Nat
  | [] => 0
  | x :: r => uptoBulkEntry x + uptoBulkEntries r
def uptoBulkEntry {H : Type} : Lit × DataW H → Nat
  | (.string bytes, d) => bytes.length + uptoBulk d + 1
  | (_, d) => uptoBulk d + 1
 end
def uptoSmall : (H : Type) → List (DataW H) → Bool := fun _ ds => decide (uptoBulkAll ds ≤ 1048576)
def OpenSpec.upto (s : _root_.Go.ChangeSpec) : _root_.Go.OpenSpec := { _root_.Go.OpenSpec.ofChange s with cond := some uptoSmall }

/-- 'quiltlaw02.Sha256Sum', WHERE WHAT IT READS IS OF BULK AT MOST 1048576: true; the input reads as it did. -/
def sha256SumUptoRow : OpenClaim := { program := "ytkgemnhblcfacaa", sum := "fedfec7f6d4b2161933895432144a3a4ca658916b171ee4ef40994cb7052e9ae", func := "quilt/quiltlaw02.Sha256Sum", spec := "sha256Sum", inPlace := ["internal/abi.NoEscape", "internal/bytealg.MakeNoZero"], unfollowed := true, recurses := true, apart := false, narrowed := true }
def Sha256SumUptoSaid : Prop := sha256SumUptoRow.holds Try.pinned (OpenSpec.upto sha256SumSpec)

/-- 'quiltlaw02.Sha256HMAC', WHERE WHAT IT READS IS OF BULK AT MOST 1048576: true; the input reads as it did. -/
def sha256HMACUptoRow : OpenClaim := { program := "ytkgemnhblcfacaa", sum := "fedfec7f6d4b2161933895432144a3a4ca658916b171ee4ef40994cb7052e9ae", func := "quilt/quiltlaw02.Sha256HMAC", spec := "sha256HMAC", inPlace := ["internal/abi.NoEscape", "internal/bytealg.MakeNoZero"], unfollowed := true, recurses := true, apart := false, narrowed := true }
def Sha256HMACUptoSaid : Prop := sha256HMACUptoRow.holds Try.pinned (OpenSpec.upto sha256HMACSpec)

/-- 'quiltlaw02.Sha256Nested', WHERE WHAT IT READS IS OF BULK AT MOST 1048576: true; the input reads as it did. -/
def sha256NestedUptoRow : OpenClaim := { program := "ytkgemnhblcfacaa", sum := "fedfec7f6d4b2161933895432144a3a4ca658916b171ee4ef40994cb7052e9ae", func := "quilt/quiltlaw02.Sha256Nested", spec := "sha256Nested", inPlace := ["internal/abi.NoEscape", "internal/bytealg.MakeNoZero"], unfollowed := true, recurses := true, apart := false, narrowed := true }
def Sha256NestedUptoSaid : Prop := sha256NestedUptoRow.holds Try.pinned (OpenSpec.upto sha256NestedSpec)

/-- 'quiltlaw02.Sha256Keys', WHERE WHAT IT READS IS OF BULK AT MOST 1048576: true; the input reads as it did. -/
def sha256KeysUptoRow : OpenClaim := { program := "ytkgemnhblcfacaa", sum := "fedfec7f6d4b2161933895432144a3a4ca658916b171ee4ef40994cb7052e9ae", func := "quilt/quiltlaw02.Sha256Keys", spec := "sha256Keys", inPlace := ["internal/abi.NoEscape", "internal/bytealg.MakeNoZero"], unfollowed := true, recurses := true, apart := false, narrowed := true }
def Sha256KeysUptoSaid : Prop := sha256KeysUptoRow.holds Try.pinned (OpenSpec.upto sha256KeysSpec)

/-- 'quiltlaw02.Sha256Order', WHERE WHAT IT READS IS OF BULK AT MOST 1048576: true; the input reads as it did. -/
def sha256OrderUptoRow : OpenClaim := { program := "ytkgemnhblcfacaa", sum := "fedfec7f6d4b2161933895432144a3a4ca658916b171ee4ef40994cb7052e9ae", func := "quilt/quiltlaw02.Sha256Order", spec := "sha256Order", inPlace := ["internal/bytealg.Compare", "internal/abi.NoEscape", "internal/bytealg.MakeNoZero"], unfollowed := true, recurses := true, apart := false, narrowed := true }
def Sha256OrderUptoSaid : Prop := sha256OrderUptoRow.holds Try.pinned (OpenSpec.upto sha256OrderSpec)

/-- 'quiltlaw02.Sha256Xor', WHERE WHAT IT READS IS OF BULK AT MOST 1048576: true; the input reads as it did. -/
def sha256XorUptoRow : OpenClaim := { program := "ytkgemnhblcfacaa", sum := "fedfec7f6d4b2161933895432144a3a4ca658916b171ee4ef40994cb7052e9ae", func := "quilt/quiltlaw02.Sha256Xor", spec := "sha256Xor", inPlace := ["internal/abi.NoEscape", "internal/bytealg.MakeNoZero"], unfollowed := true, recurses := true, apart := false, narrowed := true }
def Sha256XorUptoSaid : Prop := sha256XorUptoRow.holds Try.pinned (OpenSpec.upto sha256XorSpec)

/-- 'quiltlaw02.Sha256RoundTrip', WHERE WHAT IT READS IS OF BULK AT MOST 1048576: true; the input reads as it did. -/
def sha256RoundTripUptoRow : OpenClaim := { program := "ytkgemnhblcfacaa", sum := "fedfec7f6d4b2161933895432144a3a4ca658916b171ee4ef40994cb7052e9ae", func := "quilt/quiltlaw02.Sha256RoundTrip", spec := "sha256RoundTrip", inPlace := ["internal/abi.NoEscape", "internal/bytealg.MakeNoZero", "internal/bytealg.IndexByteString"], unfollowed := true, recurses := true, apart := false, narrowed := true }
def Sha256RoundTripUptoSaid : Prop := sha256RoundTripUptoRow.holds Try.pinned (OpenSpec.upto sha256RoundTripSpec)

/-- 'quiltlaw02.Sha256Digests', WHERE WHAT IT READS IS OF BULK AT MOST 1048576: true; the input reads as it did. -/
def sha256DigestsUptoRow : OpenClaim := { program := "ytkgemnhblcfacaa", sum := "fedfec7f6d4b2161933895432144a3a4ca658916b171ee4ef40994cb7052e9ae", func := "quilt/quiltlaw02.Sha256Digests", spec := "sha256Digests", inPlace := ["internal/abi.NoEscape", "internal/bytealg.MakeNoZero", "internal/bytealg.IndexByteString", "internal/bytealg.Compare"], unfollowed := true, recurses := true, apart := false, narrowed := true }
def Sha256DigestsUptoSaid : Prop := sha256DigestsUptoRow.holds Try.pinned (OpenSpec.upto sha256DigestsSpec)

end Rows
end Go.Proofs.Ytkgemnhblcfacaa
