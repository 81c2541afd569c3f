/-
  No cell of these rows narrows 'for every input' (looked for: loops, veiled, ifaces, maps, wideKeys, modest, calm, conditions, laid).
  DERIVED. THE GIVEN ROWS OF THIS SEAT. 6 by the template 'for every input the law returns true; each argument reads behind the call as it read before'; 0 by the template 'total and deterministic' (their statements: YtiegpbpijfmhdaaTotals.lean).
  GIVEN WITH THE SEED: the statements are not yours to turn. If you find one false, say at which input.
  Laid BY PROGRAM, IN A SANDBOX (cutbox-rows.mjs): the forced cells as the released guide's own fill.sh prints them over the translation 2967612c9e94eee3… (all of the seat's roots in one cut). By AI agents, Wed Nov 11 2026. No macro, syntax, notation, axiom, sorry.
-/
import Derived.Test.YtiegpbpijfmhdaaChecked
import GoSem.Claim
import GoSem.ClaimJoined
import GoSem.ClaimMapViews
import Derived.JoinedTies
import Derived.KernelRfl
namespace Go.Proofs.Ytiegpbpijfmhdaa
/- THE CELL 'sum', in the pinned program and in every row, IS THE sha256 OF THE DUMP (.gsa) THAT YtiegpbpijfmhdaaProg.lean LOADS. Nothing in Lean hashes anything: it is a label: what it is worth is what the hold of that sum in a sandbox is worth. -/
noncomputable def Try.pinned : Pinned := { name := "ytiegpbpijfmhdaa", sum := "2967612c9e94eee37337019c5635a5ea1e7571a909213e80bd890226a24c03bd", checked := Try.checked }
namespace Rows
def none {H : Type} : Left H := { results := [], args := [] }

/-- 'laws.FnExactAreConsistent': WHATEVER THE INPUT: true; the input reads as it did. -/
def fnExactAreConsistentSpec : ChangeSpec := { name := "fnExactAreConsistent", fn := fun _ => fun
  | [d1, d2, d3] => { results := [.lit (.bool true)], args := [d1, d2, d3] }
  | _ => none }
def fnExactAreConsistentRow : OpenClaim := { program := "ytiegpbpijfmhdaa", sum := "2967612c9e94eee37337019c5635a5ea1e7571a909213e80bd890226a24c03bd", func := "loop.example/g00878/laws.FnExactAreConsistent", spec := "fnExactAreConsistent", unfollowed := true, recurses := true, apart := false }
def FnExactAreConsistentSaid : Prop := fnExactAreConsistentRow.holds Try.pinned (OpenSpec.ofChange fnExactAreConsistentSpec)

/-- ITS FALSE NEIGHBOUR: 'it returns false'. Refute it at one input. -/
def fnExactAreConsistentWrong : ChangeSpec := { name := "fnExactAreConsistent", fn := fun _ => fun
  | [d1, d2, d3] => { results := [.lit (.bool false)], args := [d1, d2, d3] }
  | _ => none }
def FnExactAreConsistentWrongFalsely : Prop := fnExactAreConsistentRow.holds Try.pinned (OpenSpec.ofChange fnExactAreConsistentWrong)

/-- 'laws.FnExactSumDealings': WHATEVER THE INPUT: true; the input reads as it did. -/
def fnExactSumDealingsSpec : ChangeSpec := { name := "fnExactSumDealings", fn := fun _ => fun
  | [d1, d2] => { results := [.lit (.bool true)], args := [d1, d2] }
  | _ => none }
def fnExactSumDealingsRow : OpenClaim := { program := "ytiegpbpijfmhdaa", sum := "2967612c9e94eee37337019c5635a5ea1e7571a909213e80bd890226a24c03bd", func := "loop.example/g00878/laws.FnExactSumDealings", spec := "fnExactSumDealings", unfollowed := true, recurses := true, apart := false }
def FnExactSumDealingsSaid : Prop := fnExactSumDealingsRow.holds Try.pinned (OpenSpec.ofChange fnExactSumDealingsSpec)

/-- ITS FALSE NEIGHBOUR: 'it returns false'. Refute it at one input. -/
def fnExactSumDealingsWrong : ChangeSpec := { name := "fnExactSumDealings", fn := fun _ => fun
  | [d1, d2] => { results := [.lit (.bool false)], args := [d1, d2] }
  | _ => none }
def FnExactSumDealingsWrongFalsely : Prop := fnExactSumDealingsRow.holds Try.pinned (OpenSpec.ofChange fnExactSumDealingsWrong)

/-- 'laws.FnExactReconstruct': WHATEVER THE INPUT: true; the input reads as it did. -/
def fnExactReconstructSpec : ChangeSpec := { name := "fnExactReconstruct", fn := fun _ => fun
  | [d1, d2, d3, d4] => { results := [.lit (.bool true)], args := [d1, d2, d3, d4] }
  | _ => none }
def fnExactReconstructRow : OpenClaim := { program := "ytiegpbpijfmhdaa", sum := "2967612c9e94eee37337019c5635a5ea1e7571a909213e80bd890226a24c03bd", func := "loop.example/g00878/laws.FnExactReconstruct", spec := "fnExactReconstruct", unfollowed := true, recurses := true, apart := false }
def FnExactReconstructSaid : Prop := fnExactReconstructRow.holds Try.pinned (OpenSpec.ofChange fnExactReconstructSpec)

/-- ITS FALSE NEIGHBOUR: 'it returns false'. Refute it at one input. -/
def fnExactReconstructWrong : ChangeSpec := { name := "fnExactReconstruct", fn := fun _ => fun
  | [d1, d2, d3, d4] => { results := [.lit (.bool false)], args := [d1, d2, d3, d4] }
  | _ => none }
def FnExactReconstructWrongFalsely : Prop := fnExactReconstructRow.holds Try.pinned (OpenSpec.ofChange fnExactReconstructWrong)

/-- 'laws.FnExactTrusteeKey': WHATEVER THE INPUT: true; the input reads as it did. -/
def fnExactTrusteeKeySpec : ChangeSpec := { name := "fnExactTrusteeKey", fn := fun _ => fun
  | [d1, d2, d3] => { results := [.lit (.bool true)], args := [d1, d2, d3] }
  | _ => none }
def fnExactTrusteeKeyRow : OpenClaim := { program := "ytiegpbpijfmhdaa", sum := "2967612c9e94eee37337019c5635a5ea1e7571a909213e80bd890226a24c03bd", func := "loop.example/g00878/laws.FnExactTrusteeKey", spec := "fnExactTrusteeKey", unfollowed := true, recurses := true, apart := false }
def FnExactTrusteeKeySaid : Prop := fnExactTrusteeKeyRow.holds Try.pinned (OpenSpec.ofChange fnExactTrusteeKeySpec)

/-- ITS FALSE NEIGHBOUR: 'it returns false'. Refute it at one input. -/
def fnExactTrusteeKeyWrong : ChangeSpec := { name := "fnExactTrusteeKey", fn := fun _ => fun
  | [d1, d2, d3] => { results := [.lit (.bool false)], args := [d1, d2, d3] }
  | _ => none }
def FnExactTrusteeKeyWrongFalsely : Prop := fnExactTrusteeKeyRow.holds Try.pinned (OpenSpec.ofChange fnExactTrusteeKeyWrong)

/-- 'laws.FnExactIsKeyGenInput': WHATEVER THE INPUT: true; the input reads as it did. -/
def fnExactIsKeyGenInputSpec : ChangeSpec := { name := "fnExactIsKeyGenInput", fn := fun _ => fun
  | [d1, d2] => { results := [.lit (.bool true)], args := [d1, d2] }
  | _ => none }
def fnExactIsKeyGenInputRow : OpenClaim := { program := "ytiegpbpijfmhdaa", sum := "2967612c9e94eee37337019c5635a5ea1e7571a909213e80bd890226a24c03bd", func := "loop.example/g00878/laws.FnExactIsKeyGenInput", spec := "fnExactIsKeyGenInput", unfollowed := true, recurses := true, apart := false }
def FnExactIsKeyGenInputSaid : Prop := fnExactIsKeyGenInputRow.holds Try.pinned (OpenSpec.ofChange fnExactIsKeyGenInputSpec)

/-- ITS FALSE NEIGHBOUR: 'it returns false'. Refute it at one input. -/
def fnExactIsKeyGenInputWrong : ChangeSpec := { name := "fnExactIsKeyGenInput", fn := fun _ => fun
  | [d1, d2] => { results := [.lit (.bool false)], args := [d1, d2] }
  | _ => none }
def FnExactIsKeyGenInputWrongFalsely : Prop := fnExactIsKeyGenInputRow.holds Try.pinned (OpenSpec.ofChange fnExactIsKeyGenInputWrong)

/-- 'laws.FnExactZeroDealing': WHATEVER THE INPUT: true; the input reads as it did. -/
def fnExactZeroDealingSpec : ChangeSpec := { name := "fnExactZeroDealing", fn := fun _ => fun
  | [d1, d2, d3, d4] => { results := [.lit (.bool true)], args := [d1, d2, d3, d4] }
  | _ => none }
def fnExactZeroDealingRow : OpenClaim := { program := "ytiegpbpijfmhdaa", sum := "2967612c9e94eee37337019c5635a5ea1e7571a909213e80bd890226a24c03bd", func := "loop.example/g00878/laws.FnExactZeroDealing", spec := "fnExactZeroDealing", unfollowed := true, recurses := true, apart := false }
def FnExactZeroDealingSaid : Prop := fnExactZeroDealingRow.holds Try.pinned (OpenSpec.ofChange fnExactZeroDealingSpec)

/-- ITS FALSE NEIGHBOUR: 'it returns false'. Refute it at one input. -/
def fnExactZeroDealingWrong : ChangeSpec := { name := "fnExactZeroDealing", fn := fun _ => fun
  | [d1, d2, d3, d4] => { results := [.lit (.bool false)], args := [d1, d2, d3, d4] }
  | _ => none }
def FnExactZeroDealingWrongFalsely : Prop := fnExactZeroDealingRow.holds Try.pinned (OpenSpec.ofChange fnExactZeroDealingWrong)

/- THE SECOND FORM. 'bulk': how many values and letters a reading holds, each counted each time it is reached (what is shared counts as often as it is met; a slice's spare places count too). A statement '..UptoSaid' is the law's where the arguments, and the package variables that the reading takes, are together of bulk at most 1048576: NARROWER than '..Said'. Prove '..Said' where nothing that the law and all that it calls make is longer than what came in: it says more and counts as full. Else prove '..UptoSaid'. A law counts once. -/
mutual
def uptoBulk {H : Type} : DataW H → Nat
  | .lit (.string bytes) => bytes.length + 1
  | .lit _ => 1
  | .nil => 1
  | .ptr d => uptoBulk d + 1
  | .slice elems spare => uptoBulkAll elems + uptoBulkAll spare + 1
  | .agg parts => uptoBulkAll parts + 1
  | .iface _ d => uptoBulk d + 1
  | .map entries => uptoBulkEntries entries + 1
  | .held _ => 1
def uptoBulkAll {H : Type} : List (DataW H) → Nat
  | [] => 0
  | d :: r => uptoBulk d + uptoBulkAll r
def uptoBulkEntries {H : Type} : List (Lit × DataW H) → Nat
  | [] => 0
  | x :: r => uptoBulkEntry x + uptoBulkEntries r
def uptoBulkEntry {H : Type} : Lit × DataW H → Nat
  | (.string bytes, d) => bytes.length + uptoBulk d + 1
  | (_, d) => uptoBulk d + 1
 end
def uptoSmall : (H : Type) → List (DataW H) → Bool := fun _ ds => decide (uptoBulkAll ds ≤ 1048576)
def OpenSpec.upto (s : _root_.Go.ChangeSpec) : _root_.Go.OpenSpec := { _root_.Go.OpenSpec.ofChange s with cond := some uptoSmall }

/-- 'laws.FnExactAreConsistent', WHERE WHAT IT READS IS OF BULK AT MOST 1048576: true; the input reads as it did. -/
def fnExactAreConsistentUptoRow : OpenClaim := { program := "ytiegpbpijfmhdaa", sum := "2967612c9e94eee37337019c5635a5ea1e7571a909213e80bd890226a24c03bd", func := "loop.example/g00878/laws.FnExactAreConsistent", spec := "fnExactAreConsistent", unfollowed := true, recurses := true, apart := false, narrowed := true }
def FnExactAreConsistentUptoSaid : Prop := fnExactAreConsistentUptoRow.holds Try.pinned (OpenSpec.upto fnExactAreConsistentSpec)

/-- 'laws.FnExactSumDealings', WHERE WHAT IT READS IS OF BULK AT MOST 1048576: true; the input reads as it did. -/
def fnExactSumDealingsUptoRow : OpenClaim := { program := "ytiegpbpijfmhdaa", sum := "2967612c9e94eee37337019c5635a5ea1e7571a909213e80bd890226a24c03bd", func := "loop.example/g00878/laws.FnExactSumDealings", spec := "fnExactSumDealings", unfollowed := true, recurses := true, apart := false, narrowed := true }
def FnExactSumDealingsUptoSaid : Prop := fnExactSumDealingsUptoRow.holds Try.pinned (OpenSpec.upto fnExactSumDealingsSpec)

/-- 'laws.FnExactReconstruct', WHERE WHAT IT READS IS OF BULK AT MOST 1048576: true; the input reads as it did. -/
def fnExactReconstructUptoRow : OpenClaim := { program := "ytiegpbpijfmhdaa", sum := "2967612c9e94eee37337019c5635a5ea1e7571a909213e80bd890226a24c03bd", func := "loop.example/g00878/laws.FnExactReconstruct", spec := "fnExactReconstruct", unfollowed := true, recurses := true, apart := false, narrowed := true }
def FnExactReconstructUptoSaid : Prop := fnExactReconstructUptoRow.holds Try.pinned (OpenSpec.upto fnExactReconstructSpec)

/-- 'laws.FnExactTrusteeKey', WHERE WHAT IT READS IS OF BULK AT MOST 1048576: true; the input reads as it did. -/
def fnExactTrusteeKeyUptoRow : OpenClaim := { program := "ytiegpbpijfmhdaa", sum := "2967612c9e94eee37337019c5635a5ea1e7571a909213e80bd890226a24c03bd", func := "loop.example/g00878/laws.FnExactTrusteeKey", spec := "fnExactTrusteeKey", unfollowed := true, recurses := true, apart := false, narrowed := true }
def FnExactTrusteeKeyUptoSaid : Prop := fnExactTrusteeKeyUptoRow.holds Try.pinned (OpenSpec.upto fnExactTrusteeKeySpec)

/-- 'laws.FnExactIsKeyGenInput', WHERE WHAT IT READS IS OF BULK AT MOST 1048576: true; the input reads as it did. -/
def fnExactIsKeyGenInputUptoRow : OpenClaim := { program := "ytiegpbpijfmhdaa", sum := "2967612c9e94eee37337019c5635a5ea1e7571a909213e80bd890226a24c03bd", func := "loop.example/g00878/laws.FnExactIsKeyGenInput", spec := "fnExactIsKeyGenInput", unfollowed := true, recurses := true, apart := false, narrowed := true }
def FnExactIsKeyGenInputUptoSaid : Prop := fnExactIsKeyGenInputUptoRow.holds Try.pinned (OpenSpec.upto fnExactIsKeyGenInputSpec)

/-- 'laws.FnExactZeroDealing', WHERE WHAT IT READS IS OF BULK AT MOST 1048576: true; the input reads as it did. -/
def fnExactZeroDealingUptoRow : OpenClaim := { program := "ytiegpbpijfmhdaa", sum := "2967612c9e94eee37337019c5635a5ea1e7571a909213e80bd890226a24c03bd", func := "loop.example/g00878/laws.FnExactZeroDealing", spec := "fnExactZeroDealing", unfollowed := true, recurses := true, apart := false, narrowed := true }
def FnExactZeroDealingUptoSaid : Prop := fnExactZeroDealingUptoRow.holds Try.pinned (OpenSpec.upto fnExactZeroDealingSpec)

end Rows
end Go.Proofs.Ytiegpbpijfmhdaa
