/-
  No cell of these rows narrows 'for every input' (looked for: loops, veiled, ifaces, maps, wideKeys, modest, calm, conditions, laid).
  DERIVED. THE GIVEN ROWS OF THIS SEAT. 12 by the template 'for every input the law returns true; each argument reads behind the call as it read before'; 0 by the template 'total and deterministic' (their statements: YtjapjmhifoeogaaTotals.lean).
  GIVEN WITH THE SEED: the statements are not yours to turn. If you find one false, say at which input.
  Laid BY PROGRAM, IN A SANDBOX (cutbox-rows.mjs): the forced cells as the released guide's own fill.sh prints them over the translation 8a058a38ce1fab63… (all of the seat's roots in one cut). By AI agents, Wed Nov 11 2026. No macro, syntax, notation, axiom, sorry.
-/
import Derived.Test.YtjapjmhifoeogaaChecked
import GoSem.Claim
import GoSem.ClaimJoined
import GoSem.ClaimMapViews
import Derived.JoinedTies
import Derived.KernelRfl
namespace Go.Proofs.Ytjapjmhifoeogaa
/- THE CELL 'sum', in the pinned program and in every row, IS THE sha256 OF THE DUMP (.gsa) THAT YtjapjmhifoeogaaProg.lean LOADS. Nothing in Lean hashes anything: it is a label: what it is worth is what the hold of that sum in a sandbox is worth. -/
noncomputable def Try.pinned : Pinned := { name := "ytjapjmhifoeogaa", sum := "8a058a38ce1fab631244ea44b66500d33b117c681a0fe96cd9338702de3e63d3", checked := Try.checked }
namespace Rows
def none {H : Type} : Left H := { results := [], args := [] }

/-- 'laws.FnExactAnswerableChallenges': WHATEVER THE INPUT: true; the input reads as it did. -/
def fnExactAnswerableChallengesSpec : ChangeSpec := { name := "fnExactAnswerableChallenges", fn := fun _ => fun
  | [d1, d2, d3, d4] => { results := [.lit (.bool true)], args := [d1, d2, d3, d4] }
  | _ => none }
def fnExactAnswerableChallengesRow : OpenClaim := { program := "ytjapjmhifoeogaa", sum := "8a058a38ce1fab631244ea44b66500d33b117c681a0fe96cd9338702de3e63d3", func := "loop.example/g00878/laws.FnExactAnswerableChallenges", spec := "fnExactAnswerableChallenges", unfollowed := true, recurses := true, apart := false }
def FnExactAnswerableChallengesSaid : Prop := fnExactAnswerableChallengesRow.holds Try.pinned (OpenSpec.ofChange fnExactAnswerableChallengesSpec)

/-- ITS FALSE NEIGHBOUR: 'it returns false'. Refute it at one input. -/
def fnExactAnswerableChallengesWrong : ChangeSpec := { name := "fnExactAnswerableChallenges", fn := fun _ => fun
  | [d1, d2, d3, d4] => { results := [.lit (.bool false)], args := [d1, d2, d3, d4] }
  | _ => none }
def FnExactAnswerableChallengesWrongFalsely : Prop := fnExactAnswerableChallengesRow.holds Try.pinned (OpenSpec.ofChange fnExactAnswerableChallengesWrong)

/-- 'laws.FnExactBasesOf': WHATEVER THE INPUT: true; the input reads as it did. -/
def fnExactBasesOfSpec : ChangeSpec := { name := "fnExactBasesOf", fn := fun _ => fun
  | [d1, d2] => { results := [.lit (.bool true)], args := [d1, d2] }
  | _ => none }
def fnExactBasesOfRow : OpenClaim := { program := "ytjapjmhifoeogaa", sum := "8a058a38ce1fab631244ea44b66500d33b117c681a0fe96cd9338702de3e63d3", func := "loop.example/g00878/laws.FnExactBasesOf", spec := "fnExactBasesOf", unfollowed := true, recurses := true, apart := false }
def FnExactBasesOfSaid : Prop := fnExactBasesOfRow.holds Try.pinned (OpenSpec.ofChange fnExactBasesOfSpec)

/-- ITS FALSE NEIGHBOUR: 'it returns false'. Refute it at one input. -/
def fnExactBasesOfWrong : ChangeSpec := { name := "fnExactBasesOf", fn := fun _ => fun
  | [d1, d2] => { results := [.lit (.bool false)], args := [d1, d2] }
  | _ => none }
def FnExactBasesOfWrongFalsely : Prop := fnExactBasesOfRow.holds Try.pinned (OpenSpec.ofChange fnExactBasesOfWrong)

/-- 'laws.FnExactShareCounts': WHATEVER THE INPUT: true; the input reads as it did. -/
def fnExactShareCountsSpec : ChangeSpec := { name := "fnExactShareCounts", fn := fun _ => fun
  | [d1, d2, d3] => { results := [.lit (.bool true)], args := [d1, d2, d3] }
  | _ => none }
def fnExactShareCountsRow : OpenClaim := { program := "ytjapjmhifoeogaa", sum := "8a058a38ce1fab631244ea44b66500d33b117c681a0fe96cd9338702de3e63d3", func := "loop.example/g00878/laws.FnExactShareCounts", spec := "fnExactShareCounts", unfollowed := true, recurses := true, apart := false }
def FnExactShareCountsSaid : Prop := fnExactShareCountsRow.holds Try.pinned (OpenSpec.ofChange fnExactShareCountsSpec)

/-- ITS FALSE NEIGHBOUR: 'it returns false'. Refute it at one input. -/
def fnExactShareCountsWrong : ChangeSpec := { name := "fnExactShareCounts", fn := fun _ => fun
  | [d1, d2, d3] => { results := [.lit (.bool false)], args := [d1, d2, d3] }
  | _ => none }
def FnExactShareCountsWrongFalsely : Prop := fnExactShareCountsRow.holds Try.pinned (OpenSpec.ofChange fnExactShareCountsWrong)

/-- 'laws.FnExactDealShares': WHATEVER THE INPUT: true; the input reads as it did. -/
def fnExactDealSharesSpec : ChangeSpec := { name := "fnExactDealShares", fn := fun _ => fun
  | [d1, d2, d3] => { results := [.lit (.bool true)], args := [d1, d2, d3] }
  | _ => none }
def fnExactDealSharesRow : OpenClaim := { program := "ytjapjmhifoeogaa", sum := "8a058a38ce1fab631244ea44b66500d33b117c681a0fe96cd9338702de3e63d3", func := "loop.example/g00878/laws.FnExactDealShares", spec := "fnExactDealShares", unfollowed := true, recurses := true, apart := false }
def FnExactDealSharesSaid : Prop := fnExactDealSharesRow.holds Try.pinned (OpenSpec.ofChange fnExactDealSharesSpec)

/-- ITS FALSE NEIGHBOUR: 'it returns false'. Refute it at one input. -/
def fnExactDealSharesWrong : ChangeSpec := { name := "fnExactDealShares", fn := fun _ => fun
  | [d1, d2, d3] => { results := [.lit (.bool false)], args := [d1, d2, d3] }
  | _ => none }
def FnExactDealSharesWrongFalsely : Prop := fnExactDealSharesRow.holds Try.pinned (OpenSpec.ofChange fnExactDealSharesWrong)

/-- 'laws.FnExactBadShares': WHATEVER THE INPUT: true; the input reads as it did. -/
def fnExactBadSharesSpec : ChangeSpec := { name := "fnExactBadShares", fn := fun _ => fun
  | [d1, d2] => { results := [.lit (.bool true)], args := [d1, d2] }
  | _ => none }
def fnExactBadSharesRow : OpenClaim := { program := "ytjapjmhifoeogaa", sum := "8a058a38ce1fab631244ea44b66500d33b117c681a0fe96cd9338702de3e63d3", func := "loop.example/g00878/laws.FnExactBadShares", spec := "fnExactBadShares", unfollowed := true, recurses := true, apart := false }
def FnExactBadSharesSaid : Prop := fnExactBadSharesRow.holds Try.pinned (OpenSpec.ofChange fnExactBadSharesSpec)

/-- ITS FALSE NEIGHBOUR: 'it returns false'. Refute it at one input. -/
def fnExactBadSharesWrong : ChangeSpec := { name := "fnExactBadShares", fn := fun _ => fun
  | [d1, d2] => { results := [.lit (.bool false)], args := [d1, d2] }
  | _ => none }
def FnExactBadSharesWrongFalsely : Prop := fnExactBadSharesRow.holds Try.pinned (OpenSpec.ofChange fnExactBadSharesWrong)

/-- 'laws.FnExactAreConsistent': WHATEVER THE INPUT: true; the input reads as it did. -/
def fnExactAreConsistentSpec : ChangeSpec := { name := "fnExactAreConsistent", fn := fun _ => fun
  | [d1, d2, d3] => { results := [.lit (.bool true)], args := [d1, d2, d3] }
  | _ => none }
def fnExactAreConsistentRow : OpenClaim := { program := "ytjapjmhifoeogaa", sum := "8a058a38ce1fab631244ea44b66500d33b117c681a0fe96cd9338702de3e63d3", func := "loop.example/g00878/laws.FnExactAreConsistent", spec := "fnExactAreConsistent", unfollowed := true, recurses := true, apart := false }
def FnExactAreConsistentSaid : Prop := fnExactAreConsistentRow.holds Try.pinned (OpenSpec.ofChange fnExactAreConsistentSpec)

/-- ITS FALSE NEIGHBOUR: 'it returns false'. Refute it at one input. -/
def fnExactAreConsistentWrong : ChangeSpec := { name := "fnExactAreConsistent", fn := fun _ => fun
  | [d1, d2, d3] => { results := [.lit (.bool false)], args := [d1, d2, d3] }
  | _ => none }
def FnExactAreConsistentWrongFalsely : Prop := fnExactAreConsistentRow.holds Try.pinned (OpenSpec.ofChange fnExactAreConsistentWrong)

/-- 'laws.FnExactSumDealings': WHATEVER THE INPUT: true; the input reads as it did. -/
def fnExactSumDealingsSpec : ChangeSpec := { name := "fnExactSumDealings", fn := fun _ => fun
  | [d1, d2] => { results := [.lit (.bool true)], args := [d1, d2] }
  | _ => none }
def fnExactSumDealingsRow : OpenClaim := { program := "ytjapjmhifoeogaa", sum := "8a058a38ce1fab631244ea44b66500d33b117c681a0fe96cd9338702de3e63d3", func := "loop.example/g00878/laws.FnExactSumDealings", spec := "fnExactSumDealings", unfollowed := true, recurses := true, apart := false }
def FnExactSumDealingsSaid : Prop := fnExactSumDealingsRow.holds Try.pinned (OpenSpec.ofChange fnExactSumDealingsSpec)

/-- ITS FALSE NEIGHBOUR: 'it returns false'. Refute it at one input. -/
def fnExactSumDealingsWrong : ChangeSpec := { name := "fnExactSumDealings", fn := fun _ => fun
  | [d1, d2] => { results := [.lit (.bool false)], args := [d1, d2] }
  | _ => none }
def FnExactSumDealingsWrongFalsely : Prop := fnExactSumDealingsRow.holds Try.pinned (OpenSpec.ofChange fnExactSumDealingsWrong)

/-- 'laws.FnExactReconstruct': WHATEVER THE INPUT: true; the input reads as it did. -/
def fnExactReconstructSpec : ChangeSpec := { name := "fnExactReconstruct", fn := fun _ => fun
  | [d1, d2, d3, d4] => { results := [.lit (.bool true)], args := [d1, d2, d3, d4] }
  | _ => none }
def fnExactReconstructRow : OpenClaim := { program := "ytjapjmhifoeogaa", sum := "8a058a38ce1fab631244ea44b66500d33b117c681a0fe96cd9338702de3e63d3", func := "loop.example/g00878/laws.FnExactReconstruct", spec := "fnExactReconstruct", unfollowed := true, recurses := true, apart := false }
def FnExactReconstructSaid : Prop := fnExactReconstructRow.holds Try.pinned (OpenSpec.ofChange fnExactReconstructSpec)

/-- ITS FALSE NEIGHBOUR: 'it returns false'. Refute it at one input. -/
def fnExactReconstructWrong : ChangeSpec := { name := "fnExactReconstruct", fn := fun _ => fun
  | [d1, d2, d3, d4] => { results := [.lit (.bool false)], args := [d1, d2, d3, d4] }
  | _ => none }
def FnExactReconstructWrongFalsely : Prop := fnExactReconstructRow.holds Try.pinned (OpenSpec.ofChange fnExactReconstructWrong)

/-- 'laws.FnExactIsKeyGenInput': WHATEVER THE INPUT: true; the input reads as it did. -/
def fnExactIsKeyGenInputSpec : ChangeSpec := { name := "fnExactIsKeyGenInput", fn := fun _ => fun
  | [d1, d2] => { results := [.lit (.bool true)], args := [d1, d2] }
  | _ => none }
def fnExactIsKeyGenInputRow : OpenClaim := { program := "ytjapjmhifoeogaa", sum := "8a058a38ce1fab631244ea44b66500d33b117c681a0fe96cd9338702de3e63d3", func := "loop.example/g00878/laws.FnExactIsKeyGenInput", spec := "fnExactIsKeyGenInput", unfollowed := true, recurses := true, apart := false }
def FnExactIsKeyGenInputSaid : Prop := fnExactIsKeyGenInputRow.holds Try.pinned (OpenSpec.ofChange fnExactIsKeyGenInputSpec)

/-- ITS FALSE NEIGHBOUR: 'it returns false'. Refute it at one input. -/
def fnExactIsKeyGenInputWrong : ChangeSpec := { name := "fnExactIsKeyGenInput", fn := fun _ => fun
  | [d1, d2] => { results := [.lit (.bool false)], args := [d1, d2] }
  | _ => none }
def FnExactIsKeyGenInputWrongFalsely : Prop := fnExactIsKeyGenInputRow.holds Try.pinned (OpenSpec.ofChange fnExactIsKeyGenInputWrong)

/-- 'laws.FnExactZeroDealing': WHATEVER THE INPUT: true; the input reads as it did. -/
def fnExactZeroDealingSpec : ChangeSpec := { name := "fnExactZeroDealing", fn := fun _ => fun
  | [d1, d2, d3, d4] => { results := [.lit (.bool true)], args := [d1, d2, d3, d4] }
  | _ => none }
def fnExactZeroDealingRow : OpenClaim := { program := "ytjapjmhifoeogaa", sum := "8a058a38ce1fab631244ea44b66500d33b117c681a0fe96cd9338702de3e63d3", func := "loop.example/g00878/laws.FnExactZeroDealing", spec := "fnExactZeroDealing", unfollowed := true, recurses := true, apart := false }
def FnExactZeroDealingSaid : Prop := fnExactZeroDealingRow.holds Try.pinned (OpenSpec.ofChange fnExactZeroDealingSpec)

/-- ITS FALSE NEIGHBOUR: 'it returns false'. Refute it at one input. -/
def fnExactZeroDealingWrong : ChangeSpec := { name := "fnExactZeroDealing", fn := fun _ => fun
  | [d1, d2, d3, d4] => { results := [.lit (.bool false)], args := [d1, d2, d3, d4] }
  | _ => none }
def FnExactZeroDealingWrongFalsely : Prop := fnExactZeroDealingRow.holds Try.pinned (OpenSpec.ofChange fnExactZeroDealingWrong)

/-- 'laws.FnExactIsRightKey': WHATEVER THE INPUT: true; the input reads as it did. -/
def fnExactIsRightKeySpec : ChangeSpec := { name := "fnExactIsRightKey", fn := fun _ => fun
  | [d1, d2] => { results := [.lit (.bool true)], args := [d1, d2] }
  | _ => none }
def fnExactIsRightKeyRow : OpenClaim := { program := "ytjapjmhifoeogaa", sum := "8a058a38ce1fab631244ea44b66500d33b117c681a0fe96cd9338702de3e63d3", func := "loop.example/g00878/laws.FnExactIsRightKey", spec := "fnExactIsRightKey", unfollowed := true, recurses := true, apart := false }
def FnExactIsRightKeySaid : Prop := fnExactIsRightKeyRow.holds Try.pinned (OpenSpec.ofChange fnExactIsRightKeySpec)

/-- ITS FALSE NEIGHBOUR: 'it returns false'. Refute it at one input. -/
def fnExactIsRightKeyWrong : ChangeSpec := { name := "fnExactIsRightKey", fn := fun _ => fun
  | [d1, d2] => { results := [.lit (.bool false)], args := [d1, d2] }
  | _ => none }
def FnExactIsRightKeyWrongFalsely : Prop := fnExactIsRightKeyRow.holds Try.pinned (OpenSpec.ofChange fnExactIsRightKeyWrong)

/-- 'laws.FnExactIsZeroDealing': WHATEVER THE INPUT: true; the input reads as it did. -/
def fnExactIsZeroDealingSpec : ChangeSpec := { name := "fnExactIsZeroDealing", fn := fun _ => fun
  | [d1, d2, d3] => { results := [.lit (.bool true)], args := [d1, d2, d3] }
  | _ => none }
def fnExactIsZeroDealingRow : OpenClaim := { program := "ytjapjmhifoeogaa", sum := "8a058a38ce1fab631244ea44b66500d33b117c681a0fe96cd9338702de3e63d3", func := "loop.example/g00878/laws.FnExactIsZeroDealing", spec := "fnExactIsZeroDealing", unfollowed := true, recurses := true, apart := false }
def FnExactIsZeroDealingSaid : Prop := fnExactIsZeroDealingRow.holds Try.pinned (OpenSpec.ofChange fnExactIsZeroDealingSpec)

/-- ITS FALSE NEIGHBOUR: 'it returns false'. Refute it at one input. -/
def fnExactIsZeroDealingWrong : ChangeSpec := { name := "fnExactIsZeroDealing", fn := fun _ => fun
  | [d1, d2, d3] => { results := [.lit (.bool false)], args := [d1, d2, d3] }
  | _ => none }
def FnExactIsZeroDealingWrongFalsely : Prop := fnExactIsZeroDealingRow.holds Try.pinned (OpenSpec.ofChange fnExactIsZeroDealingWrong)

/- THE SECOND FORM. 'bulk': how many values and letters a reading holds, each counted each time it is reached (what is shared counts as often as it is met; a slice's spare places count too). A statement '..UptoSaid' is the law's where the arguments, and the package variables that the reading takes, are together of bulk at most 1048576: NARROWER than '..Said'. Prove '..Said' where nothing that the law and all that it calls make is longer than what came in: it says more and counts as full. Else prove '..UptoSaid'. A law counts once. -/
mutual
def uptoBulk {H : Type} : DataW H → Nat
  | .lit (.string bytes) => bytes.length + 1
  | .lit _ => 1
  | .nil => 1
  | .ptr d => uptoBulk d + 1
  | .slice elems spare => uptoBulkAll elems + uptoBulkAll spare + 1
  | .agg parts => uptoBulkAll parts + 1
  | .iface _ d => uptoBulk d + 1
  | .map entries => uptoBulkEntries entries + 1
  | .held _ => 1
def uptoBulkAll {H : Type} : List (DataW H) → Nat
  | [] => 0
  | d :: r => uptoBulk d + uptoBulkAll r
def uptoBulkEntries {H : Type} : List (Lit × DataW H) → Nat
  | [] => 0
  | x :: r => uptoBulkEntry x + uptoBulkEntries r
def uptoBulkEntry {H : Type} : Lit × DataW H → Nat
  | (.string bytes, d) => bytes.length + uptoBulk d + 1
  | (_, d) => uptoBulk d + 1
 end
def uptoSmall : (H : Type) → List (DataW H) → Bool := fun _ ds => decide (uptoBulkAll ds ≤ 1048576)
def OpenSpec.upto (s : _root_.Go.ChangeSpec) : _root_.Go.OpenSpec := { _root_.Go.OpenSpec.ofChange s with cond := some uptoSmall }

/-- 'laws.FnExactAnswerableChallenges', WHERE WHAT IT READS IS OF BULK AT MOST 1048576: true; the input reads as it did. -/
def fnExactAnswerableChallengesUptoRow : OpenClaim := { program := "ytjapjmhifoeogaa", sum := "8a058a38ce1fab631244ea44b66500d33b117c681a0fe96cd9338702de3e63d3", func := "loop.example/g00878/laws.FnExactAnswerableChallenges", spec := "fnExactAnswerableChallenges", unfollowed := true, recurses := true, apart := false, narrowed := true }
def FnExactAnswerableChallengesUptoSaid : Prop := fnExactAnswerableChallengesUptoRow.holds Try.pinned (OpenSpec.upto fnExactAnswerableChallengesSpec)

/-- 'laws.FnExactBasesOf', WHERE WHAT IT READS IS OF BULK AT MOST 1048576: true; the input reads as it did. -/
def fnExactBasesOfUptoRow : OpenClaim := { program := "ytjapjmhifoeogaa", sum := "8a058a38ce1fab631244ea44b66500d33b117c681a0fe96cd9338702de3e63d3", func := "loop.example/g00878/laws.FnExactBasesOf", spec := "fnExactBasesOf", unfollowed := true, recurses := true, apart := false, narrowed := true }
def FnExactBasesOfUptoSaid : Prop := fnExactBasesOfUptoRow.holds Try.pinned (OpenSpec.upto fnExactBasesOfSpec)

/-- 'laws.FnExactShareCounts', WHERE WHAT IT READS IS OF BULK AT MOST 1048576: true; the input reads as it did. -/
def fnExactShareCountsUptoRow : OpenClaim := { program := "ytjapjmhifoeogaa", sum := "8a058a38ce1fab631244ea44b66500d33b117c681a0fe96cd9338702de3e63d3", func := "loop.example/g00878/laws.FnExactShareCounts", spec := "fnExactShareCounts", unfollowed := true, recurses := true, apart := false, narrowed := true }
def FnExactShareCountsUptoSaid : Prop := fnExactShareCountsUptoRow.holds Try.pinned (OpenSpec.upto fnExactShareCountsSpec)

/-- 'laws.FnExactDealShares', WHERE WHAT IT READS IS OF BULK AT MOST 1048576: true; the input reads as it did. -/
def fnExactDealSharesUptoRow : OpenClaim := { program := "ytjapjmhifoeogaa", sum := "8a058a38ce1fab631244ea44b66500d33b117c681a0fe96cd9338702de3e63d3", func := "loop.example/g00878/laws.FnExactDealShares", spec := "fnExactDealShares", unfollowed := true, recurses := true, apart := false, narrowed := true }
def FnExactDealSharesUptoSaid : Prop := fnExactDealSharesUptoRow.holds Try.pinned (OpenSpec.upto fnExactDealSharesSpec)

/-- 'laws.FnExactBadShares', WHERE WHAT IT READS IS OF BULK AT MOST 1048576: true; the input reads as it did. -/
def fnExactBadSharesUptoRow : OpenClaim := { program := "ytjapjmhifoeogaa", sum := "8a058a38ce1fab631244ea44b66500d33b117c681a0fe96cd9338702de3e63d3", func := "loop.example/g00878/laws.FnExactBadShares", spec := "fnExactBadShares", unfollowed := true, recurses := true, apart := false, narrowed := true }
def FnExactBadSharesUptoSaid : Prop := fnExactBadSharesUptoRow.holds Try.pinned (OpenSpec.upto fnExactBadSharesSpec)

/-- 'laws.FnExactAreConsistent', WHERE WHAT IT READS IS OF BULK AT MOST 1048576: true; the input reads as it did. -/
def fnExactAreConsistentUptoRow : OpenClaim := { program := "ytjapjmhifoeogaa", sum := "8a058a38ce1fab631244ea44b66500d33b117c681a0fe96cd9338702de3e63d3", func := "loop.example/g00878/laws.FnExactAreConsistent", spec := "fnExactAreConsistent", unfollowed := true, recurses := true, apart := false, narrowed := true }
def FnExactAreConsistentUptoSaid : Prop := fnExactAreConsistentUptoRow.holds Try.pinned (OpenSpec.upto fnExactAreConsistentSpec)

/-- 'laws.FnExactSumDealings', WHERE WHAT IT READS IS OF BULK AT MOST 1048576: true; the input reads as it did. -/
def fnExactSumDealingsUptoRow : OpenClaim := { program := "ytjapjmhifoeogaa", sum := "8a058a38ce1fab631244ea44b66500d33b117c681a0fe96cd9338702de3e63d3", func := "loop.example/g00878/laws.FnExactSumDealings", spec := "fnExactSumDealings", unfollowed := true, recurses := true, apart := false, narrowed := true }
def FnExactSumDealingsUptoSaid : Prop := fnExactSumDealingsUptoRow.holds Try.pinned (OpenSpec.upto fnExactSumDealingsSpec)

/-- 'laws.FnExactReconstruct', WHERE WHAT IT READS IS OF BULK AT MOST 1048576: true; the input reads as it did. -/
def fnExactReconstructUptoRow : OpenClaim := { program := "ytjapjmhifoeogaa", sum := "8a058a38ce1fab631244ea44b66500d33b117c681a0fe96cd9338702de3e63d3", func := "loop.example/g00878/laws.FnExactReconstruct", spec := "fnExactReconstruct", unfollowed := true, recurses := true, apart := false, narrowed := true }
def FnExactReconstructUptoSaid : Prop := fnExactReconstructUptoRow.holds Try.pinned (OpenSpec.upto fnExactReconstructSpec)

/-- 'laws.FnExactIsKeyGenInput', WHERE WHAT IT READS IS OF BULK AT MOST 1048576: true; the input reads as it did. -/
def fnExactIsKeyGenInputUptoRow : OpenClaim := { program := "ytjapjmhifoeogaa", sum := "8a058a38ce1fab631244ea44b66500d33b117c681a0fe96cd9338702de3e63d3", func := "loop.example/g00878/laws.FnExactIsKeyGenInput", spec := "fnExactIsKeyGenInput", unfollowed := true, recurses := true, apart := false, narrowed := true }
def FnExactIsKeyGenInputUptoSaid : Prop := fnExactIsKeyGenInputUptoRow.holds Try.pinned (OpenSpec.upto fnExactIsKeyGenInputSpec)

/-- 'laws.FnExactZeroDealing', WHERE WHAT IT READS IS OF BULK AT MOST 1048576: true; the input reads as it did. -/
def fnExactZeroDealingUptoRow : OpenClaim := { program := "ytjapjmhifoeogaa", sum := "8a058a38ce1fab631244ea44b66500d33b117c681a0fe96cd9338702de3e63d3", func := "loop.example/g00878/laws.FnExactZeroDealing", spec := "fnExactZeroDealing", unfollowed := true, recurses := true, apart := false, narrowed := true }
def FnExactZeroDealingUptoSaid : Prop := fnExactZeroDealingUptoRow.holds Try.pinned (OpenSpec.upto fnExactZeroDealingSpec)

/-- 'laws.FnExactIsRightKey', WHERE WHAT IT READS IS OF BULK AT MOST 1048576: true; the input reads as it did. -/
def fnExactIsRightKeyUptoRow : OpenClaim := { program := "ytjapjmhifoeogaa", sum := "8a058a38ce1fab631244ea44b66500d33b117c681a0fe96cd9338702de3e63d3", func := "loop.example/g00878/laws.FnExactIsRightKey", spec := "fnExactIsRightKey", unfollowed := true, recurses := true, apart := false, narrowed := true }
def FnExactIsRightKeyUptoSaid : Prop := fnExactIsRightKeyUptoRow.holds Try.pinned (OpenSpec.upto fnExactIsRightKeySpec)

/-- 'laws.FnExactIsZeroDealing', WHERE WHAT IT READS IS OF BULK AT MOST 1048576: true; the input reads as it did. -/
def fnExactIsZeroDealingUptoRow : OpenClaim := { program := "ytjapjmhifoeogaa", sum := "8a058a38ce1fab631244ea44b66500d33b117c681a0fe96cd9338702de3e63d3", func := "loop.example/g00878/laws.FnExactIsZeroDealing", spec := "fnExactIsZeroDealing", unfollowed := true, recurses := true, apart := false, narrowed := true }
def FnExactIsZeroDealingUptoSaid : Prop := fnExactIsZeroDealingUptoRow.holds Try.pinned (OpenSpec.upto fnExactIsZeroDealingSpec)

end Rows
end Go.Proofs.Ytjapjmhifoeogaa
