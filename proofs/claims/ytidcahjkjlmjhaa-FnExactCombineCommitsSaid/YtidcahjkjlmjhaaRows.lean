/-
  No cell of these rows narrows 'for every input' (looked for: loops, veiled, ifaces, maps, wideKeys, modest, calm, conditions, laid).
  DERIVED. THE GIVEN ROWS OF THIS SEAT. 6 by the template 'for every input the law returns true; each argument reads behind the call as it read before'; 0 by the template 'total and deterministic' (their statements: YtidcahjkjlmjhaaTotals.lean).
  GIVEN WITH THE SEED: the statements are not yours to turn. If you find one false, say at which input.
  Laid BY PROGRAM, IN A SANDBOX (cutbox-rows.mjs): the forced cells as the released guide's own fill.sh prints them over the translation 4a8164c68bca486f… (all of the seat's roots in one cut). By AI agents, Wed Nov 11 2026. No macro, syntax, notation, axiom, sorry.
-/
import Derived.Test.YtidcahjkjlmjhaaChecked
import GoSem.Claim
import GoSem.ClaimJoined
import GoSem.ClaimMapViews
import Derived.JoinedTies
import Derived.KernelRfl
namespace Go.Proofs.Ytidcahjkjlmjhaa
/- THE CELL 'sum', in the pinned program and in every row, IS THE sha256 OF THE DUMP (.gsa) THAT YtidcahjkjlmjhaaProg.lean LOADS. Nothing in Lean hashes anything: it is a label: what it is worth is what the hold of that sum in a sandbox is worth. -/
noncomputable def Try.pinned : Pinned := { name := "ytidcahjkjlmjhaa", sum := "4a8164c68bca486f03202fd41adcf4d7da20a487fd803a7bf03745132ca089ef", checked := Try.checked }
namespace Rows
def none {H : Type} : Left H := { results := [], args := [] }

/-- 'laws.FnExactSimulateEqual': WHATEVER THE INPUT: true; the input reads as it did. -/
def fnExactSimulateEqualSpec : ChangeSpec := { name := "fnExactSimulateEqual", fn := fun _ => fun
  | [d1, d2, d3, d4] => { results := [.lit (.bool true)], args := [d1, d2, d3, d4] }
  | _ => none }
def fnExactSimulateEqualRow : OpenClaim := { program := "ytidcahjkjlmjhaa", sum := "4a8164c68bca486f03202fd41adcf4d7da20a487fd803a7bf03745132ca089ef", func := "loop.example/g00878/laws.FnExactSimulateEqual", spec := "fnExactSimulateEqual", unfollowed := true, recurses := true, apart := false }
def FnExactSimulateEqualSaid : Prop := fnExactSimulateEqualRow.holds Try.pinned (OpenSpec.ofChange fnExactSimulateEqualSpec)

/-- ITS FALSE NEIGHBOUR: 'it returns false'. Refute it at one input. -/
def fnExactSimulateEqualWrong : ChangeSpec := { name := "fnExactSimulateEqual", fn := fun _ => fun
  | [d1, d2, d3, d4] => { results := [.lit (.bool false)], args := [d1, d2, d3, d4] }
  | _ => none }
def FnExactSimulateEqualWrongFalsely : Prop := fnExactSimulateEqualRow.holds Try.pinned (OpenSpec.ofChange fnExactSimulateEqualWrong)

/-- 'laws.FnExactSimulateKnowledge': WHATEVER THE INPUT: true; the input reads as it did. -/
def fnExactSimulateKnowledgeSpec : ChangeSpec := { name := "fnExactSimulateKnowledge", fn := fun _ => fun
  | [d1, d2, d3, d4, d5] => { results := [.lit (.bool true)], args := [d1, d2, d3, d4, d5] }
  | _ => none }
def fnExactSimulateKnowledgeRow : OpenClaim := { program := "ytidcahjkjlmjhaa", sum := "4a8164c68bca486f03202fd41adcf4d7da20a487fd803a7bf03745132ca089ef", func := "loop.example/g00878/laws.FnExactSimulateKnowledge", spec := "fnExactSimulateKnowledge", unfollowed := true, recurses := true, apart := false }
def FnExactSimulateKnowledgeSaid : Prop := fnExactSimulateKnowledgeRow.holds Try.pinned (OpenSpec.ofChange fnExactSimulateKnowledgeSpec)

/-- ITS FALSE NEIGHBOUR: 'it returns false'. Refute it at one input. -/
def fnExactSimulateKnowledgeWrong : ChangeSpec := { name := "fnExactSimulateKnowledge", fn := fun _ => fun
  | [d1, d2, d3, d4, d5] => { results := [.lit (.bool false)], args := [d1, d2, d3, d4, d5] }
  | _ => none }
def FnExactSimulateKnowledgeWrongFalsely : Prop := fnExactSimulateKnowledgeRow.holds Try.pinned (OpenSpec.ofChange fnExactSimulateKnowledgeWrong)

/-- 'laws.FnExactIsAccepting': WHATEVER THE INPUT: true; the input reads as it did. -/
def fnExactIsAcceptingSpec : ChangeSpec := { name := "fnExactIsAccepting", fn := fun _ => fun
  | [d1, d2, d3, d4] => { results := [.lit (.bool true)], args := [d1, d2, d3, d4] }
  | _ => none }
def fnExactIsAcceptingRow : OpenClaim := { program := "ytidcahjkjlmjhaa", sum := "4a8164c68bca486f03202fd41adcf4d7da20a487fd803a7bf03745132ca089ef", func := "loop.example/g00878/laws.FnExactIsAccepting", spec := "fnExactIsAccepting", unfollowed := true, recurses := true, apart := false }
def FnExactIsAcceptingSaid : Prop := fnExactIsAcceptingRow.holds Try.pinned (OpenSpec.ofChange fnExactIsAcceptingSpec)

/-- ITS FALSE NEIGHBOUR: 'it returns false'. Refute it at one input. -/
def fnExactIsAcceptingWrong : ChangeSpec := { name := "fnExactIsAccepting", fn := fun _ => fun
  | [d1, d2, d3, d4] => { results := [.lit (.bool false)], args := [d1, d2, d3, d4] }
  | _ => none }
def FnExactIsAcceptingWrongFalsely : Prop := fnExactIsAcceptingRow.holds Try.pinned (OpenSpec.ofChange fnExactIsAcceptingWrong)

/-- 'laws.FnExactAnswerableChallenges': WHATEVER THE INPUT: true; the input reads as it did. -/
def fnExactAnswerableChallengesSpec : ChangeSpec := { name := "fnExactAnswerableChallenges", fn := fun _ => fun
  | [d1, d2, d3, d4] => { results := [.lit (.bool true)], args := [d1, d2, d3, d4] }
  | _ => none }
def fnExactAnswerableChallengesRow : OpenClaim := { program := "ytidcahjkjlmjhaa", sum := "4a8164c68bca486f03202fd41adcf4d7da20a487fd803a7bf03745132ca089ef", func := "loop.example/g00878/laws.FnExactAnswerableChallenges", spec := "fnExactAnswerableChallenges", unfollowed := true, recurses := true, apart := false }
def FnExactAnswerableChallengesSaid : Prop := fnExactAnswerableChallengesRow.holds Try.pinned (OpenSpec.ofChange fnExactAnswerableChallengesSpec)

/-- ITS FALSE NEIGHBOUR: 'it returns false'. Refute it at one input. -/
def fnExactAnswerableChallengesWrong : ChangeSpec := { name := "fnExactAnswerableChallenges", fn := fun _ => fun
  | [d1, d2, d3, d4] => { results := [.lit (.bool false)], args := [d1, d2, d3, d4] }
  | _ => none }
def FnExactAnswerableChallengesWrongFalsely : Prop := fnExactAnswerableChallengesRow.holds Try.pinned (OpenSpec.ofChange fnExactAnswerableChallengesWrong)

/-- 'laws.FnExactIsValidBases': WHATEVER THE INPUT: true; the input reads as it did. -/
def fnExactIsValidBasesSpec : ChangeSpec := { name := "fnExactIsValidBases", fn := fun _ => fun
  | [d1, d2] => { results := [.lit (.bool true)], args := [d1, d2] }
  | _ => none }
def fnExactIsValidBasesRow : OpenClaim := { program := "ytidcahjkjlmjhaa", sum := "4a8164c68bca486f03202fd41adcf4d7da20a487fd803a7bf03745132ca089ef", func := "loop.example/g00878/laws.FnExactIsValidBases", spec := "fnExactIsValidBases", unfollowed := true, recurses := true, apart := false }
def FnExactIsValidBasesSaid : Prop := fnExactIsValidBasesRow.holds Try.pinned (OpenSpec.ofChange fnExactIsValidBasesSpec)

/-- ITS FALSE NEIGHBOUR: 'it returns false'. Refute it at one input. -/
def fnExactIsValidBasesWrong : ChangeSpec := { name := "fnExactIsValidBases", fn := fun _ => fun
  | [d1, d2] => { results := [.lit (.bool false)], args := [d1, d2] }
  | _ => none }
def FnExactIsValidBasesWrongFalsely : Prop := fnExactIsValidBasesRow.holds Try.pinned (OpenSpec.ofChange fnExactIsValidBasesWrong)

/-- 'laws.FnExactCombineCommits': WHATEVER THE INPUT: true; the input reads as it did. -/
def fnExactCombineCommitsSpec : ChangeSpec := { name := "fnExactCombineCommits", fn := fun _ => fun
  | [d1, d2, d3] => { results := [.lit (.bool true)], args := [d1, d2, d3] }
  | _ => none }
def fnExactCombineCommitsRow : OpenClaim := { program := "ytidcahjkjlmjhaa", sum := "4a8164c68bca486f03202fd41adcf4d7da20a487fd803a7bf03745132ca089ef", func := "loop.example/g00878/laws.FnExactCombineCommits", spec := "fnExactCombineCommits", unfollowed := true, recurses := true, apart := false }
def FnExactCombineCommitsSaid : Prop := fnExactCombineCommitsRow.holds Try.pinned (OpenSpec.ofChange fnExactCombineCommitsSpec)

/-- ITS FALSE NEIGHBOUR: 'it returns false'. Refute it at one input. -/
def fnExactCombineCommitsWrong : ChangeSpec := { name := "fnExactCombineCommits", fn := fun _ => fun
  | [d1, d2, d3] => { results := [.lit (.bool false)], args := [d1, d2, d3] }
  | _ => none }
def FnExactCombineCommitsWrongFalsely : Prop := fnExactCombineCommitsRow.holds Try.pinned (OpenSpec.ofChange fnExactCombineCommitsWrong)

/- THE SECOND FORM. 'bulk': how many values and letters a reading holds, each counted each time it is reached (what is shared counts as often as it is met; a slice's spare places count too). A statement '..UptoSaid' is the law's where the arguments, and the package variables that the reading takes, are together of bulk at most 1048576: NARROWER than '..Said'. Prove '..Said' where nothing that the law and all that it calls make is longer than what came in: it says more and counts as full. Else prove '..UptoSaid'. A law counts once. -/
mutual
def uptoBulk {H : Type} : DataW H → Nat
  | .lit (.string bytes) => bytes.length + 1
  | .lit _ => 1
  | .nil => 1
  | .ptr d => uptoBulk d + 1
  | .slice elems spare => uptoBulkAll elems + uptoBulkAll spare + 1
  | .agg parts => uptoBulkAll parts + 1
  | .iface _ d => uptoBulk d + 1
  | .map entries => uptoBulkEntries entries + 1
  | .held _ => 1
def uptoBulkAll {H : Type} : List (DataW H) → Nat
  | [] => 0
  | d :: r => uptoBulk d + uptoBulkAll r
def uptoBulkEntries {H : Type} : List (Lit × DataW H) → Nat
  | [] => 0
  | x :: r => uptoBulkEntry x + uptoBulkEntries r
def uptoBulkEntry {H : Type} : Lit × DataW H → Nat
  | (.string bytes, d) => bytes.length + uptoBulk d + 1
  | (_, d) => uptoBulk d + 1
 end
def uptoSmall : (H : Type) → List (DataW H) → Bool := fun _ ds => decide (uptoBulkAll ds ≤ 1048576)
def OpenSpec.upto (s : _root_.Go.ChangeSpec) : _root_.Go.OpenSpec := { _root_.Go.OpenSpec.ofChange s with cond := some uptoSmall }

/-- 'laws.FnExactSimulateEqual', WHERE WHAT IT READS IS OF BULK AT MOST 1048576: true; the input reads as it did. -/
def fnExactSimulateEqualUptoRow : OpenClaim := { program := "ytidcahjkjlmjhaa", sum := "4a8164c68bca486f03202fd41adcf4d7da20a487fd803a7bf03745132ca089ef", func := "loop.example/g00878/laws.FnExactSimulateEqual", spec := "fnExactSimulateEqual", unfollowed := true, recurses := true, apart := false, narrowed := true }
def FnExactSimulateEqualUptoSaid : Prop := fnExactSimulateEqualUptoRow.holds Try.pinned (OpenSpec.upto fnExactSimulateEqualSpec)

/-- 'laws.FnExactSimulateKnowledge', WHERE WHAT IT READS IS OF BULK AT MOST 1048576: true; the input reads as it did. -/
def fnExactSimulateKnowledgeUptoRow : OpenClaim := { program := "ytidcahjkjlmjhaa", sum := "4a8164c68bca486f03202fd41adcf4d7da20a487fd803a7bf03745132ca089ef", func := "loop.example/g00878/laws.FnExactSimulateKnowledge", spec := "fnExactSimulateKnowledge", unfollowed := true, recurses := true, apart := false, narrowed := true }
def FnExactSimulateKnowledgeUptoSaid : Prop := fnExactSimulateKnowledgeUptoRow.holds Try.pinned (OpenSpec.upto fnExactSimulateKnowledgeSpec)

/-- 'laws.FnExactIsAccepting', WHERE WHAT IT READS IS OF BULK AT MOST 1048576: true; the input reads as it did. -/
def fnExactIsAcceptingUptoRow : OpenClaim := { program := "ytidcahjkjlmjhaa", sum := "4a8164c68bca486f03202fd41adcf4d7da20a487fd803a7bf03745132ca089ef", func := "loop.example/g00878/laws.FnExactIsAccepting", spec := "fnExactIsAccepting", unfollowed := true, recurses := true, apart := false, narrowed := true }
def FnExactIsAcceptingUptoSaid : Prop := fnExactIsAcceptingUptoRow.holds Try.pinned (OpenSpec.upto fnExactIsAcceptingSpec)

/-- 'laws.FnExactAnswerableChallenges', WHERE WHAT IT READS IS OF BULK AT MOST 1048576: true; the input reads as it did. -/
def fnExactAnswerableChallengesUptoRow : OpenClaim := { program := "ytidcahjkjlmjhaa", sum := "4a8164c68bca486f03202fd41adcf4d7da20a487fd803a7bf03745132ca089ef", func := "loop.example/g00878/laws.FnExactAnswerableChallenges", spec := "fnExactAnswerableChallenges", unfollowed := true, recurses := true, apart := false, narrowed := true }
def FnExactAnswerableChallengesUptoSaid : Prop := fnExactAnswerableChallengesUptoRow.holds Try.pinned (OpenSpec.upto fnExactAnswerableChallengesSpec)

/-- 'laws.FnExactIsValidBases', WHERE WHAT IT READS IS OF BULK AT MOST 1048576: true; the input reads as it did. -/
def fnExactIsValidBasesUptoRow : OpenClaim := { program := "ytidcahjkjlmjhaa", sum := "4a8164c68bca486f03202fd41adcf4d7da20a487fd803a7bf03745132ca089ef", func := "loop.example/g00878/laws.FnExactIsValidBases", spec := "fnExactIsValidBases", unfollowed := true, recurses := true, apart := false, narrowed := true }
def FnExactIsValidBasesUptoSaid : Prop := fnExactIsValidBasesUptoRow.holds Try.pinned (OpenSpec.upto fnExactIsValidBasesSpec)

/-- 'laws.FnExactCombineCommits', WHERE WHAT IT READS IS OF BULK AT MOST 1048576: true; the input reads as it did. -/
def fnExactCombineCommitsUptoRow : OpenClaim := { program := "ytidcahjkjlmjhaa", sum := "4a8164c68bca486f03202fd41adcf4d7da20a487fd803a7bf03745132ca089ef", func := "loop.example/g00878/laws.FnExactCombineCommits", spec := "fnExactCombineCommits", unfollowed := true, recurses := true, apart := false, narrowed := true }
def FnExactCombineCommitsUptoSaid : Prop := fnExactCombineCommitsUptoRow.holds Try.pinned (OpenSpec.upto fnExactCombineCommitsSpec)

end Rows
end Go.Proofs.Ytidcahjkjlmjhaa
