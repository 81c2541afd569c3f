/-
  No cell of these rows narrows 'for every input' (looked for: loops, veiled, ifaces, maps, wideKeys, modest, calm, conditions, laid).
  DERIVED. THE GIVEN ROWS OF THIS SEAT. 6 by the template 'for every input the law returns true; each argument reads behind the call as it read before'; 0 by the template 'total and deterministic' (their statements: YtgnnmifpfgpllaaTotals.lean).
  GIVEN WITH THE SEED: the statements are not yours to turn. If you find one false, say at which input.
  Laid BY PROGRAM, IN A SANDBOX (cutbox-rows.mjs): the forced cells as the released guide's own fill.sh prints them over the translation cbc3fe9fced22519… (all of the seat's roots in one cut). By AI agents, Wed Nov 11 2026. No macro, syntax, notation, axiom, sorry.
-/
import Derived.Test.YtgnnmifpfgpllaaChecked
import GoSem.Claim
import GoSem.ClaimJoined
import GoSem.ClaimMapViews
import Derived.JoinedTies
import Derived.KernelRfl
namespace Go.Proofs.Ytgnnmifpfgpllaa
/- THE CELL 'sum', in the pinned program and in every row, IS THE sha256 OF THE DUMP (.gsa) THAT YtgnnmifpfgpllaaProg.lean LOADS. Nothing in Lean hashes anything: it is a label: what it is worth is what the hold of that sum in a sandbox is worth. -/
noncomputable def Try.pinned : Pinned := { name := "ytgnnmifpfgpllaa", sum := "cbc3fe9fced22519c743a902b87fb1ad43f02d15f857ae51c8f15c1bcab1f87d", checked := Try.checked }
namespace Rows
def none {H : Type} : Left H := { results := [], args := [] }

/-- 'laws.FnExactVerifyRange': WHATEVER THE INPUT: true; the input reads as it did. -/
def fnExactVerifyRangeSpec : ChangeSpec := { name := "fnExactVerifyRange", fn := fun _ => fun
  | [d1, d2, d3, d4, d5] => { results := [.lit (.bool true)], args := [d1, d2, d3, d4, d5] }
  | _ => none }
def fnExactVerifyRangeRow : OpenClaim := { program := "ytgnnmifpfgpllaa", sum := "cbc3fe9fced22519c743a902b87fb1ad43f02d15f857ae51c8f15c1bcab1f87d", func := "loop.example/g00878/laws.FnExactVerifyRange", spec := "fnExactVerifyRange", unfollowed := true, recurses := true, apart := false }
def FnExactVerifyRangeSaid : Prop := fnExactVerifyRangeRow.holds Try.pinned (OpenSpec.ofChange fnExactVerifyRangeSpec)

/-- ITS FALSE NEIGHBOUR: 'it returns false'. Refute it at one input. -/
def fnExactVerifyRangeWrong : ChangeSpec := { name := "fnExactVerifyRange", fn := fun _ => fun
  | [d1, d2, d3, d4, d5] => { results := [.lit (.bool false)], args := [d1, d2, d3, d4, d5] }
  | _ => none }
def FnExactVerifyRangeWrongFalsely : Prop := fnExactVerifyRangeRow.holds Try.pinned (OpenSpec.ofChange fnExactVerifyRangeWrong)

/-- 'laws.FnExactVerifyInterval': WHATEVER THE INPUT: true; the input reads as it did. -/
def fnExactVerifyIntervalSpec : ChangeSpec := { name := "fnExactVerifyInterval", fn := fun _ => fun
  | [d1, d2, d3, d4, d5, d6, d7, d8] => { results := [.lit (.bool true)], args := [d1, d2, d3, d4, d5, d6, d7, d8] }
  | _ => none }
def fnExactVerifyIntervalRow : OpenClaim := { program := "ytgnnmifpfgpllaa", sum := "cbc3fe9fced22519c743a902b87fb1ad43f02d15f857ae51c8f15c1bcab1f87d", func := "loop.example/g00878/laws.FnExactVerifyInterval", spec := "fnExactVerifyInterval", unfollowed := true, recurses := true, apart := false }
def FnExactVerifyIntervalSaid : Prop := fnExactVerifyIntervalRow.holds Try.pinned (OpenSpec.ofChange fnExactVerifyIntervalSpec)

/-- ITS FALSE NEIGHBOUR: 'it returns false'. Refute it at one input. -/
def fnExactVerifyIntervalWrong : ChangeSpec := { name := "fnExactVerifyInterval", fn := fun _ => fun
  | [d1, d2, d3, d4, d5, d6, d7, d8] => { results := [.lit (.bool false)], args := [d1, d2, d3, d4, d5, d6, d7, d8] }
  | _ => none }
def FnExactVerifyIntervalWrongFalsely : Prop := fnExactVerifyIntervalRow.holds Try.pinned (OpenSpec.ofChange fnExactVerifyIntervalWrong)

/-- 'laws.FnExactProveRange': WHATEVER THE INPUT: true; the input reads as it did. -/
def fnExactProveRangeSpec : ChangeSpec := { name := "fnExactProveRange", fn := fun _ => fun
  | [d1, d2, d3, d4, d5, d6] => { results := [.lit (.bool true)], args := [d1, d2, d3, d4, d5, d6] }
  | _ => none }
def fnExactProveRangeRow : OpenClaim := { program := "ytgnnmifpfgpllaa", sum := "cbc3fe9fced22519c743a902b87fb1ad43f02d15f857ae51c8f15c1bcab1f87d", func := "loop.example/g00878/laws.FnExactProveRange", spec := "fnExactProveRange", unfollowed := true, recurses := true, apart := false }
def FnExactProveRangeSaid : Prop := fnExactProveRangeRow.holds Try.pinned (OpenSpec.ofChange fnExactProveRangeSpec)

/-- ITS FALSE NEIGHBOUR: 'it returns false'. Refute it at one input. -/
def fnExactProveRangeWrong : ChangeSpec := { name := "fnExactProveRange", fn := fun _ => fun
  | [d1, d2, d3, d4, d5, d6] => { results := [.lit (.bool false)], args := [d1, d2, d3, d4, d5, d6] }
  | _ => none }
def FnExactProveRangeWrongFalsely : Prop := fnExactProveRangeRow.holds Try.pinned (OpenSpec.ofChange fnExactProveRangeWrong)

/-- 'laws.FnExactProveInterval': WHATEVER THE INPUT: true; the input reads as it did. -/
def fnExactProveIntervalSpec : ChangeSpec := { name := "fnExactProveInterval", fn := fun _ => fun
  | [d1, d2, d3, d4, d5, d6, d7, d8] => { results := [.lit (.bool true)], args := [d1, d2, d3, d4, d5, d6, d7, d8] }
  | _ => none }
def fnExactProveIntervalRow : OpenClaim := { program := "ytgnnmifpfgpllaa", sum := "cbc3fe9fced22519c743a902b87fb1ad43f02d15f857ae51c8f15c1bcab1f87d", func := "loop.example/g00878/laws.FnExactProveInterval", spec := "fnExactProveInterval", unfollowed := true, recurses := true, apart := false }
def FnExactProveIntervalSaid : Prop := fnExactProveIntervalRow.holds Try.pinned (OpenSpec.ofChange fnExactProveIntervalSpec)

/-- ITS FALSE NEIGHBOUR: 'it returns false'. Refute it at one input. -/
def fnExactProveIntervalWrong : ChangeSpec := { name := "fnExactProveInterval", fn := fun _ => fun
  | [d1, d2, d3, d4, d5, d6, d7, d8] => { results := [.lit (.bool false)], args := [d1, d2, d3, d4, d5, d6, d7, d8] }
  | _ => none }
def FnExactProveIntervalWrongFalsely : Prop := fnExactProveIntervalRow.holds Try.pinned (OpenSpec.ofChange fnExactProveIntervalWrong)

/-- 'laws.FnExactRealTranscripts': WHATEVER THE INPUT: true; the input reads as it did. -/
def fnExactRealTranscriptsSpec : ChangeSpec := { name := "fnExactRealTranscripts", fn := fun _ => fun
  | [d1, d2, d3] => { results := [.lit (.bool true)], args := [d1, d2, d3] }
  | _ => none }
def fnExactRealTranscriptsRow : OpenClaim := { program := "ytgnnmifpfgpllaa", sum := "cbc3fe9fced22519c743a902b87fb1ad43f02d15f857ae51c8f15c1bcab1f87d", func := "loop.example/g00878/laws.FnExactRealTranscripts", spec := "fnExactRealTranscripts", unfollowed := true, recurses := true, apart := false }
def FnExactRealTranscriptsSaid : Prop := fnExactRealTranscriptsRow.holds Try.pinned (OpenSpec.ofChange fnExactRealTranscriptsSpec)

/-- ITS FALSE NEIGHBOUR: 'it returns false'. Refute it at one input. -/
def fnExactRealTranscriptsWrong : ChangeSpec := { name := "fnExactRealTranscripts", fn := fun _ => fun
  | [d1, d2, d3] => { results := [.lit (.bool false)], args := [d1, d2, d3] }
  | _ => none }
def FnExactRealTranscriptsWrongFalsely : Prop := fnExactRealTranscriptsRow.holds Try.pinned (OpenSpec.ofChange fnExactRealTranscriptsWrong)

/-- 'laws.FnExactSimulatedTranscripts': WHATEVER THE INPUT: true; the input reads as it did. -/
def fnExactSimulatedTranscriptsSpec : ChangeSpec := { name := "fnExactSimulatedTranscripts", fn := fun _ => fun
  | [d1, d2, d3] => { results := [.lit (.bool true)], args := [d1, d2, d3] }
  | _ => none }
def fnExactSimulatedTranscriptsRow : OpenClaim := { program := "ytgnnmifpfgpllaa", sum := "cbc3fe9fced22519c743a902b87fb1ad43f02d15f857ae51c8f15c1bcab1f87d", func := "loop.example/g00878/laws.FnExactSimulatedTranscripts", spec := "fnExactSimulatedTranscripts", unfollowed := true, recurses := true, apart := false }
def FnExactSimulatedTranscriptsSaid : Prop := fnExactSimulatedTranscriptsRow.holds Try.pinned (OpenSpec.ofChange fnExactSimulatedTranscriptsSpec)

/-- ITS FALSE NEIGHBOUR: 'it returns false'. Refute it at one input. -/
def fnExactSimulatedTranscriptsWrong : ChangeSpec := { name := "fnExactSimulatedTranscripts", fn := fun _ => fun
  | [d1, d2, d3] => { results := [.lit (.bool false)], args := [d1, d2, d3] }
  | _ => none }
def FnExactSimulatedTranscriptsWrongFalsely : Prop := fnExactSimulatedTranscriptsRow.holds Try.pinned (OpenSpec.ofChange fnExactSimulatedTranscriptsWrong)

/- THE SECOND FORM. 'bulk': how many values and letters a reading holds, each counted each time it is reached (what is shared counts as often as it is met; a slice's spare places count too). A statement '..UptoSaid' is the law's where the arguments, and the package variables that the reading takes, are together of bulk at most 1048576: NARROWER than '..Said'. Prove '..Said' where nothing that the law and all that it calls make is longer than what came in: it says more and counts as full. Else prove '..UptoSaid'. A law counts once. -/
mutual
def uptoBulk {H : Type} : DataW H → Nat
  | .lit (.string bytes) => bytes.length + 1
  | .lit _ => 1
  | .nil => 1
  | .ptr d => uptoBulk d + 1
  | .slice elems spare => uptoBulkAll elems + uptoBulkAll spare + 1
  | .agg parts => uptoBulkAll parts + 1
  | .iface _ d => uptoBulk d + 1
  | .map entries => uptoBulkEntries entries + 1
  | .held _ => 1
def uptoBulkAll {H : Type} : List (DataW H) → Nat
  | [] => 0
  | d :: r => uptoBulk d + uptoBulkAll r
def uptoBulkEntries {H : Type} : List (Lit × DataW H) → Nat
  | [] => 0
  | x :: r => uptoBulkEntry x + uptoBulkEntries r
def uptoBulkEntry {H : Type} : Lit × DataW H → Nat
  | (.string bytes, d) => bytes.length + uptoBulk d + 1
  | (_, d) => uptoBulk d + 1
 end
def uptoSmall : (H : Type) → List (DataW H) → Bool := fun _ ds => decide (uptoBulkAll ds ≤ 1048576)
def OpenSpec.upto (s : _root_.Go.ChangeSpec) : _root_.Go.OpenSpec := { _root_.Go.OpenSpec.ofChange s with cond := some uptoSmall }

/-- 'laws.FnExactVerifyRange', WHERE WHAT IT READS IS OF BULK AT MOST 1048576: true; the input reads as it did. -/
def fnExactVerifyRangeUptoRow : OpenClaim := { program := "ytgnnmifpfgpllaa", sum := "cbc3fe9fced22519c743a902b87fb1ad43f02d15f857ae51c8f15c1bcab1f87d", func := "loop.example/g00878/laws.FnExactVerifyRange", spec := "fnExactVerifyRange", unfollowed := true, recurses := true, apart := false, narrowed := true }
def FnExactVerifyRangeUptoSaid : Prop := fnExactVerifyRangeUptoRow.holds Try.pinned (OpenSpec.upto fnExactVerifyRangeSpec)

/-- 'laws.FnExactVerifyInterval', WHERE WHAT IT READS IS OF BULK AT MOST 1048576: true; the input reads as it did. -/
def fnExactVerifyIntervalUptoRow : OpenClaim := { program := "ytgnnmifpfgpllaa", sum := "cbc3fe9fced22519c743a902b87fb1ad43f02d15f857ae51c8f15c1bcab1f87d", func := "loop.example/g00878/laws.FnExactVerifyInterval", spec := "fnExactVerifyInterval", unfollowed := true, recurses := true, apart := false, narrowed := true }
def FnExactVerifyIntervalUptoSaid : Prop := fnExactVerifyIntervalUptoRow.holds Try.pinned (OpenSpec.upto fnExactVerifyIntervalSpec)

/-- 'laws.FnExactProveRange', WHERE WHAT IT READS IS OF BULK AT MOST 1048576: true; the input reads as it did. -/
def fnExactProveRangeUptoRow : OpenClaim := { program := "ytgnnmifpfgpllaa", sum := "cbc3fe9fced22519c743a902b87fb1ad43f02d15f857ae51c8f15c1bcab1f87d", func := "loop.example/g00878/laws.FnExactProveRange", spec := "fnExactProveRange", unfollowed := true, recurses := true, apart := false, narrowed := true }
def FnExactProveRangeUptoSaid : Prop := fnExactProveRangeUptoRow.holds Try.pinned (OpenSpec.upto fnExactProveRangeSpec)

/-- 'laws.FnExactProveInterval', WHERE WHAT IT READS IS OF BULK AT MOST 1048576: true; the input reads as it did. -/
def fnExactProveIntervalUptoRow : OpenClaim := { program := "ytgnnmifpfgpllaa", sum := "cbc3fe9fced22519c743a902b87fb1ad43f02d15f857ae51c8f15c1bcab1f87d", func := "loop.example/g00878/laws.FnExactProveInterval", spec := "fnExactProveInterval", unfollowed := true, recurses := true, apart := false, narrowed := true }
def FnExactProveIntervalUptoSaid : Prop := fnExactProveIntervalUptoRow.holds Try.pinned (OpenSpec.upto fnExactProveIntervalSpec)

/-- 'laws.FnExactRealTranscripts', WHERE WHAT IT READS IS OF BULK AT MOST 1048576: true; the input reads as it did. -/
def fnExactRealTranscriptsUptoRow : OpenClaim := { program := "ytgnnmifpfgpllaa", sum := "cbc3fe9fced22519c743a902b87fb1ad43f02d15f857ae51c8f15c1bcab1f87d", func := "loop.example/g00878/laws.FnExactRealTranscripts", spec := "fnExactRealTranscripts", unfollowed := true, recurses := true, apart := false, narrowed := true }
def FnExactRealTranscriptsUptoSaid : Prop := fnExactRealTranscriptsUptoRow.holds Try.pinned (OpenSpec.upto fnExactRealTranscriptsSpec)

/-- 'laws.FnExactSimulatedTranscripts', WHERE WHAT IT READS IS OF BULK AT MOST 1048576: true; the input reads as it did. -/
def fnExactSimulatedTranscriptsUptoRow : OpenClaim := { program := "ytgnnmifpfgpllaa", sum := "cbc3fe9fced22519c743a902b87fb1ad43f02d15f857ae51c8f15c1bcab1f87d", func := "loop.example/g00878/laws.FnExactSimulatedTranscripts", spec := "fnExactSimulatedTranscripts", unfollowed := true, recurses := true, apart := false, narrowed := true }
def FnExactSimulatedTranscriptsUptoSaid : Prop := fnExactSimulatedTranscriptsUptoRow.holds Try.pinned (OpenSpec.upto fnExactSimulatedTranscriptsSpec)

end Rows
end Go.Proofs.Ytgnnmifpfgpllaa
