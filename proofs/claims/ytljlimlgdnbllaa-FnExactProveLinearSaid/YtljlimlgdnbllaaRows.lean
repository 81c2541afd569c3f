/-
  No cell of these rows narrows 'for every input' (looked for: loops, veiled, ifaces, maps, wideKeys, modest, calm, conditions, laid).
  DERIVED. THE GIVEN ROWS OF THIS SEAT. 12 by the template 'for every input the law returns true; each argument reads behind the call as it read before'; 0 by the template 'total and deterministic' (their statements: YtljlimlgdnbllaaTotals.lean).
  GIVEN WITH THE SEED: the statements are not yours to turn. If you find one false, say at which input.
  Laid BY PROGRAM, IN A SANDBOX (cutbox-rows.mjs): the forced cells as the released guide's own fill.sh prints them over the translation 5d02143d38415606… (all of the seat's roots in one cut). By AI agents, Wed Nov 11 2026. No macro, syntax, notation, axiom, sorry.
-/
import Derived.Test.YtljlimlgdnbllaaChecked
import GoSem.Claim
import GoSem.ClaimJoined
import GoSem.ClaimMapViews
import Derived.JoinedTies
import Derived.KernelRfl
namespace Go.Proofs.Ytljlimlgdnbllaa
/- THE CELL 'sum', in the pinned program and in every row, IS THE sha256 OF THE DUMP (.gsa) THAT YtljlimlgdnbllaaProg.lean LOADS. Nothing in Lean hashes anything: it is a label: what it is worth is what the hold of that sum in a sandbox is worth. -/
noncomputable def Try.pinned : Pinned := { name := "ytljlimlgdnbllaa", sum := "5d02143d3841560606095269e2da4e5a29fc2e464fa887383a56efd425f6bc38", checked := Try.checked }
namespace Rows
def none {H : Type} : Left H := { results := [], args := [] }

/-- 'laws.FnExactVerifySum': WHATEVER THE INPUT: true; the input reads as it did. -/
def fnExactVerifySumSpec : ChangeSpec := { name := "fnExactVerifySum", fn := fun _ => fun
  | [d1, d2, d3, d4, d5] => { results := [.lit (.bool true)], args := [d1, d2, d3, d4, d5] }
  | _ => none }
def fnExactVerifySumRow : OpenClaim := { program := "ytljlimlgdnbllaa", sum := "5d02143d3841560606095269e2da4e5a29fc2e464fa887383a56efd425f6bc38", func := "loop.example/g00878/laws.FnExactVerifySum", spec := "fnExactVerifySum", unfollowed := true, recurses := true, apart := false }
def FnExactVerifySumSaid : Prop := fnExactVerifySumRow.holds Try.pinned (OpenSpec.ofChange fnExactVerifySumSpec)

/-- ITS FALSE NEIGHBOUR: 'it returns false'. Refute it at one input. -/
def fnExactVerifySumWrong : ChangeSpec := { name := "fnExactVerifySum", fn := fun _ => fun
  | [d1, d2, d3, d4, d5] => { results := [.lit (.bool false)], args := [d1, d2, d3, d4, d5] }
  | _ => none }
def FnExactVerifySumWrongFalsely : Prop := fnExactVerifySumRow.holds Try.pinned (OpenSpec.ofChange fnExactVerifySumWrong)

/-- 'laws.FnExactVerifyOpening': WHATEVER THE INPUT: true; the input reads as it did. -/
def fnExactVerifyOpeningSpec : ChangeSpec := { name := "fnExactVerifyOpening", fn := fun _ => fun
  | [d1, d2, d3, d4] => { results := [.lit (.bool true)], args := [d1, d2, d3, d4] }
  | _ => none }
def fnExactVerifyOpeningRow : OpenClaim := { program := "ytljlimlgdnbllaa", sum := "5d02143d3841560606095269e2da4e5a29fc2e464fa887383a56efd425f6bc38", func := "loop.example/g00878/laws.FnExactVerifyOpening", spec := "fnExactVerifyOpening", unfollowed := true, recurses := true, apart := false }
def FnExactVerifyOpeningSaid : Prop := fnExactVerifyOpeningRow.holds Try.pinned (OpenSpec.ofChange fnExactVerifyOpeningSpec)

/-- ITS FALSE NEIGHBOUR: 'it returns false'. Refute it at one input. -/
def fnExactVerifyOpeningWrong : ChangeSpec := { name := "fnExactVerifyOpening", fn := fun _ => fun
  | [d1, d2, d3, d4] => { results := [.lit (.bool false)], args := [d1, d2, d3, d4] }
  | _ => none }
def FnExactVerifyOpeningWrongFalsely : Prop := fnExactVerifyOpeningRow.holds Try.pinned (OpenSpec.ofChange fnExactVerifyOpeningWrong)

/-- 'laws.FnExactProveOpening': WHATEVER THE INPUT: true; the input reads as it did. -/
def fnExactProveOpeningSpec : ChangeSpec := { name := "fnExactProveOpening", fn := fun _ => fun
  | [d1, d2, d3, d4, d5] => { results := [.lit (.bool true)], args := [d1, d2, d3, d4, d5] }
  | _ => none }
def fnExactProveOpeningRow : OpenClaim := { program := "ytljlimlgdnbllaa", sum := "5d02143d3841560606095269e2da4e5a29fc2e464fa887383a56efd425f6bc38", func := "loop.example/g00878/laws.FnExactProveOpening", spec := "fnExactProveOpening", unfollowed := true, recurses := true, apart := false }
def FnExactProveOpeningSaid : Prop := fnExactProveOpeningRow.holds Try.pinned (OpenSpec.ofChange fnExactProveOpeningSpec)

/-- ITS FALSE NEIGHBOUR: 'it returns false'. Refute it at one input. -/
def fnExactProveOpeningWrong : ChangeSpec := { name := "fnExactProveOpening", fn := fun _ => fun
  | [d1, d2, d3, d4, d5] => { results := [.lit (.bool false)], args := [d1, d2, d3, d4, d5] }
  | _ => none }
def FnExactProveOpeningWrongFalsely : Prop := fnExactProveOpeningRow.holds Try.pinned (OpenSpec.ofChange fnExactProveOpeningWrong)

/-- 'laws.FnExactVerifyBit': WHATEVER THE INPUT: true; the input reads as it did. -/
def fnExactVerifyBitSpec : ChangeSpec := { name := "fnExactVerifyBit", fn := fun _ => fun
  | [d1, d2, d3, d4] => { results := [.lit (.bool true)], args := [d1, d2, d3, d4] }
  | _ => none }
def fnExactVerifyBitRow : OpenClaim := { program := "ytljlimlgdnbllaa", sum := "5d02143d3841560606095269e2da4e5a29fc2e464fa887383a56efd425f6bc38", func := "loop.example/g00878/laws.FnExactVerifyBit", spec := "fnExactVerifyBit", unfollowed := true, recurses := true, apart := false }
def FnExactVerifyBitSaid : Prop := fnExactVerifyBitRow.holds Try.pinned (OpenSpec.ofChange fnExactVerifyBitSpec)

/-- ITS FALSE NEIGHBOUR: 'it returns false'. Refute it at one input. -/
def fnExactVerifyBitWrong : ChangeSpec := { name := "fnExactVerifyBit", fn := fun _ => fun
  | [d1, d2, d3, d4] => { results := [.lit (.bool false)], args := [d1, d2, d3, d4] }
  | _ => none }
def FnExactVerifyBitWrongFalsely : Prop := fnExactVerifyBitRow.holds Try.pinned (OpenSpec.ofChange fnExactVerifyBitWrong)

/-- 'laws.FnExactProveBit': WHATEVER THE INPUT: true; the input reads as it did. -/
def fnExactProveBitSpec : ChangeSpec := { name := "fnExactProveBit", fn := fun _ => fun
  | [d1, d2, d3, d4, d5] => { results := [.lit (.bool true)], args := [d1, d2, d3, d4, d5] }
  | _ => none }
def fnExactProveBitRow : OpenClaim := { program := "ytljlimlgdnbllaa", sum := "5d02143d3841560606095269e2da4e5a29fc2e464fa887383a56efd425f6bc38", func := "loop.example/g00878/laws.FnExactProveBit", spec := "fnExactProveBit", unfollowed := true, recurses := true, apart := false }
def FnExactProveBitSaid : Prop := fnExactProveBitRow.holds Try.pinned (OpenSpec.ofChange fnExactProveBitSpec)

/-- ITS FALSE NEIGHBOUR: 'it returns false'. Refute it at one input. -/
def fnExactProveBitWrong : ChangeSpec := { name := "fnExactProveBit", fn := fun _ => fun
  | [d1, d2, d3, d4, d5] => { results := [.lit (.bool false)], args := [d1, d2, d3, d4, d5] }
  | _ => none }
def FnExactProveBitWrongFalsely : Prop := fnExactProveBitRow.holds Try.pinned (OpenSpec.ofChange fnExactProveBitWrong)

/-- 'laws.FnExactProveSum': WHATEVER THE INPUT: true; the input reads as it did. -/
def fnExactProveSumSpec : ChangeSpec := { name := "fnExactProveSum", fn := fun _ => fun
  | [d1, d2, d3, d4, d5] => { results := [.lit (.bool true)], args := [d1, d2, d3, d4, d5] }
  | _ => none }
def fnExactProveSumRow : OpenClaim := { program := "ytljlimlgdnbllaa", sum := "5d02143d3841560606095269e2da4e5a29fc2e464fa887383a56efd425f6bc38", func := "loop.example/g00878/laws.FnExactProveSum", spec := "fnExactProveSum", unfollowed := true, recurses := true, apart := false }
def FnExactProveSumSaid : Prop := fnExactProveSumRow.holds Try.pinned (OpenSpec.ofChange fnExactProveSumSpec)

/-- ITS FALSE NEIGHBOUR: 'it returns false'. Refute it at one input. -/
def fnExactProveSumWrong : ChangeSpec := { name := "fnExactProveSum", fn := fun _ => fun
  | [d1, d2, d3, d4, d5] => { results := [.lit (.bool false)], args := [d1, d2, d3, d4, d5] }
  | _ => none }
def FnExactProveSumWrongFalsely : Prop := fnExactProveSumRow.holds Try.pinned (OpenSpec.ofChange fnExactProveSumWrong)

/-- 'laws.FnExactProveEqual': WHATEVER THE INPUT: true; the input reads as it did. -/
def fnExactProveEqualSpec : ChangeSpec := { name := "fnExactProveEqual", fn := fun _ => fun
  | [d1, d2, d3, d4, d5] => { results := [.lit (.bool true)], args := [d1, d2, d3, d4, d5] }
  | _ => none }
def fnExactProveEqualRow : OpenClaim := { program := "ytljlimlgdnbllaa", sum := "5d02143d3841560606095269e2da4e5a29fc2e464fa887383a56efd425f6bc38", func := "loop.example/g00878/laws.FnExactProveEqual", spec := "fnExactProveEqual", unfollowed := true, recurses := true, apart := false }
def FnExactProveEqualSaid : Prop := fnExactProveEqualRow.holds Try.pinned (OpenSpec.ofChange fnExactProveEqualSpec)

/-- ITS FALSE NEIGHBOUR: 'it returns false'. Refute it at one input. -/
def fnExactProveEqualWrong : ChangeSpec := { name := "fnExactProveEqual", fn := fun _ => fun
  | [d1, d2, d3, d4, d5] => { results := [.lit (.bool false)], args := [d1, d2, d3, d4, d5] }
  | _ => none }
def FnExactProveEqualWrongFalsely : Prop := fnExactProveEqualRow.holds Try.pinned (OpenSpec.ofChange fnExactProveEqualWrong)

/-- 'laws.FnExactVerifyOneOf': WHATEVER THE INPUT: true; the input reads as it did. -/
def fnExactVerifyOneOfSpec : ChangeSpec := { name := "fnExactVerifyOneOf", fn := fun _ => fun
  | [d1, d2, d3, d4] => { results := [.lit (.bool true)], args := [d1, d2, d3, d4] }
  | _ => none }
def fnExactVerifyOneOfRow : OpenClaim := { program := "ytljlimlgdnbllaa", sum := "5d02143d3841560606095269e2da4e5a29fc2e464fa887383a56efd425f6bc38", func := "loop.example/g00878/laws.FnExactVerifyOneOf", spec := "fnExactVerifyOneOf", unfollowed := true, recurses := true, apart := false }
def FnExactVerifyOneOfSaid : Prop := fnExactVerifyOneOfRow.holds Try.pinned (OpenSpec.ofChange fnExactVerifyOneOfSpec)

/-- ITS FALSE NEIGHBOUR: 'it returns false'. Refute it at one input. -/
def fnExactVerifyOneOfWrong : ChangeSpec := { name := "fnExactVerifyOneOf", fn := fun _ => fun
  | [d1, d2, d3, d4] => { results := [.lit (.bool false)], args := [d1, d2, d3, d4] }
  | _ => none }
def FnExactVerifyOneOfWrongFalsely : Prop := fnExactVerifyOneOfRow.holds Try.pinned (OpenSpec.ofChange fnExactVerifyOneOfWrong)

/-- 'laws.FnExactProveOneOf': WHATEVER THE INPUT: true; the input reads as it did. -/
def fnExactProveOneOfSpec : ChangeSpec := { name := "fnExactProveOneOf", fn := fun _ => fun
  | [d1, d2, d3, d4, d5, d6] => { results := [.lit (.bool true)], args := [d1, d2, d3, d4, d5, d6] }
  | _ => none }
def fnExactProveOneOfRow : OpenClaim := { program := "ytljlimlgdnbllaa", sum := "5d02143d3841560606095269e2da4e5a29fc2e464fa887383a56efd425f6bc38", func := "loop.example/g00878/laws.FnExactProveOneOf", spec := "fnExactProveOneOf", unfollowed := true, recurses := true, apart := false }
def FnExactProveOneOfSaid : Prop := fnExactProveOneOfRow.holds Try.pinned (OpenSpec.ofChange fnExactProveOneOfSpec)

/-- ITS FALSE NEIGHBOUR: 'it returns false'. Refute it at one input. -/
def fnExactProveOneOfWrong : ChangeSpec := { name := "fnExactProveOneOf", fn := fun _ => fun
  | [d1, d2, d3, d4, d5, d6] => { results := [.lit (.bool false)], args := [d1, d2, d3, d4, d5, d6] }
  | _ => none }
def FnExactProveOneOfWrongFalsely : Prop := fnExactProveOneOfRow.holds Try.pinned (OpenSpec.ofChange fnExactProveOneOfWrong)

/-- 'laws.FnExactVerifyLinear': WHATEVER THE INPUT: true; the input reads as it did. -/
def fnExactVerifyLinearSpec : ChangeSpec := { name := "fnExactVerifyLinear", fn := fun _ => fun
  | [d1, d2, d3, d4, d5] => { results := [.lit (.bool true)], args := [d1, d2, d3, d4, d5] }
  | _ => none }
def fnExactVerifyLinearRow : OpenClaim := { program := "ytljlimlgdnbllaa", sum := "5d02143d3841560606095269e2da4e5a29fc2e464fa887383a56efd425f6bc38", func := "loop.example/g00878/laws.FnExactVerifyLinear", spec := "fnExactVerifyLinear", unfollowed := true, recurses := true, apart := false }
def FnExactVerifyLinearSaid : Prop := fnExactVerifyLinearRow.holds Try.pinned (OpenSpec.ofChange fnExactVerifyLinearSpec)

/-- ITS FALSE NEIGHBOUR: 'it returns false'. Refute it at one input. -/
def fnExactVerifyLinearWrong : ChangeSpec := { name := "fnExactVerifyLinear", fn := fun _ => fun
  | [d1, d2, d3, d4, d5] => { results := [.lit (.bool false)], args := [d1, d2, d3, d4, d5] }
  | _ => none }
def FnExactVerifyLinearWrongFalsely : Prop := fnExactVerifyLinearRow.holds Try.pinned (OpenSpec.ofChange fnExactVerifyLinearWrong)

/-- 'laws.FnExactProveLinear': WHATEVER THE INPUT: true; the input reads as it did. -/
def fnExactProveLinearSpec : ChangeSpec := { name := "fnExactProveLinear", fn := fun _ => fun
  | [d1, d2, d3, d4, d5] => { results := [.lit (.bool true)], args := [d1, d2, d3, d4, d5] }
  | _ => none }
def fnExactProveLinearRow : OpenClaim := { program := "ytljlimlgdnbllaa", sum := "5d02143d3841560606095269e2da4e5a29fc2e464fa887383a56efd425f6bc38", func := "loop.example/g00878/laws.FnExactProveLinear", spec := "fnExactProveLinear", unfollowed := true, recurses := true, apart := false }
def FnExactProveLinearSaid : Prop := fnExactProveLinearRow.holds Try.pinned (OpenSpec.ofChange fnExactProveLinearSpec)

/-- ITS FALSE NEIGHBOUR: 'it returns false'. Refute it at one input. -/
def fnExactProveLinearWrong : ChangeSpec := { name := "fnExactProveLinear", fn := fun _ => fun
  | [d1, d2, d3, d4, d5] => { results := [.lit (.bool false)], args := [d1, d2, d3, d4, d5] }
  | _ => none }
def FnExactProveLinearWrongFalsely : Prop := fnExactProveLinearRow.holds Try.pinned (OpenSpec.ofChange fnExactProveLinearWrong)

/-- 'laws.FnExactExtractOneOf': WHATEVER THE INPUT: true; the input reads as it did. -/
def fnExactExtractOneOfSpec : ChangeSpec := { name := "fnExactExtractOneOf", fn := fun _ => fun
  | [d1, d2, d3, d4] => { results := [.lit (.bool true)], args := [d1, d2, d3, d4] }
  | _ => none }
def fnExactExtractOneOfRow : OpenClaim := { program := "ytljlimlgdnbllaa", sum := "5d02143d3841560606095269e2da4e5a29fc2e464fa887383a56efd425f6bc38", func := "loop.example/g00878/laws.FnExactExtractOneOf", spec := "fnExactExtractOneOf", unfollowed := true, recurses := true, apart := false }
def FnExactExtractOneOfSaid : Prop := fnExactExtractOneOfRow.holds Try.pinned (OpenSpec.ofChange fnExactExtractOneOfSpec)

/-- ITS FALSE NEIGHBOUR: 'it returns false'. Refute it at one input. -/
def fnExactExtractOneOfWrong : ChangeSpec := { name := "fnExactExtractOneOf", fn := fun _ => fun
  | [d1, d2, d3, d4] => { results := [.lit (.bool false)], args := [d1, d2, d3, d4] }
  | _ => none }
def FnExactExtractOneOfWrongFalsely : Prop := fnExactExtractOneOfRow.holds Try.pinned (OpenSpec.ofChange fnExactExtractOneOfWrong)

/- THE SECOND FORM. 'bulk': how many values and letters a reading holds, each counted each time it is reached (what is shared counts as often as it is met; a slice's spare places count too). A statement '..UptoSaid' is the law's where the arguments, and the package variables that the reading takes, are together of bulk at most 1048576: NARROWER than '..Said'. Prove '..Said' where nothing that the law and all that it calls make is longer than what came in: it says more and counts as full. Else prove '..UptoSaid'. A law counts once. -/
mutual
def uptoBulk {H : Type} : DataW H → Nat
  | .lit (.string bytes) => bytes.length + 1
  | .lit _ => 1
  | .nil => 1
  | .ptr d => uptoBulk d + 1
  | .slice elems spare => uptoBulkAll elems + uptoBulkAll spare + 1
  | .agg parts => uptoBulkAll parts + 1
  | .iface _ d => uptoBulk d + 1
  | .map entries => uptoBulkEntries entries + 1
  | .held _ => 1
def uptoBulkAll {H : Type} : List (DataW H) → Nat
  | [] => 0
  | d :: r => uptoBulk d + uptoBulkAll r
def uptoBulkEntries {H : Type} : List (Lit × DataW H) → Nat
  | [] => 0
  | x :: r => uptoBulkEntry x + uptoBulkEntries r
def uptoBulkEntry {H : Type} : Lit × DataW H → Nat
  | (.string bytes, d) => bytes.length + uptoBulk d + 1
  | (_, d) => uptoBulk d + 1
 end
def uptoSmall : (H : Type) → List (DataW H) → Bool := fun _ ds => decide (uptoBulkAll ds ≤ 1048576)
def OpenSpec.upto (s : _root_.Go.ChangeSpec) : _root_.Go.OpenSpec := { _root_.Go.OpenSpec.ofChange s with cond := some uptoSmall }

/-- 'laws.FnExactVerifySum', WHERE WHAT IT READS IS OF BULK AT MOST 1048576: true; the input reads as it did. -/
def fnExactVerifySumUptoRow : OpenClaim := { program := "ytljlimlgdnbllaa", sum := "5d02143d3841560606095269e2da4e5a29fc2e464fa887383a56efd425f6bc38", func := "loop.example/g00878/laws.FnExactVerifySum", spec := "fnExactVerifySum", unfollowed := true, recurses := true, apart := false, narrowed := true }
def FnExactVerifySumUptoSaid : Prop := fnExactVerifySumUptoRow.holds Try.pinned (OpenSpec.upto fnExactVerifySumSpec)

/-- 'laws.FnExactVerifyOpening', WHERE WHAT IT READS IS OF BULK AT MOST 1048576: true; the input reads as it did. -/
def fnExactVerifyOpeningUptoRow : OpenClaim := { program := "ytljlimlgdnbllaa", sum := "5d02143d3841560606095269e2da4e5a29fc2e464fa887383a56efd425f6bc38", func := "loop.example/g00878/laws.FnExactVerifyOpening", spec := "fnExactVerifyOpening", unfollowed := true, recurses := true, apart := false, narrowed := true }
def FnExactVerifyOpeningUptoSaid : Prop := fnExactVerifyOpeningUptoRow.holds Try.pinned (OpenSpec.upto fnExactVerifyOpeningSpec)

/-- 'laws.FnExactProveOpening', WHERE WHAT IT READS IS OF BULK AT MOST 1048576: true; the input reads as it did. -/
def fnExactProveOpeningUptoRow : OpenClaim := { program := "ytljlimlgdnbllaa", sum := "5d02143d3841560606095269e2da4e5a29fc2e464fa887383a56efd425f6bc38", func := "loop.example/g00878/laws.FnExactProveOpening", spec := "fnExactProveOpening", unfollowed := true, recurses := true, apart := false, narrowed := true }
def FnExactProveOpeningUptoSaid : Prop := fnExactProveOpeningUptoRow.holds Try.pinned (OpenSpec.upto fnExactProveOpeningSpec)

/-- 'laws.FnExactVerifyBit', WHERE WHAT IT READS IS OF BULK AT MOST 1048576: true; the input reads as it did. -/
def fnExactVerifyBitUptoRow : OpenClaim := { program := "ytljlimlgdnbllaa", sum := "5d02143d3841560606095269e2da4e5a29fc2e464fa887383a56efd425f6bc38", func := "loop.example/g00878/laws.FnExactVerifyBit", spec := "fnExactVerifyBit", unfollowed := true, recurses := true, apart := false, narrowed := true }
def FnExactVerifyBitUptoSaid : Prop := fnExactVerifyBitUptoRow.holds Try.pinned (OpenSpec.upto fnExactVerifyBitSpec)

/-- 'laws.FnExactProveBit', WHERE WHAT IT READS IS OF BULK AT MOST 1048576: true; the input reads as it did. -/
def fnExactProveBitUptoRow : OpenClaim := { program := "ytljlimlgdnbllaa", sum := "5d02143d3841560606095269e2da4e5a29fc2e464fa887383a56efd425f6bc38", func := "loop.example/g00878/laws.FnExactProveBit", spec := "fnExactProveBit", unfollowed := true, recurses := true, apart := false, narrowed := true }
def FnExactProveBitUptoSaid : Prop := fnExactProveBitUptoRow.holds Try.pinned (OpenSpec.upto fnExactProveBitSpec)

/-- 'laws.FnExactProveSum', WHERE WHAT IT READS IS OF BULK AT MOST 1048576: true; the input reads as it did. -/
def fnExactProveSumUptoRow : OpenClaim := { program := "ytljlimlgdnbllaa", sum := "5d02143d3841560606095269e2da4e5a29fc2e464fa887383a56efd425f6bc38", func := "loop.example/g00878/laws.FnExactProveSum", spec := "fnExactProveSum", unfollowed := true, recurses := true, apart := false, narrowed := true }
def FnExactProveSumUptoSaid : Prop := fnExactProveSumUptoRow.holds Try.pinned (OpenSpec.upto fnExactProveSumSpec)

/-- 'laws.FnExactProveEqual', WHERE WHAT IT READS IS OF BULK AT MOST 1048576: true; the input reads as it did. -/
def fnExactProveEqualUptoRow : OpenClaim := { program := "ytljlimlgdnbllaa", sum := "5d02143d3841560606095269e2da4e5a29fc2e464fa887383a56efd425f6bc38", func := "loop.example/g00878/laws.FnExactProveEqual", spec := "fnExactProveEqual", unfollowed := true, recurses := true, apart := false, narrowed := true }
def FnExactProveEqualUptoSaid : Prop := fnExactProveEqualUptoRow.holds Try.pinned (OpenSpec.upto fnExactProveEqualSpec)

/-- 'laws.FnExactVerifyOneOf', WHERE WHAT IT READS IS OF BULK AT MOST 1048576: true; the input reads as it did. -/
def fnExactVerifyOneOfUptoRow : OpenClaim := { program := "ytljlimlgdnbllaa", sum := "5d02143d3841560606095269e2da4e5a29fc2e464fa887383a56efd425f6bc38", func := "loop.example/g00878/laws.FnExactVerifyOneOf", spec := "fnExactVerifyOneOf", unfollowed := true, recurses := true, apart := false, narrowed := true }
def FnExactVerifyOneOfUptoSaid : Prop := fnExactVerifyOneOfUptoRow.holds Try.pinned (OpenSpec.upto fnExactVerifyOneOfSpec)

/-- 'laws.FnExactProveOneOf', WHERE WHAT IT READS IS OF BULK AT MOST 1048576: true; the input reads as it did. -/
def fnExactProveOneOfUptoRow : OpenClaim := { program := "ytljlimlgdnbllaa", sum := "5d02143d3841560606095269e2da4e5a29fc2e464fa887383a56efd425f6bc38", func := "loop.example/g00878/laws.FnExactProveOneOf", spec := "fnExactProveOneOf", unfollowed := true, recurses := true, apart := false, narrowed := true }
def FnExactProveOneOfUptoSaid : Prop := fnExactProveOneOfUptoRow.holds Try.pinned (OpenSpec.upto fnExactProveOneOfSpec)

/-- 'laws.FnExactVerifyLinear', WHERE WHAT IT READS IS OF BULK AT MOST 1048576: true; the input reads as it did. -/
def fnExactVerifyLinearUptoRow : OpenClaim := { program := "ytljlimlgdnbllaa", sum := "5d02143d3841560606095269e2da4e5a29fc2e464fa887383a56efd425f6bc38", func := "loop.example/g00878/laws.FnExactVerifyLinear", spec := "fnExactVerifyLinear", unfollowed := true, recurses := true, apart := false, narrowed := true }
def FnExactVerifyLinearUptoSaid : Prop := fnExactVerifyLinearUptoRow.holds Try.pinned (OpenSpec.upto fnExactVerifyLinearSpec)

/-- 'laws.FnExactProveLinear', WHERE WHAT IT READS IS OF BULK AT MOST 1048576: true; the input reads as it did. -/
def fnExactProveLinearUptoRow : OpenClaim := { program := "ytljlimlgdnbllaa", sum := "5d02143d3841560606095269e2da4e5a29fc2e464fa887383a56efd425f6bc38", func := "loop.example/g00878/laws.FnExactProveLinear", spec := "fnExactProveLinear", unfollowed := true, recurses := true, apart := false, narrowed := true }
def FnExactProveLinearUptoSaid : Prop := fnExactProveLinearUptoRow.holds Try.pinned (OpenSpec.upto fnExactProveLinearSpec)

/-- 'laws.FnExactExtractOneOf', WHERE WHAT IT READS IS OF BULK AT MOST 1048576: true; the input reads as it did. -/
def fnExactExtractOneOfUptoRow : OpenClaim := { program := "ytljlimlgdnbllaa", sum := "5d02143d3841560606095269e2da4e5a29fc2e464fa887383a56efd425f6bc38", func := "loop.example/g00878/laws.FnExactExtractOneOf", spec := "fnExactExtractOneOf", unfollowed := true, recurses := true, apart := false, narrowed := true }
def FnExactExtractOneOfUptoSaid : Prop := fnExactExtractOneOfUptoRow.holds Try.pinned (OpenSpec.upto fnExactExtractOneOfSpec)

end Rows
end Go.Proofs.Ytljlimlgdnbllaa
