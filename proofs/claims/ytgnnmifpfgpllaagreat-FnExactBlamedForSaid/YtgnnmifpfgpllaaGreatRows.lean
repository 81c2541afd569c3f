/-
  No cell of these rows narrows 'for every input' (looked for: loops, veiled, ifaces, maps, wideKeys, modest, calm, conditions, laid).
  DERIVED. THE GIVEN ROWS OF THIS SEAT. 3 by the template 'for every input the law returns true; each argument reads behind the call as it read before'; 0 by the template 'total and deterministic' (their statements: YtgnnmifpfgpllaaGreatTotals.lean).
  GIVEN WITH THE SEED: the statements are not yours to turn. If you find one false, say at which input.
  Laid BY PROGRAM, IN A SANDBOX (cutbox-rows.mjs): the forced cells as the released guide's own fill.sh prints them over the translation 64a0822f9d4b8d91… (all of the seat's roots in one cut). By AI agents, Wed Nov 11 2026. No macro, syntax, notation, axiom, sorry.
-/
import Derived.Test.YtgnnmifpfgpllaaGreatChecked
import GoSem.Claim
import GoSem.ClaimJoined
import GoSem.ClaimMapViews
import Derived.JoinedTies
import Derived.KernelRfl
namespace Go.Proofs.YtgnnmifpfgpllaaGreat
/- THE CELL 'sum', in the pinned program and in every row, IS THE sha256 OF THE DUMP (.gsa) THAT YtgnnmifpfgpllaaGreatProg.lean LOADS. Nothing in Lean hashes anything: it is a label: what it is worth is what the hold of that sum in a sandbox is worth. -/
noncomputable def Tryz.pinned : Pinned := { name := "ytgnnmifpfgpllaagreat", sum := "64a0822f9d4b8d91ea6e87900f79a0f80311480bb7afd2d328c51aa8287feeec", checked := Tryz.checked }
namespace Rows
def none {H : Type} : Left H := { results := [], args := [] }

/-- 'laws.FnExactBlamedFor': WHATEVER THE INPUT: true; the input reads as it did. -/
def fnExactBlamedForSpec : ChangeSpec := { name := "fnExactBlamedFor", fn := fun _ => fun
  | [d1, d2, d3, d4] => { results := [.lit (.bool true)], args := [d1, d2, d3, d4] }
  | _ => none }
def fnExactBlamedForRow : OpenClaim := { program := "ytgnnmifpfgpllaagreat", sum := "64a0822f9d4b8d91ea6e87900f79a0f80311480bb7afd2d328c51aa8287feeec", func := "loop.example/g00878/laws.FnExactBlamedFor", spec := "fnExactBlamedFor", unfollowed := true, recurses := true, apart := false }
def FnExactBlamedForSaid : Prop := fnExactBlamedForRow.holds Tryz.pinned (OpenSpec.ofChange fnExactBlamedForSpec)

/-- ITS FALSE NEIGHBOUR: 'it returns false'. Refute it at one input. -/
def fnExactBlamedForWrong : ChangeSpec := { name := "fnExactBlamedFor", fn := fun _ => fun
  | [d1, d2, d3, d4] => { results := [.lit (.bool false)], args := [d1, d2, d3, d4] }
  | _ => none }
def FnExactBlamedForWrongFalsely : Prop := fnExactBlamedForRow.holds Tryz.pinned (OpenSpec.ofChange fnExactBlamedForWrong)

/-- 'laws.FnExactCombineExp': WHATEVER THE INPUT: true; the input reads as it did. -/
def fnExactCombineExpSpec : ChangeSpec := { name := "fnExactCombineExp", fn := fun _ => fun
  | [d1, d2, d3, d4, d5] => { results := [.lit (.bool true)], args := [d1, d2, d3, d4, d5] }
  | _ => none }
def fnExactCombineExpRow : OpenClaim := { program := "ytgnnmifpfgpllaagreat", sum := "64a0822f9d4b8d91ea6e87900f79a0f80311480bb7afd2d328c51aa8287feeec", func := "loop.example/g00878/laws.FnExactCombineExp", spec := "fnExactCombineExp", unfollowed := true, recurses := true, apart := false }
def FnExactCombineExpSaid : Prop := fnExactCombineExpRow.holds Tryz.pinned (OpenSpec.ofChange fnExactCombineExpSpec)

/-- ITS FALSE NEIGHBOUR: 'it returns false'. Refute it at one input. -/
def fnExactCombineExpWrong : ChangeSpec := { name := "fnExactCombineExp", fn := fun _ => fun
  | [d1, d2, d3, d4, d5] => { results := [.lit (.bool false)], args := [d1, d2, d3, d4, d5] }
  | _ => none }
def FnExactCombineExpWrongFalsely : Prop := fnExactCombineExpRow.holds Tryz.pinned (OpenSpec.ofChange fnExactCombineExpWrong)

/-- 'laws.FnExactDecryptAll': WHATEVER THE INPUT: true; the input reads as it did. -/
def fnExactDecryptAllSpec : ChangeSpec := { name := "fnExactDecryptAll", fn := fun _ => fun
  | [d1, d2, d3, d4] => { results := [.lit (.bool true)], args := [d1, d2, d3, d4] }
  | _ => none }
def fnExactDecryptAllRow : OpenClaim := { program := "ytgnnmifpfgpllaagreat", sum := "64a0822f9d4b8d91ea6e87900f79a0f80311480bb7afd2d328c51aa8287feeec", func := "loop.example/g00878/laws.FnExactDecryptAll", spec := "fnExactDecryptAll", unfollowed := true, recurses := true, apart := false }
def FnExactDecryptAllSaid : Prop := fnExactDecryptAllRow.holds Tryz.pinned (OpenSpec.ofChange fnExactDecryptAllSpec)

/-- ITS FALSE NEIGHBOUR: 'it returns false'. Refute it at one input. -/
def fnExactDecryptAllWrong : ChangeSpec := { name := "fnExactDecryptAll", fn := fun _ => fun
  | [d1, d2, d3, d4] => { results := [.lit (.bool false)], args := [d1, d2, d3, d4] }
  | _ => none }
def FnExactDecryptAllWrongFalsely : Prop := fnExactDecryptAllRow.holds Tryz.pinned (OpenSpec.ofChange fnExactDecryptAllWrong)

/- THE SECOND FORM. 'bulk': how many values and letters a reading holds, each counted each time it is reached (what is shared counts as often as it is met; a slice's spare places count too). A statement '..UptoSaid' is the law's where the arguments, and the package variables that the reading takes, are together of bulk at most 1048576: NARROWER than '..Said'. Prove '..Said' where nothing that the law and all that it calls make is longer than what came in: it says more and counts as full. Else prove '..UptoSaid'. A law counts once. -/
mutual
def uptoBulk {H : Type} : DataW H → Nat
  | .lit (.string bytes) => bytes.length + 1
  | .lit _ => 1
  | .nil => 1
  | .ptr d => uptoBulk d + 1
  | .slice elems spare => uptoBulkAll elems + uptoBulkAll spare + 1
  | .agg parts => uptoBulkAll parts + 1
  | .iface _ d => uptoBulk d + 1
  | .map entries => uptoBulkEntries entries + 1
  | .held _ => 1
def uptoBulkAll {H : Type} : List (DataW H) → Nat
  | [] => 0
  | d :: r => uptoBulk d + uptoBulkAll r
def uptoBulkEntries {H : Type} : List (Lit × DataW H) → Nat
  | [] => 0
  | x :: r => uptoBulkEntry x + uptoBulkEntries r
def uptoBulkEntry {H : Type} : Lit × DataW H → Nat
  | (.string bytes, d) => bytes.length + uptoBulk d + 1
  | (_, d) => uptoBulk d + 1
 end
def uptoSmall : (H : Type) → List (DataW H) → Bool := fun _ ds => decide (uptoBulkAll ds ≤ 1048576)
def OpenSpec.upto (s : _root_.Go.ChangeSpec) : _root_.Go.OpenSpec := { _root_.Go.OpenSpec.ofChange s with cond := some uptoSmall }

/-- 'laws.FnExactBlamedFor', WHERE WHAT IT READS IS OF BULK AT MOST 1048576: true; the input reads as it did. -/
def fnExactBlamedForUptoRow : OpenClaim := { program := "ytgnnmifpfgpllaagreat", sum := "64a0822f9d4b8d91ea6e87900f79a0f80311480bb7afd2d328c51aa8287feeec", func := "loop.example/g00878/laws.FnExactBlamedFor", spec := "fnExactBlamedFor", unfollowed := true, recurses := true, apart := false, narrowed := true }
def FnExactBlamedForUptoSaid : Prop := fnExactBlamedForUptoRow.holds Tryz.pinned (OpenSpec.upto fnExactBlamedForSpec)

/-- 'laws.FnExactCombineExp', WHERE WHAT IT READS IS OF BULK AT MOST 1048576: true; the input reads as it did. -/
def fnExactCombineExpUptoRow : OpenClaim := { program := "ytgnnmifpfgpllaagreat", sum := "64a0822f9d4b8d91ea6e87900f79a0f80311480bb7afd2d328c51aa8287feeec", func := "loop.example/g00878/laws.FnExactCombineExp", spec := "fnExactCombineExp", unfollowed := true, recurses := true, apart := false, narrowed := true }
def FnExactCombineExpUptoSaid : Prop := fnExactCombineExpUptoRow.holds Tryz.pinned (OpenSpec.upto fnExactCombineExpSpec)

/-- 'laws.FnExactDecryptAll', WHERE WHAT IT READS IS OF BULK AT MOST 1048576: true; the input reads as it did. -/
def fnExactDecryptAllUptoRow : OpenClaim := { program := "ytgnnmifpfgpllaagreat", sum := "64a0822f9d4b8d91ea6e87900f79a0f80311480bb7afd2d328c51aa8287feeec", func := "loop.example/g00878/laws.FnExactDecryptAll", spec := "fnExactDecryptAll", unfollowed := true, recurses := true, apart := false, narrowed := true }
def FnExactDecryptAllUptoSaid : Prop := fnExactDecryptAllUptoRow.holds Tryz.pinned (OpenSpec.upto fnExactDecryptAllSpec)

end Rows
end Go.Proofs.YtgnnmifpfgpllaaGreat
