/-
  No cell of these rows narrows 'for every input' (looked for: loops, veiled, ifaces, maps, wideKeys, modest, calm, conditions, laid).
  DERIVED. THE GIVEN ROWS OF THIS SEAT. 12 by the template 'for every input the law returns true; each argument reads behind the call as it read before'; 0 by the template 'total and deterministic' (their statements: YtlggpehioflbdaaTotals.lean).
  GIVEN WITH THE SEED: the statements are not yours to turn. If you find one false, say at which input.
  Laid BY PROGRAM, IN A SANDBOX (cutbox-rows.mjs): the forced cells as the released guide's own fill.sh prints them over the translation 3f221b3dae301f27… (all of the seat's roots in one cut). By AI agents, Wed Nov 11 2026. No macro, syntax, notation, axiom, sorry.
-/
import Derived.Test.YtlggpehioflbdaaChecked
import GoSem.Claim
import GoSem.ClaimJoined
import GoSem.ClaimMapViews
import Derived.JoinedTies
import Derived.KernelRfl
namespace Go.Proofs.Ytlggpehioflbdaa
/- THE CELL 'sum', in the pinned program and in every row, IS THE sha256 OF THE DUMP (.gsa) THAT YtlggpehioflbdaaProg.lean LOADS. Nothing in Lean hashes anything: it is a label: what it is worth is what the hold of that sum in a sandbox is worth. -/
noncomputable def Try.pinned : Pinned := { name := "ytlggpehioflbdaa", sum := "3f221b3dae301f27ca3cc82a402a966bb24ba9b2e95712557873cb580a833835", checked := Try.checked }
namespace Rows
def none {H : Type} : Left H := { results := [], args := [] }

/-- 'laws.FnExactComplaintsIn': WHATEVER THE INPUT: true; the input reads as it did. -/
def fnExactComplaintsInSpec : ChangeSpec := { name := "fnExactComplaintsIn", fn := fun _ => fun
  | [d1, d2] => { results := [.lit (.bool true)], args := [d1, d2] }
  | _ => none }
def fnExactComplaintsInRow : OpenClaim := { program := "ytlggpehioflbdaa", sum := "3f221b3dae301f27ca3cc82a402a966bb24ba9b2e95712557873cb580a833835", func := "loop.example/g00878/laws.FnExactComplaintsIn", spec := "fnExactComplaintsIn", unfollowed := true, recurses := true, apart := false }
def FnExactComplaintsInSaid : Prop := fnExactComplaintsInRow.holds Try.pinned (OpenSpec.ofChange fnExactComplaintsInSpec)

/-- ITS FALSE NEIGHBOUR: 'it returns false'. Refute it at one input. -/
def fnExactComplaintsInWrong : ChangeSpec := { name := "fnExactComplaintsIn", fn := fun _ => fun
  | [d1, d2] => { results := [.lit (.bool false)], args := [d1, d2] }
  | _ => none }
def FnExactComplaintsInWrongFalsely : Prop := fnExactComplaintsInRow.holds Try.pinned (OpenSpec.ofChange fnExactComplaintsInWrong)

/-- 'laws.FnExactQualifiedIn': WHATEVER THE INPUT: true; the input reads as it did. -/
def fnExactQualifiedInSpec : ChangeSpec := { name := "fnExactQualifiedIn", fn := fun _ => fun
  | [d1, d2, d3] => { results := [.lit (.bool true)], args := [d1, d2, d3] }
  | _ => none }
def fnExactQualifiedInRow : OpenClaim := { program := "ytlggpehioflbdaa", sum := "3f221b3dae301f27ca3cc82a402a966bb24ba9b2e95712557873cb580a833835", func := "loop.example/g00878/laws.FnExactQualifiedIn", spec := "fnExactQualifiedIn", unfollowed := true, recurses := true, apart := false }
def FnExactQualifiedInSaid : Prop := fnExactQualifiedInRow.holds Try.pinned (OpenSpec.ofChange fnExactQualifiedInSpec)

/-- ITS FALSE NEIGHBOUR: 'it returns false'. Refute it at one input. -/
def fnExactQualifiedInWrong : ChangeSpec := { name := "fnExactQualifiedIn", fn := fun _ => fun
  | [d1, d2, d3] => { results := [.lit (.bool false)], args := [d1, d2, d3] }
  | _ => none }
def FnExactQualifiedInWrongFalsely : Prop := fnExactQualifiedInRow.holds Try.pinned (OpenSpec.ofChange fnExactQualifiedInWrong)

/-- 'laws.FnExactPlayDealers': WHATEVER THE INPUT: true; the input reads as it did. -/
def fnExactPlayDealersSpec : ChangeSpec := { name := "fnExactPlayDealers", fn := fun _ => fun
  | [d1, d2, d3] => { results := [.lit (.bool true)], args := [d1, d2, d3] }
  | _ => none }
def fnExactPlayDealersRow : OpenClaim := { program := "ytlggpehioflbdaa", sum := "3f221b3dae301f27ca3cc82a402a966bb24ba9b2e95712557873cb580a833835", func := "loop.example/g00878/laws.FnExactPlayDealers", spec := "fnExactPlayDealers", unfollowed := true, recurses := true, apart := false }
def FnExactPlayDealersSaid : Prop := fnExactPlayDealersRow.holds Try.pinned (OpenSpec.ofChange fnExactPlayDealersSpec)

/-- ITS FALSE NEIGHBOUR: 'it returns false'. Refute it at one input. -/
def fnExactPlayDealersWrong : ChangeSpec := { name := "fnExactPlayDealers", fn := fun _ => fun
  | [d1, d2, d3] => { results := [.lit (.bool false)], args := [d1, d2, d3] }
  | _ => none }
def FnExactPlayDealersWrongFalsely : Prop := fnExactPlayDealersRow.holds Try.pinned (OpenSpec.ofChange fnExactPlayDealersWrong)

/-- 'laws.FnExactCombineKey': WHATEVER THE INPUT: true; the input reads as it did. -/
def fnExactCombineKeySpec : ChangeSpec := { name := "fnExactCombineKey", fn := fun _ => fun
  | [d1, d2, d3] => { results := [.lit (.bool true)], args := [d1, d2, d3] }
  | _ => none }
def fnExactCombineKeyRow : OpenClaim := { program := "ytlggpehioflbdaa", sum := "3f221b3dae301f27ca3cc82a402a966bb24ba9b2e95712557873cb580a833835", func := "loop.example/g00878/laws.FnExactCombineKey", spec := "fnExactCombineKey", unfollowed := true, recurses := true, apart := false }
def FnExactCombineKeySaid : Prop := fnExactCombineKeyRow.holds Try.pinned (OpenSpec.ofChange fnExactCombineKeySpec)

/-- ITS FALSE NEIGHBOUR: 'it returns false'. Refute it at one input. -/
def fnExactCombineKeyWrong : ChangeSpec := { name := "fnExactCombineKey", fn := fun _ => fun
  | [d1, d2, d3] => { results := [.lit (.bool false)], args := [d1, d2, d3] }
  | _ => none }
def FnExactCombineKeyWrongFalsely : Prop := fnExactCombineKeyRow.holds Try.pinned (OpenSpec.ofChange fnExactCombineKeyWrong)

/-- 'laws.FnExactCheckKeyGen': WHATEVER THE INPUT: true; the input reads as it did. -/
def fnExactCheckKeyGenSpec : ChangeSpec := { name := "fnExactCheckKeyGen", fn := fun _ => fun
  | [d1, d2, d3, d4] => { results := [.lit (.bool true)], args := [d1, d2, d3, d4] }
  | _ => none }
def fnExactCheckKeyGenRow : OpenClaim := { program := "ytlggpehioflbdaa", sum := "3f221b3dae301f27ca3cc82a402a966bb24ba9b2e95712557873cb580a833835", func := "loop.example/g00878/laws.FnExactCheckKeyGen", spec := "fnExactCheckKeyGen", unfollowed := true, recurses := true, apart := false }
def FnExactCheckKeyGenSaid : Prop := fnExactCheckKeyGenRow.holds Try.pinned (OpenSpec.ofChange fnExactCheckKeyGenSpec)

/-- ITS FALSE NEIGHBOUR: 'it returns false'. Refute it at one input. -/
def fnExactCheckKeyGenWrong : ChangeSpec := { name := "fnExactCheckKeyGen", fn := fun _ => fun
  | [d1, d2, d3, d4] => { results := [.lit (.bool false)], args := [d1, d2, d3, d4] }
  | _ => none }
def FnExactCheckKeyGenWrongFalsely : Prop := fnExactCheckKeyGenRow.holds Try.pinned (OpenSpec.ofChange fnExactCheckKeyGenWrong)

/-- 'laws.FnExactProveDealer': WHATEVER THE INPUT: true; the input reads as it did. -/
def fnExactProveDealerSpec : ChangeSpec := { name := "fnExactProveDealer", fn := fun _ => fun
  | [d1, d2, d3] => { results := [.lit (.bool true)], args := [d1, d2, d3] }
  | _ => none }
def fnExactProveDealerRow : OpenClaim := { program := "ytlggpehioflbdaa", sum := "3f221b3dae301f27ca3cc82a402a966bb24ba9b2e95712557873cb580a833835", func := "loop.example/g00878/laws.FnExactProveDealer", spec := "fnExactProveDealer", unfollowed := true, recurses := true, apart := false }
def FnExactProveDealerSaid : Prop := fnExactProveDealerRow.holds Try.pinned (OpenSpec.ofChange fnExactProveDealerSpec)

/-- ITS FALSE NEIGHBOUR: 'it returns false'. Refute it at one input. -/
def fnExactProveDealerWrong : ChangeSpec := { name := "fnExactProveDealer", fn := fun _ => fun
  | [d1, d2, d3] => { results := [.lit (.bool false)], args := [d1, d2, d3] }
  | _ => none }
def FnExactProveDealerWrongFalsely : Prop := fnExactProveDealerRow.holds Try.pinned (OpenSpec.ofChange fnExactProveDealerWrong)

/-- 'laws.FnExactVerifyDealer': WHATEVER THE INPUT: true; the input reads as it did. -/
def fnExactVerifyDealerSpec : ChangeSpec := { name := "fnExactVerifyDealer", fn := fun _ => fun
  | [d1, d2, d3] => { results := [.lit (.bool true)], args := [d1, d2, d3] }
  | _ => none }
def fnExactVerifyDealerRow : OpenClaim := { program := "ytlggpehioflbdaa", sum := "3f221b3dae301f27ca3cc82a402a966bb24ba9b2e95712557873cb580a833835", func := "loop.example/g00878/laws.FnExactVerifyDealer", spec := "fnExactVerifyDealer", unfollowed := true, recurses := true, apart := false }
def FnExactVerifyDealerSaid : Prop := fnExactVerifyDealerRow.holds Try.pinned (OpenSpec.ofChange fnExactVerifyDealerSpec)

/-- ITS FALSE NEIGHBOUR: 'it returns false'. Refute it at one input. -/
def fnExactVerifyDealerWrong : ChangeSpec := { name := "fnExactVerifyDealer", fn := fun _ => fun
  | [d1, d2, d3] => { results := [.lit (.bool false)], args := [d1, d2, d3] }
  | _ => none }
def FnExactVerifyDealerWrongFalsely : Prop := fnExactVerifyDealerRow.holds Try.pinned (OpenSpec.ofChange fnExactVerifyDealerWrong)

/-- 'laws.FnExactPartialDecrypt': WHATEVER THE INPUT: true; the input reads as it did. -/
def fnExactPartialDecryptSpec : ChangeSpec := { name := "fnExactPartialDecrypt", fn := fun _ => fun
  | [d1, d2, d3, d4, d5] => { results := [.lit (.bool true)], args := [d1, d2, d3, d4, d5] }
  | _ => none }
def fnExactPartialDecryptRow : OpenClaim := { program := "ytlggpehioflbdaa", sum := "3f221b3dae301f27ca3cc82a402a966bb24ba9b2e95712557873cb580a833835", func := "loop.example/g00878/laws.FnExactPartialDecrypt", spec := "fnExactPartialDecrypt", unfollowed := true, recurses := true, apart := false }
def FnExactPartialDecryptSaid : Prop := fnExactPartialDecryptRow.holds Try.pinned (OpenSpec.ofChange fnExactPartialDecryptSpec)

/-- ITS FALSE NEIGHBOUR: 'it returns false'. Refute it at one input. -/
def fnExactPartialDecryptWrong : ChangeSpec := { name := "fnExactPartialDecrypt", fn := fun _ => fun
  | [d1, d2, d3, d4, d5] => { results := [.lit (.bool false)], args := [d1, d2, d3, d4, d5] }
  | _ => none }
def FnExactPartialDecryptWrongFalsely : Prop := fnExactPartialDecryptRow.holds Try.pinned (OpenSpec.ofChange fnExactPartialDecryptWrong)

/-- 'laws.FnExactVerifyPartial': WHATEVER THE INPUT: true; the input reads as it did. -/
def fnExactVerifyPartialSpec : ChangeSpec := { name := "fnExactVerifyPartial", fn := fun _ => fun
  | [d1, d2, d3, d4] => { results := [.lit (.bool true)], args := [d1, d2, d3, d4] }
  | _ => none }
def fnExactVerifyPartialRow : OpenClaim := { program := "ytlggpehioflbdaa", sum := "3f221b3dae301f27ca3cc82a402a966bb24ba9b2e95712557873cb580a833835", func := "loop.example/g00878/laws.FnExactVerifyPartial", spec := "fnExactVerifyPartial", unfollowed := true, recurses := true, apart := false }
def FnExactVerifyPartialSaid : Prop := fnExactVerifyPartialRow.holds Try.pinned (OpenSpec.ofChange fnExactVerifyPartialSpec)

/-- ITS FALSE NEIGHBOUR: 'it returns false'. Refute it at one input. -/
def fnExactVerifyPartialWrong : ChangeSpec := { name := "fnExactVerifyPartial", fn := fun _ => fun
  | [d1, d2, d3, d4] => { results := [.lit (.bool false)], args := [d1, d2, d3, d4] }
  | _ => none }
def FnExactVerifyPartialWrongFalsely : Prop := fnExactVerifyPartialRow.holds Try.pinned (OpenSpec.ofChange fnExactVerifyPartialWrong)

/-- 'laws.FnExactPartialsOf': WHATEVER THE INPUT: true; the input reads as it did. -/
def fnExactPartialsOfSpec : ChangeSpec := { name := "fnExactPartialsOf", fn := fun _ => fun
  | [d1, d2, d3, d4, d5] => { results := [.lit (.bool true)], args := [d1, d2, d3, d4, d5] }
  | _ => none }
def fnExactPartialsOfRow : OpenClaim := { program := "ytlggpehioflbdaa", sum := "3f221b3dae301f27ca3cc82a402a966bb24ba9b2e95712557873cb580a833835", func := "loop.example/g00878/laws.FnExactPartialsOf", spec := "fnExactPartialsOf", unfollowed := true, recurses := true, apart := false }
def FnExactPartialsOfSaid : Prop := fnExactPartialsOfRow.holds Try.pinned (OpenSpec.ofChange fnExactPartialsOfSpec)

/-- ITS FALSE NEIGHBOUR: 'it returns false'. Refute it at one input. -/
def fnExactPartialsOfWrong : ChangeSpec := { name := "fnExactPartialsOf", fn := fun _ => fun
  | [d1, d2, d3, d4, d5] => { results := [.lit (.bool false)], args := [d1, d2, d3, d4, d5] }
  | _ => none }
def FnExactPartialsOfWrongFalsely : Prop := fnExactPartialsOfRow.holds Try.pinned (OpenSpec.ofChange fnExactPartialsOfWrong)

/-- 'laws.FnExactGoodPartials': WHATEVER THE INPUT: true; the input reads as it did. -/
def fnExactGoodPartialsSpec : ChangeSpec := { name := "fnExactGoodPartials", fn := fun _ => fun
  | [d1, d2, d3, d4] => { results := [.lit (.bool true)], args := [d1, d2, d3, d4] }
  | _ => none }
def fnExactGoodPartialsRow : OpenClaim := { program := "ytlggpehioflbdaa", sum := "3f221b3dae301f27ca3cc82a402a966bb24ba9b2e95712557873cb580a833835", func := "loop.example/g00878/laws.FnExactGoodPartials", spec := "fnExactGoodPartials", unfollowed := true, recurses := true, apart := false }
def FnExactGoodPartialsSaid : Prop := fnExactGoodPartialsRow.holds Try.pinned (OpenSpec.ofChange fnExactGoodPartialsSpec)

/-- ITS FALSE NEIGHBOUR: 'it returns false'. Refute it at one input. -/
def fnExactGoodPartialsWrong : ChangeSpec := { name := "fnExactGoodPartials", fn := fun _ => fun
  | [d1, d2, d3, d4] => { results := [.lit (.bool false)], args := [d1, d2, d3, d4] }
  | _ => none }
def FnExactGoodPartialsWrongFalsely : Prop := fnExactGoodPartialsRow.holds Try.pinned (OpenSpec.ofChange fnExactGoodPartialsWrong)

/-- 'laws.FnExactCombinePartials': WHATEVER THE INPUT: true; the input reads as it did. -/
def fnExactCombinePartialsSpec : ChangeSpec := { name := "fnExactCombinePartials", fn := fun _ => fun
  | [d1, d2, d3, d4] => { results := [.lit (.bool true)], args := [d1, d2, d3, d4] }
  | _ => none }
def fnExactCombinePartialsRow : OpenClaim := { program := "ytlggpehioflbdaa", sum := "3f221b3dae301f27ca3cc82a402a966bb24ba9b2e95712557873cb580a833835", func := "loop.example/g00878/laws.FnExactCombinePartials", spec := "fnExactCombinePartials", unfollowed := true, recurses := true, apart := false }
def FnExactCombinePartialsSaid : Prop := fnExactCombinePartialsRow.holds Try.pinned (OpenSpec.ofChange fnExactCombinePartialsSpec)

/-- ITS FALSE NEIGHBOUR: 'it returns false'. Refute it at one input. -/
def fnExactCombinePartialsWrong : ChangeSpec := { name := "fnExactCombinePartials", fn := fun _ => fun
  | [d1, d2, d3, d4] => { results := [.lit (.bool false)], args := [d1, d2, d3, d4] }
  | _ => none }
def FnExactCombinePartialsWrongFalsely : Prop := fnExactCombinePartialsRow.holds Try.pinned (OpenSpec.ofChange fnExactCombinePartialsWrong)

/- THE SECOND FORM. 'bulk': how many values and letters a reading holds, each counted each time it is reached (what is shared counts as often as it is met; a slice's spare places count too). A statement '..UptoSaid' is the law's where the arguments, and the package variables that the reading takes, are together of bulk at most 1048576: NARROWER than '..Said'. Prove '..Said' where nothing that the law and all that it calls make is longer than what came in: it says more and counts as full. Else prove '..UptoSaid'. A law counts once. -/
mutual
def uptoBulk {H : Type} : DataW H → Nat
  | .lit (.string bytes) => bytes.length + 1
  | .lit _ => 1
  | .nil => 1
  | .ptr d => uptoBulk d + 1
  | .slice elems spare => uptoBulkAll elems + uptoBulkAll spare + 1
  | .agg parts => uptoBulkAll parts + 1
  | .iface _ d => uptoBulk d + 1
  | .map entries => uptoBulkEntries entries + 1
  | .held _ => 1
def uptoBulkAll {H : Type} : List (DataW H) → Nat
  | [] => 0
  | d :: r => uptoBulk d + uptoBulkAll r
def uptoBulkEntries {H : Type} : List (Lit × DataW H) → Nat
  | [] => 0
  | x :: r => uptoBulkEntry x + uptoBulkEntries r
def uptoBulkEntry {H : Type} : Lit × DataW H → Nat
  | (.string bytes, d) => bytes.length + uptoBulk d + 1
  | (_, d) => uptoBulk d + 1
 end
def uptoSmall : (H : Type) → List (DataW H) → Bool := fun _ ds => decide (uptoBulkAll ds ≤ 1048576)
def OpenSpec.upto (s : _root_.Go.ChangeSpec) : _root_.Go.OpenSpec := { _root_.Go.OpenSpec.ofChange s with cond := some uptoSmall }

/-- 'laws.FnExactComplaintsIn', WHERE WHAT IT READS IS OF BULK AT MOST 1048576: true; the input reads as it did. -/
def fnExactComplaintsInUptoRow : OpenClaim := { program := "ytlggpehioflbdaa", sum := "3f221b3dae301f27ca3cc82a402a966bb24ba9b2e95712557873cb580a833835", func := "loop.example/g00878/laws.FnExactComplaintsIn", spec := "fnExactComplaintsIn", unfollowed := true, recurses := true, apart := false, narrowed := true }
def FnExactComplaintsInUptoSaid : Prop := fnExactComplaintsInUptoRow.holds Try.pinned (OpenSpec.upto fnExactComplaintsInSpec)

/-- 'laws.FnExactQualifiedIn', WHERE WHAT IT READS IS OF BULK AT MOST 1048576: true; the input reads as it did. -/
def fnExactQualifiedInUptoRow : OpenClaim := { program := "ytlggpehioflbdaa", sum := "3f221b3dae301f27ca3cc82a402a966bb24ba9b2e95712557873cb580a833835", func := "loop.example/g00878/laws.FnExactQualifiedIn", spec := "fnExactQualifiedIn", unfollowed := true, recurses := true, apart := false, narrowed := true }
def FnExactQualifiedInUptoSaid : Prop := fnExactQualifiedInUptoRow.holds Try.pinned (OpenSpec.upto fnExactQualifiedInSpec)

/-- 'laws.FnExactPlayDealers', WHERE WHAT IT READS IS OF BULK AT MOST 1048576: true; the input reads as it did. -/
def fnExactPlayDealersUptoRow : OpenClaim := { program := "ytlggpehioflbdaa", sum := "3f221b3dae301f27ca3cc82a402a966bb24ba9b2e95712557873cb580a833835", func := "loop.example/g00878/laws.FnExactPlayDealers", spec := "fnExactPlayDealers", unfollowed := true, recurses := true, apart := false, narrowed := true }
def FnExactPlayDealersUptoSaid : Prop := fnExactPlayDealersUptoRow.holds Try.pinned (OpenSpec.upto fnExactPlayDealersSpec)

/-- 'laws.FnExactCombineKey', WHERE WHAT IT READS IS OF BULK AT MOST 1048576: true; the input reads as it did. -/
def fnExactCombineKeyUptoRow : OpenClaim := { program := "ytlggpehioflbdaa", sum := "3f221b3dae301f27ca3cc82a402a966bb24ba9b2e95712557873cb580a833835", func := "loop.example/g00878/laws.FnExactCombineKey", spec := "fnExactCombineKey", unfollowed := true, recurses := true, apart := false, narrowed := true }
def FnExactCombineKeyUptoSaid : Prop := fnExactCombineKeyUptoRow.holds Try.pinned (OpenSpec.upto fnExactCombineKeySpec)

/-- 'laws.FnExactCheckKeyGen', WHERE WHAT IT READS IS OF BULK AT MOST 1048576: true; the input reads as it did. -/
def fnExactCheckKeyGenUptoRow : OpenClaim := { program := "ytlggpehioflbdaa", sum := "3f221b3dae301f27ca3cc82a402a966bb24ba9b2e95712557873cb580a833835", func := "loop.example/g00878/laws.FnExactCheckKeyGen", spec := "fnExactCheckKeyGen", unfollowed := true, recurses := true, apart := false, narrowed := true }
def FnExactCheckKeyGenUptoSaid : Prop := fnExactCheckKeyGenUptoRow.holds Try.pinned (OpenSpec.upto fnExactCheckKeyGenSpec)

/-- 'laws.FnExactProveDealer', WHERE WHAT IT READS IS OF BULK AT MOST 1048576: true; the input reads as it did. -/
def fnExactProveDealerUptoRow : OpenClaim := { program := "ytlggpehioflbdaa", sum := "3f221b3dae301f27ca3cc82a402a966bb24ba9b2e95712557873cb580a833835", func := "loop.example/g00878/laws.FnExactProveDealer", spec := "fnExactProveDealer", unfollowed := true, recurses := true, apart := false, narrowed := true }
def FnExactProveDealerUptoSaid : Prop := fnExactProveDealerUptoRow.holds Try.pinned (OpenSpec.upto fnExactProveDealerSpec)

/-- 'laws.FnExactVerifyDealer', WHERE WHAT IT READS IS OF BULK AT MOST 1048576: true; the input reads as it did. -/
def fnExactVerifyDealerUptoRow : OpenClaim := { program := "ytlggpehioflbdaa", sum := "3f221b3dae301f27ca3cc82a402a966bb24ba9b2e95712557873cb580a833835", func := "loop.example/g00878/laws.FnExactVerifyDealer", spec := "fnExactVerifyDealer", unfollowed := true, recurses := true, apart := false, narrowed := true }
def FnExactVerifyDealerUptoSaid : Prop := fnExactVerifyDealerUptoRow.holds Try.pinned (OpenSpec.upto fnExactVerifyDealerSpec)

/-- 'laws.FnExactPartialDecrypt', WHERE WHAT IT READS IS OF BULK AT MOST 1048576: true; the input reads as it did. -/
def fnExactPartialDecryptUptoRow : OpenClaim := { program := "ytlggpehioflbdaa", sum := "3f221b3dae301f27ca3cc82a402a966bb24ba9b2e95712557873cb580a833835", func := "loop.example/g00878/laws.FnExactPartialDecrypt", spec := "fnExactPartialDecrypt", unfollowed := true, recurses := true, apart := false, narrowed := true }
def FnExactPartialDecryptUptoSaid : Prop := fnExactPartialDecryptUptoRow.holds Try.pinned (OpenSpec.upto fnExactPartialDecryptSpec)

/-- 'laws.FnExactVerifyPartial', WHERE WHAT IT READS IS OF BULK AT MOST 1048576: true; the input reads as it did. -/
def fnExactVerifyPartialUptoRow : OpenClaim := { program := "ytlggpehioflbdaa", sum := "3f221b3dae301f27ca3cc82a402a966bb24ba9b2e95712557873cb580a833835", func := "loop.example/g00878/laws.FnExactVerifyPartial", spec := "fnExactVerifyPartial", unfollowed := true, recurses := true, apart := false, narrowed := true }
def FnExactVerifyPartialUptoSaid : Prop := fnExactVerifyPartialUptoRow.holds Try.pinned (OpenSpec.upto fnExactVerifyPartialSpec)

/-- 'laws.FnExactPartialsOf', WHERE WHAT IT READS IS OF BULK AT MOST 1048576: true; the input reads as it did. -/
def fnExactPartialsOfUptoRow : OpenClaim := { program := "ytlggpehioflbdaa", sum := "3f221b3dae301f27ca3cc82a402a966bb24ba9b2e95712557873cb580a833835", func := "loop.example/g00878/laws.FnExactPartialsOf", spec := "fnExactPartialsOf", unfollowed := true, recurses := true, apart := false, narrowed := true }
def FnExactPartialsOfUptoSaid : Prop := fnExactPartialsOfUptoRow.holds Try.pinned (OpenSpec.upto fnExactPartialsOfSpec)

/-- 'laws.FnExactGoodPartials', WHERE WHAT IT READS IS OF BULK AT MOST 1048576: true; the input reads as it did. -/
def fnExactGoodPartialsUptoRow : OpenClaim := { program := "ytlggpehioflbdaa", sum := "3f221b3dae301f27ca3cc82a402a966bb24ba9b2e95712557873cb580a833835", func := "loop.example/g00878/laws.FnExactGoodPartials", spec := "fnExactGoodPartials", unfollowed := true, recurses := true, apart := false, narrowed := true }
def FnExactGoodPartialsUptoSaid : Prop := fnExactGoodPartialsUptoRow.holds Try.pinned (OpenSpec.upto fnExactGoodPartialsSpec)

/-- 'laws.FnExactCombinePartials', WHERE WHAT IT READS IS OF BULK AT MOST 1048576: true; the input reads as it did. -/
def fnExactCombinePartialsUptoRow : OpenClaim := { program := "ytlggpehioflbdaa", sum := "3f221b3dae301f27ca3cc82a402a966bb24ba9b2e95712557873cb580a833835", func := "loop.example/g00878/laws.FnExactCombinePartials", spec := "fnExactCombinePartials", unfollowed := true, recurses := true, apart := false, narrowed := true }
def FnExactCombinePartialsUptoSaid : Prop := fnExactCombinePartialsUptoRow.holds Try.pinned (OpenSpec.upto fnExactCombinePartialsSpec)

end Rows
end Go.Proofs.Ytlggpehioflbdaa
