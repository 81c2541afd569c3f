import Derived.Test.YtgnnmifpfgpllaaZAJ
/- Contracts of functions that hand their argument on. -/
set_option linter.all false
set_option linter.unusedVariables false
set_option linter.unusedSimpArgs false
namespace Go.Proofs.Ytgnnmifpfgpllaa
open Go.RowKit
def AV.isSl : AV → Bool
  | .own _ _ => true
  | .sl _ _ => true
  | .lit (.slice _ _ _) => true
  | _ => false
/-- the result is the argument's cells -/
def Con.same (n : Nat) : Con where
  run _ _ args := match args with
    | [.agg cs] => if cs.length = n ∧ cs.all AV.isSl = true then some (True, .agg cs, [], []) else none
    | _ => none
  congr _ _ _ _ _ hs _ := hs
end Go.Proofs.Ytgnnmifpfgpllaa
