/- Contracts of functions that hand their argument on. -/
import Derived.Test.YtgnnmifpfgpllaaGreatZD20
import Derived.Test.YtgnnmifpfgpllaaGreatZAJ
/- Plain mathematics: values of products of polynomials, basis polynomials. -/
set_option linter.all false
set_option linter.unusedVariables false
set_option linter.unusedSimpArgs false
namespace Go.Proofs.YtgnnmifpfgpllaaGreat
open Go.RowKit
/-- the other points -/
def others (xs : List Int) (i : Nat) : List Int := xs.take i ++ xs.drop (i + 1)
/-- points of trustees -/
structure PtsOK (q : Int) (xs : List Int) : Prop where
  pr : M.Prime q
  big : 7 < q ∧ q ≤ 2000000000
  len : xs.length ≤ 7
  bd : ∀ x ∈ xs, 1 ≤ x ∧ x ≤ 7
  nd : xs.Nodup
end Go.Proofs.YtgnnmifpfgpllaaGreat

set_option linter.all false
set_option linter.unusedVariables false
set_option linter.unusedSimpArgs false
namespace Go.Proofs.YtgnnmifpfgpllaaGreat
open Go.RowKit
def AV.isSl : AV → Bool
  | .own _ _ => true
  | .sl _ _ => true
  | .lit (.slice _ _ _) => true
  | _ => false
/-- the result is the argument's cells -/
def Con.same (n : Nat) : Con where
  run _ _ args := match args with
    | [.agg cs] => if cs.length = n ∧ cs.all AV.isSl = true then some (True, .agg cs, [], []) else none
    | _ => none
  congr _ _ _ _ _ hs _ := hs
end Go.Proofs.YtgnnmifpfgpllaaGreat
