import Derived.Test.YtjapjmhifoeogaaZD21
/- Plain mathematics: values of products of polynomials, basis polynomials. -/
set_option linter.all false
set_option linter.unusedVariables false
set_option linter.unusedSimpArgs false
namespace Go.Proofs.Ytjapjmhifoeogaa
open Go.RowKit
/-- the other points -/
def others (xs : List Int) (i : Nat) : List Int := xs.take i ++ xs.drop (i + 1)
/-- points of trustees -/
structure PtsOK (q : Int) (xs : List Int) : Prop where
  pr : M.Prime q
  big : 7 < q ∧ q ≤ 2000000000
  len : xs.length ≤ 7
  bd : ∀ x ∈ xs, 1 ≤ x ∧ x ≤ 7
  nd : xs.Nodup
end Go.Proofs.Ytjapjmhifoeogaa
