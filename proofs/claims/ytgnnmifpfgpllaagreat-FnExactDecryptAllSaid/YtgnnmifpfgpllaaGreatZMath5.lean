import Derived.Test.YtgnnmifpfgpllaaGreatZD24
/- Plain mathematics: shares of one polynomial. -/
set_option linter.all false
set_option linter.unusedVariables false
set_option linter.unusedSimpArgs false
namespace Go.Proofs.YtgnnmifpfgpllaaGreat
open Go.RowKit
theorem hasN_iff {n : Int} {xs : List Int} : hasN n xs = true ↔ n ∈ xs := by simp [hasN]
end Go.Proofs.YtgnnmifpfgpllaaGreat
