import Derived.Test.YtgnnmifpfgpllaaGreatZB7
import Derived.Test.YtgnnmifpfgpllaaGreatZB4
import Derived.Test.YtgnnmifpfgpllaaGreatZAG
import Derived.Test.YtgnnmifpfgpllaaGreatZB5
import Derived.Test.YtgnnmifpfgpllaaGreatZL1
import Derived.Test.YtgnnmifpfgpllaaGreatZD2
/- ProveSum on both sides. -/
set_option linter.all false
set_option linter.unusedVariables false
set_option linter.unusedSimpArgs false
namespace Go.Proofs.YtgnnmifpfgpllaaGreat
open Go.RowKit
theorem expsB_all {q : Int} {xs : List Int} (h : expsB q xs = true) : ∀ x ∈ xs, 0 ≤ x ∧ x < q := fun x hx => expsB_mem h hx
end Go.Proofs.YtgnnmifpfgpllaaGreat
