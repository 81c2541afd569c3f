import Derived.Test.YtljlimlgdnbllaaZD11
import Derived.Test.YtljlimlgdnbllaaZB7
/- VerifyOneOf on both sides. -/
set_option linter.all false
set_option linter.unusedVariables false
set_option linter.unusedSimpArgs false
namespace Go.Proofs.Ytljlimlgdnbllaa
open Go.RowKit
theorem expsB_all12 {q : Int} {xs : List Int} (h : expsB q xs = true) : ∀ x ∈ xs, 0 ≤ x ∧ x < q := fun x hx => expsB_mem h hx
end Go.Proofs.Ytljlimlgdnbllaa
