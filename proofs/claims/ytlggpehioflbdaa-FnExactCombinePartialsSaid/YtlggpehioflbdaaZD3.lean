import Derived.Test.YtlggpehioflbdaaZB7
import Derived.Test.YtlggpehioflbdaaZB4
import Derived.Test.YtlggpehioflbdaaZAG
import Derived.Test.YtlggpehioflbdaaZB5
import Derived.Test.YtlggpehioflbdaaZL1
import Derived.Test.YtlggpehioflbdaaZD2
/- ProveSum on both sides. -/
set_option linter.all false
set_option linter.unusedVariables false
set_option linter.unusedSimpArgs false
namespace Go.Proofs.Ytlggpehioflbdaa
open Go.RowKit
theorem expsB_all {q : Int} {xs : List Int} (h : expsB q xs = true) : ∀ x ∈ xs, 0 ≤ x ∧ x < q := fun x hx => expsB_mem h hx
end Go.Proofs.Ytlggpehioflbdaa
