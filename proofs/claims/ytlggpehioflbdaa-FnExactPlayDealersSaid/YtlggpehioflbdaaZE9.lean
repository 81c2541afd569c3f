import Derived.Test.YtlggpehioflbdaaZN1
import Derived.Test.YtlggpehioflbdaaZE3
import Derived.Test.YtlggpehioflbdaaZKit
/- Walks: Commit, CheckOpening. -/
set_option linter.all false
set_option linter.unusedVariables false
set_option linter.unusedSimpArgs false
namespace Go.Proofs.Ytlggpehioflbdaa
open Go.RowKit
def cmt (p q g bh m r : Int) : Int := M.gpw p q g m * M.gpw p q bh r % p
end Go.Proofs.Ytlggpehioflbdaa
