import Derived.Test.YtgnnmifpfgpllaaZN1
import Derived.Test.YtgnnmifpfgpllaaZE3
import Derived.Test.YtgnnmifpfgpllaaZKit
/- Walks: Commit, CheckOpening. -/
set_option linter.all false
set_option linter.unusedVariables false
set_option linter.unusedSimpArgs false
namespace Go.Proofs.Ytgnnmifpfgpllaa
open Go.RowKit
def cmt (p q g bh m r : Int) : Int := M.gpw p q g m * M.gpw p q bh r % p
end Go.Proofs.Ytgnnmifpfgpllaa
