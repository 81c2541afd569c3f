import Derived.Test.YtjapjmhifoeogaaZN1
import Derived.Test.YtjapjmhifoeogaaZE3
import Derived.Test.YtjapjmhifoeogaaZKit
/- Walks: Commit, CheckOpening. -/
set_option linter.all false
set_option linter.unusedVariables false
set_option linter.unusedSimpArgs false
namespace Go.Proofs.Ytjapjmhifoeogaa
open Go.RowKit
def cmt (p q g bh m r : Int) : Int := M.gpw p q g m * M.gpw p q bh r % p
end Go.Proofs.Ytjapjmhifoeogaa
