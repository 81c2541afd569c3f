/- Walks: Commit, CheckOpening. -/
import Derived.Test.YtgnnmifpfgpllaaGreatZN1
import Derived.Test.YtgnnmifpfgpllaaGreatZKit
/- Walks: transcripts, simulations. -/
set_option linter.all false
set_option linter.unusedVariables false
set_option linter.unusedSimpArgs false
namespace Go.Proofs.YtgnnmifpfgpllaaGreat
open Go.RowKit
def acc (p q b y a c z : Int) : Bool := M.gpw p q b z == a * M.gpw p q y c % p
end Go.Proofs.YtgnnmifpfgpllaaGreat

set_option linter.all false
set_option linter.unusedVariables false
set_option linter.unusedSimpArgs false
namespace Go.Proofs.YtgnnmifpfgpllaaGreat
open Go.RowKit
def cmt (p q g bh m r : Int) : Int := M.gpw p q g m * M.gpw p q bh r % p
end Go.Proofs.YtgnnmifpfgpllaaGreat
