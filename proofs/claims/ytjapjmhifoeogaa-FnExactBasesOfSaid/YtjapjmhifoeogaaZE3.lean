import Derived.Test.YtjapjmhifoeogaaZN1
/- Walks: transcripts, simulations. -/
set_option linter.all false
set_option linter.unusedVariables false
set_option linter.unusedSimpArgs false
namespace Go.Proofs.Ytjapjmhifoeogaa
open Go.RowKit
def acc (p q b y a c z : Int) : Bool := M.gpw p q b z == a * M.gpw p q y c % p
end Go.Proofs.Ytjapjmhifoeogaa
