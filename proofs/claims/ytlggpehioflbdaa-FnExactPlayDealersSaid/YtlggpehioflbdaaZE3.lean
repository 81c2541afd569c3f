import Derived.Test.YtlggpehioflbdaaZN1
/- Walks: transcripts, simulations. -/
set_option linter.all false
set_option linter.unusedVariables false
set_option linter.unusedSimpArgs false
namespace Go.Proofs.Ytlggpehioflbdaa
open Go.RowKit
def acc (p q b y a c z : Int) : Bool := M.gpw p q b z == a * M.gpw p q y c % p
end Go.Proofs.Ytlggpehioflbdaa
