import Derived.Test.YtgnnmifpfgpllaaGreatZN1
import Derived.Test.YtgnnmifpfgpllaaGreatZKit
import Derived.Deep.QuietTactic
import Derived.BigQuiet
import Derived.Deep.AppendLies
/- Walks of the laws' own functions: structs of ints. -/
set_option linter.all false
set_option linter.unusedVariables false
set_option linter.unusedSimpArgs false
namespace Go.Proofs.YtgnnmifpfgpllaaGreat
open Go.RowKit
end Go.Proofs.YtgnnmifpfgpllaaGreat

/- Walks of the laws' own functions on int slices. -/
namespace Go.Proofs.YtgnnmifpfgpllaaGreat
open Go.RowKit
/-- the list that markIntS writes: k, k + 1, .. -/
def marks (k : Int) : Nat → List Int
  | 0 => []
  | n + 1 => k :: marks (k + 1) n
end Go.Proofs.YtgnnmifpfgpllaaGreat

/- Walks of the laws' own functions: bases. -/
namespace Go.Proofs.YtgnnmifpfgpllaaGreat
open Go.RowKit
end Go.Proofs.YtgnnmifpfgpllaaGreat

/- Walks of the laws' own functions: structs with slices. -/
namespace Go.Proofs.YtgnnmifpfgpllaaGreat
open Go.RowKit
end Go.Proofs.YtgnnmifpfgpllaaGreat
