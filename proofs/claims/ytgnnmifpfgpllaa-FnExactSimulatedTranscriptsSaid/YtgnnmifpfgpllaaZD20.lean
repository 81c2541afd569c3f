import Derived.Test.YtgnnmifpfgpllaaZAJ
import Derived.Test.YtgnnmifpfgpllaaZB3
import Derived.Test.YtgnnmifpfgpllaaZN1
import Derived.Test.YtgnnmifpfgpllaaZE3
import Derived.Test.YtgnnmifpfgpllaaZKit
import Derived.Test.YtgnnmifpfgpllaaZB4
/- Dealings: values of polynomials, shares that are wrong. -/
set_option linter.all false
set_option linter.unusedVariables false
set_option linter.unusedSimpArgs false
namespace Go.Proofs.Ytgnnmifpfgpllaa
open Go.RowKit
theorem drop_at {α : Type} {xs : List α} (d : α) {k : Nat} (hk : k < xs.length) : xs.drop k = xs.getD k d :: xs.drop (k + 1) := by
  rw [List.drop_eq_getElem_cons hk]
  simp [List.getD_eq_getElem?_getD, List.getElem?_eq_getElem hk]
theorem take_at {α : Type} {xs : List α} (d : α) {k : Nat} (hk : k < xs.length) : xs.take (k + 1) = xs.take k ++ [xs.getD k d] := by
  rw [List.take_succ_eq_append_getElem hk]
  simp [List.getD_eq_getElem?_getD, List.getElem?_eq_getElem hk]
end Go.Proofs.Ytgnnmifpfgpllaa
