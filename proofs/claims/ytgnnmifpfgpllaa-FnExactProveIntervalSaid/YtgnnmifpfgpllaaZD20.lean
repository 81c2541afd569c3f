import Derived.Test.YtgnnmifpfgpllaaZAJ
import Derived.Test.YtgnnmifpfgpllaaZB3
import Derived.Test.YtgnnmifpfgpllaaZN1
import Derived.Test.YtgnnmifpfgpllaaZKit
import Derived.Test.YtgnnmifpfgpllaaZE7
import Derived.Test.YtgnnmifpfgpllaaZB4
/- Dealings: values of polynomials, shares that are wrong. -/
set_option linter.all false
set_option linter.unusedVariables false
set_option linter.unusedSimpArgs false
namespace Go.Proofs.Ytgnnmifpfgpllaa
open Go.RowKit
theorem expsB_all12' {q : Int} {xs : List Int} (h : expsB q xs = true) : ∀ x ∈ xs, 0 ≤ x ∧ x < q := fun x hx => expsB_mem h hx
theorem getD_bd' {p : Int} {xs : List Int} (h : ∀ x ∈ xs, 0 ≤ x ∧ x < p) {k : Nat} (hk : k < xs.length) : 0 ≤ xs.getD k 0 ∧ xs.getD k 0 < p := h _ (getD_in 0 hk)
theorem drop_at {α : Type} {xs : List α} (d : α) {k : Nat} (hk : k < xs.length) : xs.drop k = xs.getD k d :: xs.drop (k + 1) := by
  rw [List.drop_eq_getElem_cons hk]
  simp [List.getD_eq_getElem?_getD, List.getElem?_eq_getElem hk]
end Go.Proofs.Ytgnnmifpfgpllaa
