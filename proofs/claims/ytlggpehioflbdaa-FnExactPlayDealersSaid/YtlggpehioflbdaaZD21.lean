import Derived.Test.YtlggpehioflbdaaZD20
/- Products of polynomials, zero dealings, bad shares. -/
set_option linter.all false
set_option linter.unusedVariables false
set_option linter.unusedSimpArgs false
namespace Go.Proofs.Ytlggpehioflbdaa
open Go.RowKit
theorem set_bd {q v : Int} {out : List Int} {j : Nat} (h : ∀ x ∈ out, 0 ≤ x ∧ x < q) (hv : 0 ≤ v ∧ v < q) : ∀ x ∈ out.set j v, 0 ≤ x ∧ x < q := fun x hx => by
  rcases List.mem_or_eq_of_mem_set hx with hx | rfl
  · exact h x hx
  · exact hv
end Go.Proofs.Ytlggpehioflbdaa
