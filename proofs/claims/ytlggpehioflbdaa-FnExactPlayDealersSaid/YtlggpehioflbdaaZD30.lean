import Derived.Test.YtlggpehioflbdaaZD23
/- Complaints on both sides. -/
set_option linter.all false
set_option linter.unusedVariables false
set_option linter.unusedSimpArgs false
namespace Go.Proofs.Ytlggpehioflbdaa
open Go.RowKit
theorem szn_LL {a b : Nat} : ∀ (xss : List (List Int)), xss.length ≤ a → (∀ x ∈ xss, x.length ≤ b) → Ty.szn (.list (.list .int)) xss ≤ a + a * b := fun xss h1 h2 => by
  have h3 : (xss.map (Ty.szn (.list .int))).sum ≤ xss.length * b := by
    clear h1
    induction xss with
    | nil => simp
    | cons x l ih =>
      have e1 := ih fun y hy => h2 y (by simp [hy])
      have e2 := h2 x (by simp)
      have e3 := szn_int x
      simp only [List.map_cons, List.sum_cons, List.length_cons, Nat.succ_mul]
      omega
  have h4 : xss.length * b ≤ a * b := Nat.mul_le_mul_right _ h1
  show xss.length + (xss.map (Ty.szn (.list .int))).sum ≤ _
  omega
end Go.Proofs.Ytlggpehioflbdaa
