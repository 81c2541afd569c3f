import Derived.Test.YtlggpehioflbdaaZD23
/- Complaints on both sides. -/
set_option linter.all false
set_option linter.unusedVariables false
set_option linter.unusedSimpArgs false
namespace Go.Proofs.Ytlggpehioflbdaa
open Go.RowKit
theorem kg_use {p q g : Int} {l : List (List Int × List Int)} (h : kgB p q g l = true) : shB p q g = true ∧ DsOK p q l ∧ (l.getD 0 ([], [])).2.length = l.length := by
  simp only [kgB, Bool.and_eq_true, beq_iff_eq] at h
  exact ⟨h.1.1, alk_use h.1.2, by omega⟩
end Go.Proofs.Ytlggpehioflbdaa
