import Derived.Test.YtlggpehioflbdaaZD20
/- Products of polynomials, zero dealings, bad shares. -/
set_option linter.all false
set_option linter.unusedVariables false
set_option linter.unusedSimpArgs false
namespace Go.Proofs.Ytlggpehioflbdaa
open Go.RowKit
theorem vdl_use {p q g : Int} {cs ss : List Int} (h : vdl p q g cs ss = true) : shB p q g = true ∧ dlB p q cs ss = true := by simpa [vdl] using h
end Go.Proofs.Ytlggpehioflbdaa
