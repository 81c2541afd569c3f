import Derived.Test.YtgnnmifpfgpllaaGreatZD20
import Derived.Test.YtgnnmifpfgpllaaGreatZB7
import Derived.Test.YtgnnmifpfgpllaaGreatZD2
import Derived.Test.YtgnnmifpfgpllaaGreatZAK
/- Lists of dealings. -/
set_option linter.all false
set_option linter.unusedVariables false
set_option linter.unusedSimpArgs false
namespace Go.Proofs.YtgnnmifpfgpllaaGreat
open Go.RowKit
/-- dealings of one shape -/
structure DsOK (p q : Int) (l : List (List Int × List Int)) : Prop where
  len : 1 ≤ l.length ∧ l.length ≤ 7
  each : ∀ d ∈ l, dlB p q d.1 d.2 = true ∧ d.1.length = (l.getD 0 ([], [])).1.length ∧ d.2.length = (l.getD 0 ([], [])).2.length
theorem DsOK.at {p q : Int} {l : List (List Int × List Int)} (h : DsOK p q l) {k : Nat} (hk : k < l.length) : (∀ x ∈ (l.getD k ([], [])).1, 0 ≤ x ∧ x < p) ∧ (∀ x ∈ (l.getD k ([], [])).2, 0 ≤ x ∧ x < q) ∧ (l.getD k ([], [])).1.length = (l.getD 0 ([], [])).1.length ∧ (l.getD k ([], [])).2.length = (l.getD 0 ([], [])).2.length := by
  obtain ⟨h1, h2, h3⟩ := h.each _ (getD_in ([], []) hk)
  obtain ⟨_, h5, _, h7⟩ := dlB_use h1
  exact ⟨h5, h7, h2, h3⟩
end Go.Proofs.YtgnnmifpfgpllaaGreat
