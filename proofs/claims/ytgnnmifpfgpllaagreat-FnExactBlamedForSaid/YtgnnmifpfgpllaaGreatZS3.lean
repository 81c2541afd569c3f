import Derived.Test.YtgnnmifpfgpllaaGreatZS2
/- Walks: valid dealings. -/
set_option linter.all false
set_option linter.unusedVariables false
set_option linter.unusedSimpArgs false
namespace Go.Proofs.YtgnnmifpfgpllaaGreat
open Go.RowKit
def dlB (p q : Int) (cs ss : List Int) : Bool := comB p q cs && inr ss.length cs.length 7 && expsB q ss
theorem dlB_of {p q : Int} {cs ss : List Int} (h : dlB p q cs ss = true) : comB p q cs = true ∧ (cs.length ≤ ss.length ∧ ss.length ≤ 7) ∧ expsB q ss = true := by
  unfold dlB at h
  simp only [Bool.and_eq_true] at h
  have := inr_t h.1.2
  exact ⟨h.1.1, by omega, h.2⟩
end Go.Proofs.YtgnnmifpfgpllaaGreat
