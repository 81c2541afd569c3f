import Derived.Test.YtgnnmifpfgpllaaGreatZAJ
import Derived.Test.YtgnnmifpfgpllaaGreatZB10
import Derived.Test.YtgnnmifpfgpllaaGreatZB4
/- Dealings: values of polynomials, shares that are wrong. -/
set_option linter.all false
set_option linter.unusedVariables false
set_option linter.unusedSimpArgs false
namespace Go.Proofs.YtgnnmifpfgpllaaGreat
open Go.RowKit
theorem expsB_all12' {q : Int} {xs : List Int} (h : expsB q xs = true) : ∀ x ∈ xs, 0 ≤ x ∧ x < q := fun x hx => expsB_mem h hx
theorem comB_use {p q : Int} {cs : List Int} (h : comB p q cs = true) : (1 ≤ cs.length ∧ cs.length ≤ 7) ∧ ∀ x ∈ cs, 0 ≤ x ∧ x < p := by
  obtain ⟨h1, h2⟩ := comB_of h
  exact ⟨h1, fun x hx => elem_bd (elemsB_mem h2 hx)⟩
theorem dlB_use {p q : Int} {cs ss : List Int} (h : dlB p q cs ss = true) : (1 ≤ cs.length ∧ cs.length ≤ 7) ∧ (∀ x ∈ cs, 0 ≤ x ∧ x < p) ∧ (cs.length ≤ ss.length ∧ ss.length ≤ 7) ∧ ∀ x ∈ ss, 0 ≤ x ∧ x < q := by
  obtain ⟨h1, h2, h3⟩ := dlB_of h
  obtain ⟨h4, h5⟩ := comB_use h1
  exact ⟨h4, h5, h2, expsB_all12' h3⟩
theorem drop_at {α : Type} {xs : List α} (d : α) {k : Nat} (hk : k < xs.length) : xs.drop k = xs.getD k d :: xs.drop (k + 1) := by
  rw [List.drop_eq_getElem_cons hk]
  simp [List.getD_eq_getElem?_getD, List.getElem?_eq_getElem hk]
theorem take_at {α : Type} {xs : List α} (d : α) {k : Nat} (hk : k < xs.length) : xs.take (k + 1) = xs.take k ++ [xs.getD k d] := by
  rw [List.take_succ_eq_append_getElem hk]
  simp [List.getD_eq_getElem?_getD, List.getElem?_eq_getElem hk]
end Go.Proofs.YtgnnmifpfgpllaaGreat
