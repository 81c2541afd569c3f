import Derived.Test.YtlggpehioflbdaaZD21
import Derived.Test.YtlggpehioflbdaaZD5
import Derived.Test.YtlggpehioflbdaaZAK
/- Lists of dealings. -/
set_option linter.all false
set_option linter.unusedVariables false
set_option linter.unusedSimpArgs false
namespace Go.Proofs.Ytlggpehioflbdaa
open Go.RowKit
theorem any_yes {α : Type} {f : α → Bool} {xs : List α} {x : α} (hx : x ∈ xs) (h : f x = true) : xs.any f = true := List.any_eq_true.2 ⟨x, hx, h⟩
theorem any_next {α : Type} {f : α → Bool} {xs : List α} {k : Nat} (h : (xs.take k).any f = false) (d : α) (hk : k < xs.length) (hf : f (xs.getD k d) = false) : (xs.take (k + 1)).any f = false := by rw [take_at d hk, List.any_append, h]; simp only [List.any_cons, List.any_nil, hf, Bool.or_false]
/-- dealings of one shape -/
structure DsOK (p q : Int) (l : List (List Int × List Int)) : Prop where
  len : 1 ≤ l.length ∧ l.length ≤ 7
  each : ∀ d ∈ l, dlB p q d.1 d.2 = true ∧ d.1.length = (l.getD 0 ([], [])).1.length ∧ d.2.length = (l.getD 0 ([], [])).2.length
theorem DsOK.at {p q : Int} {l : List (List Int × List Int)} (h : DsOK p q l) {k : Nat} (hk : k < l.length) : (∀ x ∈ (l.getD k ([], [])).1, 0 ≤ x ∧ x < p) ∧ (∀ x ∈ (l.getD k ([], [])).2, 0 ≤ x ∧ x < q) ∧ (l.getD k ([], [])).1.length = (l.getD 0 ([], [])).1.length ∧ (l.getD k ([], [])).2.length = (l.getD 0 ([], [])).2.length := by
  obtain ⟨h1, h2, h3⟩ := h.each _ (getD_in ([], []) hk)
  obtain ⟨_, h5, _, h7⟩ := dlB_use h1
  exact ⟨h5, h7, h2, h3⟩
end Go.Proofs.Ytlggpehioflbdaa
