/- ProveSum on both sides. -/
import Derived.Test.YtgnnmifpfgpllaaGreatZB5
import Derived.Test.YtgnnmifpfgpllaaGreatZD2
import Derived.Test.YtgnnmifpfgpllaaGreatZB4
import Derived.Test.YtgnnmifpfgpllaaGreatZAG
/- Rows of bases. -/
set_option linter.all false
set_option linter.unusedVariables false
set_option linter.unusedSimpArgs false
namespace Go.Proofs.YtgnnmifpfgpllaaGreat
open Go.RowKit
def idxF {α : Type} (p : α → Bool) : List α → Nat → Int
  | [], _ => -1
  | x :: l, n => if p x = true then n else idxF p l (n + 1)
theorem ixf_hit {α : Type} {p : α → Bool} {xs : List α} {d : α} {k : Nat} (hk : k < xs.length) (h : p (xs.getD k d) = true) : idxF p (xs.drop k) k = k := by
  rw [List.drop_eq_getElem_cons hk]
  have e : xs.getD k d = xs[k] := by rw [List.getD_eq_getElem?_getD, List.getElem?_eq_getElem hk]; rfl
  rw [e] at h
  simp [idxF, h]
theorem ixf_next {α : Type} {p : α → Bool} {xs : List α} {d : α} {k : Nat} (hk : k < xs.length) (h : p (xs.getD k d) = false) : idxF p (xs.drop k) k = idxF p (xs.drop (k + 1)) (k + 1) := by
  rw [List.drop_eq_getElem_cons hk]
  have e : xs.getD k d = xs[k] := by rw [List.getD_eq_getElem?_getD, List.getElem?_eq_getElem hk]; rfl
  rw [e] at h
  simp [idxF, h]
theorem ixf_end {α : Type} {p : α → Bool} {xs : List α} : idxF p (xs.drop xs.length) xs.length = -1 := by simp [idxF]
theorem ixf_iff {α : Type} (p : α → Bool) : ∀ (xs : List α) (n : Nat), 0 ≤ idxF p xs n ↔ xs.any p = true
  | [], n => by simp [idxF]
  | x :: l, n => by
    have ih := ixf_iff p l (n + 1)
    simp only [idxF, List.any_cons, Bool.or_eq_true]
    split
    · rename_i h; exact ⟨fun _ => .inl h, fun _ => by omega⟩
    · rename_i h; exact ⟨fun hh => .inr (ih.1 hh), fun hh => by rcases hh with hh | hh; exact absurd hh h; exact ih.2 hh⟩
theorem ixf_any {α : Type} (p : α → Bool) (xs : List α) (n : Nat) : decide (0 ≤ idxF p xs n) = xs.any p := by
  rw [Bool.eq_iff_iff, decide_eq_true_iff]; exact ixf_iff p xs n
end Go.Proofs.YtgnnmifpfgpllaaGreat

set_option linter.all false
set_option linter.unusedVariables false
set_option linter.unusedSimpArgs false
namespace Go.Proofs.YtgnnmifpfgpllaaGreat
open Go.RowKit
theorem expsB_all {q : Int} {xs : List Int} (h : expsB q xs = true) : ∀ x ∈ xs, 0 ≤ x ∧ x < q := fun x hx => expsB_mem h hx
end Go.Proofs.YtgnnmifpfgpllaaGreat
