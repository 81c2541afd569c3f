import Derived.Test.YtlggpehioflbdaaZD24
/- Plain mathematics: shares of one polynomial. -/
set_option linter.all false
set_option linter.unusedVariables false
set_option linter.unusedSimpArgs false
namespace Go.Proofs.Ytlggpehioflbdaa
open Go.RowKit
/-- different numbers of trustees are seven at most -/
theorem pigeon : ∀ (n : Nat) (xs : List Int), xs.Nodup → (∀ x ∈ xs, 1 ≤ x ∧ x ≤ n) → xs.length ≤ n
  | 0, xs, _, hb => by
    cases xs with
    | nil => simp
    | cons x l => have := hb x (by simp); omega
  | n + 1, xs, hn, hb => by
    by_cases h : ((n : Int) + 1) ∈ xs
    · have h1 := pigeon n (xs.erase ((n : Int) + 1)) (hn.erase _) fun x hx => by
        have h2 := hb x (List.mem_of_mem_erase hx)
        have h3 : x ≠ (n : Int) + 1 := fun e => by rw [e] at hx; exact (List.Nodup.not_mem_erase hn) hx
        omega
      rw [List.length_erase_of_mem h] at h1
      omega
    · have := pigeon n xs hn fun x hx => by
        have h2 := hb x hx
        have h3 : x ≠ (n : Int) + 1 := fun e => h (e ▸ hx)
        omega
      omega
def difB (xs : List Int) : Bool := decide xs.Nodup
theorem hasN_iff {n : Int} {xs : List Int} : hasN n xs = true ↔ n ∈ xs := by simp [hasN]
theorem dif_next {xs : List Int} {k : Nat} (hk : k < xs.length) (h : (xs.take k).Nodup) (hh : hasN (xs.getD k 0) (xs.take k) = false) : (xs.take (k + 1)).Nodup := by
  rw [take_at 0 hk, List.nodup_append]
  refine ⟨h, by simp, fun a ha b hb e => ?_⟩
  simp only [List.mem_singleton] at hb
  subst e hb
  have := hasN_iff.2 ha
  rw [hh] at this; cases this
theorem dif_bad {xs : List Int} {k : Nat} (hk : k < xs.length) (hh : hasN (xs.getD k 0) (xs.take k) = true) : difB xs = false := by
  refine decide_eq_false fun hn => ?_
  have h1 := hasN_iff.1 hh
  have h2 : (xs.take (k + 1)).Nodup := hn.sublist (List.take_sublist _ _)
  rw [take_at 0 hk, List.nodup_append] at h2
  exact h2.2.2 _ h1 _ (by simp) rfl
theorem dif_end {xs : List Int} (h : (xs.take xs.length).Nodup) : difB xs = true := by rw [List.take_length] at h; exact decide_eq_true h
end Go.Proofs.Ytlggpehioflbdaa
