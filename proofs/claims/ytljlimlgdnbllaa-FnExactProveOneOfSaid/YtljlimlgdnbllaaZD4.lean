import Derived.Test.YtljlimlgdnbllaaZB5
import Derived.Test.YtljlimlgdnbllaaZL1
import Derived.Test.YtljlimlgdnbllaaZAG
/- The laws' own functions on lists of statements and of lists. -/
set_option linter.all false
set_option linter.unusedVariables false
set_option linter.unusedSimpArgs false
namespace Go.Proofs.Ytljlimlgdnbllaa
open Go.RowKit
theorem copy_step {α : Type} (xs : List α) (d : α) (k : Nat) (hk : k < xs.length) : (xs.take k ++ List.replicate (xs.length - k) d).set k (xs.getD k d) = xs.take (k + 1) ++ List.replicate (xs.length - (k + 1)) d := by
  have e : xs.length - k = (xs.length - (k + 1)) + 1 := by omega
  have h1 : (xs.take k).length = k := by rw [List.length_take]; omega
  rw [List.set_append_right _ _ (by omega), h1, Nat.sub_self, e, List.replicate_succ, List.set_cons_zero, List.take_succ_eq_append_getElem hk, List.append_assoc]
  simp [List.getD_eq_getElem?_getD, List.getElem?_eq_getElem hk]
theorem sum_step {α : Type} (s : α → Nat) (xs : List α) (d : α) (k : Nat) (hk : k < xs.length) : ((xs.take (k + 1)).map s).sum = ((xs.take k).map s).sum + s (xs.getD k d) := by
  rw [List.take_succ_eq_append_getElem hk, List.map_append, List.sum_append]
  simp [List.getD_eq_getElem?_getD, List.getElem?_eq_getElem hk]
theorem sum_le {α : Type} (s : α → Nat) (xs : List α) (k : Nat) : ((xs.take k).map s).sum ≤ (xs.map s).sum := by
  conv => rhs; rw [← List.take_append_drop k xs]
  rw [List.map_append, List.sum_append]; omega
end Go.Proofs.Ytljlimlgdnbllaa
