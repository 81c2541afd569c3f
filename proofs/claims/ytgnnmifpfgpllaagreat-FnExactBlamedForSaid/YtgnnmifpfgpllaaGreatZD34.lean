import Derived.Test.YtgnnmifpfgpllaaGreatZD33
import Derived.Test.YtgnnmifpfgpllaaGreatZAK
import Derived.Test.YtgnnmifpfgpllaaGreatZAL
import Derived.Test.YtgnnmifpfgpllaaGreatZB4
import Derived.Shelf.SlicesE.Delete
import Derived.Lib.OwnBridge
import Derived.Test.YtgnnmifpfgpllaaGreatZD23
/- Good partial decryptions. -/
set_option linter.all false
set_option linter.unusedVariables false
set_option linter.unusedSimpArgs false
namespace Go.Proofs.YtgnnmifpfgpllaaGreat
open Go.RowKit
/-- the partials that are good, and whose -/
noncomputable def gd (F : (Int × Int × List Int × List Int × List Int) → Bool) (l : List (Int × Int × List Int × List Int × List Int)) : Nat → List Int × List Int
  | 0 => ([], [])
  | k + 1 => if hasN (l.getD k ((0 : Int), (0 : Int), ([] : List Int), ([] : List Int), ([] : List Int))).1 (gd F l k).2 = false ∧ F (l.getD k ((0 : Int), (0 : Int), ([] : List Int), ([] : List Int), ([] : List Int))) = true then ((gd F l k).1 ++ [(k : Int)], (gd F l k).2 ++ [(l.getD k ((0 : Int), (0 : Int), ([] : List Int), ([] : List Int), ([] : List Int))).1]) else gd F l k
section
variable {F : (Int × Int × List Int × List Int × List Int) → Bool} {l : List (Int × Int × List Int × List Int × List Int)} {k : Nat}
end
noncomputable def okGp (p q g : Int) (cs : List Int) (u v : Int) (l : List (Int × Int × List Int × List Int × List Int)) : Bool := okDc p q g cs u v && !decide (14 < (l.length : Int))
theorem gp_use {p q g : Int} {cs : List Int} {u v : Int} {l : List (Int × Int × List Int × List Int × List Int)} (h : (okDc p q g cs u v && !decide (14 < (l.length : Int))) = true) : okDc p q g cs u v = true ∧ l.length ≤ 14 := by
  simp only [Bool.and_eq_true, Bool.not_eq_true', decide_eq_false_iff_not] at h
  exact ⟨h.1, by omega⟩
end Go.Proofs.YtgnnmifpfgpllaaGreat
