import Derived.Test.YtlggpehioflbdaaZD30
import Derived.Test.YtlggpehioflbdaaZAL
/- Qualified dealers on both sides. -/
set_option linter.all false
set_option linter.unusedVariables false
set_option linter.unusedSimpArgs false
namespace Go.Proofs.Ytlggpehioflbdaa
open Go.RowKit
theorem badL_at {p q g : Int} {cs ss : List Int} {k : Nat} (h : k < (badL p q g cs ss).length) : 1 ≤ (badL p q g cs ss).getD k 0 ∧ (badL p q g cs ss).getD k 0 ≤ ss.length := by
  have hm : (badL p q g cs ss).getD k 0 ∈ badF (shrB p q g cs) ss 0 := getD_in 0 h
  have := badF_mem (f := shrB p q g cs) ss 0 _ hm
  omega
section
variable {p q g : Int} {l : List (List Int × List Int)} {an : List (List Int)} {k : Nat}
end
/-- what an answer must not be -/
def naB (q : Int) (own : List Int) : Bool := decide ((7 : Int) < (own.length : Int)) || !expsB q own
structure QIn (p q : Int) (l : List (List Int × List Int)) (an : List (List Int)) : Prop where
  ds : DsOK p q l
  len : an.length = l.length
  no : an.any (naB q) = false
end Go.Proofs.Ytlggpehioflbdaa
