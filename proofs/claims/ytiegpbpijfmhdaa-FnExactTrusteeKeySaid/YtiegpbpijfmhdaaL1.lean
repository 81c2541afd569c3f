/- Walks of the laws' own functions: structs of ints. -/
import Derived.Test.YtiegpbpijfmhdaaN1
import Derived.Test.YtiegpbpijfmhdaaKit2
import Derived.Deep.QuietTactic
import Derived.BigQuiet
namespace Go.Proofs.Ytiegpbpijfmhdaa
open Go.RowKit
theorem toGroup_any (p q g : Int) (w : World) :
    Calls Try.prog 10 #[.agg #[.int .i64 p, .int .i64 q, .int .i64 g]] w fun en w' => en = .returned (.agg #[.int .i64 p, .int .i64 q, .int .i64 g]) ∧ Below w.heap.size w w' := by
  go_enter Try.func10, Try.ntmps10
  go_wp2
  exact bodyPost_ret (v := .agg #[.int .i64 p, .int .i64 q, .int .i64 g]) (by simp [results, Try.results10, go_sem]) rfl ⟨rfl, by repeat (first | exact Below.refl _ _ | refine bnew ?_ _)⟩
end Go.Proofs.Ytiegpbpijfmhdaa
