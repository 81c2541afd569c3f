/- Walks of the laws' own functions: structs of ints. -/
import Derived.Test.YtekfeplaphemkaaN1
import Derived.Test.YtekfeplaphemkaaKit2
import Derived.Deep.QuietTactic
import Derived.BigQuiet
namespace Go.Proofs.Ytekfeplaphemkaa
open Go.RowKit
theorem toGroup_any (p q g : Int) (w : World) :
    Calls Try.prog 10 #[.agg #[.int .i64 p, .int .i64 q, .int .i64 g]] w fun en w' => en = .returned (.agg #[.int .i64 p, .int .i64 q, .int .i64 g]) ∧ Below w.heap.size w w' := by
  go_enter Try.func10, Try.ntmps10
  go_wp2
  exact bodyPost_ret (v := .agg #[.int .i64 p, .int .i64 q, .int .i64 g]) (by simp [results, Try.results10, go_sem]) rfl ⟨rfl, by repeat (first | exact Below.refl _ _ | refine bnew ?_ _)⟩
theorem toTranscript_any (a b c : Int) (w : World) :
    Calls Try.prog 11 #[.agg #[.int .i64 a, .int .i64 b, .int .i64 c]] w fun en w' => en = .returned (.agg #[.int .i64 a, .int .i64 b, .int .i64 c]) ∧ Below w.heap.size w w' := by
  go_enter Try.func11, Try.ntmps11
  go_wp2
  exact bodyPost_ret (v := .agg #[.int .i64 a, .int .i64 b, .int .i64 c]) (by simp [results, Try.results11, go_sem]) rfl ⟨rfl, by repeat (first | exact Below.refl _ _ | refine bnew ?_ _)⟩
end Go.Proofs.Ytekfeplaphemkaa
