/- Walks of the laws' own functions: structs of ints. -/
import Derived.Test.YtljlimlgdnbllaaN1
import Derived.Test.YtljlimlgdnbllaaKit2
import Derived.Deep.QuietTactic
import Derived.BigQuiet
set_option linter.all false
set_option linter.unusedVariables false
set_option linter.unusedSimpArgs false
namespace Go.Proofs.Ytljlimlgdnbllaa
open Go.RowKit
theorem toGroup_any (p q g : Int) (w : World) :
    Calls Try.prog 18 #[.agg #[.int .i64 p, .int .i64 q, .int .i64 g]] w fun en w' => en = .returned (.agg #[.int .i64 p, .int .i64 q, .int .i64 g]) ∧ Below w.heap.size w w' := by
  go_enter Try.func18, Try.ntmps18
  go_wp2
  exact bodyPost_ret (v := .agg #[.int .i64 p, .int .i64 q, .int .i64 g]) (by simp [results, Try.results18, go_sem]) rfl ⟨rfl, by repeat (first | exact Below.refl _ _ | refine bnew ?_ _)⟩
theorem toEqualLog_any (a b c d : Int) (w : World) :
    Calls Try.prog 41 #[.agg #[.int .i64 a, .int .i64 b, .int .i64 c, .int .i64 d]] w fun en w' => en = .returned (.agg #[.int .i64 a, .int .i64 b, .int .i64 c, .int .i64 d]) ∧ Below w.heap.size w w' := by
  go_enter Try.func41, Try.ntmps41
  go_wp2
  exact bodyPost_ret (v := .agg #[.int .i64 a, .int .i64 b, .int .i64 c, .int .i64 d]) (by simp [results, Try.results41, go_sem]) rfl ⟨rfl, by repeat (first | exact Below.refl _ _ | refine bnew ?_ _)⟩
end Go.Proofs.Ytljlimlgdnbllaa
