/- Walks of the laws' own functions: structs of ints. -/
import Derived.Test.YtidcahjkjlmjhaaN1
import Derived.Test.YtidcahjkjlmjhaaKit2
import Derived.Deep.QuietTactic
import Derived.BigQuiet
namespace Go.Proofs.Ytidcahjkjlmjhaa
open Go.RowKit
theorem toGroup_any (p q g : Int) (w : World) :
    Calls Try.prog 10 #[.agg #[.int .i64 p, .int .i64 q, .int .i64 g]] w fun en w' => en = .returned (.agg #[.int .i64 p, .int .i64 q, .int .i64 g]) ∧ Below w.heap.size w w' := by
  go_enter Try.func10, Try.ntmps10
  go_wp2
  exact bodyPost_ret (v := .agg #[.int .i64 p, .int .i64 q, .int .i64 g]) (by simp [results, Try.results10, go_sem]) rfl ⟨rfl, by repeat (first | exact Below.refl _ _ | refine bnew ?_ _)⟩
theorem toEqualLog_any (a b c d : Int) (w : World) :
    Calls Try.prog 11 #[.agg #[.int .i64 a, .int .i64 b, .int .i64 c, .int .i64 d]] w fun en w' => en = .returned (.agg #[.int .i64 a, .int .i64 b, .int .i64 c, .int .i64 d]) ∧ Below w.heap.size w w' := by
  go_enter Try.func11, Try.ntmps11
  go_wp2
  exact bodyPost_ret (v := .agg #[.int .i64 a, .int .i64 b, .int .i64 c, .int .i64 d]) (by simp [results, Try.results11, go_sem]) rfl ⟨rfl, by repeat (first | exact Below.refl _ _ | refine bnew ?_ _)⟩
theorem toTranscript_any (a b c : Int) (w : World) :
    Calls Try.prog 17 #[.agg #[.int .i64 a, .int .i64 b, .int .i64 c]] w fun en w' => en = .returned (.agg #[.int .i64 a, .int .i64 b, .int .i64 c]) ∧ Below w.heap.size w w' := by
  go_enter Try.func17, Try.ntmps17
  go_wp2
  exact bodyPost_ret (v := .agg #[.int .i64 a, .int .i64 b, .int .i64 c]) (by simp [results, Try.results17, go_sem]) rfl ⟨rfl, by repeat (first | exact Below.refl _ _ | refine bnew ?_ _)⟩
set_option maxHeartbeats 400000 in
theorem eqTranscript_same (a b c : Int) (w : World) :
    Calls Try.prog 15 #[.agg #[.int .i64 a, .int .i64 b, .int .i64 c], .agg #[.int .i64 a, .int .i64 b, .int .i64 c]] w fun en w' => en = .returned (.bool true) ∧ Below w.heap.size w w' := by
  have ha : (a != a) = false := by simp
  have hb : (b != b) = false := by simp
  have hc : (c != c) = false := by simp
  go_enter Try.func15, Try.ntmps15
  go_wp2
  go_ret
  exact ⟨rfl, bnew (below_new w _) _⟩
end Go.Proofs.Ytidcahjkjlmjhaa
