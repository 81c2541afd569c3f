/- FnExactSimulateEqual returns true for every input. No condition. -/
import Derived.Test.YtidcahjkjlmjhaaE4
import Derived.Test.YtidcahjkjlmjhaaL1
import Derived.Test.YtidcahjkjlmjhaaLift
namespace Go.Proofs.Ytidcahjkjlmjhaa.pSimulateEqual
open Go.ChangeShapes Go.WideShapes Go.ChangeAt Go.RowKit Go.Joins
theorem own : ownKnob Try.prog.godebug = none := by kernel_rfl
theorem cellsG : Try.prog.cellsOf 23 = 3 := by kernel_rfl
theorem walk (p q g g1' y1 g2' y2 c z : Int) (w : World) : Calls Try.prog 3 #[.agg #[.int .i64 p, .int .i64 q, .int .i64 g], .agg #[.int .i64 g1', .int .i64 y1, .int .i64 g2', .int .i64 y2], .int .i64 c, .int .i64 z] w fun e w' => e = .returned (.bool true) ∧ Below w.heap.size w w' := by
  have hT0 : Below w.heap.size w ((w.alloc (.cells #[.int .i64 p, .int .i64 q, .int .i64 g] 23)).alloc (.cells #[.int .i64 g1', .int .i64 y1, .int .i64 g2', .int .i64 y2] 25)) := by repeat (first | exact Below.refl _ _ | refine bnew ?_ _)
  go_enter Try.func3, Try.ntmps3
  go_wp2_with fail
  go_region_held3 (fun W' => W'.cell? ⟨w.heap.size, 0, none⟩ = some (.int .i64 p) ∧ W'.cell? ⟨w.heap.size, 1, none⟩ = some (.int .i64 q) ∧ W'.cell? ⟨w.heap.size, 2, none⟩ = some (.int .i64 g) ∧ W'.cell? ⟨w.heap.size + 1, 0, none⟩ = some (.int .i64 g1') ∧ W'.cell? ⟨w.heap.size + 1, 1, none⟩ = some (.int .i64 y1) ∧ W'.cell? ⟨w.heap.size + 1, 2, none⟩ = some (.int .i64 g2') ∧ W'.cell? ⟨w.heap.size + 1, 3, none⟩ = some (.int .i64 y2) ∧ Below w.heap.size w W') ((go_split_ands; refine ⟨?_, ?_, ?_, ?_, ?_, ?_, ?_, ?_⟩; (first | with_reducible exact cell_keep (by with_reducible assumption) (by with_reducible assumption) | with_reducible exact cell_keep (below_new _ _) (by with_reducible assumption) | (with_reducible refine cell_set _ ?_ (by simp); (repeat with_reducible refine cell_set _ ?_ (by simp)); with_reducible assumption) | go_keep); (first | with_reducible exact cell_keep (by with_reducible assumption) (by with_reducible assumption) | with_reducible exact cell_keep (below_new _ _) (by with_reducible assumption) | (with_reducible refine cell_set _ ?_ (by simp); (repeat with_reducible refine cell_set _ ?_ (by simp)); with_reducible assumption) | go_keep); (first | with_reducible exact cell_keep (by with_reducible assumption) (by with_reducible assumption) | with_reducible exact cell_keep (below_new _ _) (by with_reducible assumption) | (with_reducible refine cell_set _ ?_ (by simp); (repeat with_reducible refine cell_set _ ?_ (by simp)); with_reducible assumption) | go_keep); (first | with_reducible exact cell_keep (by with_reducible assumption) (by with_reducible assumption) | with_reducible exact cell_keep (below_new _ _) (by with_reducible assumption) | (with_reducible refine cell_set _ ?_ (by simp); (repeat with_reducible refine cell_set _ ?_ (by simp)); with_reducible assumption) | go_keep); (first | with_reducible exact cell_keep (by with_reducible assumption) (by with_reducible assumption) | with_reducible exact cell_keep (below_new _ _) (by with_reducible assumption) | (with_reducible refine cell_set _ ?_ (by simp); (repeat with_reducible refine cell_set _ ?_ (by simp)); with_reducible assumption) | go_keep); (first | with_reducible exact cell_keep (by with_reducible assumption) (by with_reducible assumption) | with_reducible exact cell_keep (below_new _ _) (by with_reducible assumption) | (with_reducible refine cell_set _ ?_ (by simp); (repeat with_reducible refine cell_set _ ?_ (by simp)); with_reducible assumption) | go_keep); (first | with_reducible exact cell_keep (by with_reducible assumption) (by with_reducible assumption) | with_reducible exact cell_keep (below_new _ _) (by with_reducible assumption) | (with_reducible refine cell_set _ ?_ (by simp); (repeat with_reducible refine cell_set _ ?_ (by simp)); with_reducible assumption) | go_keep); (repeat (first | with_reducible assumption | with_reducible refine bnext ?_ (by with_reducible assumption) | with_reducible refine bnew ?_ _ | with_reducible refine below_set _ ?_ (by simp) | with_reducible refine Below.drew ?_ | with_reducible refine Below.drewN ?_ _)); done)) (first | (go_at_call 10; refine (toGroup_any _ _ _ _).mono ?_; rintro e9 w9 ⟨rfl, hb9⟩) | (go_at_call 11; refine (toEqualLog_any _ _ _ _ _).mono ?_; rintro e9 w9 ⟨rfl, hb9⟩) | (go_at_call 9; refine (simulateEqualS _ _ _ _ _ _ _ _ _ _).mono ?_; rintro e9 w9 ⟨rfl, hb9⟩))
  go_wp2_with fail
  go_region_held3 (fun W' => W'.cell? ⟨w.heap.size, 0, none⟩ = some (.int .i64 p) ∧ W'.cell? ⟨w.heap.size, 1, none⟩ = some (.int .i64 q) ∧ W'.cell? ⟨w.heap.size, 2, none⟩ = some (.int .i64 g) ∧ W'.cell? ⟨w.heap.size + 1, 0, none⟩ = some (.int .i64 g1') ∧ W'.cell? ⟨w.heap.size + 1, 1, none⟩ = some (.int .i64 y1) ∧ W'.cell? ⟨w.heap.size + 1, 2, none⟩ = some (.int .i64 g2') ∧ W'.cell? ⟨w.heap.size + 1, 3, none⟩ = some (.int .i64 y2) ∧ Below w.heap.size w W') ((go_split_ands; refine ⟨?_, ?_, ?_, ?_, ?_, ?_, ?_, ?_⟩; (first | with_reducible exact cell_keep (by with_reducible assumption) (by with_reducible assumption) | with_reducible exact cell_keep (below_new _ _) (by with_reducible assumption) | (with_reducible refine cell_set _ ?_ (by simp); (repeat with_reducible refine cell_set _ ?_ (by simp)); with_reducible assumption) | go_keep); (first | with_reducible exact cell_keep (by with_reducible assumption) (by with_reducible assumption) | with_reducible exact cell_keep (below_new _ _) (by with_reducible assumption) | (with_reducible refine cell_set _ ?_ (by simp); (repeat with_reducible refine cell_set _ ?_ (by simp)); with_reducible assumption) | go_keep); (first | with_reducible exact cell_keep (by with_reducible assumption) (by with_reducible assumption) | with_reducible exact cell_keep (below_new _ _) (by with_reducible assumption) | (with_reducible refine cell_set _ ?_ (by simp); (repeat with_reducible refine cell_set _ ?_ (by simp)); with_reducible assumption) | go_keep); (first | with_reducible exact cell_keep (by with_reducible assumption) (by with_reducible assumption) | with_reducible exact cell_keep (below_new _ _) (by with_reducible assumption) | (with_reducible refine cell_set _ ?_ (by simp); (repeat with_reducible refine cell_set _ ?_ (by simp)); with_reducible assumption) | go_keep); (first | with_reducible exact cell_keep (by with_reducible assumption) (by with_reducible assumption) | with_reducible exact cell_keep (below_new _ _) (by with_reducible assumption) | (with_reducible refine cell_set _ ?_ (by simp); (repeat with_reducible refine cell_set _ ?_ (by simp)); with_reducible assumption) | go_keep); (first | with_reducible exact cell_keep (by with_reducible assumption) (by with_reducible assumption) | with_reducible exact cell_keep (below_new _ _) (by with_reducible assumption) | (with_reducible refine cell_set _ ?_ (by simp); (repeat with_reducible refine cell_set _ ?_ (by simp)); with_reducible assumption) | go_keep); (first | with_reducible exact cell_keep (by with_reducible assumption) (by with_reducible assumption) | with_reducible exact cell_keep (below_new _ _) (by with_reducible assumption) | (with_reducible refine cell_set _ ?_ (by simp); (repeat with_reducible refine cell_set _ ?_ (by simp)); with_reducible assumption) | go_keep); (repeat (first | with_reducible assumption | with_reducible refine bnext ?_ (by with_reducible assumption) | with_reducible refine bnew ?_ _ | with_reducible refine below_set _ ?_ (by simp) | with_reducible refine Below.drew ?_ | with_reducible refine Below.drewN ?_ _)); done)) (first | (go_at_call 10; refine (toGroup_any _ _ _ _).mono ?_; rintro e9 w9 ⟨rfl, hb9⟩) | (go_at_call 11; refine (toEqualLog_any _ _ _ _ _).mono ?_; rintro e9 w9 ⟨rfl, hb9⟩) | (go_at_call 12; refine (simulateEqualI _ _ _ _ _ _ _ _ _ _).mono ?_; rintro e9 w9 ⟨rfl, hb9⟩))
  go_wp2
  go_ret
  exact ⟨rfl, (by first | exact (by assumption : _ ∧ _ ∧ _ ∧ _ ∧ _ ∧ _ ∧ _ ∧  _).2.2.2.2.2.2.2 | assumption)⟩
set_option maxRecDepth 100000 in
theorem lifted (os : Os) (started : os.Started) (H : Type) (enc : TypeId × Value → H) :
    ReturnsInHanded {} Try.checked os 3 .any (Rows.fnExactSimulateEqualSpec.pre6 enc Try.prog Try.f3 Rows.fnExactSimulateEqualRow.domain false) (Rows.fnExactSimulateEqualSpec.post enc Try.prog Try.f3 false true false false) := by
  refine law_lift (C := Try.checked) own started (by kernel_rfl) Try.func3
    (ChangeSpec.witness6 (enc := enc) (C := Try.checked) false ⟨#[], #[.agg #[.int .i64 0, .int .i64 0, .int .i64 0], .agg #[.int .i64 0, .int .i64 0, .int .i64 0, .int .i64 0], .int .i64 0, .int .i64 0], []⟩ 8 (by kernel_rfl) (by kernel_rfl) (by kernel_rfl) (by kernel_rfl))
    (by kernel_rfl) [23, 25, 3, 3] rfl (by kernel_rfl) 4 rfl Try.underlying4 rfl (fun ds h => by
      match ds, h with
      | [_, _, _, _], _ => rfl) ?_
  intro W base args ds p hval hA hlt
  obtain ⟨v0, vs0, d0, ds0, p0, q0, hargs, rfl, rfl, h0, r0⟩ := trodAll_cons hA
  obtain ⟨v1, vs1, d1, ds1, p1, q1, rfl, rfl, rfl, h1, r1⟩ := trodAll_cons r0
  obtain ⟨v2, vs2, d2, ds2, p2, q2, rfl, rfl, rfl, h2, r2⟩ := trodAll_cons r1
  obtain ⟨v3, vs3, d3, ds3, p3, q3, rfl, rfl, rfl, h3, r3⟩ := trodAll_cons r2
  obtain ⟨rfl, rfl, rfl⟩ := trodAll_nil r3
  rw [hargs] at hval
  obtain rfl : args = #[v0, v1, v2, v3] := by cases args; simp_all
  obtain ⟨c0, c1, c2, y0, y1, y2, m9, rfl, rfl, rfl, hy0, hy1, hy2⟩ := open_agg3 Try.underlying23 (by kernel_rfl) cellsG (hval 0 23 v0 rfl rfl) h0
  obtain ⟨p, e0, rfl, wa0⟩ := DataW.trod_int Try.underlying3 hy0
  obtain ⟨q, e1, rfl, wa1⟩ := DataW.trod_int Try.underlying3 hy1
  obtain ⟨g, e2, rfl, wa2⟩ := DataW.trod_int Try.underlying3 hy2
  simp at e0 e1 e2
  subst e0 e1 e2
  obtain ⟨c1g1', c1y1, c1g2', c1y2, y1g1', y1y1, y1g2', y1y2, m1, rfl, rfl, rfl, hy1g1', hy1y1, hy1g2', hy1y2⟩ := open_agg4 Try.underlying25 (by kernel_rfl) (by kernel_rfl) (hval 1 25 v1 rfl rfl) h1
  obtain ⟨g1', e1g1', rfl, wa1g1'⟩ := DataW.trod_int Try.underlying3 hy1g1'
  obtain ⟨y1, e1y1, rfl, wa1y1⟩ := DataW.trod_int Try.underlying3 hy1y1
  obtain ⟨g2', e1g2', rfl, wa1g2'⟩ := DataW.trod_int Try.underlying3 hy1g2'
  obtain ⟨y2, e1y2, rfl, wa1y2⟩ := DataW.trod_int Try.underlying3 hy1y2
  simp at e1g1' e1y1 e1g2' e1y2
  subst e1g1' e1y1 e1g2' e1y2
  obtain ⟨c, rfl, rfl, rfl, ww2⟩ := open_int Try.underlying3 (hval 2 3 v2 rfl rfl) h2
  obtain ⟨z, rfl, rfl, rfl, ww3⟩ := open_int Try.underlying3 (hval 3 3 v3 rfl rfl) h3
  exact walk p q g g1' y1 g2' y2 c z W
theorem proved : Rows.FnExactSimulateEqualSaid :=
  OpenClaim.holds_of_wide 3 Try.f3 rfl rfl rfl rfl rfl rfl rfl ⟨rfl, rfl, rfl, rfl, rfl⟩ rfl rfl rfl rfl rfl (by kernel_rfl) Try.func3 (by kernel_rfl)
    (of_decide_eq_true (by kernel_rfl)) (by unfold Func.isWrapper; rw [if_neg (of_decide_eq_false (by kernel_rfl))]; exact ⟨rfl, rfl⟩)
    (fun os started H enc _ => lifted os started H enc)
#print axioms proved
end Go.Proofs.Ytidcahjkjlmjhaa.pSimulateEqual
