/- FnExactSimulateKnowledge returns true for every input. No condition. -/
import Derived.Test.YtidcahjkjlmjhaaE5
import Derived.Test.YtidcahjkjlmjhaaL1
import Derived.Test.YtidcahjkjlmjhaaLift
namespace Go.Proofs.Ytidcahjkjlmjhaa.pSimulateKnowledge
open Go.ChangeShapes Go.WideShapes Go.ChangeAt Go.RowKit Go.Joins
theorem own : ownKnob Try.prog.godebug = none := by kernel_rfl
theorem cellsG : Try.prog.cellsOf 23 = 3 := by kernel_rfl
theorem walk (p q g b y c z : Int) (w : World) : Calls Try.prog 4 #[.agg #[.int .i64 p, .int .i64 q, .int .i64 g], .int .i64 b, .int .i64 y, .int .i64 c, .int .i64 z] w fun e w' => e = .returned (.bool true) ∧ Below w.heap.size w w' := by
  have hT0 : Below w.heap.size w (w.alloc (.cells #[.int .i64 p, .int .i64 q, .int .i64 g] 23)) := by repeat (first | exact Below.refl _ _ | refine bnew ?_ _)
  go_enter Try.func4, Try.ntmps4
  go_wp2_with fail
  refine (toGroup_any _ _ _ _).mono ?_
  rintro e1 w1 ⟨rfl, hb1⟩
  have hT1 : Below w.heap.size w w1 := bnext (by repeat (first | exact hT0 | refine bnew ?_ _ | refine Below.drew ?_ | refine Below.drewN ?_ _)) hb1
  have c1_0 : w1.cell? ⟨w.heap.size, 0, none⟩ = some (.int .i64 p) := by
    refine cell_keep hb1 ?_
    repeat (first | with_reducible assumption | exact cell_new' (by simp) _ _ _ rfl | with_reducible refine cell_keep (below_new _ _) ?_)
  have c1_1 : w1.cell? ⟨w.heap.size, 1, none⟩ = some (.int .i64 q) := by
    refine cell_keep hb1 ?_
    repeat (first | with_reducible assumption | exact cell_new' (by simp) _ _ _ rfl | with_reducible refine cell_keep (below_new _ _) ?_)
  have c1_2 : w1.cell? ⟨w.heap.size, 2, none⟩ = some (.int .i64 g) := by
    refine cell_keep hb1 ?_
    repeat (first | with_reducible assumption | exact cell_new' (by simp) _ _ _ rfl | with_reducible refine cell_keep (below_new _ _) ?_)
  go_wp2_with fail
  refine (simulateKnowledgeS _ _ _ _ _ _ _ _).mono ?_
  rintro e2 w2 ⟨rfl, hb2⟩
  have hT2 : Below w.heap.size w w2 := bnext (by repeat (first | exact hT1 | refine bnew ?_ _ | refine Below.drew ?_ | refine Below.drewN ?_ _)) hb2
  have c2_0 : w2.cell? ⟨w.heap.size, 0, none⟩ = some (.int .i64 p) := by
    refine cell_keep hb2 ?_
    repeat (first | with_reducible assumption | exact cell_new' (by simp) _ _ _ rfl | with_reducible refine cell_keep (below_new _ _) ?_)
  have c2_1 : w2.cell? ⟨w.heap.size, 1, none⟩ = some (.int .i64 q) := by
    refine cell_keep hb2 ?_
    repeat (first | with_reducible assumption | exact cell_new' (by simp) _ _ _ rfl | with_reducible refine cell_keep (below_new _ _) ?_)
  have c2_2 : w2.cell? ⟨w.heap.size, 2, none⟩ = some (.int .i64 g) := by
    refine cell_keep hb2 ?_
    repeat (first | with_reducible assumption | exact cell_new' (by simp) _ _ _ rfl | with_reducible refine cell_keep (below_new _ _) ?_)
  clear c1_0 c1_1 c1_2
  have l2_0 : w.heap.size < w2.heap.size := World.block_lt_of_cell? _ _ c2_0
  have n2_0 : w.heap.size ≠ w2.heap.size := Nat.ne_of_lt l2_0
  go_wp2_with fail
  refine (toGroup_any _ _ _ _).mono ?_
  rintro e3 w3 ⟨rfl, hb3⟩
  have hT3 : Below w.heap.size w w3 := bnext (by repeat (first | exact hT2 | refine bnew ?_ _ | refine Below.drew ?_ | refine Below.drewN ?_ _)) hb3
  have c3_0 : w3.cell? ⟨w.heap.size, 0, none⟩ = some (.int .i64 p) := by
    refine cell_keep hb3 ?_
    repeat (first | with_reducible assumption | exact cell_new' (by simp) _ _ _ rfl | with_reducible refine cell_keep (below_new _ _) ?_)
  have c3_1 : w3.cell? ⟨w.heap.size, 1, none⟩ = some (.int .i64 q) := by
    refine cell_keep hb3 ?_
    repeat (first | with_reducible assumption | exact cell_new' (by simp) _ _ _ rfl | with_reducible refine cell_keep (below_new _ _) ?_)
  have c3_2 : w3.cell? ⟨w.heap.size, 2, none⟩ = some (.int .i64 g) := by
    refine cell_keep hb3 ?_
    repeat (first | with_reducible assumption | exact cell_new' (by simp) _ _ _ rfl | with_reducible refine cell_keep (below_new _ _) ?_)
  have c3_3 : w3.cell? ⟨w2.heap.size, 0, none⟩ = some (.int .i64 (simKn p q g b y c z).1) := by
    refine cell_keep hb3 ?_
    repeat (first | with_reducible assumption | exact cell_new' (by simp) _ _ _ rfl | with_reducible refine cell_keep (below_new _ _) ?_)
  have c3_4 : w3.cell? ⟨w2.heap.size, 1, none⟩ = some (.int .i64 (simKn p q g b y c z).2.1) := by
    refine cell_keep hb3 ?_
    repeat (first | with_reducible assumption | exact cell_new' (by simp) _ _ _ rfl | with_reducible refine cell_keep (below_new _ _) ?_)
  have c3_5 : w3.cell? ⟨w2.heap.size, 2, none⟩ = some (.int .i64 (simKn p q g b y c z).2.2.1) := by
    refine cell_keep hb3 ?_
    repeat (first | with_reducible assumption | exact cell_new' (by simp) _ _ _ rfl | with_reducible refine cell_keep (below_new _ _) ?_)
  clear c2_0 c2_1 c2_2
  go_wp2_with fail
  refine (simulateKnowledgeI _ _ _ _ _ _ _ _).mono ?_
  rintro e4 w4 ⟨rfl, hb4⟩
  have hT4 : Below w.heap.size w w4 := bnext (by repeat (first | exact hT3 | refine bnew ?_ _ | refine Below.drew ?_ | refine Below.drewN ?_ _)) hb4
  have c4_0 : w4.cell? ⟨w.heap.size, 0, none⟩ = some (.int .i64 p) := by
    refine cell_keep hb4 ?_
    repeat (first | with_reducible assumption | exact cell_new' (by simp) _ _ _ rfl | with_reducible refine cell_keep (below_new _ _) ?_)
  have c4_1 : w4.cell? ⟨w.heap.size, 1, none⟩ = some (.int .i64 q) := by
    refine cell_keep hb4 ?_
    repeat (first | with_reducible assumption | exact cell_new' (by simp) _ _ _ rfl | with_reducible refine cell_keep (below_new _ _) ?_)
  have c4_2 : w4.cell? ⟨w.heap.size, 2, none⟩ = some (.int .i64 g) := by
    refine cell_keep hb4 ?_
    repeat (first | with_reducible assumption | exact cell_new' (by simp) _ _ _ rfl | with_reducible refine cell_keep (below_new _ _) ?_)
  have c4_3 : w4.cell? ⟨w2.heap.size, 0, none⟩ = some (.int .i64 (simKn p q g b y c z).1) := by
    refine cell_keep hb4 ?_
    repeat (first | with_reducible assumption | exact cell_new' (by simp) _ _ _ rfl | with_reducible refine cell_keep (below_new _ _) ?_)
  have c4_4 : w4.cell? ⟨w2.heap.size, 1, none⟩ = some (.int .i64 (simKn p q g b y c z).2.1) := by
    refine cell_keep hb4 ?_
    repeat (first | with_reducible assumption | exact cell_new' (by simp) _ _ _ rfl | with_reducible refine cell_keep (below_new _ _) ?_)
  have c4_5 : w4.cell? ⟨w2.heap.size, 2, none⟩ = some (.int .i64 (simKn p q g b y c z).2.2.1) := by
    refine cell_keep hb4 ?_
    repeat (first | with_reducible assumption | exact cell_new' (by simp) _ _ _ rfl | with_reducible refine cell_keep (below_new _ _) ?_)
  clear c3_0 c3_1 c3_2 c3_3 c3_4 c3_5
  have l4_0 : w.heap.size < w4.heap.size := World.block_lt_of_cell? _ _ c4_0
  have n4_0 : w.heap.size ≠ w4.heap.size := Nat.ne_of_lt l4_0
  have l4_3 : w2.heap.size < w4.heap.size := World.block_lt_of_cell? _ _ c4_3
  have n4_3 : w2.heap.size ≠ w4.heap.size := Nat.ne_of_lt l4_3
  go_wp2_with fail
  refine (eqTranscript_same _ _ _ _).mono ?_
  rintro e5 w5 ⟨rfl, hb5⟩
  have hT5 : Below w.heap.size w w5 := bnext (by repeat (first | exact hT4 | refine bnew ?_ _ | refine Below.drew ?_ | refine Below.drewN ?_ _)) hb5
  have c5_0 : w5.cell? ⟨w.heap.size, 0, none⟩ = some (.int .i64 p) := by
    refine cell_keep hb5 ?_
    repeat (first | with_reducible assumption | exact cell_new' (by simp) _ _ _ rfl | with_reducible refine cell_keep (below_new _ _) ?_)
  have c5_1 : w5.cell? ⟨w.heap.size, 1, none⟩ = some (.int .i64 q) := by
    refine cell_keep hb5 ?_
    repeat (first | with_reducible assumption | exact cell_new' (by simp) _ _ _ rfl | with_reducible refine cell_keep (below_new _ _) ?_)
  have c5_2 : w5.cell? ⟨w.heap.size, 2, none⟩ = some (.int .i64 g) := by
    refine cell_keep hb5 ?_
    repeat (first | with_reducible assumption | exact cell_new' (by simp) _ _ _ rfl | with_reducible refine cell_keep (below_new _ _) ?_)
  have c5_3 : w5.cell? ⟨w2.heap.size, 0, none⟩ = some (.int .i64 (simKn p q g b y c z).1) := by
    refine cell_keep hb5 ?_
    repeat (first | with_reducible assumption | exact cell_new' (by simp) _ _ _ rfl | with_reducible refine cell_keep (below_new _ _) ?_)
  have c5_4 : w5.cell? ⟨w2.heap.size, 1, none⟩ = some (.int .i64 (simKn p q g b y c z).2.1) := by
    refine cell_keep hb5 ?_
    repeat (first | with_reducible assumption | exact cell_new' (by simp) _ _ _ rfl | with_reducible refine cell_keep (below_new _ _) ?_)
  have c5_5 : w5.cell? ⟨w2.heap.size, 2, none⟩ = some (.int .i64 (simKn p q g b y c z).2.2.1) := by
    refine cell_keep hb5 ?_
    repeat (first | with_reducible assumption | exact cell_new' (by simp) _ _ _ rfl | with_reducible refine cell_keep (below_new _ _) ?_)
  have c5_6 : w5.cell? ⟨w4.heap.size, 0, none⟩ = some (.int .i64 (simKn p q g b y c z).1) := by
    refine cell_keep hb5 ?_
    repeat (first | with_reducible assumption | exact cell_new' (by simp) _ _ _ rfl | with_reducible refine cell_keep (below_new _ _) ?_)
  have c5_7 : w5.cell? ⟨w4.heap.size, 1, none⟩ = some (.int .i64 (simKn p q g b y c z).2.1) := by
    refine cell_keep hb5 ?_
    repeat (first | with_reducible assumption | exact cell_new' (by simp) _ _ _ rfl | with_reducible refine cell_keep (below_new _ _) ?_)
  have c5_8 : w5.cell? ⟨w4.heap.size, 2, none⟩ = some (.int .i64 (simKn p q g b y c z).2.2.1) := by
    refine cell_keep hb5 ?_
    repeat (first | with_reducible assumption | exact cell_new' (by simp) _ _ _ rfl | with_reducible refine cell_keep (below_new _ _) ?_)
  clear c4_0 c4_1 c4_2 c4_3 c4_4 c4_5
  go_wp2
  go_ret
  exact ⟨rfl, (by repeat (first | exact hT5 | refine bnew ?_ _ | refine Below.drew ?_ | refine Below.drewN ?_ _))⟩
set_option maxRecDepth 100000 in
theorem lifted (os : Os) (started : os.Started) (H : Type) (enc : TypeId × Value → H) :
    ReturnsInHanded {} Try.checked os 4 .any (Rows.fnExactSimulateKnowledgeSpec.pre6 enc Try.prog Try.f4 Rows.fnExactSimulateKnowledgeRow.domain false) (Rows.fnExactSimulateKnowledgeSpec.post enc Try.prog Try.f4 false true false false) := by
  refine law_lift (C := Try.checked) own started (by kernel_rfl) Try.func4
    (ChangeSpec.witness6 (enc := enc) (C := Try.checked) false ⟨#[], #[.agg #[.int .i64 0, .int .i64 0, .int .i64 0], .int .i64 0, .int .i64 0, .int .i64 0, .int .i64 0], []⟩ 8 (by kernel_rfl) (by kernel_rfl) (by kernel_rfl) (by kernel_rfl))
    (by kernel_rfl) [23, 3, 3, 3, 3] rfl (by kernel_rfl) 4 rfl Try.underlying4 rfl (fun ds h => by
      match ds, h with
      | [_, _, _, _, _], _ => rfl) ?_
  intro W base args ds p hval hA hlt
  obtain ⟨v0, vs0, d0, ds0, p0, q0, hargs, rfl, rfl, h0, r0⟩ := trodAll_cons hA
  obtain ⟨v1, vs1, d1, ds1, p1, q1, rfl, rfl, rfl, h1, r1⟩ := trodAll_cons r0
  obtain ⟨v2, vs2, d2, ds2, p2, q2, rfl, rfl, rfl, h2, r2⟩ := trodAll_cons r1
  obtain ⟨v3, vs3, d3, ds3, p3, q3, rfl, rfl, rfl, h3, r3⟩ := trodAll_cons r2
  obtain ⟨v4, vs4, d4, ds4, p4, q4, rfl, rfl, rfl, h4, r4⟩ := trodAll_cons r3
  obtain ⟨rfl, rfl, rfl⟩ := trodAll_nil r4
  rw [hargs] at hval
  obtain rfl : args = #[v0, v1, v2, v3, v4] := by cases args; simp_all
  obtain ⟨c0, c1, c2, y0, y1, y2, m9, rfl, rfl, rfl, hy0, hy1, hy2⟩ := open_agg3 Try.underlying23 (by kernel_rfl) cellsG (hval 0 23 v0 rfl rfl) h0
  obtain ⟨p, e0, rfl, wa0⟩ := DataW.trod_int Try.underlying3 hy0
  obtain ⟨q, e1, rfl, wa1⟩ := DataW.trod_int Try.underlying3 hy1
  obtain ⟨g, e2, rfl, wa2⟩ := DataW.trod_int Try.underlying3 hy2
  simp at e0 e1 e2
  subst e0 e1 e2
  obtain ⟨b, rfl, rfl, rfl, ww1⟩ := open_int Try.underlying3 (hval 1 3 v1 rfl rfl) h1
  obtain ⟨y, rfl, rfl, rfl, ww2⟩ := open_int Try.underlying3 (hval 2 3 v2 rfl rfl) h2
  obtain ⟨c, rfl, rfl, rfl, ww3⟩ := open_int Try.underlying3 (hval 3 3 v3 rfl rfl) h3
  obtain ⟨z, rfl, rfl, rfl, ww4⟩ := open_int Try.underlying3 (hval 4 3 v4 rfl rfl) h4
  exact walk p q g b y c z W
theorem proved : Rows.FnExactSimulateKnowledgeSaid :=
  OpenClaim.holds_of_wide 4 Try.f4 rfl rfl rfl rfl rfl rfl rfl ⟨rfl, rfl, rfl, rfl, rfl⟩ rfl rfl rfl rfl rfl (by kernel_rfl) Try.func4 (by kernel_rfl)
    (of_decide_eq_true (by kernel_rfl)) (by unfold Func.isWrapper; rw [if_neg (of_decide_eq_false (by kernel_rfl))]; exact ⟨rfl, rfl⟩)
    (fun os started H enc _ => lifted os started H enc)
#print axioms proved
end Go.Proofs.Ytidcahjkjlmjhaa.pSimulateKnowledge
