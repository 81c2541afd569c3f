/- Walks: SimulateKnowledge. -/
import Derived.Test.YtidcahjkjlmjhaaE4
namespace Go.Proofs.Ytidcahjkjlmjhaa
open Go.RowKit
set_option maxHeartbeats 800000 in
theorem simulateKnowledgeI (p q g b y c z : Int) (w : World) :
    Calls Try.prog 14 #[.agg #[.int .i64 p, .int .i64 q, .int .i64 g], .int .i64 b, .int .i64 y, .int .i64 c, .int .i64 z] w fun en w' => en = .returned (.tuple #[.agg #[.int .i64 (simKn p q g b y c z).1, .int .i64 (simKn p q g b y c z).2.1, .int .i64 (simKn p q g b y c z).2.2.1], .bool (simKn p q g b y c z).2.2.2]) ∧ Below w.heap.size w w' := by
  have hT0 : Below w.heap.size w ((w.alloc (.cells #[.int .i64 p, .int .i64 q, .int .i64 g] 28)).alloc (.cells #[.int .i64 0, .int .i64 0, .int .i64 0] 34)) := by repeat (first | exact Below.refl _ _ | refine bnew ?_ _)
  go_enter Try.func14, Try.ntmps14
  go_wp2_with fail
  refine (isValidGroup_any p q g _).mono ?_
  rintro e1 w1 ⟨rfl, hb1⟩
  have hT1 : Below w.heap.size w w1 := bnext (by repeat (first | exact hT0 | refine bnew ?_ _ | refine Below.drew ?_ | refine Below.drewN ?_ _)) hb1
  have c1_0 : w1.cell? ⟨w.heap.size, 0, none⟩ = some (.int .i64 p) := by
    refine cell_keep hb1 ?_
    repeat (first | with_reducible assumption | exact cell_new' (by simp) _ _ _ rfl | with_reducible refine cell_keep (below_new _ _) ?_)
  have c1_1 : w1.cell? ⟨w.heap.size, 1, none⟩ = some (.int .i64 q) := by
    refine cell_keep hb1 ?_
    repeat (first | with_reducible assumption | exact cell_new' (by simp) _ _ _ rfl | with_reducible refine cell_keep (below_new _ _) ?_)
  have c1_2 : w1.cell? ⟨w.heap.size, 2, none⟩ = some (.int .i64 g) := by
    refine cell_keep hb1 ?_
    repeat (first | with_reducible assumption | exact cell_new' (by simp) _ _ _ rfl | with_reducible refine cell_keep (below_new _ _) ?_)
  have c1_3 : w1.cell? ⟨w.heap.size + 1, 0, none⟩ = some (.int .i64 0) := by
    refine cell_keep hb1 ?_
    repeat (first | with_reducible assumption | exact cell_new' (by simp) _ _ _ rfl | with_reducible refine cell_keep (below_new _ _) ?_)
  have f1_3 : w1.frozen? ⟨w.heap.size + 1, 0, none⟩ = false := by
    refine frozen_keep (v := .int .i64 0) hb1 ?_ ?_
    · repeat (first | with_reducible assumption | exact cell_new' (by simp) _ _ _ rfl | with_reducible refine cell_keep (below_new _ _) ?_)
    · first | with_reducible assumption | exact frozen_new' (by simp) _ _ _ | (refine frozen_keep (v := .int .i64 0) (below_new _ _) ?_ ?_ <;> (repeat (first | with_reducible assumption | exact frozen_new' (by simp) _ _ _ | exact cell_new' (by simp) _ _ _ rfl | with_reducible refine cell_keep (below_new _ _) ?_ | refine frozen_keep (v := .int .i64 0) (below_new _ _) ?_ ?_)))
  have c1_4 : w1.cell? ⟨w.heap.size + 1, 1, none⟩ = some (.int .i64 0) := by
    refine cell_keep hb1 ?_
    repeat (first | with_reducible assumption | exact cell_new' (by simp) _ _ _ rfl | with_reducible refine cell_keep (below_new _ _) ?_)
  have f1_4 : w1.frozen? ⟨w.heap.size + 1, 1, none⟩ = false := by
    refine frozen_keep (v := .int .i64 0) hb1 ?_ ?_
    · repeat (first | with_reducible assumption | exact cell_new' (by simp) _ _ _ rfl | with_reducible refine cell_keep (below_new _ _) ?_)
    · first | with_reducible assumption | exact frozen_new' (by simp) _ _ _ | (refine frozen_keep (v := .int .i64 0) (below_new _ _) ?_ ?_ <;> (repeat (first | with_reducible assumption | exact frozen_new' (by simp) _ _ _ | exact cell_new' (by simp) _ _ _ rfl | with_reducible refine cell_keep (below_new _ _) ?_ | refine frozen_keep (v := .int .i64 0) (below_new _ _) ?_ ?_)))
  have c1_5 : w1.cell? ⟨w.heap.size + 1, 2, none⟩ = some (.int .i64 0) := by
    refine cell_keep hb1 ?_
    repeat (first | with_reducible assumption | exact cell_new' (by simp) _ _ _ rfl | with_reducible refine cell_keep (below_new _ _) ?_)
  have f1_5 : w1.frozen? ⟨w.heap.size + 1, 2, none⟩ = false := by
    refine frozen_keep (v := .int .i64 0) hb1 ?_ ?_
    · repeat (first | with_reducible assumption | exact cell_new' (by simp) _ _ _ rfl | with_reducible refine cell_keep (below_new _ _) ?_)
    · first | with_reducible assumption | exact frozen_new' (by simp) _ _ _ | (refine frozen_keep (v := .int .i64 0) (below_new _ _) ?_ ?_ <;> (repeat (first | with_reducible assumption | exact frozen_new' (by simp) _ _ _ | exact cell_new' (by simp) _ _ _ rfl | with_reducible refine cell_keep (below_new _ _) ?_ | refine frozen_keep (v := .int .i64 0) (below_new _ _) ?_ ?_)))
  rcases Bool.eq_false_or_eq_true (M.goodB p q g) with hg | hg
  rotate_left
  · have hR := Lib.hid (show simKn p q g b y c z = (0, 0, 0, false) by unfold simKn; rw [if_neg fun hh => Bool.false_ne_true (hg.symm.trans hh.1)])
    go_wp2
    obtain ⟨r0, r1, r2⟩ := set3' (.int .i64 0) (.int .i64 0) (.int .i64 0) c1_3 c1_4 c1_5
    refine bodyPost_ret (v := .tuple #[.agg #[.int .i64 0, .int .i64 0, .int .i64 0], .bool false]) (by simp [results, Try.results14, go_sem, r0, r1, r2]) rfl ⟨by rw [hR.out], ?_⟩
    repeat (first | exact hT1 | refine bnew ?_ _ | refine below_set _ ?_ (by simp))
  have hG := M.goodB_of hg
  have g1 := hG.q2
  have g2 := hG.qp
  have g3 := hG.p3
  have g4 := hG.pM
  have HG := Lib.hid hG
  clear hG
  go_wp2_with fail
  refine (hasAll_any p q g HG.out _ _ [b, y] (by simp) _ (RI.lit2 _ _ _ _ (by simp))).mono ?_
  rintro e2 w2 ⟨rfl, hb2⟩
  have hT2 : Below w.heap.size w w2 := bnext (by repeat (first | exact hT1 | refine bnew ?_ _ | refine Below.drew ?_ | refine Below.drewN ?_ _)) hb2
  have c2_0 : w2.cell? ⟨w.heap.size, 0, none⟩ = some (.int .i64 p) := by
    refine cell_keep hb2 ?_
    repeat (first | with_reducible assumption | exact cell_new' (by simp) _ _ _ rfl | with_reducible refine cell_keep (below_new _ _) ?_)
  have c2_1 : w2.cell? ⟨w.heap.size, 1, none⟩ = some (.int .i64 q) := by
    refine cell_keep hb2 ?_
    repeat (first | with_reducible assumption | exact cell_new' (by simp) _ _ _ rfl | with_reducible refine cell_keep (below_new _ _) ?_)
  have c2_2 : w2.cell? ⟨w.heap.size, 2, none⟩ = some (.int .i64 g) := by
    refine cell_keep hb2 ?_
    repeat (first | with_reducible assumption | exact cell_new' (by simp) _ _ _ rfl | with_reducible refine cell_keep (below_new _ _) ?_)
  have c2_3 : w2.cell? ⟨w.heap.size + 1, 0, none⟩ = some (.int .i64 0) := by
    refine cell_keep hb2 ?_
    repeat (first | with_reducible assumption | exact cell_new' (by simp) _ _ _ rfl | with_reducible refine cell_keep (below_new _ _) ?_)
  have f2_3 : w2.frozen? ⟨w.heap.size + 1, 0, none⟩ = false := by
    refine frozen_keep (v := .int .i64 0) hb2 ?_ ?_
    · repeat (first | with_reducible assumption | exact cell_new' (by simp) _ _ _ rfl | with_reducible refine cell_keep (below_new _ _) ?_)
    · first | with_reducible assumption | exact frozen_new' (by simp) _ _ _ | (refine frozen_keep (v := .int .i64 0) (below_new _ _) ?_ ?_ <;> (repeat (first | with_reducible assumption | exact frozen_new' (by simp) _ _ _ | exact cell_new' (by simp) _ _ _ rfl | with_reducible refine cell_keep (below_new _ _) ?_ | refine frozen_keep (v := .int .i64 0) (below_new _ _) ?_ ?_)))
  have c2_4 : w2.cell? ⟨w.heap.size + 1, 1, none⟩ = some (.int .i64 0) := by
    refine cell_keep hb2 ?_
    repeat (first | with_reducible assumption | exact cell_new' (by simp) _ _ _ rfl | with_reducible refine cell_keep (below_new _ _) ?_)
  have f2_4 : w2.frozen? ⟨w.heap.size + 1, 1, none⟩ = false := by
    refine frozen_keep (v := .int .i64 0) hb2 ?_ ?_
    · repeat (first | with_reducible assumption | exact cell_new' (by simp) _ _ _ rfl | with_reducible refine cell_keep (below_new _ _) ?_)
    · first | with_reducible assumption | exact frozen_new' (by simp) _ _ _ | (refine frozen_keep (v := .int .i64 0) (below_new _ _) ?_ ?_ <;> (repeat (first | with_reducible assumption | exact frozen_new' (by simp) _ _ _ | exact cell_new' (by simp) _ _ _ rfl | with_reducible refine cell_keep (below_new _ _) ?_ | refine frozen_keep (v := .int .i64 0) (below_new _ _) ?_ ?_)))
  have c2_5 : w2.cell? ⟨w.heap.size + 1, 2, none⟩ = some (.int .i64 0) := by
    refine cell_keep hb2 ?_
    repeat (first | with_reducible assumption | exact cell_new' (by simp) _ _ _ rfl | with_reducible refine cell_keep (below_new _ _) ?_)
  have f2_5 : w2.frozen? ⟨w.heap.size + 1, 2, none⟩ = false := by
    refine frozen_keep (v := .int .i64 0) hb2 ?_ ?_
    · repeat (first | with_reducible assumption | exact cell_new' (by simp) _ _ _ rfl | with_reducible refine cell_keep (below_new _ _) ?_)
    · first | with_reducible assumption | exact frozen_new' (by simp) _ _ _ | (refine frozen_keep (v := .int .i64 0) (below_new _ _) ?_ ?_ <;> (repeat (first | with_reducible assumption | exact frozen_new' (by simp) _ _ _ | exact cell_new' (by simp) _ _ _ rfl | with_reducible refine cell_keep (below_new _ _) ?_ | refine frozen_keep (v := .int .i64 0) (below_new _ _) ?_ ?_)))
  clear c1_0 c1_1 c1_2 c1_3 f1_3 c1_4 f1_4 c1_5 f1_5
  rcases Bool.eq_false_or_eq_true (elemsB p q [b, y]) with he | he
  rotate_left
  · have hR := Lib.hid (show simKn p q g b y c z = (0, 0, 0, false) by unfold simKn; rw [if_neg fun hh => Bool.false_ne_true (he.symm.trans hh.2.1)])
    go_wp2
    obtain ⟨r0, r1, r2⟩ := set3' (.int .i64 0) (.int .i64 0) (.int .i64 0) c2_3 c2_4 c2_5
    refine bodyPost_ret (v := .tuple #[.agg #[.int .i64 0, .int .i64 0, .int .i64 0], .bool false]) (by simp [results, Try.results14, go_sem, r0, r1, r2]) rfl ⟨by rw [hR.out], ?_⟩
    repeat (first | exact hT2 | refine bnew ?_ _ | refine below_set _ ?_ (by simp))
  have l_b := elemsB_mem he (x := b) (by simp)
  have d_b := elem_bd l_b
  have l_y := elemsB_mem he (x := y) (by simp)
  have d_y := elem_bd l_y
  go_wp2_with fail
  refine (areExps_any p q g _ _ [c, z] _ (by omega) (RI.lit2 _ _ _ _ (by simp)) (by simp)).mono ?_
  rintro e3 w3 ⟨rfl, hb3⟩
  have hT3 : Below w.heap.size w w3 := bnext (by repeat (first | exact hT2 | refine bnew ?_ _ | refine Below.drew ?_ | refine Below.drewN ?_ _)) hb3
  have c3_0 : w3.cell? ⟨w.heap.size, 0, none⟩ = some (.int .i64 p) := by
    refine cell_keep hb3 ?_
    repeat (first | with_reducible assumption | exact cell_new' (by simp) _ _ _ rfl | with_reducible refine cell_keep (below_new _ _) ?_)
  have c3_1 : w3.cell? ⟨w.heap.size, 1, none⟩ = some (.int .i64 q) := by
    refine cell_keep hb3 ?_
    repeat (first | with_reducible assumption | exact cell_new' (by simp) _ _ _ rfl | with_reducible refine cell_keep (below_new _ _) ?_)
  have c3_2 : w3.cell? ⟨w.heap.size, 2, none⟩ = some (.int .i64 g) := by
    refine cell_keep hb3 ?_
    repeat (first | with_reducible assumption | exact cell_new' (by simp) _ _ _ rfl | with_reducible refine cell_keep (below_new _ _) ?_)
  have c3_3 : w3.cell? ⟨w.heap.size + 1, 0, none⟩ = some (.int .i64 0) := by
    refine cell_keep hb3 ?_
    repeat (first | with_reducible assumption | exact cell_new' (by simp) _ _ _ rfl | with_reducible refine cell_keep (below_new _ _) ?_)
  have f3_3 : w3.frozen? ⟨w.heap.size + 1, 0, none⟩ = false := by
    refine frozen_keep (v := .int .i64 0) hb3 ?_ ?_
    · repeat (first | with_reducible assumption | exact cell_new' (by simp) _ _ _ rfl | with_reducible refine cell_keep (below_new _ _) ?_)
    · first | with_reducible assumption | exact frozen_new' (by simp) _ _ _ | (refine frozen_keep (v := .int .i64 0) (below_new _ _) ?_ ?_ <;> (repeat (first | with_reducible assumption | exact frozen_new' (by simp) _ _ _ | exact cell_new' (by simp) _ _ _ rfl | with_reducible refine cell_keep (below_new _ _) ?_ | refine frozen_keep (v := .int .i64 0) (below_new _ _) ?_ ?_)))
  have c3_4 : w3.cell? ⟨w.heap.size + 1, 1, none⟩ = some (.int .i64 0) := by
    refine cell_keep hb3 ?_
    repeat (first | with_reducible assumption | exact cell_new' (by simp) _ _ _ rfl | with_reducible refine cell_keep (below_new _ _) ?_)
  have f3_4 : w3.frozen? ⟨w.heap.size + 1, 1, none⟩ = false := by
    refine frozen_keep (v := .int .i64 0) hb3 ?_ ?_
    · repeat (first | with_reducible assumption | exact cell_new' (by simp) _ _ _ rfl | with_reducible refine cell_keep (below_new _ _) ?_)
    · first | with_reducible assumption | exact frozen_new' (by simp) _ _ _ | (refine frozen_keep (v := .int .i64 0) (below_new _ _) ?_ ?_ <;> (repeat (first | with_reducible assumption | exact frozen_new' (by simp) _ _ _ | exact cell_new' (by simp) _ _ _ rfl | with_reducible refine cell_keep (below_new _ _) ?_ | refine frozen_keep (v := .int .i64 0) (below_new _ _) ?_ ?_)))
  have c3_5 : w3.cell? ⟨w.heap.size + 1, 2, none⟩ = some (.int .i64 0) := by
    refine cell_keep hb3 ?_
    repeat (first | with_reducible assumption | exact cell_new' (by simp) _ _ _ rfl | with_reducible refine cell_keep (below_new _ _) ?_)
  have f3_5 : w3.frozen? ⟨w.heap.size + 1, 2, none⟩ = false := by
    refine frozen_keep (v := .int .i64 0) hb3 ?_ ?_
    · repeat (first | with_reducible assumption | exact cell_new' (by simp) _ _ _ rfl | with_reducible refine cell_keep (below_new _ _) ?_)
    · first | with_reducible assumption | exact frozen_new' (by simp) _ _ _ | (refine frozen_keep (v := .int .i64 0) (below_new _ _) ?_ ?_ <;> (repeat (first | with_reducible assumption | exact frozen_new' (by simp) _ _ _ | exact cell_new' (by simp) _ _ _ rfl | with_reducible refine cell_keep (below_new _ _) ?_ | refine frozen_keep (v := .int .i64 0) (below_new _ _) ?_ ?_)))
  clear c2_0 c2_1 c2_2 c2_3 f2_3 c2_4 f2_4 c2_5 f2_5
  rcases Bool.eq_false_or_eq_true (expsB q [c, z]) with hs | hs
  rotate_left
  · have hR := Lib.hid (show simKn p q g b y c z = (0, 0, 0, false) by unfold simKn; rw [if_neg fun hh => Bool.false_ne_true (hs.symm.trans hh.2.2)])
    go_wp2
    obtain ⟨r0, r1, r2⟩ := set3' (.int .i64 0) (.int .i64 0) (.int .i64 0) c3_3 c3_4 c3_5
    refine bodyPost_ret (v := .tuple #[.agg #[.int .i64 0, .int .i64 0, .int .i64 0], .bool false]) (by simp [results, Try.results14, go_sem, r0, r1, r2]) rfl ⟨by rw [hR.out], ?_⟩
    repeat (first | exact hT3 | refine bnew ?_ _ | refine below_set _ ?_ (by simp))
  have b_c := expsB_mem hs (e := c) (by simp)
  have b_z := expsB_mem hs (e := z) (by simp)
  have hR := Lib.hid (show simKn p q g b y c z = (simC p q b y c z, c, z, true) by unfold simKn; rw [if_pos ⟨hg, he, hs⟩])
  go_wp2_with fail
  refine (simulate_any _ _ _ _ _ _ _ HG.out (by assumption) (by assumption) (by omega) (by omega) _).mono ?_
  rintro e4 w4 ⟨rfl, hb4⟩
  have hT4 : Below w.heap.size w w4 := bnext (by repeat (first | exact hT3 | refine bnew ?_ _ | refine Below.drew ?_ | refine Below.drewN ?_ _)) hb4
  have c4_0 : w4.cell? ⟨w.heap.size, 0, none⟩ = some (.int .i64 p) := by
    refine cell_keep hb4 ?_
    repeat (first | with_reducible assumption | exact cell_new' (by simp) _ _ _ rfl | with_reducible refine cell_keep (below_new _ _) ?_)
  have c4_1 : w4.cell? ⟨w.heap.size, 1, none⟩ = some (.int .i64 q) := by
    refine cell_keep hb4 ?_
    repeat (first | with_reducible assumption | exact cell_new' (by simp) _ _ _ rfl | with_reducible refine cell_keep (below_new _ _) ?_)
  have c4_2 : w4.cell? ⟨w.heap.size, 2, none⟩ = some (.int .i64 g) := by
    refine cell_keep hb4 ?_
    repeat (first | with_reducible assumption | exact cell_new' (by simp) _ _ _ rfl | with_reducible refine cell_keep (below_new _ _) ?_)
  have c4_3 : w4.cell? ⟨w.heap.size + 1, 0, none⟩ = some (.int .i64 0) := by
    refine cell_keep hb4 ?_
    repeat (first | with_reducible assumption | exact cell_new' (by simp) _ _ _ rfl | with_reducible refine cell_keep (below_new _ _) ?_)
  have f4_3 : w4.frozen? ⟨w.heap.size + 1, 0, none⟩ = false := by
    refine frozen_keep (v := .int .i64 0) hb4 ?_ ?_
    · repeat (first | with_reducible assumption | exact cell_new' (by simp) _ _ _ rfl | with_reducible refine cell_keep (below_new _ _) ?_)
    · first | with_reducible assumption | exact frozen_new' (by simp) _ _ _ | (refine frozen_keep (v := .int .i64 0) (below_new _ _) ?_ ?_ <;> (repeat (first | with_reducible assumption | exact frozen_new' (by simp) _ _ _ | exact cell_new' (by simp) _ _ _ rfl | with_reducible refine cell_keep (below_new _ _) ?_ | refine frozen_keep (v := .int .i64 0) (below_new _ _) ?_ ?_)))
  have c4_4 : w4.cell? ⟨w.heap.size + 1, 1, none⟩ = some (.int .i64 0) := by
    refine cell_keep hb4 ?_
    repeat (first | with_reducible assumption | exact cell_new' (by simp) _ _ _ rfl | with_reducible refine cell_keep (below_new _ _) ?_)
  have f4_4 : w4.frozen? ⟨w.heap.size + 1, 1, none⟩ = false := by
    refine frozen_keep (v := .int .i64 0) hb4 ?_ ?_
    · repeat (first | with_reducible assumption | exact cell_new' (by simp) _ _ _ rfl | with_reducible refine cell_keep (below_new _ _) ?_)
    · first | with_reducible assumption | exact frozen_new' (by simp) _ _ _ | (refine frozen_keep (v := .int .i64 0) (below_new _ _) ?_ ?_ <;> (repeat (first | with_reducible assumption | exact frozen_new' (by simp) _ _ _ | exact cell_new' (by simp) _ _ _ rfl | with_reducible refine cell_keep (below_new _ _) ?_ | refine frozen_keep (v := .int .i64 0) (below_new _ _) ?_ ?_)))
  have c4_5 : w4.cell? ⟨w.heap.size + 1, 2, none⟩ = some (.int .i64 0) := by
    refine cell_keep hb4 ?_
    repeat (first | with_reducible assumption | exact cell_new' (by simp) _ _ _ rfl | with_reducible refine cell_keep (below_new _ _) ?_)
  have f4_5 : w4.frozen? ⟨w.heap.size + 1, 2, none⟩ = false := by
    refine frozen_keep (v := .int .i64 0) hb4 ?_ ?_
    · repeat (first | with_reducible assumption | exact cell_new' (by simp) _ _ _ rfl | with_reducible refine cell_keep (below_new _ _) ?_)
    · first | with_reducible assumption | exact frozen_new' (by simp) _ _ _ | (refine frozen_keep (v := .int .i64 0) (below_new _ _) ?_ ?_ <;> (repeat (first | with_reducible assumption | exact frozen_new' (by simp) _ _ _ | exact cell_new' (by simp) _ _ _ rfl | with_reducible refine cell_keep (below_new _ _) ?_ | refine frozen_keep (v := .int .i64 0) (below_new _ _) ?_ ?_)))
  clear c3_0 c3_1 c3_2 c3_3 f3_3 c3_4 f3_4 c3_5 f3_5
  go_wp2
  obtain ⟨r0, r1, r2⟩ := set3' (.int .i64 (simC p q b y c z)) (.int .i64 c) (.int .i64 z) c4_3 c4_4 c4_5
  refine bodyPost_ret (v := .tuple #[.agg #[.int .i64 (simC p q b y c z), .int .i64 c, .int .i64 z], .bool true]) (by simp [results, Try.results14, go_sem, r0, r1, r2]) rfl ⟨by rw [hR.out], ?_⟩
  repeat (first | exact hT4 | refine bnew ?_ _ | refine below_set _ ?_ (by simp))
set_option maxHeartbeats 800000 in
theorem simulateKnowledgeS (p q g b y c z : Int) (w : World) :
    Calls Try.prog 13 #[.agg #[.int .i64 p, .int .i64 q, .int .i64 g], .int .i64 b, .int .i64 y, .int .i64 c, .int .i64 z] w fun en w' => en = .returned (.tuple #[.agg #[.int .i64 (simKn p q g b y c z).1, .int .i64 (simKn p q g b y c z).2.1, .int .i64 (simKn p q g b y c z).2.2.1], .bool (simKn p q g b y c z).2.2.2]) ∧ Below w.heap.size w w' := by
  have hT0 : Below w.heap.size w ((w.alloc (.cells #[.int .i64 p, .int .i64 q, .int .i64 g] 28)).alloc (.cells #[.int .i64 0, .int .i64 0, .int .i64 0] 34)) := by repeat (first | exact Below.refl _ _ | refine bnew ?_ _)
  go_enter Try.func13, Try.ntmps13
  go_wp2_with fail
  refine (l2Good_any p q g _).mono ?_
  rintro e1 w1 ⟨rfl, hb1⟩
  have hT1 : Below w.heap.size w w1 := bnext (by repeat (first | exact hT0 | refine bnew ?_ _ | refine Below.drew ?_ | refine Below.drewN ?_ _)) hb1
  have c1_0 : w1.cell? ⟨w.heap.size, 0, none⟩ = some (.int .i64 p) := by
    refine cell_keep hb1 ?_
    repeat (first | with_reducible assumption | exact cell_new' (by simp) _ _ _ rfl | with_reducible refine cell_keep (below_new _ _) ?_)
  have c1_1 : w1.cell? ⟨w.heap.size, 1, none⟩ = some (.int .i64 q) := by
    refine cell_keep hb1 ?_
    repeat (first | with_reducible assumption | exact cell_new' (by simp) _ _ _ rfl | with_reducible refine cell_keep (below_new _ _) ?_)
  have c1_2 : w1.cell? ⟨w.heap.size, 2, none⟩ = some (.int .i64 g) := by
    refine cell_keep hb1 ?_
    repeat (first | with_reducible assumption | exact cell_new' (by simp) _ _ _ rfl | with_reducible refine cell_keep (below_new _ _) ?_)
  have c1_3 : w1.cell? ⟨w.heap.size + 1, 0, none⟩ = some (.int .i64 0) := by
    refine cell_keep hb1 ?_
    repeat (first | with_reducible assumption | exact cell_new' (by simp) _ _ _ rfl | with_reducible refine cell_keep (below_new _ _) ?_)
  have f1_3 : w1.frozen? ⟨w.heap.size + 1, 0, none⟩ = false := by
    refine frozen_keep (v := .int .i64 0) hb1 ?_ ?_
    · repeat (first | with_reducible assumption | exact cell_new' (by simp) _ _ _ rfl | with_reducible refine cell_keep (below_new _ _) ?_)
    · first | with_reducible assumption | exact frozen_new' (by simp) _ _ _ | (refine frozen_keep (v := .int .i64 0) (below_new _ _) ?_ ?_ <;> (repeat (first | with_reducible assumption | exact frozen_new' (by simp) _ _ _ | exact cell_new' (by simp) _ _ _ rfl | with_reducible refine cell_keep (below_new _ _) ?_ | refine frozen_keep (v := .int .i64 0) (below_new _ _) ?_ ?_)))
  have c1_4 : w1.cell? ⟨w.heap.size + 1, 1, none⟩ = some (.int .i64 0) := by
    refine cell_keep hb1 ?_
    repeat (first | with_reducible assumption | exact cell_new' (by simp) _ _ _ rfl | with_reducible refine cell_keep (below_new _ _) ?_)
  have f1_4 : w1.frozen? ⟨w.heap.size + 1, 1, none⟩ = false := by
    refine frozen_keep (v := .int .i64 0) hb1 ?_ ?_
    · repeat (first | with_reducible assumption | exact cell_new' (by simp) _ _ _ rfl | with_reducible refine cell_keep (below_new _ _) ?_)
    · first | with_reducible assumption | exact frozen_new' (by simp) _ _ _ | (refine frozen_keep (v := .int .i64 0) (below_new _ _) ?_ ?_ <;> (repeat (first | with_reducible assumption | exact frozen_new' (by simp) _ _ _ | exact cell_new' (by simp) _ _ _ rfl | with_reducible refine cell_keep (below_new _ _) ?_ | refine frozen_keep (v := .int .i64 0) (below_new _ _) ?_ ?_)))
  have c1_5 : w1.cell? ⟨w.heap.size + 1, 2, none⟩ = some (.int .i64 0) := by
    refine cell_keep hb1 ?_
    repeat (first | with_reducible assumption | exact cell_new' (by simp) _ _ _ rfl | with_reducible refine cell_keep (below_new _ _) ?_)
  have f1_5 : w1.frozen? ⟨w.heap.size + 1, 2, none⟩ = false := by
    refine frozen_keep (v := .int .i64 0) hb1 ?_ ?_
    · repeat (first | with_reducible assumption | exact cell_new' (by simp) _ _ _ rfl | with_reducible refine cell_keep (below_new _ _) ?_)
    · first | with_reducible assumption | exact frozen_new' (by simp) _ _ _ | (refine frozen_keep (v := .int .i64 0) (below_new _ _) ?_ ?_ <;> (repeat (first | with_reducible assumption | exact frozen_new' (by simp) _ _ _ | exact cell_new' (by simp) _ _ _ rfl | with_reducible refine cell_keep (below_new _ _) ?_ | refine frozen_keep (v := .int .i64 0) (below_new _ _) ?_ ?_)))
  rcases Bool.eq_false_or_eq_true (M.goodB p q g) with hg | hg
  rotate_left
  · have hR := Lib.hid (show simKn p q g b y c z = (0, 0, 0, false) by unfold simKn; rw [if_neg fun hh => Bool.false_ne_true (hg.symm.trans hh.1)])
    go_wp2
    obtain ⟨r0, r1, r2⟩ := set3' (.int .i64 0) (.int .i64 0) (.int .i64 0) c1_3 c1_4 c1_5
    refine bodyPost_ret (v := .tuple #[.agg #[.int .i64 0, .int .i64 0, .int .i64 0], .bool false]) (by simp [results, Try.results13, go_sem, r0, r1, r2]) rfl ⟨by rw [hR.out], ?_⟩
    repeat (first | exact hT1 | refine bnew ?_ _ | refine below_set _ ?_ (by simp))
  have hG := M.goodB_of hg
  have g1 := hG.q2
  have g2 := hG.qp
  have g3 := hG.p3
  have g4 := hG.pM
  have HG := Lib.hid hG
  clear hG
  go_wp2_with fail
  refine (gIs_any p q g HG.out _ _ [b, y] (by simp) _ (RI.lit2 _ _ _ _ (by simp))).mono ?_
  rintro e2 w2 ⟨rfl, hb2⟩
  have hT2 : Below w.heap.size w w2 := bnext (by repeat (first | exact hT1 | refine bnew ?_ _ | refine Below.drew ?_ | refine Below.drewN ?_ _)) hb2
  have c2_0 : w2.cell? ⟨w.heap.size, 0, none⟩ = some (.int .i64 p) := by
    refine cell_keep hb2 ?_
    repeat (first | with_reducible assumption | exact cell_new' (by simp) _ _ _ rfl | with_reducible refine cell_keep (below_new _ _) ?_)
  have c2_1 : w2.cell? ⟨w.heap.size, 1, none⟩ = some (.int .i64 q) := by
    refine cell_keep hb2 ?_
    repeat (first | with_reducible assumption | exact cell_new' (by simp) _ _ _ rfl | with_reducible refine cell_keep (below_new _ _) ?_)
  have c2_2 : w2.cell? ⟨w.heap.size, 2, none⟩ = some (.int .i64 g) := by
    refine cell_keep hb2 ?_
    repeat (first | with_reducible assumption | exact cell_new' (by simp) _ _ _ rfl | with_reducible refine cell_keep (below_new _ _) ?_)
  have c2_3 : w2.cell? ⟨w.heap.size + 1, 0, none⟩ = some (.int .i64 0) := by
    refine cell_keep hb2 ?_
    repeat (first | with_reducible assumption | exact cell_new' (by simp) _ _ _ rfl | with_reducible refine cell_keep (below_new _ _) ?_)
  have f2_3 : w2.frozen? ⟨w.heap.size + 1, 0, none⟩ = false := by
    refine frozen_keep (v := .int .i64 0) hb2 ?_ ?_
    · repeat (first | with_reducible assumption | exact cell_new' (by simp) _ _ _ rfl | with_reducible refine cell_keep (below_new _ _) ?_)
    · first | with_reducible assumption | exact frozen_new' (by simp) _ _ _ | (refine frozen_keep (v := .int .i64 0) (below_new _ _) ?_ ?_ <;> (repeat (first | with_reducible assumption | exact frozen_new' (by simp) _ _ _ | exact cell_new' (by simp) _ _ _ rfl | with_reducible refine cell_keep (below_new _ _) ?_ | refine frozen_keep (v := .int .i64 0) (below_new _ _) ?_ ?_)))
  have c2_4 : w2.cell? ⟨w.heap.size + 1, 1, none⟩ = some (.int .i64 0) := by
    refine cell_keep hb2 ?_
    repeat (first | with_reducible assumption | exact cell_new' (by simp) _ _ _ rfl | with_reducible refine cell_keep (below_new _ _) ?_)
  have f2_4 : w2.frozen? ⟨w.heap.size + 1, 1, none⟩ = false := by
    refine frozen_keep (v := .int .i64 0) hb2 ?_ ?_
    · repeat (first | with_reducible assumption | exact cell_new' (by simp) _ _ _ rfl | with_reducible refine cell_keep (below_new _ _) ?_)
    · first | with_reducible assumption | exact frozen_new' (by simp) _ _ _ | (refine frozen_keep (v := .int .i64 0) (below_new _ _) ?_ ?_ <;> (repeat (first | with_reducible assumption | exact frozen_new' (by simp) _ _ _ | exact cell_new' (by simp) _ _ _ rfl | with_reducible refine cell_keep (below_new _ _) ?_ | refine frozen_keep (v := .int .i64 0) (below_new _ _) ?_ ?_)))
  have c2_5 : w2.cell? ⟨w.heap.size + 1, 2, none⟩ = some (.int .i64 0) := by
    refine cell_keep hb2 ?_
    repeat (first | with_reducible assumption | exact cell_new' (by simp) _ _ _ rfl | with_reducible refine cell_keep (below_new _ _) ?_)
  have f2_5 : w2.frozen? ⟨w.heap.size + 1, 2, none⟩ = false := by
    refine frozen_keep (v := .int .i64 0) hb2 ?_ ?_
    · repeat (first | with_reducible assumption | exact cell_new' (by simp) _ _ _ rfl | with_reducible refine cell_keep (below_new _ _) ?_)
    · first | with_reducible assumption | exact frozen_new' (by simp) _ _ _ | (refine frozen_keep (v := .int .i64 0) (below_new _ _) ?_ ?_ <;> (repeat (first | with_reducible assumption | exact frozen_new' (by simp) _ _ _ | exact cell_new' (by simp) _ _ _ rfl | with_reducible refine cell_keep (below_new _ _) ?_ | refine frozen_keep (v := .int .i64 0) (below_new _ _) ?_ ?_)))
  clear c1_0 c1_1 c1_2 c1_3 f1_3 c1_4 f1_4 c1_5 f1_5
  rcases Bool.eq_false_or_eq_true (elemsB p q [b, y]) with he | he
  rotate_left
  · have hR := Lib.hid (show simKn p q g b y c z = (0, 0, 0, false) by unfold simKn; rw [if_neg fun hh => Bool.false_ne_true (he.symm.trans hh.2.1)])
    go_wp2
    obtain ⟨r0, r1, r2⟩ := set3' (.int .i64 0) (.int .i64 0) (.int .i64 0) c2_3 c2_4 c2_5
    refine bodyPost_ret (v := .tuple #[.agg #[.int .i64 0, .int .i64 0, .int .i64 0], .bool false]) (by simp [results, Try.results13, go_sem, r0, r1, r2]) rfl ⟨by rw [hR.out], ?_⟩
    repeat (first | exact hT2 | refine bnew ?_ _ | refine below_set _ ?_ (by simp))
  have l_b := elemsB_mem he (x := b) (by simp)
  have d_b := elem_bd l_b
  have l_y := elemsB_mem he (x := y) (by simp)
  have d_y := elem_bd l_y
  go_wp2_with fail
  refine (gExps_any p q g _ _ [c, z] _ (by omega) (RI.lit2 _ _ _ _ (by simp)) (by simp)).mono ?_
  rintro e3 w3 ⟨rfl, hb3⟩
  have hT3 : Below w.heap.size w w3 := bnext (by repeat (first | exact hT2 | refine bnew ?_ _ | refine Below.drew ?_ | refine Below.drewN ?_ _)) hb3
  have c3_0 : w3.cell? ⟨w.heap.size, 0, none⟩ = some (.int .i64 p) := by
    refine cell_keep hb3 ?_
    repeat (first | with_reducible assumption | exact cell_new' (by simp) _ _ _ rfl | with_reducible refine cell_keep (below_new _ _) ?_)
  have c3_1 : w3.cell? ⟨w.heap.size, 1, none⟩ = some (.int .i64 q) := by
    refine cell_keep hb3 ?_
    repeat (first | with_reducible assumption | exact cell_new' (by simp) _ _ _ rfl | with_reducible refine cell_keep (below_new _ _) ?_)
  have c3_2 : w3.cell? ⟨w.heap.size, 2, none⟩ = some (.int .i64 g) := by
    refine cell_keep hb3 ?_
    repeat (first | with_reducible assumption | exact cell_new' (by simp) _ _ _ rfl | with_reducible refine cell_keep (below_new _ _) ?_)
  have c3_3 : w3.cell? ⟨w.heap.size + 1, 0, none⟩ = some (.int .i64 0) := by
    refine cell_keep hb3 ?_
    repeat (first | with_reducible assumption | exact cell_new' (by simp) _ _ _ rfl | with_reducible refine cell_keep (below_new _ _) ?_)
  have f3_3 : w3.frozen? ⟨w.heap.size + 1, 0, none⟩ = false := by
    refine frozen_keep (v := .int .i64 0) hb3 ?_ ?_
    · repeat (first | with_reducible assumption | exact cell_new' (by simp) _ _ _ rfl | with_reducible refine cell_keep (below_new _ _) ?_)
    · first | with_reducible assumption | exact frozen_new' (by simp) _ _ _ | (refine frozen_keep (v := .int .i64 0) (below_new _ _) ?_ ?_ <;> (repeat (first | with_reducible assumption | exact frozen_new' (by simp) _ _ _ | exact cell_new' (by simp) _ _ _ rfl | with_reducible refine cell_keep (below_new _ _) ?_ | refine frozen_keep (v := .int .i64 0) (below_new _ _) ?_ ?_)))
  have c3_4 : w3.cell? ⟨w.heap.size + 1, 1, none⟩ = some (.int .i64 0) := by
    refine cell_keep hb3 ?_
    repeat (first | with_reducible assumption | exact cell_new' (by simp) _ _ _ rfl | with_reducible refine cell_keep (below_new _ _) ?_)
  have f3_4 : w3.frozen? ⟨w.heap.size + 1, 1, none⟩ = false := by
    refine frozen_keep (v := .int .i64 0) hb3 ?_ ?_
    · repeat (first | with_reducible assumption | exact cell_new' (by simp) _ _ _ rfl | with_reducible refine cell_keep (below_new _ _) ?_)
    · first | with_reducible assumption | exact frozen_new' (by simp) _ _ _ | (refine frozen_keep (v := .int .i64 0) (below_new _ _) ?_ ?_ <;> (repeat (first | with_reducible assumption | exact frozen_new' (by simp) _ _ _ | exact cell_new' (by simp) _ _ _ rfl | with_reducible refine cell_keep (below_new _ _) ?_ | refine frozen_keep (v := .int .i64 0) (below_new _ _) ?_ ?_)))
  have c3_5 : w3.cell? ⟨w.heap.size + 1, 2, none⟩ = some (.int .i64 0) := by
    refine cell_keep hb3 ?_
    repeat (first | with_reducible assumption | exact cell_new' (by simp) _ _ _ rfl | with_reducible refine cell_keep (below_new _ _) ?_)
  have f3_5 : w3.frozen? ⟨w.heap.size + 1, 2, none⟩ = false := by
    refine frozen_keep (v := .int .i64 0) hb3 ?_ ?_
    · repeat (first | with_reducible assumption | exact cell_new' (by simp) _ _ _ rfl | with_reducible refine cell_keep (below_new _ _) ?_)
    · first | with_reducible assumption | exact frozen_new' (by simp) _ _ _ | (refine frozen_keep (v := .int .i64 0) (below_new _ _) ?_ ?_ <;> (repeat (first | with_reducible assumption | exact frozen_new' (by simp) _ _ _ | exact cell_new' (by simp) _ _ _ rfl | with_reducible refine cell_keep (below_new _ _) ?_ | refine frozen_keep (v := .int .i64 0) (below_new _ _) ?_ ?_)))
  clear c2_0 c2_1 c2_2 c2_3 f2_3 c2_4 f2_4 c2_5 f2_5
  rcases Bool.eq_false_or_eq_true (expsB q [c, z]) with hs | hs
  rotate_left
  · have hR := Lib.hid (show simKn p q g b y c z = (0, 0, 0, false) by unfold simKn; rw [if_neg fun hh => Bool.false_ne_true (hs.symm.trans hh.2.2)])
    go_wp2
    obtain ⟨r0, r1, r2⟩ := set3' (.int .i64 0) (.int .i64 0) (.int .i64 0) c3_3 c3_4 c3_5
    refine bodyPost_ret (v := .tuple #[.agg #[.int .i64 0, .int .i64 0, .int .i64 0], .bool false]) (by simp [results, Try.results13, go_sem, r0, r1, r2]) rfl ⟨by rw [hR.out], ?_⟩
    repeat (first | exact hT3 | refine bnew ?_ _ | refine below_set _ ?_ (by simp))
  have b_c := expsB_mem hs (e := c) (by simp)
  have b_z := expsB_mem hs (e := z) (by simp)
  have hR := Lib.hid (show simKn p q g b y c z = (simC p q b y c z, c, z, true) by unfold simKn; rw [if_pos ⟨hg, he, hs⟩])
  go_wp2_with fail
  refine (xSimulate_any _ _ _ _ _ _ _ HG.out (by assumption) (by assumption) (by omega) (by omega) _).mono ?_
  rintro e4 w4 ⟨rfl, hb4⟩
  have hT4 : Below w.heap.size w w4 := bnext (by repeat (first | exact hT3 | refine bnew ?_ _ | refine Below.drew ?_ | refine Below.drewN ?_ _)) hb4
  have c4_0 : w4.cell? ⟨w.heap.size, 0, none⟩ = some (.int .i64 p) := by
    refine cell_keep hb4 ?_
    repeat (first | with_reducible assumption | exact cell_new' (by simp) _ _ _ rfl | with_reducible refine cell_keep (below_new _ _) ?_)
  have c4_1 : w4.cell? ⟨w.heap.size, 1, none⟩ = some (.int .i64 q) := by
    refine cell_keep hb4 ?_
    repeat (first | with_reducible assumption | exact cell_new' (by simp) _ _ _ rfl | with_reducible refine cell_keep (below_new _ _) ?_)
  have c4_2 : w4.cell? ⟨w.heap.size, 2, none⟩ = some (.int .i64 g) := by
    refine cell_keep hb4 ?_
    repeat (first | with_reducible assumption | exact cell_new' (by simp) _ _ _ rfl | with_reducible refine cell_keep (below_new _ _) ?_)
  have c4_3 : w4.cell? ⟨w.heap.size + 1, 0, none⟩ = some (.int .i64 0) := by
    refine cell_keep hb4 ?_
    repeat (first | with_reducible assumption | exact cell_new' (by simp) _ _ _ rfl | with_reducible refine cell_keep (below_new _ _) ?_)
  have f4_3 : w4.frozen? ⟨w.heap.size + 1, 0, none⟩ = false := by
    refine frozen_keep (v := .int .i64 0) hb4 ?_ ?_
    · repeat (first | with_reducible assumption | exact cell_new' (by simp) _ _ _ rfl | with_reducible refine cell_keep (below_new _ _) ?_)
    · first | with_reducible assumption | exact frozen_new' (by simp) _ _ _ | (refine frozen_keep (v := .int .i64 0) (below_new _ _) ?_ ?_ <;> (repeat (first | with_reducible assumption | exact frozen_new' (by simp) _ _ _ | exact cell_new' (by simp) _ _ _ rfl | with_reducible refine cell_keep (below_new _ _) ?_ | refine frozen_keep (v := .int .i64 0) (below_new _ _) ?_ ?_)))
  have c4_4 : w4.cell? ⟨w.heap.size + 1, 1, none⟩ = some (.int .i64 0) := by
    refine cell_keep hb4 ?_
    repeat (first | with_reducible assumption | exact cell_new' (by simp) _ _ _ rfl | with_reducible refine cell_keep (below_new _ _) ?_)
  have f4_4 : w4.frozen? ⟨w.heap.size + 1, 1, none⟩ = false := by
    refine frozen_keep (v := .int .i64 0) hb4 ?_ ?_
    · repeat (first | with_reducible assumption | exact cell_new' (by simp) _ _ _ rfl | with_reducible refine cell_keep (below_new _ _) ?_)
    · first | with_reducible assumption | exact frozen_new' (by simp) _ _ _ | (refine frozen_keep (v := .int .i64 0) (below_new _ _) ?_ ?_ <;> (repeat (first | with_reducible assumption | exact frozen_new' (by simp) _ _ _ | exact cell_new' (by simp) _ _ _ rfl | with_reducible refine cell_keep (below_new _ _) ?_ | refine frozen_keep (v := .int .i64 0) (below_new _ _) ?_ ?_)))
  have c4_5 : w4.cell? ⟨w.heap.size + 1, 2, none⟩ = some (.int .i64 0) := by
    refine cell_keep hb4 ?_
    repeat (first | with_reducible assumption | exact cell_new' (by simp) _ _ _ rfl | with_reducible refine cell_keep (below_new _ _) ?_)
  have f4_5 : w4.frozen? ⟨w.heap.size + 1, 2, none⟩ = false := by
    refine frozen_keep (v := .int .i64 0) hb4 ?_ ?_
    · repeat (first | with_reducible assumption | exact cell_new' (by simp) _ _ _ rfl | with_reducible refine cell_keep (below_new _ _) ?_)
    · first | with_reducible assumption | exact frozen_new' (by simp) _ _ _ | (refine frozen_keep (v := .int .i64 0) (below_new _ _) ?_ ?_ <;> (repeat (first | with_reducible assumption | exact frozen_new' (by simp) _ _ _ | exact cell_new' (by simp) _ _ _ rfl | with_reducible refine cell_keep (below_new _ _) ?_ | refine frozen_keep (v := .int .i64 0) (below_new _ _) ?_ ?_)))
  clear c3_0 c3_1 c3_2 c3_3 f3_3 c3_4 f3_4 c3_5 f3_5
  go_wp2
  obtain ⟨r0, r1, r2⟩ := set3' (.int .i64 (simC p q b y c z)) (.int .i64 c) (.int .i64 z) c4_3 c4_4 c4_5
  refine bodyPost_ret (v := .tuple #[.agg #[.int .i64 (simC p q b y c z), .int .i64 c, .int .i64 z], .bool true]) (by simp [results, Try.results13, go_sem, r0, r1, r2]) rfl ⟨by rw [hR.out], ?_⟩
  repeat (first | exact hT4 | refine bnew ?_ _ | refine below_set _ ?_ (by simp))
end Go.Proofs.Ytidcahjkjlmjhaa
