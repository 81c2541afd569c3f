/- Walks: SimulateEqual, IsAccepting. -/
import Derived.Test.YtidcahjkjlmjhaaE3
import Derived.Test.YtidcahjkjlmjhaaKit2
namespace Go.Proofs.Ytidcahjkjlmjhaa
open Go.RowKit
noncomputable def simEq (p q g g1' y1 g2' y2 c z : Int) : Int × Int × Bool := if M.goodB p q g = true ∧ elemsB p q [g1', y1, g2', y2] = true ∧ expsB q [c, z] = true then (simC p q g1' y1 c z, simC p q g2' y2 c z, true) else (0, 0, false)
noncomputable def simKn (p q g b y c z : Int) : Int × Int × Int × Bool := if M.goodB p q g = true ∧ elemsB p q [b, y] = true ∧ expsB q [c, z] = true then (simC p q b y c z, c, z, true) else (0, 0, 0, false)
noncomputable def isAcc (p q g b y a c z : Int) : Bool × Bool := if M.goodB p q g = true ∧ elemsB p q [b, y] = true ∧ (elemB p q a && expsB q [c, z]) = true then (acc p q b y a c z, true) else (false, false)
set_option maxHeartbeats 800000 in
theorem simulateEqualI (p q g g1' y1 g2' y2 c z : Int) (w : World) :
    Calls Try.prog 12 #[.agg #[.int .i64 p, .int .i64 q, .int .i64 g], .agg #[.int .i64 g1', .int .i64 y1, .int .i64 g2', .int .i64 y2], .int .i64 c, .int .i64 z] w fun en w' => en = .returned (.tuple #[.int .i64 (simEq p q g g1' y1 g2' y2 c z).1, .int .i64 (simEq p q g g1' y1 g2' y2 c z).2.1, .bool (simEq p q g g1' y1 g2' y2 c z).2.2]) ∧ Below w.heap.size w w' := by
  have hfl : ∀ (v0 v1 v2 : Value) (w : World), (Instr.field 34 (.agg #[v0, v1, v2]) 0).run Try.prog w = .ok v0 w := fun _ _ _ _ => by kernel_rfl
  have hT0 : Below w.heap.size w ((w.alloc (.cells #[.int .i64 p, .int .i64 q, .int .i64 g] 28)).alloc (.cells #[.int .i64 g1', .int .i64 y1, .int .i64 g2', .int .i64 y2] 30)) := by repeat (first | exact Below.refl _ _ | refine bnew ?_ _)
  go_enter Try.func12, Try.ntmps12
  go_wp2_with fail
  refine (isValidGroup_any p q g _).mono ?_
  rintro e1 w1 ⟨rfl, hb1⟩
  have hT1 : Below w.heap.size w w1 := bnext (by repeat (first | exact hT0 | refine bnew ?_ _ | refine Below.drew ?_ | refine Below.drewN ?_ _)) hb1
  have c1_0 : w1.cell? ⟨w.heap.size, 0, none⟩ = some (.int .i64 p) := by
    refine cell_keep hb1 ?_
    repeat (first | with_reducible assumption | exact cell_new' (by simp) _ _ _ rfl | with_reducible refine cell_keep (below_new _ _) ?_)
  have c1_1 : w1.cell? ⟨w.heap.size, 1, none⟩ = some (.int .i64 q) := by
    refine cell_keep hb1 ?_
    repeat (first | with_reducible assumption | exact cell_new' (by simp) _ _ _ rfl | with_reducible refine cell_keep (below_new _ _) ?_)
  have c1_2 : w1.cell? ⟨w.heap.size, 2, none⟩ = some (.int .i64 g) := by
    refine cell_keep hb1 ?_
    repeat (first | with_reducible assumption | exact cell_new' (by simp) _ _ _ rfl | with_reducible refine cell_keep (below_new _ _) ?_)
  have c1_3 : w1.cell? ⟨w.heap.size + 1, 0, none⟩ = some (.int .i64 g1') := by
    refine cell_keep hb1 ?_
    repeat (first | with_reducible assumption | exact cell_new' (by simp) _ _ _ rfl | with_reducible refine cell_keep (below_new _ _) ?_)
  have c1_4 : w1.cell? ⟨w.heap.size + 1, 1, none⟩ = some (.int .i64 y1) := by
    refine cell_keep hb1 ?_
    repeat (first | with_reducible assumption | exact cell_new' (by simp) _ _ _ rfl | with_reducible refine cell_keep (below_new _ _) ?_)
  have c1_5 : w1.cell? ⟨w.heap.size + 1, 2, none⟩ = some (.int .i64 g2') := by
    refine cell_keep hb1 ?_
    repeat (first | with_reducible assumption | exact cell_new' (by simp) _ _ _ rfl | with_reducible refine cell_keep (below_new _ _) ?_)
  have c1_6 : w1.cell? ⟨w.heap.size + 1, 3, none⟩ = some (.int .i64 y2) := by
    refine cell_keep hb1 ?_
    repeat (first | with_reducible assumption | exact cell_new' (by simp) _ _ _ rfl | with_reducible refine cell_keep (below_new _ _) ?_)
  rcases Bool.eq_false_or_eq_true (M.goodB p q g) with hg | hg
  rotate_left
  · have hR := Lib.hid (show simEq p q g g1' y1 g2' y2 c z = (0, 0, false) by unfold simEq; rw [if_neg fun hh => Bool.false_ne_true (hg.symm.trans hh.1)])
    go_wp2
    go_ret3
    exact ⟨ret_iib (by rw [hR.out]) (by rw [hR.out]) (by rw [hR.out]), hT1⟩
  have hG := M.goodB_of hg
  have g1 := hG.q2
  have g2 := hG.qp
  have g3 := hG.p3
  have g4 := hG.pM
  have HG := Lib.hid hG
  clear hG
  go_wp2_with fail
  refine (hasEqual_any p q g g1' y1 g2' y2 HG.out _).mono ?_
  rintro e2 w2 ⟨rfl, hb2⟩
  have hT2 : Below w.heap.size w w2 := bnext (by repeat (first | exact hT1 | refine bnew ?_ _ | refine Below.drew ?_ | refine Below.drewN ?_ _)) hb2
  have c2_0 : w2.cell? ⟨w.heap.size, 0, none⟩ = some (.int .i64 p) := by
    refine cell_keep hb2 ?_
    repeat (first | with_reducible assumption | exact cell_new' (by simp) _ _ _ rfl | with_reducible refine cell_keep (below_new _ _) ?_)
  have c2_1 : w2.cell? ⟨w.heap.size, 1, none⟩ = some (.int .i64 q) := by
    refine cell_keep hb2 ?_
    repeat (first | with_reducible assumption | exact cell_new' (by simp) _ _ _ rfl | with_reducible refine cell_keep (below_new _ _) ?_)
  have c2_2 : w2.cell? ⟨w.heap.size, 2, none⟩ = some (.int .i64 g) := by
    refine cell_keep hb2 ?_
    repeat (first | with_reducible assumption | exact cell_new' (by simp) _ _ _ rfl | with_reducible refine cell_keep (below_new _ _) ?_)
  have c2_3 : w2.cell? ⟨w.heap.size + 1, 0, none⟩ = some (.int .i64 g1') := by
    refine cell_keep hb2 ?_
    repeat (first | with_reducible assumption | exact cell_new' (by simp) _ _ _ rfl | with_reducible refine cell_keep (below_new _ _) ?_)
  have c2_4 : w2.cell? ⟨w.heap.size + 1, 1, none⟩ = some (.int .i64 y1) := by
    refine cell_keep hb2 ?_
    repeat (first | with_reducible assumption | exact cell_new' (by simp) _ _ _ rfl | with_reducible refine cell_keep (below_new _ _) ?_)
  have c2_5 : w2.cell? ⟨w.heap.size + 1, 2, none⟩ = some (.int .i64 g2') := by
    refine cell_keep hb2 ?_
    repeat (first | with_reducible assumption | exact cell_new' (by simp) _ _ _ rfl | with_reducible refine cell_keep (below_new _ _) ?_)
  have c2_6 : w2.cell? ⟨w.heap.size + 1, 3, none⟩ = some (.int .i64 y2) := by
    refine cell_keep hb2 ?_
    repeat (first | with_reducible assumption | exact cell_new' (by simp) _ _ _ rfl | with_reducible refine cell_keep (below_new _ _) ?_)
  clear c1_0 c1_1 c1_2 c1_3 c1_4 c1_5 c1_6
  rcases Bool.eq_false_or_eq_true (elemsB p q [g1', y1, g2', y2]) with he | he
  rotate_left
  · have hR := Lib.hid (show simEq p q g g1' y1 g2' y2 c z = (0, 0, false) by unfold simEq; rw [if_neg fun hh => Bool.false_ne_true (he.symm.trans hh.2.1)])
    go_wp2
    go_ret3
    exact ⟨ret_iib (by rw [hR.out]) (by rw [hR.out]) (by rw [hR.out]), hT2⟩
  have d_g1_ := elem_bd (elemsB_mem he (x := g1') (by simp))
  have d_y1 := elem_bd (elemsB_mem he (x := y1) (by simp))
  have d_g2_ := elem_bd (elemsB_mem he (x := g2') (by simp))
  have d_y2 := elem_bd (elemsB_mem he (x := y2) (by simp))
  go_wp2_with fail
  refine (areExps_any p q g _ _ [c, z] _ (by omega) (RI.lit2 _ _ _ _ (by simp)) (by simp)).mono ?_
  rintro e3 w3 ⟨rfl, hb3⟩
  have hT3 : Below w.heap.size w w3 := bnext (by repeat (first | exact hT2 | refine bnew ?_ _ | refine Below.drew ?_ | refine Below.drewN ?_ _)) hb3
  have c3_0 : w3.cell? ⟨w.heap.size, 0, none⟩ = some (.int .i64 p) := by
    refine cell_keep hb3 ?_
    repeat (first | with_reducible assumption | exact cell_new' (by simp) _ _ _ rfl | with_reducible refine cell_keep (below_new _ _) ?_)
  have c3_1 : w3.cell? ⟨w.heap.size, 1, none⟩ = some (.int .i64 q) := by
    refine cell_keep hb3 ?_
    repeat (first | with_reducible assumption | exact cell_new' (by simp) _ _ _ rfl | with_reducible refine cell_keep (below_new _ _) ?_)
  have c3_2 : w3.cell? ⟨w.heap.size, 2, none⟩ = some (.int .i64 g) := by
    refine cell_keep hb3 ?_
    repeat (first | with_reducible assumption | exact cell_new' (by simp) _ _ _ rfl | with_reducible refine cell_keep (below_new _ _) ?_)
  have c3_3 : w3.cell? ⟨w.heap.size + 1, 0, none⟩ = some (.int .i64 g1') := by
    refine cell_keep hb3 ?_
    repeat (first | with_reducible assumption | exact cell_new' (by simp) _ _ _ rfl | with_reducible refine cell_keep (below_new _ _) ?_)
  have c3_4 : w3.cell? ⟨w.heap.size + 1, 1, none⟩ = some (.int .i64 y1) := by
    refine cell_keep hb3 ?_
    repeat (first | with_reducible assumption | exact cell_new' (by simp) _ _ _ rfl | with_reducible refine cell_keep (below_new _ _) ?_)
  have c3_5 : w3.cell? ⟨w.heap.size + 1, 2, none⟩ = some (.int .i64 g2') := by
    refine cell_keep hb3 ?_
    repeat (first | with_reducible assumption | exact cell_new' (by simp) _ _ _ rfl | with_reducible refine cell_keep (below_new _ _) ?_)
  have c3_6 : w3.cell? ⟨w.heap.size + 1, 3, none⟩ = some (.int .i64 y2) := by
    refine cell_keep hb3 ?_
    repeat (first | with_reducible assumption | exact cell_new' (by simp) _ _ _ rfl | with_reducible refine cell_keep (below_new _ _) ?_)
  clear c2_0 c2_1 c2_2 c2_3 c2_4 c2_5 c2_6
  rcases Bool.eq_false_or_eq_true (expsB q [c, z]) with hs | hs
  rotate_left
  · have hR := Lib.hid (show simEq p q g g1' y1 g2' y2 c z = (0, 0, false) by unfold simEq; rw [if_neg fun hh => Bool.false_ne_true (hs.symm.trans hh.2.2)])
    go_wp2
    go_ret3
    exact ⟨ret_iib (by rw [hR.out]) (by rw [hR.out]) (by rw [hR.out]), hT3⟩
  have b_c := expsB_mem hs (e := c) (by simp)
  have b_z := expsB_mem hs (e := z) (by simp)
  have hR := Lib.hid (show simEq p q g g1' y1 g2' y2 c z = (simC p q g1' y1 c z, simC p q g2' y2 c z, true) by unfold simEq; rw [if_pos ⟨hg, he, hs⟩])
  go_wp2_with fail
  refine (simulated_any _ _ _ _ _ _ _ _ _ HG.out (by assumption) (by assumption) (by assumption) (by assumption) (by omega) (by omega) _).mono ?_
  rintro e4 w4 ⟨rfl, hb4⟩
  have hT4 : Below w.heap.size w w4 := bnext (by repeat (first | exact hT3 | refine bnew ?_ _ | refine Below.drew ?_ | refine Below.drewN ?_ _)) hb4
  have c4_0 : w4.cell? ⟨w.heap.size, 0, none⟩ = some (.int .i64 p) := by
    refine cell_keep hb4 ?_
    repeat (first | with_reducible assumption | exact cell_new' (by simp) _ _ _ rfl | with_reducible refine cell_keep (below_new _ _) ?_)
  have c4_1 : w4.cell? ⟨w.heap.size, 1, none⟩ = some (.int .i64 q) := by
    refine cell_keep hb4 ?_
    repeat (first | with_reducible assumption | exact cell_new' (by simp) _ _ _ rfl | with_reducible refine cell_keep (below_new _ _) ?_)
  have c4_2 : w4.cell? ⟨w.heap.size, 2, none⟩ = some (.int .i64 g) := by
    refine cell_keep hb4 ?_
    repeat (first | with_reducible assumption | exact cell_new' (by simp) _ _ _ rfl | with_reducible refine cell_keep (below_new _ _) ?_)
  have c4_3 : w4.cell? ⟨w.heap.size + 1, 0, none⟩ = some (.int .i64 g1') := by
    refine cell_keep hb4 ?_
    repeat (first | with_reducible assumption | exact cell_new' (by simp) _ _ _ rfl | with_reducible refine cell_keep (below_new _ _) ?_)
  have c4_4 : w4.cell? ⟨w.heap.size + 1, 1, none⟩ = some (.int .i64 y1) := by
    refine cell_keep hb4 ?_
    repeat (first | with_reducible assumption | exact cell_new' (by simp) _ _ _ rfl | with_reducible refine cell_keep (below_new _ _) ?_)
  have c4_5 : w4.cell? ⟨w.heap.size + 1, 2, none⟩ = some (.int .i64 g2') := by
    refine cell_keep hb4 ?_
    repeat (first | with_reducible assumption | exact cell_new' (by simp) _ _ _ rfl | with_reducible refine cell_keep (below_new _ _) ?_)
  have c4_6 : w4.cell? ⟨w.heap.size + 1, 3, none⟩ = some (.int .i64 y2) := by
    refine cell_keep hb4 ?_
    repeat (first | with_reducible assumption | exact cell_new' (by simp) _ _ _ rfl | with_reducible refine cell_keep (below_new _ _) ?_)
  clear c3_0 c3_1 c3_2 c3_3 c3_4 c3_5 c3_6
  go_wp2
  go_ret3
  exact ⟨ret_iib (by rw [hR.out]) (by rw [hR.out]) (by rw [hR.out]), hT4⟩
set_option maxHeartbeats 800000 in
theorem simulateEqualS (p q g g1' y1 g2' y2 c z : Int) (w : World) :
    Calls Try.prog 9 #[.agg #[.int .i64 p, .int .i64 q, .int .i64 g], .agg #[.int .i64 g1', .int .i64 y1, .int .i64 g2', .int .i64 y2], .int .i64 c, .int .i64 z] w fun en w' => en = .returned (.tuple #[.int .i64 (simEq p q g g1' y1 g2' y2 c z).1, .int .i64 (simEq p q g g1' y1 g2' y2 c z).2.1, .bool (simEq p q g g1' y1 g2' y2 c z).2.2]) ∧ Below w.heap.size w w' := by
  have hfl : ∀ (v0 v1 v2 : Value) (w : World), (Instr.field 34 (.agg #[v0, v1, v2]) 0).run Try.prog w = .ok v0 w := fun _ _ _ _ => by kernel_rfl
  have hT0 : Below w.heap.size w ((w.alloc (.cells #[.int .i64 p, .int .i64 q, .int .i64 g] 28)).alloc (.cells #[.int .i64 g1', .int .i64 y1, .int .i64 g2', .int .i64 y2] 30)) := by repeat (first | exact Below.refl _ _ | refine bnew ?_ _)
  go_enter Try.func9, Try.ntmps9
  go_wp2_with fail
  refine (l2Good_any p q g _).mono ?_
  rintro e1 w1 ⟨rfl, hb1⟩
  have hT1 : Below w.heap.size w w1 := bnext (by repeat (first | exact hT0 | refine bnew ?_ _ | refine Below.drew ?_ | refine Below.drewN ?_ _)) hb1
  have c1_0 : w1.cell? ⟨w.heap.size, 0, none⟩ = some (.int .i64 p) := by
    refine cell_keep hb1 ?_
    repeat (first | with_reducible assumption | exact cell_new' (by simp) _ _ _ rfl | with_reducible refine cell_keep (below_new _ _) ?_)
  have c1_1 : w1.cell? ⟨w.heap.size, 1, none⟩ = some (.int .i64 q) := by
    refine cell_keep hb1 ?_
    repeat (first | with_reducible assumption | exact cell_new' (by simp) _ _ _ rfl | with_reducible refine cell_keep (below_new _ _) ?_)
  have c1_2 : w1.cell? ⟨w.heap.size, 2, none⟩ = some (.int .i64 g) := by
    refine cell_keep hb1 ?_
    repeat (first | with_reducible assumption | exact cell_new' (by simp) _ _ _ rfl | with_reducible refine cell_keep (below_new _ _) ?_)
  have c1_3 : w1.cell? ⟨w.heap.size + 1, 0, none⟩ = some (.int .i64 g1') := by
    refine cell_keep hb1 ?_
    repeat (first | with_reducible assumption | exact cell_new' (by simp) _ _ _ rfl | with_reducible refine cell_keep (below_new _ _) ?_)
  have c1_4 : w1.cell? ⟨w.heap.size + 1, 1, none⟩ = some (.int .i64 y1) := by
    refine cell_keep hb1 ?_
    repeat (first | with_reducible assumption | exact cell_new' (by simp) _ _ _ rfl | with_reducible refine cell_keep (below_new _ _) ?_)
  have c1_5 : w1.cell? ⟨w.heap.size + 1, 2, none⟩ = some (.int .i64 g2') := by
    refine cell_keep hb1 ?_
    repeat (first | with_reducible assumption | exact cell_new' (by simp) _ _ _ rfl | with_reducible refine cell_keep (below_new _ _) ?_)
  have c1_6 : w1.cell? ⟨w.heap.size + 1, 3, none⟩ = some (.int .i64 y2) := by
    refine cell_keep hb1 ?_
    repeat (first | with_reducible assumption | exact cell_new' (by simp) _ _ _ rfl | with_reducible refine cell_keep (below_new _ _) ?_)
  rcases Bool.eq_false_or_eq_true (M.goodB p q g) with hg | hg
  rotate_left
  · have hR := Lib.hid (show simEq p q g g1' y1 g2' y2 c z = (0, 0, false) by unfold simEq; rw [if_neg fun hh => Bool.false_ne_true (hg.symm.trans hh.1)])
    go_wp2
    go_ret3
    exact ⟨ret_iib (by rw [hR.out]) (by rw [hR.out]) (by rw [hR.out]), hT1⟩
  have hG := M.goodB_of hg
  have g1 := hG.q2
  have g2 := hG.qp
  have g3 := hG.p3
  have g4 := hG.pM
  have HG := Lib.hid hG
  clear hG
  go_wp2_with fail
  refine (sElements_any p q g g1' y1 g2' y2 HG.out _).mono ?_
  rintro e2 w2 ⟨rfl, hb2⟩
  have hT2 : Below w.heap.size w w2 := bnext (by repeat (first | exact hT1 | refine bnew ?_ _ | refine Below.drew ?_ | refine Below.drewN ?_ _)) hb2
  have c2_0 : w2.cell? ⟨w.heap.size, 0, none⟩ = some (.int .i64 p) := by
    refine cell_keep hb2 ?_
    repeat (first | with_reducible assumption | exact cell_new' (by simp) _ _ _ rfl | with_reducible refine cell_keep (below_new _ _) ?_)
  have c2_1 : w2.cell? ⟨w.heap.size, 1, none⟩ = some (.int .i64 q) := by
    refine cell_keep hb2 ?_
    repeat (first | with_reducible assumption | exact cell_new' (by simp) _ _ _ rfl | with_reducible refine cell_keep (below_new _ _) ?_)
  have c2_2 : w2.cell? ⟨w.heap.size, 2, none⟩ = some (.int .i64 g) := by
    refine cell_keep hb2 ?_
    repeat (first | with_reducible assumption | exact cell_new' (by simp) _ _ _ rfl | with_reducible refine cell_keep (below_new _ _) ?_)
  have c2_3 : w2.cell? ⟨w.heap.size + 1, 0, none⟩ = some (.int .i64 g1') := by
    refine cell_keep hb2 ?_
    repeat (first | with_reducible assumption | exact cell_new' (by simp) _ _ _ rfl | with_reducible refine cell_keep (below_new _ _) ?_)
  have c2_4 : w2.cell? ⟨w.heap.size + 1, 1, none⟩ = some (.int .i64 y1) := by
    refine cell_keep hb2 ?_
    repeat (first | with_reducible assumption | exact cell_new' (by simp) _ _ _ rfl | with_reducible refine cell_keep (below_new _ _) ?_)
  have c2_5 : w2.cell? ⟨w.heap.size + 1, 2, none⟩ = some (.int .i64 g2') := by
    refine cell_keep hb2 ?_
    repeat (first | with_reducible assumption | exact cell_new' (by simp) _ _ _ rfl | with_reducible refine cell_keep (below_new _ _) ?_)
  have c2_6 : w2.cell? ⟨w.heap.size + 1, 3, none⟩ = some (.int .i64 y2) := by
    refine cell_keep hb2 ?_
    repeat (first | with_reducible assumption | exact cell_new' (by simp) _ _ _ rfl | with_reducible refine cell_keep (below_new _ _) ?_)
  clear c1_0 c1_1 c1_2 c1_3 c1_4 c1_5 c1_6
  rcases Bool.eq_false_or_eq_true (elemsB p q [g1', y1, g2', y2]) with he | he
  rotate_left
  · have hR := Lib.hid (show simEq p q g g1' y1 g2' y2 c z = (0, 0, false) by unfold simEq; rw [if_neg fun hh => Bool.false_ne_true (he.symm.trans hh.2.1)])
    go_wp2
    go_ret3
    exact ⟨ret_iib (by rw [hR.out]) (by rw [hR.out]) (by rw [hR.out]), hT2⟩
  have d_g1_ := elem_bd (elemsB_mem he (x := g1') (by simp))
  have d_y1 := elem_bd (elemsB_mem he (x := y1) (by simp))
  have d_g2_ := elem_bd (elemsB_mem he (x := g2') (by simp))
  have d_y2 := elem_bd (elemsB_mem he (x := y2) (by simp))
  go_wp2_with fail
  refine (gExps_any p q g _ _ [c, z] _ (by omega) (RI.lit2 _ _ _ _ (by simp)) (by simp)).mono ?_
  rintro e3 w3 ⟨rfl, hb3⟩
  have hT3 : Below w.heap.size w w3 := bnext (by repeat (first | exact hT2 | refine bnew ?_ _ | refine Below.drew ?_ | refine Below.drewN ?_ _)) hb3
  have c3_0 : w3.cell? ⟨w.heap.size, 0, none⟩ = some (.int .i64 p) := by
    refine cell_keep hb3 ?_
    repeat (first | with_reducible assumption | exact cell_new' (by simp) _ _ _ rfl | with_reducible refine cell_keep (below_new _ _) ?_)
  have c3_1 : w3.cell? ⟨w.heap.size, 1, none⟩ = some (.int .i64 q) := by
    refine cell_keep hb3 ?_
    repeat (first | with_reducible assumption | exact cell_new' (by simp) _ _ _ rfl | with_reducible refine cell_keep (below_new _ _) ?_)
  have c3_2 : w3.cell? ⟨w.heap.size, 2, none⟩ = some (.int .i64 g) := by
    refine cell_keep hb3 ?_
    repeat (first | with_reducible assumption | exact cell_new' (by simp) _ _ _ rfl | with_reducible refine cell_keep (below_new _ _) ?_)
  have c3_3 : w3.cell? ⟨w.heap.size + 1, 0, none⟩ = some (.int .i64 g1') := by
    refine cell_keep hb3 ?_
    repeat (first | with_reducible assumption | exact cell_new' (by simp) _ _ _ rfl | with_reducible refine cell_keep (below_new _ _) ?_)
  have c3_4 : w3.cell? ⟨w.heap.size + 1, 1, none⟩ = some (.int .i64 y1) := by
    refine cell_keep hb3 ?_
    repeat (first | with_reducible assumption | exact cell_new' (by simp) _ _ _ rfl | with_reducible refine cell_keep (below_new _ _) ?_)
  have c3_5 : w3.cell? ⟨w.heap.size + 1, 2, none⟩ = some (.int .i64 g2') := by
    refine cell_keep hb3 ?_
    repeat (first | with_reducible assumption | exact cell_new' (by simp) _ _ _ rfl | with_reducible refine cell_keep (below_new _ _) ?_)
  have c3_6 : w3.cell? ⟨w.heap.size + 1, 3, none⟩ = some (.int .i64 y2) := by
    refine cell_keep hb3 ?_
    repeat (first | with_reducible assumption | exact cell_new' (by simp) _ _ _ rfl | with_reducible refine cell_keep (below_new _ _) ?_)
  clear c2_0 c2_1 c2_2 c2_3 c2_4 c2_5 c2_6
  rcases Bool.eq_false_or_eq_true (expsB q [c, z]) with hs | hs
  rotate_left
  · have hR := Lib.hid (show simEq p q g g1' y1 g2' y2 c z = (0, 0, false) by unfold simEq; rw [if_neg fun hh => Bool.false_ne_true (hs.symm.trans hh.2.2)])
    go_wp2
    go_ret3
    exact ⟨ret_iib (by rw [hR.out]) (by rw [hR.out]) (by rw [hR.out]), hT3⟩
  have b_c := expsB_mem hs (e := c) (by simp)
  have b_z := expsB_mem hs (e := z) (by simp)
  have hR := Lib.hid (show simEq p q g g1' y1 g2' y2 c z = (simC p q g1' y1 c z, simC p q g2' y2 c z, true) by unfold simEq; rw [if_pos ⟨hg, he, hs⟩])
  go_wp2_with fail
  go_region_held3 (fun W' => W'.cell? ⟨w.heap.size, 0, none⟩ = some (.int .i64 p) ∧ W'.cell? ⟨w.heap.size, 1, none⟩ = some (.int .i64 q) ∧ W'.cell? ⟨w.heap.size, 2, none⟩ = some (.int .i64 g) ∧ W'.cell? ⟨w.heap.size + 1, 0, none⟩ = some (.int .i64 g1') ∧ W'.cell? ⟨w.heap.size + 1, 1, none⟩ = some (.int .i64 y1) ∧ W'.cell? ⟨w.heap.size + 1, 2, none⟩ = some (.int .i64 g2') ∧ W'.cell? ⟨w.heap.size + 1, 3, none⟩ = some (.int .i64 y2) ∧ Below w.heap.size w W') ((go_split_ands; refine ⟨?_, ?_, ?_, ?_, ?_, ?_, ?_, ?_⟩; (first | with_reducible exact cell_keep (by with_reducible assumption) (by with_reducible assumption) | with_reducible exact cell_keep (below_new _ _) (by with_reducible assumption) | (with_reducible refine cell_set _ ?_ (by simp); (repeat with_reducible refine cell_set _ ?_ (by simp)); with_reducible assumption) | go_keep); (first | with_reducible exact cell_keep (by with_reducible assumption) (by with_reducible assumption) | with_reducible exact cell_keep (below_new _ _) (by with_reducible assumption) | (with_reducible refine cell_set _ ?_ (by simp); (repeat with_reducible refine cell_set _ ?_ (by simp)); with_reducible assumption) | go_keep); (first | with_reducible exact cell_keep (by with_reducible assumption) (by with_reducible assumption) | with_reducible exact cell_keep (below_new _ _) (by with_reducible assumption) | (with_reducible refine cell_set _ ?_ (by simp); (repeat with_reducible refine cell_set _ ?_ (by simp)); with_reducible assumption) | go_keep); (first | with_reducible exact cell_keep (by with_reducible assumption) (by with_reducible assumption) | with_reducible exact cell_keep (below_new _ _) (by with_reducible assumption) | (with_reducible refine cell_set _ ?_ (by simp); (repeat with_reducible refine cell_set _ ?_ (by simp)); with_reducible assumption) | go_keep); (first | with_reducible exact cell_keep (by with_reducible assumption) (by with_reducible assumption) | with_reducible exact cell_keep (below_new _ _) (by with_reducible assumption) | (with_reducible refine cell_set _ ?_ (by simp); (repeat with_reducible refine cell_set _ ?_ (by simp)); with_reducible assumption) | go_keep); (first | with_reducible exact cell_keep (by with_reducible assumption) (by with_reducible assumption) | with_reducible exact cell_keep (below_new _ _) (by with_reducible assumption) | (with_reducible refine cell_set _ ?_ (by simp); (repeat with_reducible refine cell_set _ ?_ (by simp)); with_reducible assumption) | go_keep); (first | with_reducible exact cell_keep (by with_reducible assumption) (by with_reducible assumption) | with_reducible exact cell_keep (below_new _ _) (by with_reducible assumption) | (with_reducible refine cell_set _ ?_ (by simp); (repeat with_reducible refine cell_set _ ?_ (by simp)); with_reducible assumption) | go_keep); (repeat (first | with_reducible assumption | with_reducible refine bnext ?_ (by with_reducible assumption) | with_reducible refine bnew ?_ _ | with_reducible refine below_set _ ?_ (by simp) | with_reducible refine Below.drew ?_ | with_reducible refine Below.drewN ?_ _)); done)) (first | (go_at_call 33; refine (xSimulate_any _ _ _ _ _ _ _ HG.out (by assumption) (by assumption) (by omega) (by omega) _).mono ?_; rintro e9 w9 ⟨rfl, hb9⟩))
  go_wp2
  go_ret3
  exact ⟨ret_iib (by rw [hR.out]) (by rw [hR.out]) (by rw [hR.out]), (by first | exact (by assumption : _ ∧ _ ∧ _ ∧ _ ∧ _ ∧ _ ∧ _ ∧  _).2.2.2.2.2.2.2 | assumption)⟩
set_option maxHeartbeats 800000 in
theorem isAcceptingI (p q g b y a c z : Int) (w : World) :
    Calls Try.prog 18 #[.agg #[.int .i64 p, .int .i64 q, .int .i64 g], .int .i64 b, .int .i64 y, .agg #[.int .i64 a, .int .i64 c, .int .i64 z]] w fun en w' => en = .returned (.tuple #[.bool (isAcc p q g b y a c z).1, .bool (isAcc p q g b y a c z).2]) ∧ Below w.heap.size w w' := by
  have hT0 : Below w.heap.size w ((w.alloc (.cells #[.int .i64 p, .int .i64 q, .int .i64 g] 28)).alloc (.cells #[.int .i64 a, .int .i64 c, .int .i64 z] 34)) := by repeat (first | exact Below.refl _ _ | refine bnew ?_ _)
  go_enter Try.func18, Try.ntmps18
  go_wp2_with fail
  refine (isValidGroup_any p q g _).mono ?_
  rintro e1 w1 ⟨rfl, hb1⟩
  have hT1 : Below w.heap.size w w1 := bnext (by repeat (first | exact hT0 | refine bnew ?_ _ | refine Below.drew ?_ | refine Below.drewN ?_ _)) hb1
  have c1_0 : w1.cell? ⟨w.heap.size, 0, none⟩ = some (.int .i64 p) := by
    refine cell_keep hb1 ?_
    repeat (first | with_reducible assumption | exact cell_new' (by simp) _ _ _ rfl | with_reducible refine cell_keep (below_new _ _) ?_)
  have c1_1 : w1.cell? ⟨w.heap.size, 1, none⟩ = some (.int .i64 q) := by
    refine cell_keep hb1 ?_
    repeat (first | with_reducible assumption | exact cell_new' (by simp) _ _ _ rfl | with_reducible refine cell_keep (below_new _ _) ?_)
  have c1_2 : w1.cell? ⟨w.heap.size, 2, none⟩ = some (.int .i64 g) := by
    refine cell_keep hb1 ?_
    repeat (first | with_reducible assumption | exact cell_new' (by simp) _ _ _ rfl | with_reducible refine cell_keep (below_new _ _) ?_)
  have c1_3 : w1.cell? ⟨w.heap.size + 1, 0, none⟩ = some (.int .i64 a) := by
    refine cell_keep hb1 ?_
    repeat (first | with_reducible assumption | exact cell_new' (by simp) _ _ _ rfl | with_reducible refine cell_keep (below_new _ _) ?_)
  have c1_4 : w1.cell? ⟨w.heap.size + 1, 1, none⟩ = some (.int .i64 c) := by
    refine cell_keep hb1 ?_
    repeat (first | with_reducible assumption | exact cell_new' (by simp) _ _ _ rfl | with_reducible refine cell_keep (below_new _ _) ?_)
  have c1_5 : w1.cell? ⟨w.heap.size + 1, 2, none⟩ = some (.int .i64 z) := by
    refine cell_keep hb1 ?_
    repeat (first | with_reducible assumption | exact cell_new' (by simp) _ _ _ rfl | with_reducible refine cell_keep (below_new _ _) ?_)
  rcases Bool.eq_false_or_eq_true (M.goodB p q g) with hg | hg
  rotate_left
  · have hR := Lib.hid (show isAcc p q g b y a c z = (false, false) by unfold isAcc; rw [if_neg fun hh => Bool.false_ne_true (hg.symm.trans hh.1)])
    go_wp2
    go_ret2
    exact ⟨ret_bb (by rw [hR.out]) (by rw [hR.out]), hT1⟩
  have hG := M.goodB_of hg
  have g1 := hG.q2
  have g2 := hG.qp
  have g3 := hG.p3
  have g4 := hG.pM
  have HG := Lib.hid hG
  clear hG
  go_wp2_with fail
  refine (hasAll_any p q g HG.out _ _ [b, y] (by simp) _ (RI.lit2 _ _ _ _ (by simp))).mono ?_
  rintro e2 w2 ⟨rfl, hb2⟩
  have hT2 : Below w.heap.size w w2 := bnext (by repeat (first | exact hT1 | refine bnew ?_ _ | refine Below.drew ?_ | refine Below.drewN ?_ _)) hb2
  have c2_0 : w2.cell? ⟨w.heap.size, 0, none⟩ = some (.int .i64 p) := by
    refine cell_keep hb2 ?_
    repeat (first | with_reducible assumption | exact cell_new' (by simp) _ _ _ rfl | with_reducible refine cell_keep (below_new _ _) ?_)
  have c2_1 : w2.cell? ⟨w.heap.size, 1, none⟩ = some (.int .i64 q) := by
    refine cell_keep hb2 ?_
    repeat (first | with_reducible assumption | exact cell_new' (by simp) _ _ _ rfl | with_reducible refine cell_keep (below_new _ _) ?_)
  have c2_2 : w2.cell? ⟨w.heap.size, 2, none⟩ = some (.int .i64 g) := by
    refine cell_keep hb2 ?_
    repeat (first | with_reducible assumption | exact cell_new' (by simp) _ _ _ rfl | with_reducible refine cell_keep (below_new _ _) ?_)
  have c2_3 : w2.cell? ⟨w.heap.size + 1, 0, none⟩ = some (.int .i64 a) := by
    refine cell_keep hb2 ?_
    repeat (first | with_reducible assumption | exact cell_new' (by simp) _ _ _ rfl | with_reducible refine cell_keep (below_new _ _) ?_)
  have c2_4 : w2.cell? ⟨w.heap.size + 1, 1, none⟩ = some (.int .i64 c) := by
    refine cell_keep hb2 ?_
    repeat (first | with_reducible assumption | exact cell_new' (by simp) _ _ _ rfl | with_reducible refine cell_keep (below_new _ _) ?_)
  have c2_5 : w2.cell? ⟨w.heap.size + 1, 2, none⟩ = some (.int .i64 z) := by
    refine cell_keep hb2 ?_
    repeat (first | with_reducible assumption | exact cell_new' (by simp) _ _ _ rfl | with_reducible refine cell_keep (below_new _ _) ?_)
  clear c1_0 c1_1 c1_2 c1_3 c1_4 c1_5
  rcases Bool.eq_false_or_eq_true (elemsB p q [b, y]) with he | he
  rotate_left
  · have hR := Lib.hid (show isAcc p q g b y a c z = (false, false) by unfold isAcc; rw [if_neg fun hh => Bool.false_ne_true (he.symm.trans hh.2.1)])
    go_wp2
    go_ret2
    exact ⟨ret_bb (by rw [hR.out]) (by rw [hR.out]), hT2⟩
  have l_b := elemsB_mem he (x := b) (by simp)
  have d_b := elem_bd l_b
  have l_y := elemsB_mem he (x := y) (by simp)
  have d_y := elem_bd l_y
  go_wp2_with fail
  refine (hasTranscript_any p q g a c z HG.out _).mono ?_
  rintro e3 w3 ⟨rfl, hb3⟩
  have hT3 : Below w.heap.size w w3 := bnext (by repeat (first | exact hT2 | refine bnew ?_ _ | refine Below.drew ?_ | refine Below.drewN ?_ _)) hb3
  have c3_0 : w3.cell? ⟨w.heap.size, 0, none⟩ = some (.int .i64 p) := by
    refine cell_keep hb3 ?_
    repeat (first | with_reducible assumption | exact cell_new' (by simp) _ _ _ rfl | with_reducible refine cell_keep (below_new _ _) ?_)
  have c3_1 : w3.cell? ⟨w.heap.size, 1, none⟩ = some (.int .i64 q) := by
    refine cell_keep hb3 ?_
    repeat (first | with_reducible assumption | exact cell_new' (by simp) _ _ _ rfl | with_reducible refine cell_keep (below_new _ _) ?_)
  have c3_2 : w3.cell? ⟨w.heap.size, 2, none⟩ = some (.int .i64 g) := by
    refine cell_keep hb3 ?_
    repeat (first | with_reducible assumption | exact cell_new' (by simp) _ _ _ rfl | with_reducible refine cell_keep (below_new _ _) ?_)
  have c3_3 : w3.cell? ⟨w.heap.size + 1, 0, none⟩ = some (.int .i64 a) := by
    refine cell_keep hb3 ?_
    repeat (first | with_reducible assumption | exact cell_new' (by simp) _ _ _ rfl | with_reducible refine cell_keep (below_new _ _) ?_)
  have c3_4 : w3.cell? ⟨w.heap.size + 1, 1, none⟩ = some (.int .i64 c) := by
    refine cell_keep hb3 ?_
    repeat (first | with_reducible assumption | exact cell_new' (by simp) _ _ _ rfl | with_reducible refine cell_keep (below_new _ _) ?_)
  have c3_5 : w3.cell? ⟨w.heap.size + 1, 2, none⟩ = some (.int .i64 z) := by
    refine cell_keep hb3 ?_
    repeat (first | with_reducible assumption | exact cell_new' (by simp) _ _ _ rfl | with_reducible refine cell_keep (below_new _ _) ?_)
  clear c2_0 c2_1 c2_2 c2_3 c2_4 c2_5
  rcases Bool.eq_false_or_eq_true (elemB p q a && expsB q [c, z]) with ht | ht
  rotate_left
  · have hR := Lib.hid (show isAcc p q g b y a c z = (false, false) by unfold isAcc; rw [if_neg fun hh => Bool.false_ne_true (ht.symm.trans hh.2.2)])
    go_wp2
    go_ret2
    exact ⟨ret_bb (by rw [hR.out]) (by rw [hR.out]), hT3⟩
  have hR := Lib.hid (show isAcc p q g b y a c z = (acc p q b y a c z, true) by unfold isAcc; rw [if_pos ⟨hg, he, ht⟩])
  have ha1 : elemB p q a = true := by revert ht; cases elemB p q a <;> simp
  have ht1 : expsB q [c, z] = true := by revert ht; cases expsB q [c, z] <;> simp
  have d_a := elem_bd (elemB_t ha1)
  have b_c := expsB_mem ht1 (e := c) (by simp)
  have b_z := expsB_mem ht1 (e := z) (by simp)
  clear ha1 ht1
  go_wp2_with fail
  refine (accepts_any _ _ _ _ _ _ _ _ HG.out (by assumption) (by assumption) (by assumption) (by omega) (by omega) _).mono ?_
  rintro e4 w4 ⟨rfl, hb4⟩
  have hT4 : Below w.heap.size w w4 := bnext (by repeat (first | exact hT3 | refine bnew ?_ _ | refine Below.drew ?_ | refine Below.drewN ?_ _)) hb4
  have c4_0 : w4.cell? ⟨w.heap.size, 0, none⟩ = some (.int .i64 p) := by
    refine cell_keep hb4 ?_
    repeat (first | with_reducible assumption | exact cell_new' (by simp) _ _ _ rfl | with_reducible refine cell_keep (below_new _ _) ?_)
  have c4_1 : w4.cell? ⟨w.heap.size, 1, none⟩ = some (.int .i64 q) := by
    refine cell_keep hb4 ?_
    repeat (first | with_reducible assumption | exact cell_new' (by simp) _ _ _ rfl | with_reducible refine cell_keep (below_new _ _) ?_)
  have c4_2 : w4.cell? ⟨w.heap.size, 2, none⟩ = some (.int .i64 g) := by
    refine cell_keep hb4 ?_
    repeat (first | with_reducible assumption | exact cell_new' (by simp) _ _ _ rfl | with_reducible refine cell_keep (below_new _ _) ?_)
  have c4_3 : w4.cell? ⟨w.heap.size + 1, 0, none⟩ = some (.int .i64 a) := by
    refine cell_keep hb4 ?_
    repeat (first | with_reducible assumption | exact cell_new' (by simp) _ _ _ rfl | with_reducible refine cell_keep (below_new _ _) ?_)
  have c4_4 : w4.cell? ⟨w.heap.size + 1, 1, none⟩ = some (.int .i64 c) := by
    refine cell_keep hb4 ?_
    repeat (first | with_reducible assumption | exact cell_new' (by simp) _ _ _ rfl | with_reducible refine cell_keep (below_new _ _) ?_)
  have c4_5 : w4.cell? ⟨w.heap.size + 1, 2, none⟩ = some (.int .i64 z) := by
    refine cell_keep hb4 ?_
    repeat (first | with_reducible assumption | exact cell_new' (by simp) _ _ _ rfl | with_reducible refine cell_keep (below_new _ _) ?_)
  clear c3_0 c3_1 c3_2 c3_3 c3_4 c3_5
  go_wp2
  go_ret2
  exact ⟨ret_bb (by rw [hR.out]) (by rw [hR.out]), hT4⟩
set_option maxHeartbeats 800000 in
theorem isAcceptingS (p q g b y a c z : Int) (w : World) :
    Calls Try.prog 16 #[.agg #[.int .i64 p, .int .i64 q, .int .i64 g], .int .i64 b, .int .i64 y, .agg #[.int .i64 a, .int .i64 c, .int .i64 z]] w fun en w' => en = .returned (.tuple #[.bool (isAcc p q g b y a c z).1, .bool (isAcc p q g b y a c z).2]) ∧ Below w.heap.size w w' := by
  have hT0 : Below w.heap.size w ((w.alloc (.cells #[.int .i64 p, .int .i64 q, .int .i64 g] 28)).alloc (.cells #[.int .i64 a, .int .i64 c, .int .i64 z] 34)) := by repeat (first | exact Below.refl _ _ | refine bnew ?_ _)
  go_enter Try.func16, Try.ntmps16
  go_wp2_with fail
  refine (l2Good_any p q g _).mono ?_
  rintro e1 w1 ⟨rfl, hb1⟩
  have hT1 : Below w.heap.size w w1 := bnext (by repeat (first | exact hT0 | refine bnew ?_ _ | refine Below.drew ?_ | refine Below.drewN ?_ _)) hb1
  have c1_0 : w1.cell? ⟨w.heap.size, 0, none⟩ = some (.int .i64 p) := by
    refine cell_keep hb1 ?_
    repeat (first | with_reducible assumption | exact cell_new' (by simp) _ _ _ rfl | with_reducible refine cell_keep (below_new _ _) ?_)
  have c1_1 : w1.cell? ⟨w.heap.size, 1, none⟩ = some (.int .i64 q) := by
    refine cell_keep hb1 ?_
    repeat (first | with_reducible assumption | exact cell_new' (by simp) _ _ _ rfl | with_reducible refine cell_keep (below_new _ _) ?_)
  have c1_2 : w1.cell? ⟨w.heap.size, 2, none⟩ = some (.int .i64 g) := by
    refine cell_keep hb1 ?_
    repeat (first | with_reducible assumption | exact cell_new' (by simp) _ _ _ rfl | with_reducible refine cell_keep (below_new _ _) ?_)
  have c1_3 : w1.cell? ⟨w.heap.size + 1, 0, none⟩ = some (.int .i64 a) := by
    refine cell_keep hb1 ?_
    repeat (first | with_reducible assumption | exact cell_new' (by simp) _ _ _ rfl | with_reducible refine cell_keep (below_new _ _) ?_)
  have c1_4 : w1.cell? ⟨w.heap.size + 1, 1, none⟩ = some (.int .i64 c) := by
    refine cell_keep hb1 ?_
    repeat (first | with_reducible assumption | exact cell_new' (by simp) _ _ _ rfl | with_reducible refine cell_keep (below_new _ _) ?_)
  have c1_5 : w1.cell? ⟨w.heap.size + 1, 2, none⟩ = some (.int .i64 z) := by
    refine cell_keep hb1 ?_
    repeat (first | with_reducible assumption | exact cell_new' (by simp) _ _ _ rfl | with_reducible refine cell_keep (below_new _ _) ?_)
  rcases Bool.eq_false_or_eq_true (M.goodB p q g) with hg | hg
  rotate_left
  · have hR := Lib.hid (show isAcc p q g b y a c z = (false, false) by unfold isAcc; rw [if_neg fun hh => Bool.false_ne_true (hg.symm.trans hh.1)])
    go_wp2
    go_ret2
    exact ⟨ret_bb (by rw [hR.out]) (by rw [hR.out]), hT1⟩
  have hG := M.goodB_of hg
  have g1 := hG.q2
  have g2 := hG.qp
  have g3 := hG.p3
  have g4 := hG.pM
  have HG := Lib.hid hG
  clear hG
  go_wp2_with fail
  refine (gIs_any p q g HG.out _ _ [b, y] (by simp) _ (RI.lit2 _ _ _ _ (by simp))).mono ?_
  rintro e2 w2 ⟨rfl, hb2⟩
  have hT2 : Below w.heap.size w w2 := bnext (by repeat (first | exact hT1 | refine bnew ?_ _ | refine Below.drew ?_ | refine Below.drewN ?_ _)) hb2
  have c2_0 : w2.cell? ⟨w.heap.size, 0, none⟩ = some (.int .i64 p) := by
    refine cell_keep hb2 ?_
    repeat (first | with_reducible assumption | exact cell_new' (by simp) _ _ _ rfl | with_reducible refine cell_keep (below_new _ _) ?_)
  have c2_1 : w2.cell? ⟨w.heap.size, 1, none⟩ = some (.int .i64 q) := by
    refine cell_keep hb2 ?_
    repeat (first | with_reducible assumption | exact cell_new' (by simp) _ _ _ rfl | with_reducible refine cell_keep (below_new _ _) ?_)
  have c2_2 : w2.cell? ⟨w.heap.size, 2, none⟩ = some (.int .i64 g) := by
    refine cell_keep hb2 ?_
    repeat (first | with_reducible assumption | exact cell_new' (by simp) _ _ _ rfl | with_reducible refine cell_keep (below_new _ _) ?_)
  have c2_3 : w2.cell? ⟨w.heap.size + 1, 0, none⟩ = some (.int .i64 a) := by
    refine cell_keep hb2 ?_
    repeat (first | with_reducible assumption | exact cell_new' (by simp) _ _ _ rfl | with_reducible refine cell_keep (below_new _ _) ?_)
  have c2_4 : w2.cell? ⟨w.heap.size + 1, 1, none⟩ = some (.int .i64 c) := by
    refine cell_keep hb2 ?_
    repeat (first | with_reducible assumption | exact cell_new' (by simp) _ _ _ rfl | with_reducible refine cell_keep (below_new _ _) ?_)
  have c2_5 : w2.cell? ⟨w.heap.size + 1, 2, none⟩ = some (.int .i64 z) := by
    refine cell_keep hb2 ?_
    repeat (first | with_reducible assumption | exact cell_new' (by simp) _ _ _ rfl | with_reducible refine cell_keep (below_new _ _) ?_)
  clear c1_0 c1_1 c1_2 c1_3 c1_4 c1_5
  rcases Bool.eq_false_or_eq_true (elemsB p q [b, y]) with he | he
  rotate_left
  · have hR := Lib.hid (show isAcc p q g b y a c z = (false, false) by unfold isAcc; rw [if_neg fun hh => Bool.false_ne_true (he.symm.trans hh.2.1)])
    go_wp2
    go_ret2
    exact ⟨ret_bb (by rw [hR.out]) (by rw [hR.out]), hT2⟩
  have l_b := elemsB_mem he (x := b) (by simp)
  have d_b := elem_bd l_b
  have l_y := elemsB_mem he (x := y) (by simp)
  have d_y := elem_bd l_y
  go_wp2_with fail
  refine (xTranscript_any p q g a c z HG.out _).mono ?_
  rintro e3 w3 ⟨rfl, hb3⟩
  have hT3 : Below w.heap.size w w3 := bnext (by repeat (first | exact hT2 | refine bnew ?_ _ | refine Below.drew ?_ | refine Below.drewN ?_ _)) hb3
  have c3_0 : w3.cell? ⟨w.heap.size, 0, none⟩ = some (.int .i64 p) := by
    refine cell_keep hb3 ?_
    repeat (first | with_reducible assumption | exact cell_new' (by simp) _ _ _ rfl | with_reducible refine cell_keep (below_new _ _) ?_)
  have c3_1 : w3.cell? ⟨w.heap.size, 1, none⟩ = some (.int .i64 q) := by
    refine cell_keep hb3 ?_
    repeat (first | with_reducible assumption | exact cell_new' (by simp) _ _ _ rfl | with_reducible refine cell_keep (below_new _ _) ?_)
  have c3_2 : w3.cell? ⟨w.heap.size, 2, none⟩ = some (.int .i64 g) := by
    refine cell_keep hb3 ?_
    repeat (first | with_reducible assumption | exact cell_new' (by simp) _ _ _ rfl | with_reducible refine cell_keep (below_new _ _) ?_)
  have c3_3 : w3.cell? ⟨w.heap.size + 1, 0, none⟩ = some (.int .i64 a) := by
    refine cell_keep hb3 ?_
    repeat (first | with_reducible assumption | exact cell_new' (by simp) _ _ _ rfl | with_reducible refine cell_keep (below_new _ _) ?_)
  have c3_4 : w3.cell? ⟨w.heap.size + 1, 1, none⟩ = some (.int .i64 c) := by
    refine cell_keep hb3 ?_
    repeat (first | with_reducible assumption | exact cell_new' (by simp) _ _ _ rfl | with_reducible refine cell_keep (below_new _ _) ?_)
  have c3_5 : w3.cell? ⟨w.heap.size + 1, 2, none⟩ = some (.int .i64 z) := by
    refine cell_keep hb3 ?_
    repeat (first | with_reducible assumption | exact cell_new' (by simp) _ _ _ rfl | with_reducible refine cell_keep (below_new _ _) ?_)
  clear c2_0 c2_1 c2_2 c2_3 c2_4 c2_5
  rcases Bool.eq_false_or_eq_true (elemB p q a && expsB q [c, z]) with ht | ht
  rotate_left
  · have hR := Lib.hid (show isAcc p q g b y a c z = (false, false) by unfold isAcc; rw [if_neg fun hh => Bool.false_ne_true (ht.symm.trans hh.2.2)])
    go_wp2
    go_ret2
    exact ⟨ret_bb (by rw [hR.out]) (by rw [hR.out]), hT3⟩
  have hR := Lib.hid (show isAcc p q g b y a c z = (acc p q b y a c z, true) by unfold isAcc; rw [if_pos ⟨hg, he, ht⟩])
  have ha1 : elemB p q a = true := by revert ht; cases elemB p q a <;> simp
  have ht1 : expsB q [c, z] = true := by revert ht; cases expsB q [c, z] <;> simp
  have d_a := elem_bd (elemB_t ha1)
  have b_c := expsB_mem ht1 (e := c) (by simp)
  have b_z := expsB_mem ht1 (e := z) (by simp)
  clear ha1 ht1
  go_wp2_with fail
  refine (xAccepts_any _ _ _ _ _ _ _ _ HG.out (by assumption) (by assumption) (by assumption) (by omega) (by omega) _).mono ?_
  rintro e4 w4 ⟨rfl, hb4⟩
  have hT4 : Below w.heap.size w w4 := bnext (by repeat (first | exact hT3 | refine bnew ?_ _ | refine Below.drew ?_ | refine Below.drewN ?_ _)) hb4
  have c4_0 : w4.cell? ⟨w.heap.size, 0, none⟩ = some (.int .i64 p) := by
    refine cell_keep hb4 ?_
    repeat (first | with_reducible assumption | exact cell_new' (by simp) _ _ _ rfl | with_reducible refine cell_keep (below_new _ _) ?_)
  have c4_1 : w4.cell? ⟨w.heap.size, 1, none⟩ = some (.int .i64 q) := by
    refine cell_keep hb4 ?_
    repeat (first | with_reducible assumption | exact cell_new' (by simp) _ _ _ rfl | with_reducible refine cell_keep (below_new _ _) ?_)
  have c4_2 : w4.cell? ⟨w.heap.size, 2, none⟩ = some (.int .i64 g) := by
    refine cell_keep hb4 ?_
    repeat (first | with_reducible assumption | exact cell_new' (by simp) _ _ _ rfl | with_reducible refine cell_keep (below_new _ _) ?_)
  have c4_3 : w4.cell? ⟨w.heap.size + 1, 0, none⟩ = some (.int .i64 a) := by
    refine cell_keep hb4 ?_
    repeat (first | with_reducible assumption | exact cell_new' (by simp) _ _ _ rfl | with_reducible refine cell_keep (below_new _ _) ?_)
  have c4_4 : w4.cell? ⟨w.heap.size + 1, 1, none⟩ = some (.int .i64 c) := by
    refine cell_keep hb4 ?_
    repeat (first | with_reducible assumption | exact cell_new' (by simp) _ _ _ rfl | with_reducible refine cell_keep (below_new _ _) ?_)
  have c4_5 : w4.cell? ⟨w.heap.size + 1, 2, none⟩ = some (.int .i64 z) := by
    refine cell_keep hb4 ?_
    repeat (first | with_reducible assumption | exact cell_new' (by simp) _ _ _ rfl | with_reducible refine cell_keep (below_new _ _) ?_)
  clear c3_0 c3_1 c3_2 c3_3 c3_4 c3_5
  go_wp2
  go_ret2
  exact ⟨ret_bb (by rw [hR.out]) (by rw [hR.out]), hT4⟩
end Go.Proofs.Ytidcahjkjlmjhaa
