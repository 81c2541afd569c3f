/- FnExactCombineCommits returns true for every input. No condition. -/
import Derived.Test.YtidcahjkjlmjhaaE6
import Derived.Test.YtidcahjkjlmjhaaL1
import Derived.Test.YtidcahjkjlmjhaaL2
import Derived.Test.YtidcahjkjlmjhaaOpen
namespace Go.Proofs.Ytidcahjkjlmjhaa.pCombineCommits
open Go.ChangeShapes Go.WideShapes Go.ChangeAt Go.RowKit Go.Joins
theorem own : ownKnob Try.prog.godebug = none := by kernel_rfl
theorem cellsG : Try.prog.cellsOf 23 = 3 := by kernel_rfl
set_option maxHeartbeats 1600000 in
theorem walk (p q g : Int) (A_xs : Option Addr) (c_xs : Nat) (xs : List Int) (A_es : Option Addr) (c_es : Nat) (es : List Int) (w : World) (hx_xs : RI w w.heap.size A_xs xs) (hl_xs : xs.length ≤ 9223372036854775807) (hx_es : RI w w.heap.size A_es es) (hl_es : es.length ≤ 9223372036854775807) : Calls Try.prog 8 #[.agg #[.int .i64 p, .int .i64 q, .int .i64 g], .slice A_xs xs.length c_xs, .slice A_es es.length c_es] w fun e w' => e = .returned (.bool true) ∧ Below w.heap.size w w' := by
  have hT0 : Below w.heap.size w (w.alloc (.cells #[.int .i64 p, .int .i64 q, .int .i64 g] 23)) := by repeat (first | exact Below.refl _ _ | refine bnew ?_ _)
  go_enter Try.func8, Try.ntmps8
  by_cases big_xs : (1048576 : Int) < (xs.length : Int)
  · go_wp2
    go_ret
    exact ⟨rfl, hT0⟩
  by_cases big_es : (1048576 : Int) < (es.length : Int)
  · go_wp2
    go_ret
    exact ⟨rfl, hT0⟩
  go_wp2_with fail
  refine (toGroup_any _ _ _ _).mono ?_
  rintro e1 w1 ⟨rfl, hb1⟩
  have hT1 : Below w.heap.size w w1 := bnext (by repeat (first | exact hT0 | refine bnew ?_ _ | refine Below.drew ?_ | refine Below.drewN ?_ _)) hb1
  have c1_0 : w1.cell? ⟨w.heap.size, 0, none⟩ = some (.int .i64 p) := by
    refine cell_keep hb1 ?_
    repeat (first | with_reducible assumption | exact cell_new' (by simp) _ _ _ rfl | with_reducible refine cell_keep (below_new _ _) ?_)
  have c1_1 : w1.cell? ⟨w.heap.size, 1, none⟩ = some (.int .i64 q) := by
    refine cell_keep hb1 ?_
    repeat (first | with_reducible assumption | exact cell_new' (by simp) _ _ _ rfl | with_reducible refine cell_keep (below_new _ _) ?_)
  have c1_2 : w1.cell? ⟨w.heap.size, 2, none⟩ = some (.int .i64 g) := by
    refine cell_keep hb1 ?_
    repeat (first | with_reducible assumption | exact cell_new' (by simp) _ _ _ rfl | with_reducible refine cell_keep (below_new _ _) ?_)
  go_wp2_with fail
  refine (toIntS_any A_xs c_xs xs (by omega) _ (hx_xs.next (by repeat (first | exact hT1 | refine bnew ?_ _ | refine Below.drew ?_ | refine Below.drewN ?_ _)))).mono ?_
  rintro e2 w2 ⟨Aa, ca, rfl, ha, hb2⟩
  have hT2 : Below w.heap.size w w2 := bnext (by repeat (first | exact hT1 | refine bnew ?_ _ | refine Below.drew ?_ | refine Below.drewN ?_ _)) hb2
  have c2_0 : w2.cell? ⟨w.heap.size, 0, none⟩ = some (.int .i64 p) := by
    refine cell_keep hb2 ?_
    repeat (first | with_reducible assumption | exact cell_new' (by simp) _ _ _ rfl | with_reducible refine cell_keep (below_new _ _) ?_)
  have c2_1 : w2.cell? ⟨w.heap.size, 1, none⟩ = some (.int .i64 q) := by
    refine cell_keep hb2 ?_
    repeat (first | with_reducible assumption | exact cell_new' (by simp) _ _ _ rfl | with_reducible refine cell_keep (below_new _ _) ?_)
  have c2_2 : w2.cell? ⟨w.heap.size, 2, none⟩ = some (.int .i64 g) := by
    refine cell_keep hb2 ?_
    repeat (first | with_reducible assumption | exact cell_new' (by simp) _ _ _ rfl | with_reducible refine cell_keep (below_new _ _) ?_)
  clear c1_0 c1_1 c1_2
  go_wp2_with fail
  refine (toIntS_any A_es c_es es (by omega) _ (hx_es.next (by repeat (first | exact hT2 | refine bnew ?_ _ | refine Below.drew ?_ | refine Below.drewN ?_ _)))).mono ?_
  rintro e3 w3 ⟨Ab, cb, rfl, hb, hb3⟩
  have hT3 : Below w.heap.size w w3 := bnext (by repeat (first | exact hT2 | refine bnew ?_ _ | refine Below.drew ?_ | refine Below.drewN ?_ _)) hb3
  have c3_0 : w3.cell? ⟨w.heap.size, 0, none⟩ = some (.int .i64 p) := by
    refine cell_keep hb3 ?_
    repeat (first | with_reducible assumption | exact cell_new' (by simp) _ _ _ rfl | with_reducible refine cell_keep (below_new _ _) ?_)
  have c3_1 : w3.cell? ⟨w.heap.size, 1, none⟩ = some (.int .i64 q) := by
    refine cell_keep hb3 ?_
    repeat (first | with_reducible assumption | exact cell_new' (by simp) _ _ _ rfl | with_reducible refine cell_keep (below_new _ _) ?_)
  have c3_2 : w3.cell? ⟨w.heap.size, 2, none⟩ = some (.int .i64 g) := by
    refine cell_keep hb3 ?_
    repeat (first | with_reducible assumption | exact cell_new' (by simp) _ _ _ rfl | with_reducible refine cell_keep (below_new _ _) ?_)
  clear c2_0 c2_1 c2_2
  have hS3 : Below w2.heap.size w2 w3 := bnext (by repeat (first | exact Below.refl _ _ | refine bnew ?_ _ | refine Below.drew ?_ | refine Below.drewN ?_ _)) hb3
  have ha_3 := ha.below hS3
  clear ha
  go_wp2_with fail
  refine (combineCommitsS p q g _ _ _ _ xs es hl_xs hl_es _ (ha_3.ri.next (by repeat (first | exact Below.refl _ _ | refine bnew ?_ _ | refine Below.drew ?_ | refine Below.drewN ?_ _))) (hb.ri.next (by repeat (first | exact Below.refl _ _ | refine bnew ?_ _ | refine Below.drew ?_ | refine Below.drewN ?_ _)))).mono ?_
  rintro e4 w4 ⟨rfl, hb4⟩
  have hT4 : Below w.heap.size w w4 := bnext (by repeat (first | exact hT3 | refine bnew ?_ _ | refine Below.drew ?_ | refine Below.drewN ?_ _)) hb4
  have c4_0 : w4.cell? ⟨w.heap.size, 0, none⟩ = some (.int .i64 p) := by
    refine cell_keep hb4 ?_
    repeat (first | with_reducible assumption | exact cell_new' (by simp) _ _ _ rfl | with_reducible refine cell_keep (below_new _ _) ?_)
  have c4_1 : w4.cell? ⟨w.heap.size, 1, none⟩ = some (.int .i64 q) := by
    refine cell_keep hb4 ?_
    repeat (first | with_reducible assumption | exact cell_new' (by simp) _ _ _ rfl | with_reducible refine cell_keep (below_new _ _) ?_)
  have c4_2 : w4.cell? ⟨w.heap.size, 2, none⟩ = some (.int .i64 g) := by
    refine cell_keep hb4 ?_
    repeat (first | with_reducible assumption | exact cell_new' (by simp) _ _ _ rfl | with_reducible refine cell_keep (below_new _ _) ?_)
  clear c3_0 c3_1 c3_2
  have hS4 : Below w3.heap.size w3 w4 := bnext (by repeat (first | exact Below.refl _ _ | refine bnew ?_ _ | refine Below.drew ?_ | refine Below.drewN ?_ _)) hb4
  have ha_4 := ha_3.below hS4
  clear ha_3
  have hb_4 := hb.below hS4
  clear hb
  go_wp2_with fail
  refine (toIntS_any A_xs c_xs xs (by omega) _ (hx_xs.next (by repeat (first | exact hT4 | refine bnew ?_ _ | refine Below.drew ?_ | refine Below.drewN ?_ _)))).mono ?_
  rintro e5 w5 ⟨Ak, ck, rfl, hk, hb5⟩
  have hT5 : Below w.heap.size w w5 := bnext (by repeat (first | exact hT4 | refine bnew ?_ _ | refine Below.drew ?_ | refine Below.drewN ?_ _)) hb5
  have c5_0 : w5.cell? ⟨w.heap.size, 0, none⟩ = some (.int .i64 p) := by
    refine cell_keep hb5 ?_
    repeat (first | with_reducible assumption | exact cell_new' (by simp) _ _ _ rfl | with_reducible refine cell_keep (below_new _ _) ?_)
  have c5_1 : w5.cell? ⟨w.heap.size, 1, none⟩ = some (.int .i64 q) := by
    refine cell_keep hb5 ?_
    repeat (first | with_reducible assumption | exact cell_new' (by simp) _ _ _ rfl | with_reducible refine cell_keep (below_new _ _) ?_)
  have c5_2 : w5.cell? ⟨w.heap.size, 2, none⟩ = some (.int .i64 g) := by
    refine cell_keep hb5 ?_
    repeat (first | with_reducible assumption | exact cell_new' (by simp) _ _ _ rfl | with_reducible refine cell_keep (below_new _ _) ?_)
  clear c4_0 c4_1 c4_2
  have hS5 : Below w4.heap.size w4 w5 := bnext (by repeat (first | exact Below.refl _ _ | refine bnew ?_ _ | refine Below.drew ?_ | refine Below.drewN ?_ _)) hb5
  have ha_5 := ha_4.below hS5
  clear ha_4
  have hb_5 := hb_4.below hS5
  clear hb_4
  go_wp2_with fail
  refine (toIntS_any A_es c_es es (by omega) _ (hx_es.next (by repeat (first | exact hT5 | refine bnew ?_ _ | refine Below.drew ?_ | refine Below.drewN ?_ _)))).mono ?_
  rintro e6 w6 ⟨Al, cl, rfl, hl, hb6⟩
  have hT6 : Below w.heap.size w w6 := bnext (by repeat (first | exact hT5 | refine bnew ?_ _ | refine Below.drew ?_ | refine Below.drewN ?_ _)) hb6
  have c6_0 : w6.cell? ⟨w.heap.size, 0, none⟩ = some (.int .i64 p) := by
    refine cell_keep hb6 ?_
    repeat (first | with_reducible assumption | exact cell_new' (by simp) _ _ _ rfl | with_reducible refine cell_keep (below_new _ _) ?_)
  have c6_1 : w6.cell? ⟨w.heap.size, 1, none⟩ = some (.int .i64 q) := by
    refine cell_keep hb6 ?_
    repeat (first | with_reducible assumption | exact cell_new' (by simp) _ _ _ rfl | with_reducible refine cell_keep (below_new _ _) ?_)
  have c6_2 : w6.cell? ⟨w.heap.size, 2, none⟩ = some (.int .i64 g) := by
    refine cell_keep hb6 ?_
    repeat (first | with_reducible assumption | exact cell_new' (by simp) _ _ _ rfl | with_reducible refine cell_keep (below_new _ _) ?_)
  clear c5_0 c5_1 c5_2
  have hS6 : Below w5.heap.size w5 w6 := bnext (by repeat (first | exact Below.refl _ _ | refine bnew ?_ _ | refine Below.drew ?_ | refine Below.drewN ?_ _)) hb6
  have ha_6 := ha_5.below hS6
  clear ha_5
  have hb_6 := hb_5.below hS6
  clear hb_5
  have hk_6 := hk.below hS6
  clear hk
  go_wp2_with fail
  refine (toGroup_any _ _ _ _).mono ?_
  rintro e7 w7 ⟨rfl, hb7⟩
  have hT7 : Below w.heap.size w w7 := bnext (by repeat (first | exact hT6 | refine bnew ?_ _ | refine Below.drew ?_ | refine Below.drewN ?_ _)) hb7
  have c7_0 : w7.cell? ⟨w.heap.size, 0, none⟩ = some (.int .i64 p) := by
    refine cell_keep hb7 ?_
    repeat (first | with_reducible assumption | exact cell_new' (by simp) _ _ _ rfl | with_reducible refine cell_keep (below_new _ _) ?_)
  have c7_1 : w7.cell? ⟨w.heap.size, 1, none⟩ = some (.int .i64 q) := by
    refine cell_keep hb7 ?_
    repeat (first | with_reducible assumption | exact cell_new' (by simp) _ _ _ rfl | with_reducible refine cell_keep (below_new _ _) ?_)
  have c7_2 : w7.cell? ⟨w.heap.size, 2, none⟩ = some (.int .i64 g) := by
    refine cell_keep hb7 ?_
    repeat (first | with_reducible assumption | exact cell_new' (by simp) _ _ _ rfl | with_reducible refine cell_keep (below_new _ _) ?_)
  clear c6_0 c6_1 c6_2
  have hS7 : Below w6.heap.size w6 w7 := bnext (by repeat (first | exact Below.refl _ _ | refine bnew ?_ _ | refine Below.drew ?_ | refine Below.drewN ?_ _)) hb7
  have ha_7 := ha_6.below hS7
  clear ha_6
  have hb_7 := hb_6.below hS7
  clear hb_6
  have hk_7 := hk_6.below hS7
  clear hk_6
  have hl_7 := hl.below hS7
  clear hl
  go_wp2_with fail
  refine (combineCommitsI p q g _ _ _ _ xs es hl_xs hl_es _ (hk_7.ri.next (by repeat (first | exact Below.refl _ _ | refine bnew ?_ _ | refine Below.drew ?_ | refine Below.drewN ?_ _))) (hl_7.ri.next (by repeat (first | exact Below.refl _ _ | refine bnew ?_ _ | refine Below.drew ?_ | refine Below.drewN ?_ _)))).mono ?_
  rintro e8 w8 ⟨rfl, hb8⟩
  have hT8 : Below w.heap.size w w8 := bnext (by repeat (first | exact hT7 | refine bnew ?_ _ | refine Below.drew ?_ | refine Below.drewN ?_ _)) hb8
  have c8_0 : w8.cell? ⟨w.heap.size, 0, none⟩ = some (.int .i64 p) := by
    refine cell_keep hb8 ?_
    repeat (first | with_reducible assumption | exact cell_new' (by simp) _ _ _ rfl | with_reducible refine cell_keep (below_new _ _) ?_)
  have c8_1 : w8.cell? ⟨w.heap.size, 1, none⟩ = some (.int .i64 q) := by
    refine cell_keep hb8 ?_
    repeat (first | with_reducible assumption | exact cell_new' (by simp) _ _ _ rfl | with_reducible refine cell_keep (below_new _ _) ?_)
  have c8_2 : w8.cell? ⟨w.heap.size, 2, none⟩ = some (.int .i64 g) := by
    refine cell_keep hb8 ?_
    repeat (first | with_reducible assumption | exact cell_new' (by simp) _ _ _ rfl | with_reducible refine cell_keep (below_new _ _) ?_)
  clear c7_0 c7_1 c7_2
  have hS8 : Below w7.heap.size w7 w8 := bnext (by repeat (first | exact Below.refl _ _ | refine bnew ?_ _ | refine Below.drew ?_ | refine Below.drewN ?_ _)) hb8
  have ha_8 := ha_7.below hS8
  clear ha_7
  have hb_8 := hb_7.below hS8
  clear hb_7
  have hk_8 := hk_7.below hS8
  clear hk_7
  have hl_8 := hl_7.below hS8
  clear hl_7
  go_wp2_with fail
  refine (toIntS_any A_xs c_xs xs (by omega) _ (hx_xs.next (by repeat (first | exact hT8 | refine bnew ?_ _ | refine Below.drew ?_ | refine Below.drewN ?_ _)))).mono ?_
  rintro e9 w9 ⟨Amk, cmk, rfl, hmk, hb9⟩
  have hT9 : Below w.heap.size w w9 := bnext (by repeat (first | exact hT8 | refine bnew ?_ _ | refine Below.drew ?_ | refine Below.drewN ?_ _)) hb9
  have c9_0 : w9.cell? ⟨w.heap.size, 0, none⟩ = some (.int .i64 p) := by
    refine cell_keep hb9 ?_
    repeat (first | with_reducible assumption | exact cell_new' (by simp) _ _ _ rfl | with_reducible refine cell_keep (below_new _ _) ?_)
  have c9_1 : w9.cell? ⟨w.heap.size, 1, none⟩ = some (.int .i64 q) := by
    refine cell_keep hb9 ?_
    repeat (first | with_reducible assumption | exact cell_new' (by simp) _ _ _ rfl | with_reducible refine cell_keep (below_new _ _) ?_)
  have c9_2 : w9.cell? ⟨w.heap.size, 2, none⟩ = some (.int .i64 g) := by
    refine cell_keep hb9 ?_
    repeat (first | with_reducible assumption | exact cell_new' (by simp) _ _ _ rfl | with_reducible refine cell_keep (below_new _ _) ?_)
  clear c8_0 c8_1 c8_2
  have hS9 : Below w8.heap.size w8 w9 := bnext (by repeat (first | exact Below.refl _ _ | refine bnew ?_ _ | refine Below.drew ?_ | refine Below.drewN ?_ _)) hb9
  have ha_9 := ha_8.below hS9
  clear ha_8
  have hb_9 := hb_8.below hS9
  clear hb_8
  have hk_9 := hk_8.below hS9
  clear hk_8
  have hl_9 := hl_8.below hS9
  clear hl_8
  go_wp2_with fail
  refine (eqIntS_same _ _ _ _ xs hl_xs _ (hk_9.ri.next (by repeat (first | exact Below.refl _ _ | refine bnew ?_ _ | refine Below.drew ?_ | refine Below.drewN ?_ _))) (hmk.ri.next (by repeat (first | exact Below.refl _ _ | refine bnew ?_ _ | refine Below.drew ?_ | refine Below.drewN ?_ _)))).mono ?_
  rintro e10 w10 ⟨rfl, hb10⟩
  have hT10 : Below w.heap.size w w10 := bnext (by repeat (first | exact hT9 | refine bnew ?_ _ | refine Below.drew ?_ | refine Below.drewN ?_ _)) hb10
  have c10_0 : w10.cell? ⟨w.heap.size, 0, none⟩ = some (.int .i64 p) := by
    refine cell_keep hb10 ?_
    repeat (first | with_reducible assumption | exact cell_new' (by simp) _ _ _ rfl | with_reducible refine cell_keep (below_new _ _) ?_)
  have c10_1 : w10.cell? ⟨w.heap.size, 1, none⟩ = some (.int .i64 q) := by
    refine cell_keep hb10 ?_
    repeat (first | with_reducible assumption | exact cell_new' (by simp) _ _ _ rfl | with_reducible refine cell_keep (below_new _ _) ?_)
  have c10_2 : w10.cell? ⟨w.heap.size, 2, none⟩ = some (.int .i64 g) := by
    refine cell_keep hb10 ?_
    repeat (first | with_reducible assumption | exact cell_new' (by simp) _ _ _ rfl | with_reducible refine cell_keep (below_new _ _) ?_)
  clear c9_0 c9_1 c9_2
  have hS10 : Below w9.heap.size w9 w10 := bnext (by repeat (first | exact Below.refl _ _ | refine bnew ?_ _ | refine Below.drew ?_ | refine Below.drewN ?_ _)) hb10
  have ha_10 := ha_9.below hS10
  clear ha_9
  have hb_10 := hb_9.below hS10
  clear hb_9
  have hk_10 := hk_9.below hS10
  clear hk_9
  have hl_10 := hl_9.below hS10
  clear hl_9
  have hmk_10 := hmk.below hS10
  clear hmk
  go_wp2_with fail
  refine (toIntS_any A_es c_es es (by omega) _ (hx_es.next (by repeat (first | exact hT10 | refine bnew ?_ _ | refine Below.drew ?_ | refine Below.drewN ?_ _)))).mono ?_
  rintro e11 w11 ⟨Aml, cml, rfl, hml, hb11⟩
  have hT11 : Below w.heap.size w w11 := bnext (by repeat (first | exact hT10 | refine bnew ?_ _ | refine Below.drew ?_ | refine Below.drewN ?_ _)) hb11
  have c11_0 : w11.cell? ⟨w.heap.size, 0, none⟩ = some (.int .i64 p) := by
    refine cell_keep hb11 ?_
    repeat (first | with_reducible assumption | exact cell_new' (by simp) _ _ _ rfl | with_reducible refine cell_keep (below_new _ _) ?_)
  have c11_1 : w11.cell? ⟨w.heap.size, 1, none⟩ = some (.int .i64 q) := by
    refine cell_keep hb11 ?_
    repeat (first | with_reducible assumption | exact cell_new' (by simp) _ _ _ rfl | with_reducible refine cell_keep (below_new _ _) ?_)
  have c11_2 : w11.cell? ⟨w.heap.size, 2, none⟩ = some (.int .i64 g) := by
    refine cell_keep hb11 ?_
    repeat (first | with_reducible assumption | exact cell_new' (by simp) _ _ _ rfl | with_reducible refine cell_keep (below_new _ _) ?_)
  clear c10_0 c10_1 c10_2
  have hS11 : Below w10.heap.size w10 w11 := bnext (by repeat (first | exact Below.refl _ _ | refine bnew ?_ _ | refine Below.drew ?_ | refine Below.drewN ?_ _)) hb11
  have ha_11 := ha_10.below hS11
  clear ha_10
  have hb_11 := hb_10.below hS11
  clear hb_10
  have hk_11 := hk_10.below hS11
  clear hk_10
  have hl_11 := hl_10.below hS11
  clear hl_10
  have hmk_11 := hmk_10.below hS11
  clear hmk_10
  go_wp2_with fail
  refine (eqIntS_same _ _ _ _ es hl_es _ (hl_11.ri.next (by repeat (first | exact Below.refl _ _ | refine bnew ?_ _ | refine Below.drew ?_ | refine Below.drewN ?_ _))) (hml.ri.next (by repeat (first | exact Below.refl _ _ | refine bnew ?_ _ | refine Below.drew ?_ | refine Below.drewN ?_ _)))).mono ?_
  rintro e12 w12 ⟨rfl, hb12⟩
  have hT12 : Below w.heap.size w w12 := bnext (by repeat (first | exact hT11 | refine bnew ?_ _ | refine Below.drew ?_ | refine Below.drewN ?_ _)) hb12
  have c12_0 : w12.cell? ⟨w.heap.size, 0, none⟩ = some (.int .i64 p) := by
    refine cell_keep hb12 ?_
    repeat (first | with_reducible assumption | exact cell_new' (by simp) _ _ _ rfl | with_reducible refine cell_keep (below_new _ _) ?_)
  have c12_1 : w12.cell? ⟨w.heap.size, 1, none⟩ = some (.int .i64 q) := by
    refine cell_keep hb12 ?_
    repeat (first | with_reducible assumption | exact cell_new' (by simp) _ _ _ rfl | with_reducible refine cell_keep (below_new _ _) ?_)
  have c12_2 : w12.cell? ⟨w.heap.size, 2, none⟩ = some (.int .i64 g) := by
    refine cell_keep hb12 ?_
    repeat (first | with_reducible assumption | exact cell_new' (by simp) _ _ _ rfl | with_reducible refine cell_keep (below_new _ _) ?_)
  clear c11_0 c11_1 c11_2
  have hS12 : Below w11.heap.size w11 w12 := bnext (by repeat (first | exact Below.refl _ _ | refine bnew ?_ _ | refine Below.drew ?_ | refine Below.drewN ?_ _)) hb12
  have ha_12 := ha_11.below hS12
  clear ha_11
  have hb_12 := hb_11.below hS12
  clear hb_11
  have hk_12 := hk_11.below hS12
  clear hk_11
  have hl_12 := hl_11.below hS12
  clear hl_11
  have hmk_12 := hmk_11.below hS12
  clear hmk_11
  have hml_12 := hml.below hS12
  clear hml
  go_wp2
  go_ret
  exact ⟨rfl, hT12⟩
set_option maxRecDepth 100000 in
theorem lifted (os : Os) (started : os.Started) (H : Type) (enc : TypeId × Value → H) :
    ReturnsInHanded {} Try.checked os 8 .any (Rows.fnExactCombineCommitsSpec.pre6 enc Try.prog Try.f8 Rows.fnExactCombineCommitsRow.domain false) (Rows.fnExactCombineCommitsSpec.post enc Try.prog Try.f8 false true false false) := by
  refine law_lift (C := Try.checked) own started (by kernel_rfl) Try.func8
    (ChangeSpec.witness6 (enc := enc) (C := Try.checked) false ⟨#[], #[.agg #[.int .i64 0, .int .i64 0, .int .i64 0], .slice none 0 0, .slice none 0 0], []⟩ 8 (by kernel_rfl) (by kernel_rfl) (by kernel_rfl) (by kernel_rfl))
    (by kernel_rfl) [23, 46, 46] rfl (by kernel_rfl) 4 rfl Try.underlying4 rfl (fun ds h => by
      match ds, h with
      | [_, _, _], _ => rfl) ?_
  intro W base args ds p hval hA hlt
  obtain ⟨v0, vs0, d0, ds0, p0, q0, hargs, rfl, rfl, h0, r0⟩ := trodAll_cons hA
  obtain ⟨v1, vs1, d1, ds1, p1, q1, rfl, rfl, rfl, h1, r1⟩ := trodAll_cons r0
  obtain ⟨v2, vs2, d2, ds2, p2, q2, rfl, rfl, rfl, h2, r2⟩ := trodAll_cons r1
  obtain ⟨rfl, rfl, rfl⟩ := trodAll_nil r2
  rw [hargs] at hval
  obtain rfl : args = #[v0, v1, v2] := by cases args; simp_all
  obtain ⟨c0, c1, c2, y0, y1, y2, m9, rfl, rfl, rfl, hy0, hy1, hy2⟩ := open_agg3 Try.underlying23 (by kernel_rfl) cellsG (hval 0 23 v0 rfl rfl) h0
  obtain ⟨p, e0, rfl, wa0⟩ := DataW.trod_int Try.underlying3 hy0
  obtain ⟨q, e1, rfl, wa1⟩ := DataW.trod_int Try.underlying3 hy1
  obtain ⟨g, e2, rfl, wa2⟩ := DataW.trod_int Try.underlying3 hy2
  simp at e0 e1 e2
  subst e0 e1 e2
  obtain ⟨A_xs, c_xs, xs, rfl, hx_xs, hl_xs⟩ := open_RI rfl (hval 1 46 v1 rfl rfl) h1 (fun x hx => hlt x (by simp [hx]))
  obtain ⟨A_es, c_es, es, rfl, hx_es, hl_es⟩ := open_RI rfl (hval 2 46 v2 rfl rfl) h2 (fun x hx => hlt x (by simp [hx]))
  exact walk p q g A_xs c_xs xs A_es c_es es W hx_xs hl_xs hx_es hl_es
theorem proved : Rows.FnExactCombineCommitsSaid :=
  OpenClaim.holds_of_wide 8 Try.f8 rfl rfl rfl rfl rfl rfl rfl ⟨rfl, rfl, rfl, rfl, rfl⟩ rfl rfl rfl rfl rfl (by kernel_rfl) Try.func8 (by kernel_rfl)
    (of_decide_eq_true (by kernel_rfl)) (by unfold Func.isWrapper; rw [if_neg (of_decide_eq_false (by kernel_rfl))]; exact ⟨rfl, rfl⟩)
    (fun os started H enc _ => lifted os started H enc)
#print axioms proved
end Go.Proofs.Ytidcahjkjlmjhaa.pCombineCommits
