/- Walks: CombineCommits. -/
import Derived.Test.YtidcahjkjlmjhaaE3
import Derived.Test.YtidcahjkjlmjhaaKit3
namespace Go.Proofs.Ytidcahjkjlmjhaa
open Go.RowKit
noncomputable def combC (p q g : Int) (xs es : List Int) : Int × Bool := if M.goodB p q g = true ∧ inr xs.length 1 24 = true ∧ elemsB p q xs = true ∧ decide (es.length = xs.length) = true ∧ expsB q es = true then (M.powL p q 1 xs es, true) else (0, false)
set_option maxHeartbeats 800000 in
theorem combineCommitsS (p q g : Int) (A E : Option Addr) (c d : Nat) (xs es : List Int) (hl : xs.length ≤ 9223372036854775807) (hle : es.length ≤ 9223372036854775807) (w : World) (hx : RI w w.heap.size A xs) (he : RI w w.heap.size E es) :
    Calls Try.prog 26 #[.agg #[.int .i64 p, .int .i64 q, .int .i64 g], .slice A xs.length c, .slice E es.length d] w fun en w' => en = .returned (.tuple #[.int .i64 (combC p q g xs es).1, .bool (combC p q g xs es).2]) ∧ Below w.heap.size w w' := by
  have hT0 : Below w.heap.size w (w.alloc (.cells #[.int .i64 p, .int .i64 q, .int .i64 g] 28)) := by repeat (first | exact Below.refl _ _ | refine bnew ?_ _)
  go_enter Try.func26, Try.ntmps26
  go_wp2_with fail
  refine (l2Good_any p q g _).mono ?_
  rintro e1 w1 ⟨rfl, hb1⟩
  have hT1 : Below w.heap.size w w1 := bnext (by repeat (first | exact hT0 | refine bnew ?_ _ | refine Below.drew ?_ | refine Below.drewN ?_ _)) hb1
  have c1_0 : w1.cell? ⟨w.heap.size, 0, none⟩ = some (.int .i64 p) := by
    refine cell_keep hb1 ?_
    repeat (first | with_reducible assumption | exact cell_new' (by simp) _ _ _ rfl | with_reducible refine cell_keep (below_new _ _) ?_)
  have c1_1 : w1.cell? ⟨w.heap.size, 1, none⟩ = some (.int .i64 q) := by
    refine cell_keep hb1 ?_
    repeat (first | with_reducible assumption | exact cell_new' (by simp) _ _ _ rfl | with_reducible refine cell_keep (below_new _ _) ?_)
  have c1_2 : w1.cell? ⟨w.heap.size, 2, none⟩ = some (.int .i64 g) := by
    refine cell_keep hb1 ?_
    repeat (first | with_reducible assumption | exact cell_new' (by simp) _ _ _ rfl | with_reducible refine cell_keep (below_new _ _) ?_)
  rcases Bool.eq_false_or_eq_true (M.goodB p q g) with hg | hg
  rotate_left
  · have hR := Lib.hid (show combC p q g xs es = (0, false) by unfold combC; rw [if_neg fun hh => Bool.false_ne_true (hg.symm.trans hh.1)])
    go_wp2
    go_ret2
    exact ⟨ret_ib (by rw [hR.out]) (by rw [hR.out]), hT1⟩
  have hG := M.goodB_of hg
  have g1 := hG.q2
  have g2 := hG.qp
  have g3 := hG.p3
  have g4 := hG.pM
  have HG := Lib.hid hG
  clear hG
  go_wp2_with fail
  refine (l1In_any _ _ _ _).mono ?_
  rintro e2 w2 ⟨rfl, rfl⟩
  rcases Bool.eq_false_or_eq_true (inr xs.length 1 24) with h1 | h1
  rotate_left
  · have hR := Lib.hid (show combC p q g xs es = (0, false) by unfold combC; rw [if_neg fun hh => Bool.false_ne_true (h1.symm.trans hh.2.1)])
    go_wp2
    go_ret2
    exact ⟨ret_ib (by rw [hR.out]) (by rw [hR.out]), hT1⟩
  obtain ⟨n1, n2⟩ := inr_t h1
  go_wp2_with fail
  refine (gIs_any p q g HG.out _ _ xs hl _ (hx.next (by repeat (first | assumption | refine bnew ?_ _)))).mono ?_
  rintro e3 w3 ⟨rfl, hb3⟩
  have hT3 : Below w.heap.size w w3 := bnext (by repeat (first | exact hT1 | refine bnew ?_ _ | refine Below.drew ?_ | refine Below.drewN ?_ _)) hb3
  have c3_0 : w3.cell? ⟨w.heap.size, 0, none⟩ = some (.int .i64 p) := by
    refine cell_keep hb3 ?_
    repeat (first | with_reducible assumption | exact cell_new' (by simp) _ _ _ rfl | with_reducible refine cell_keep (below_new _ _) ?_)
  have c3_1 : w3.cell? ⟨w.heap.size, 1, none⟩ = some (.int .i64 q) := by
    refine cell_keep hb3 ?_
    repeat (first | with_reducible assumption | exact cell_new' (by simp) _ _ _ rfl | with_reducible refine cell_keep (below_new _ _) ?_)
  have c3_2 : w3.cell? ⟨w.heap.size, 2, none⟩ = some (.int .i64 g) := by
    refine cell_keep hb3 ?_
    repeat (first | with_reducible assumption | exact cell_new' (by simp) _ _ _ rfl | with_reducible refine cell_keep (below_new _ _) ?_)
  clear c1_0 c1_1 c1_2
  rcases Bool.eq_false_or_eq_true (elemsB p q xs) with he1 | he1
  rotate_left
  · have hR := Lib.hid (show combC p q g xs es = (0, false) by unfold combC; rw [if_neg fun hh => Bool.false_ne_true (he1.symm.trans hh.2.2.1)])
    go_wp2
    go_ret2
    exact ⟨ret_ib (by rw [hR.out]) (by rw [hR.out]), hT3⟩
  rcases Bool.eq_false_or_eq_true (decide (es.length = xs.length)) with h2 | h2
  rotate_left
  · have e2 := of_decide_eq_false h2
    have x2 : ((es.length : Int) != (xs.length : Int)) = true := by simp; omega
    have hR := Lib.hid (show combC p q g xs es = (0, false) by unfold combC; rw [if_neg fun hh => Bool.false_ne_true (h2.symm.trans hh.2.2.2.1)])
    go_wp2
    go_ret2
    exact ⟨ret_ib (by rw [hR.out]) (by rw [hR.out]), hT3⟩
  have e2 := of_decide_eq_true h2
  have E2 := Lib.hid e2
  have x2 : ((es.length : Int) != (xs.length : Int)) = false := by rw [e2]; simp
  clear e2
  go_wp2_with fail
  refine (gExps_any p q g _ _ es _ (by omega) (he.next (by repeat (first | assumption | refine bnew ?_ _))) hle).mono ?_
  rintro e4 w4 ⟨rfl, hb4⟩
  have hT4 : Below w.heap.size w w4 := bnext (by repeat (first | exact hT3 | refine bnew ?_ _ | refine Below.drew ?_ | refine Below.drewN ?_ _)) hb4
  have c4_0 : w4.cell? ⟨w.heap.size, 0, none⟩ = some (.int .i64 p) := by
    refine cell_keep hb4 ?_
    repeat (first | with_reducible assumption | exact cell_new' (by simp) _ _ _ rfl | with_reducible refine cell_keep (below_new _ _) ?_)
  have c4_1 : w4.cell? ⟨w.heap.size, 1, none⟩ = some (.int .i64 q) := by
    refine cell_keep hb4 ?_
    repeat (first | with_reducible assumption | exact cell_new' (by simp) _ _ _ rfl | with_reducible refine cell_keep (below_new _ _) ?_)
  have c4_2 : w4.cell? ⟨w.heap.size, 2, none⟩ = some (.int .i64 g) := by
    refine cell_keep hb4 ?_
    repeat (first | with_reducible assumption | exact cell_new' (by simp) _ _ _ rfl | with_reducible refine cell_keep (below_new _ _) ?_)
  clear c3_0 c3_1 c3_2
  rcases Bool.eq_false_or_eq_true (expsB q es) with hs | hs
  rotate_left
  · have hR := Lib.hid (show combC p q g xs es = (0, false) by unfold combC; rw [if_neg fun hh => Bool.false_ne_true (hs.symm.trans hh.2.2.2.2)])
    go_wp2
    go_ret2
    exact ⟨ret_ib (by rw [hR.out]) (by rw [hR.out]), hT4⟩
  have hR := Lib.hid (show combC p q g xs es = (M.powL p q 1 xs es, true) by unfold combC; rw [if_pos ⟨hg, h1, he1, h2, hs⟩])
  go_wp2_with fail
  refine (gProd_any p q g HG.out _ _ _ _ xs es hl (by have := E2.out; omega) _ (hx.next (by repeat (first | exact hT4 | refine bnew ?_ _ | refine Below.drew ?_ | refine Below.drewN ?_ _))) (he.next (by repeat (first | exact hT4 | refine bnew ?_ _ | refine Below.drew ?_ | refine Below.drewN ?_ _))) (fun x h => elem_bd (elemsB_mem he1 h)) (fun x h => expsB_mem hs h)).mono ?_
  rintro e5 w5 ⟨rfl, hb5⟩
  have hT5 : Below w.heap.size w w5 := bnext (by repeat (first | exact hT4 | refine bnew ?_ _ | refine Below.drew ?_ | refine Below.drewN ?_ _)) hb5
  have c5_0 : w5.cell? ⟨w.heap.size, 0, none⟩ = some (.int .i64 p) := by
    refine cell_keep hb5 ?_
    repeat (first | with_reducible assumption | exact cell_new' (by simp) _ _ _ rfl | with_reducible refine cell_keep (below_new _ _) ?_)
  have c5_1 : w5.cell? ⟨w.heap.size, 1, none⟩ = some (.int .i64 q) := by
    refine cell_keep hb5 ?_
    repeat (first | with_reducible assumption | exact cell_new' (by simp) _ _ _ rfl | with_reducible refine cell_keep (below_new _ _) ?_)
  have c5_2 : w5.cell? ⟨w.heap.size, 2, none⟩ = some (.int .i64 g) := by
    refine cell_keep hb5 ?_
    repeat (first | with_reducible assumption | exact cell_new' (by simp) _ _ _ rfl | with_reducible refine cell_keep (below_new _ _) ?_)
  clear c4_0 c4_1 c4_2
  go_wp2
  go_ret2
  exact ⟨ret_ib (by rw [hR.out]) (by rw [hR.out]), hT5⟩
noncomputable def prodP (p q g : Int) (xs es : List Int) : Int × Bool := if M.goodB p q g = true ∧ decide (xs.length ≤ 24) = true ∧ decide (es.length = xs.length) = true ∧ elemsB p q xs = true ∧ expsB q es = true then (M.powL p q 1 xs es, true) else (0, false)
theorem combC_zero (p q g : Int) (xs es : List Int) (h : xs.length = 0) : combC p q g xs es = (0, false) := by
  unfold combC; rw [if_neg fun hh => by have := inr_t hh.2.1; omega]
theorem combC_pos (p q g : Int) (xs es : List Int) (h : xs.length ≠ 0) : combC p q g xs es = prodP p q g xs es := by
  unfold combC prodP
  have h1 : (inr xs.length 1 24 = true) ↔ decide (xs.length ≤ 24) = true := by
    rw [decide_eq_true_iff]; exact ⟨fun hh => by have := inr_t hh; omega, fun hh => inr_mk (by omega)⟩
  by_cases hc : M.goodB p q g = true ∧ inr xs.length 1 24 = true ∧ elemsB p q xs = true ∧ decide (es.length = xs.length) = true ∧ expsB q es = true
  · rw [if_pos hc, if_pos ⟨hc.1, h1.1 hc.2.1, hc.2.2.2.1, hc.2.2.1, hc.2.2.2.2⟩]
  · rw [if_neg hc, if_neg fun hh => hc ⟨hh.1, h1.2 hh.2.1, hh.2.2.2.1, hh.2.2.1, hh.2.2.2.2⟩]
set_option maxHeartbeats 800000 in
theorem productOfPowersI (p q g : Int) (A E : Option Addr) (c d : Nat) (xs es : List Int) (hl : xs.length ≤ 9223372036854775807) (hle : es.length ≤ 9223372036854775807) (w : World) (hx : RI w w.heap.size A xs) (he : RI w w.heap.size E es) :
    Calls Try.prog 53 #[.agg #[.int .i64 p, .int .i64 q, .int .i64 g], .slice A xs.length c, .slice E es.length d] w fun en w' => en = .returned (.tuple #[.int .i64 (prodP p q g xs es).1, .bool (prodP p q g xs es).2]) ∧ Below w.heap.size w w' := by
  have hT0 : Below w.heap.size w (w.alloc (.cells #[.int .i64 p, .int .i64 q, .int .i64 g] 28)) := by repeat (first | exact Below.refl _ _ | refine bnew ?_ _)
  go_enter Try.func53, Try.ntmps53
  go_wp2_with fail
  refine (isValidGroup_any p q g _).mono ?_
  rintro e1 w1 ⟨rfl, hb1⟩
  have hT1 : Below w.heap.size w w1 := bnext (by repeat (first | exact hT0 | refine bnew ?_ _ | refine Below.drew ?_ | refine Below.drewN ?_ _)) hb1
  have c1_0 : w1.cell? ⟨w.heap.size, 0, none⟩ = some (.int .i64 p) := by
    refine cell_keep hb1 ?_
    repeat (first | with_reducible assumption | exact cell_new' (by simp) _ _ _ rfl | with_reducible refine cell_keep (below_new _ _) ?_)
  have c1_1 : w1.cell? ⟨w.heap.size, 1, none⟩ = some (.int .i64 q) := by
    refine cell_keep hb1 ?_
    repeat (first | with_reducible assumption | exact cell_new' (by simp) _ _ _ rfl | with_reducible refine cell_keep (below_new _ _) ?_)
  have c1_2 : w1.cell? ⟨w.heap.size, 2, none⟩ = some (.int .i64 g) := by
    refine cell_keep hb1 ?_
    repeat (first | with_reducible assumption | exact cell_new' (by simp) _ _ _ rfl | with_reducible refine cell_keep (below_new _ _) ?_)
  rcases Bool.eq_false_or_eq_true (M.goodB p q g) with hg | hg
  rotate_left
  · have hR := Lib.hid (show prodP p q g xs es = (0, false) by unfold prodP; rw [if_neg fun hh => Bool.false_ne_true (hg.symm.trans hh.1)])
    go_wp2
    go_ret2
    exact ⟨ret_ib (by rw [hR.out]) (by rw [hR.out]), hT1⟩
  have hG := M.goodB_of hg
  have g1 := hG.q2
  have g2 := hG.qp
  have g3 := hG.p3
  have g4 := hG.pM
  have HG := Lib.hid hG
  clear hG
  rcases Bool.eq_false_or_eq_true (decide (xs.length ≤ 24)) with h1 | h1
  rotate_left
  · have n1 := of_decide_eq_false h1
    have n2 : (24 : Int) < (xs.length : Int) := by omega
    have hR := Lib.hid (show prodP p q g xs es = (0, false) by unfold prodP; rw [if_neg fun hh => Bool.false_ne_true (h1.symm.trans hh.2.1)])
    go_wp2
    go_ret2
    exact ⟨ret_ib (by rw [hR.out]) (by rw [hR.out]), hT1⟩
  have n1 := of_decide_eq_true h1
  have n2 : ¬ (24 : Int) < (xs.length : Int) := by omega
  rcases Bool.eq_false_or_eq_true (decide (es.length = xs.length)) with h2 | h2
  rotate_left
  · have e2 := of_decide_eq_false h2
    have x2 : ((es.length : Int) != (xs.length : Int)) = true := by simp; omega
    have hR := Lib.hid (show prodP p q g xs es = (0, false) by unfold prodP; rw [if_neg fun hh => Bool.false_ne_true (h2.symm.trans hh.2.2.1)])
    go_wp2
    go_ret2
    exact ⟨ret_ib (by rw [hR.out]) (by rw [hR.out]), hT1⟩
  have e2 := of_decide_eq_true h2
  have E2 := Lib.hid e2
  have x2 : ((es.length : Int) != (xs.length : Int)) = false := by rw [e2]; simp
  clear e2
  go_wp2_with fail
  refine (hasAll_any p q g HG.out _ _ xs hl _ (hx.next (by repeat (first | assumption | refine bnew ?_ _)))).mono ?_
  rintro e2 w2 ⟨rfl, hb2⟩
  have hT2 : Below w.heap.size w w2 := bnext (by repeat (first | exact hT1 | refine bnew ?_ _ | refine Below.drew ?_ | refine Below.drewN ?_ _)) hb2
  have c2_0 : w2.cell? ⟨w.heap.size, 0, none⟩ = some (.int .i64 p) := by
    refine cell_keep hb2 ?_
    repeat (first | with_reducible assumption | exact cell_new' (by simp) _ _ _ rfl | with_reducible refine cell_keep (below_new _ _) ?_)
  have c2_1 : w2.cell? ⟨w.heap.size, 1, none⟩ = some (.int .i64 q) := by
    refine cell_keep hb2 ?_
    repeat (first | with_reducible assumption | exact cell_new' (by simp) _ _ _ rfl | with_reducible refine cell_keep (below_new _ _) ?_)
  have c2_2 : w2.cell? ⟨w.heap.size, 2, none⟩ = some (.int .i64 g) := by
    refine cell_keep hb2 ?_
    repeat (first | with_reducible assumption | exact cell_new' (by simp) _ _ _ rfl | with_reducible refine cell_keep (below_new _ _) ?_)
  clear c1_0 c1_1 c1_2
  rcases Bool.eq_false_or_eq_true (elemsB p q xs) with he1 | he1
  rotate_left
  · have hR := Lib.hid (show prodP p q g xs es = (0, false) by unfold prodP; rw [if_neg fun hh => Bool.false_ne_true (he1.symm.trans hh.2.2.2.1)])
    go_wp2
    go_ret2
    exact ⟨ret_ib (by rw [hR.out]) (by rw [hR.out]), hT2⟩
  go_wp2_with fail
  refine (areExps_any p q g _ _ es _ (by omega) (he.next (by repeat (first | assumption | refine bnew ?_ _))) hle).mono ?_
  rintro e3 w3 ⟨rfl, hb3⟩
  have hT3 : Below w.heap.size w w3 := bnext (by repeat (first | exact hT2 | refine bnew ?_ _ | refine Below.drew ?_ | refine Below.drewN ?_ _)) hb3
  have c3_0 : w3.cell? ⟨w.heap.size, 0, none⟩ = some (.int .i64 p) := by
    refine cell_keep hb3 ?_
    repeat (first | with_reducible assumption | exact cell_new' (by simp) _ _ _ rfl | with_reducible refine cell_keep (below_new _ _) ?_)
  have c3_1 : w3.cell? ⟨w.heap.size, 1, none⟩ = some (.int .i64 q) := by
    refine cell_keep hb3 ?_
    repeat (first | with_reducible assumption | exact cell_new' (by simp) _ _ _ rfl | with_reducible refine cell_keep (below_new _ _) ?_)
  have c3_2 : w3.cell? ⟨w.heap.size, 2, none⟩ = some (.int .i64 g) := by
    refine cell_keep hb3 ?_
    repeat (first | with_reducible assumption | exact cell_new' (by simp) _ _ _ rfl | with_reducible refine cell_keep (below_new _ _) ?_)
  clear c2_0 c2_1 c2_2
  rcases Bool.eq_false_or_eq_true (expsB q es) with hs | hs
  rotate_left
  · have hR := Lib.hid (show prodP p q g xs es = (0, false) by unfold prodP; rw [if_neg fun hh => Bool.false_ne_true (hs.symm.trans hh.2.2.2.2)])
    go_wp2
    go_ret2
    exact ⟨ret_ib (by rw [hR.out]) (by rw [hR.out]), hT3⟩
  have hR := Lib.hid (show prodP p q g xs es = (M.powL p q 1 xs es, true) by unfold prodP; rw [if_pos ⟨hg, h1, h2, he1, hs⟩])
  go_wp2_with fail
  refine (powers_any p q g HG.out _ _ _ _ xs es hl (by have := E2.out; omega) _ (hx.next (by repeat (first | exact hT3 | refine bnew ?_ _ | refine Below.drew ?_ | refine Below.drewN ?_ _))) (he.next (by repeat (first | exact hT3 | refine bnew ?_ _ | refine Below.drew ?_ | refine Below.drewN ?_ _))) (fun x h => elem_bd (elemsB_mem he1 h)) (fun x h => expsB_mem hs h)).mono ?_
  rintro e4 w4 ⟨rfl, hb4⟩
  have hT4 : Below w.heap.size w w4 := bnext (by repeat (first | exact hT3 | refine bnew ?_ _ | refine Below.drew ?_ | refine Below.drewN ?_ _)) hb4
  have c4_0 : w4.cell? ⟨w.heap.size, 0, none⟩ = some (.int .i64 p) := by
    refine cell_keep hb4 ?_
    repeat (first | with_reducible assumption | exact cell_new' (by simp) _ _ _ rfl | with_reducible refine cell_keep (below_new _ _) ?_)
  have c4_1 : w4.cell? ⟨w.heap.size, 1, none⟩ = some (.int .i64 q) := by
    refine cell_keep hb4 ?_
    repeat (first | with_reducible assumption | exact cell_new' (by simp) _ _ _ rfl | with_reducible refine cell_keep (below_new _ _) ?_)
  have c4_2 : w4.cell? ⟨w.heap.size, 2, none⟩ = some (.int .i64 g) := by
    refine cell_keep hb4 ?_
    repeat (first | with_reducible assumption | exact cell_new' (by simp) _ _ _ rfl | with_reducible refine cell_keep (below_new _ _) ?_)
  clear c3_0 c3_1 c3_2
  go_wp2
  go_ret2
  exact ⟨ret_ib (by rw [hR.out]) (by rw [hR.out]), hT4⟩
theorem combineCommitsI (p q g : Int) (A E : Option Addr) (c d : Nat) (xs es : List Int) (hl : xs.length ≤ 9223372036854775807) (hle : es.length ≤ 9223372036854775807) (w : World) (hx : RI w w.heap.size A xs) (he : RI w w.heap.size E es) :
    Calls Try.prog 28 #[.agg #[.int .i64 p, .int .i64 q, .int .i64 g], .slice A xs.length c, .slice E es.length d] w fun en w' => en = .returned (.tuple #[.int .i64 (combC p q g xs es).1, .bool (combC p q g xs es).2]) ∧ Below w.heap.size w w' := by
  by_cases h0 : xs.length = 0
  · have hR := Lib.hid (combC_zero p q g xs es h0)
    have h1 : ((xs.length : Int) == 0) = true := by simp [h0]
    clear h0 hx he
    go_enter Try.func28, Try.ntmps28
    go_wp2
    go_ret2
    exact ⟨ret_ib (by rw [hR.out]) (by rw [hR.out]), below_new w _⟩
  · have hR := Lib.hid (combC_pos p q g xs es h0)
    have h1 : ((xs.length : Int) == 0) = false := by simpa using h0
    have H := Lib.hid (productOfPowersI p q g A E c d xs es hl hle (w.alloc (.cells #[.int .i64 p, .int .i64 q, .int .i64 g] 28)) (hx.new _) (he.new _))
    clear h0 hx he
    go_enter Try.func28, Try.ntmps28
    go_wp2_with fail
    refine H.out.mono ?_
    rintro e1 w1 ⟨rfl, hb1⟩
    go_wp2
    go_ret2
    exact ⟨ret_ib (by rw [hR.out]) (by rw [hR.out]), bnext (below_new w _) hb1⟩
end Go.Proofs.Ytidcahjkjlmjhaa
