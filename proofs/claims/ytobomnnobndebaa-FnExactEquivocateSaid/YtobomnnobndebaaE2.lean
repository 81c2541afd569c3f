/- Walks: Equivocate. -/
import Derived.Test.YtobomnnobndebaaN3
import Derived.Deep.RegionHeld3
namespace Go.Proofs.Ytobomnnobndebaa
open Go.RowKit
noncomputable def equivoc (p q g t m r o : Int) : Int × Bool := if M.goodB p q g = true ∧ expsB q [t, m, r, o] = true ∧ t ≠ 0 then ((r + (m - o) % q * M.invm t q) % q, true) else (0, false)
set_option maxHeartbeats 400000 in
theorem equivocateI_any (p q g t m r o : Int) (w : World) :
    Calls Try.prog 12 #[.agg #[.int .i64 p, .int .i64 q, .int .i64 g], .int .i64 t, .int .i64 m, .int .i64 r, .int .i64 o] w fun en w' => en = .returned (.tuple #[.int .i64 (equivoc p q g t m r o).1, .bool (equivoc p q g t m r o).2]) ∧ Below w.heap.size w w' := by
  have hB0 : Below (w.alloc (.cells #[.int .i64 p, .int .i64 q, .int .i64 g] 28)).heap.size (w.alloc (.cells #[.int .i64 p, .int .i64 q, .int .i64 g] 28)) (w.alloc (.cells #[.int .i64 p, .int .i64 q, .int .i64 g] 28)) := Below.refl _ _
  have hT0 : Below w.heap.size w (w.alloc (.cells #[.int .i64 p, .int .i64 q, .int .i64 g] 28)) := by repeat (first | exact Below.refl _ _ | refine bnew ?_ _)
  go_enter Try.func12, Try.ntmps12
  go_wp2_with fail
  refine (isValidGroup_any p q g _).mono ?_
  rintro e1 w1 ⟨rfl, hb1⟩
  have hB1 : Below (w.alloc (.cells #[.int .i64 p, .int .i64 q, .int .i64 g] 28)).heap.size (w.alloc (.cells #[.int .i64 p, .int .i64 q, .int .i64 g] 28)) w1 := bnext (by repeat (first | exact hB0 | refine bnew ?_ _ | refine Below.drew ?_ | refine Below.drewN ?_ _)) hb1
  have hT1 : Below w.heap.size w w1 := bnext (by repeat (first | exact hT0 | refine bnew ?_ _ | refine Below.drew ?_ | refine Below.drewN ?_ _)) hb1
  obtain ⟨hc1, hf1⟩ := bcell hB1
  rcases Bool.eq_false_or_eq_true (M.goodB p q g) with hg | hg
  rotate_left
  · have hR := Lib.hid (show equivoc p q g t m r o = (0, false) by unfold equivoc; rw [if_neg fun hh => by simp_all])
    go_wp2
    go_ret2
    exact ⟨ret_ib (by rw [hR.out]) (by rw [hR.out]), hT1⟩
  have hG := M.goodB_of hg
  have g1 := hG.q2
  have g2 := hG.qp
  have g3 := hG.pM
  have gP := Lib.hid hG.pq
  clear hG
  go_wp2_with fail
  refine (areExps_any p q g _ _ [t, m, r, o] _ (by omega) (RI.lit w1 [t, m, r, o] 3) (by simp)).mono ?_
  rintro e2 w2 ⟨rfl, hb2⟩
  have hB2 : Below (w.alloc (.cells #[.int .i64 p, .int .i64 q, .int .i64 g] 28)).heap.size (w.alloc (.cells #[.int .i64 p, .int .i64 q, .int .i64 g] 28)) w2 := bnext (by repeat (first | exact hB1 | refine bnew ?_ _ | refine Below.drew ?_ | refine Below.drewN ?_ _)) hb2
  have hT2 : Below w.heap.size w w2 := bnext (by repeat (first | exact hT1 | refine bnew ?_ _ | refine Below.drew ?_ | refine Below.drewN ?_ _)) hb2
  clear hc1 hf1
  obtain ⟨hc2, hf2⟩ := bcell hB2
  rcases Bool.eq_false_or_eq_true (expsB q [t, m, r, o]) with hs | hs
  rotate_left
  · have hR := Lib.hid (show equivoc p q g t m r o = (0, false) by unfold equivoc; rw [if_neg fun hh => by simp_all])
    go_wp2
    go_ret2
    exact ⟨ret_ib (by rw [hR.out]) (by rw [hR.out]), hT2⟩
  obtain ⟨s1, s2⟩ := expsB_mem hs (e := t) (by simp)
  obtain ⟨s3, s4⟩ := expsB_mem hs (e := m) (by simp)
  obtain ⟨s5, s6⟩ := expsB_mem hs (e := r) (by simp)
  obtain ⟨s7, s8⟩ := expsB_mem hs (e := o) (by simp)
  rcases Bool.eq_false_or_eq_true (t == 0) with ht | ht
  · have hR := Lib.hid (show equivoc p q g t m r o = (0, false) by unfold equivoc; rw [if_neg fun hh => by simp_all])
    go_wp2
    go_ret2
    exact ⟨ret_ib (by rw [hR.out]) (by rw [hR.out]), hT2⟩
  have ht1 : t ≠ 0 := by simpa using ht
  have hR := Lib.hid (show equivoc p q g t m r o = ((r + (m - o) % q * M.invm t q) % q, true) by unfold equivoc; rw [if_pos ⟨hg, hs, ht1⟩])
  obtain ⟨i1, i2⟩ := M.invm_lt (a := t) (m := q) (by omega)
  have hm1 := Int.emod_nonneg (m - o) (show q ≠ 0 by omega)
  have hm2 := Int.emod_lt_of_pos (m - o) (show 0 < q by omega)
  obtain ⟨q1, q2⟩ := M.mul_fit ⟨hm1, hm2⟩ ⟨i1, i2⟩ (by omega)
  have HT2 := Lib.hid (show t % q ≠ 0 by rw [Int.emod_eq_of_lt s1 s2]; exact ht1)
  clear ht1
  have hx1 : IntKind.i64.wrap (m - o) = m - o := IntWalk.i64_in _ (by omega)
  have hx2 : IntKind.i64.wrap ((m - o) % q * M.invm t q) = (m - o) % q * M.invm t q := IntWalk.i64_in _ (by omega)
  have hx3 : IntKind.i64.wrap (r + (m - o) % q * M.invm t q) = r + (m - o) % q * M.invm t q := IntWalk.i64_in _ (by omega)
  go_wp2_with fail
  go_region_held3 (fun W' => W'.cell? ⟨w.heap.size, 0, none⟩ = some (.int .i64 p) ∧ W'.cell? ⟨w.heap.size, 1, none⟩ = some (.int .i64 q) ∧ W'.cell? ⟨w.heap.size, 2, none⟩ = some (.int .i64 g) ∧ Below w.heap.size w W') (first | (go_split_ands; refine ⟨?_, ?_, ?_, ?_⟩; (iterate 3 exact cell_keep (by assumption) (by assumption)); exact bnext (by assumption) (by assumption)) | (refine ⟨?_, ?_, ?_, ?_⟩; (iterate 3 go_keep); (repeat (first | exact hT2 | refine bnew ?_ _ | refine Below.drew ?_ | refine Below.drewN ?_ _)); done) | go_keep) (first | (go_at_call 19; refine (exp_any _ _ _ _ _ (by omega) (by omega)).mono ?_; rintro e9 w9 ⟨rfl, hb9⟩) | (go_at_call 22; refine (inverse_any _ _ _ (by omega) (by omega)).mono ?_; rintro e9 w9 ⟨rfl, rfl⟩))
  go_wp2
  go_ret2
  exact ⟨ret_ib (by rw [hR.out]) (by rw [hR.out]), by first | exact (by assumption : _ ∧ _ ∧ _ ∧ _).2.2.2 | assumption⟩
set_option maxHeartbeats 400000 in
theorem equivocateS_any (p q g t m r o : Int) (w : World) :
    Calls Try.prog 11 #[.agg #[.int .i64 p, .int .i64 q, .int .i64 g], .int .i64 t, .int .i64 m, .int .i64 r, .int .i64 o] w fun en w' => en = .returned (.tuple #[.int .i64 (equivoc p q g t m r o).1, .bool (equivoc p q g t m r o).2]) ∧ Below w.heap.size w w' := by
  have hB0 : Below (w.alloc (.cells #[.int .i64 p, .int .i64 q, .int .i64 g] 28)).heap.size (w.alloc (.cells #[.int .i64 p, .int .i64 q, .int .i64 g] 28)) (w.alloc (.cells #[.int .i64 p, .int .i64 q, .int .i64 g] 28)) := Below.refl _ _
  have hT0 : Below w.heap.size w (w.alloc (.cells #[.int .i64 p, .int .i64 q, .int .i64 g] 28)) := by repeat (first | exact Below.refl _ _ | refine bnew ?_ _)
  go_enter Try.func11, Try.ntmps11
  go_wp2_with fail
  refine (l2Good_any p q g _).mono ?_
  rintro e1 w1 ⟨rfl, hb1⟩
  have hB1 : Below (w.alloc (.cells #[.int .i64 p, .int .i64 q, .int .i64 g] 28)).heap.size (w.alloc (.cells #[.int .i64 p, .int .i64 q, .int .i64 g] 28)) w1 := bnext (by repeat (first | exact hB0 | refine bnew ?_ _ | refine Below.drew ?_ | refine Below.drewN ?_ _)) hb1
  have hT1 : Below w.heap.size w w1 := bnext (by repeat (first | exact hT0 | refine bnew ?_ _ | refine Below.drew ?_ | refine Below.drewN ?_ _)) hb1
  obtain ⟨hc1, hf1⟩ := bcell hB1
  rcases Bool.eq_false_or_eq_true (M.goodB p q g) with hg | hg
  rotate_left
  · have hR := Lib.hid (show equivoc p q g t m r o = (0, false) by unfold equivoc; rw [if_neg fun hh => by simp_all])
    go_wp2
    go_ret2
    exact ⟨ret_ib (by rw [hR.out]) (by rw [hR.out]), hT1⟩
  have hG := M.goodB_of hg
  have g1 := hG.q2
  have g2 := hG.qp
  have g3 := hG.pM
  have gP := Lib.hid hG.pq
  clear hG
  go_wp2_with fail
  refine (gExps_any p q g _ _ [t, m, r, o] _ (by omega) (RI.lit w1 [t, m, r, o] 3) (by simp)).mono ?_
  rintro e2 w2 ⟨rfl, hb2⟩
  have hB2 : Below (w.alloc (.cells #[.int .i64 p, .int .i64 q, .int .i64 g] 28)).heap.size (w.alloc (.cells #[.int .i64 p, .int .i64 q, .int .i64 g] 28)) w2 := bnext (by repeat (first | exact hB1 | refine bnew ?_ _ | refine Below.drew ?_ | refine Below.drewN ?_ _)) hb2
  have hT2 : Below w.heap.size w w2 := bnext (by repeat (first | exact hT1 | refine bnew ?_ _ | refine Below.drew ?_ | refine Below.drewN ?_ _)) hb2
  clear hc1 hf1
  obtain ⟨hc2, hf2⟩ := bcell hB2
  rcases Bool.eq_false_or_eq_true (expsB q [t, m, r, o]) with hs | hs
  rotate_left
  · have hR := Lib.hid (show equivoc p q g t m r o = (0, false) by unfold equivoc; rw [if_neg fun hh => by simp_all])
    go_wp2
    go_ret2
    exact ⟨ret_ib (by rw [hR.out]) (by rw [hR.out]), hT2⟩
  obtain ⟨s1, s2⟩ := expsB_mem hs (e := t) (by simp)
  obtain ⟨s3, s4⟩ := expsB_mem hs (e := m) (by simp)
  obtain ⟨s5, s6⟩ := expsB_mem hs (e := r) (by simp)
  obtain ⟨s7, s8⟩ := expsB_mem hs (e := o) (by simp)
  rcases Bool.eq_false_or_eq_true (t == 0) with ht | ht
  · have hR := Lib.hid (show equivoc p q g t m r o = (0, false) by unfold equivoc; rw [if_neg fun hh => by simp_all])
    go_wp2
    go_ret2
    exact ⟨ret_ib (by rw [hR.out]) (by rw [hR.out]), hT2⟩
  have ht1 : t ≠ 0 := by simpa using ht
  have hR := Lib.hid (show equivoc p q g t m r o = ((r + (m - o) % q * M.invm t q) % q, true) by unfold equivoc; rw [if_pos ⟨hg, hs, ht1⟩])
  obtain ⟨i1, i2⟩ := M.invm_lt (a := t) (m := q) (by omega)
  have hm1 := Int.emod_nonneg (m - o) (show q ≠ 0 by omega)
  have hm2 := Int.emod_lt_of_pos (m - o) (show 0 < q by omega)
  obtain ⟨q1, q2⟩ := M.mul_fit ⟨hm1, hm2⟩ ⟨i1, i2⟩ (by omega)
  have HT2 := Lib.hid (show t % q ≠ 0 by rw [Int.emod_eq_of_lt s1 s2]; exact ht1)
  clear ht1
  have hx1 : IntKind.i64.wrap (m - o) = m - o := IntWalk.i64_in _ (by omega)
  have hx2 : IntKind.i64.wrap ((m - o) % q * M.invm t q) = (m - o) % q * M.invm t q := IntWalk.i64_in _ (by omega)
  have hx3 : IntKind.i64.wrap (r + (m - o) % q * M.invm t q) = r + (m - o) % q * M.invm t q := IntWalk.i64_in _ (by omega)
  go_wp2_with fail
  refine (nInverse_any _ _ _ (by omega) (by omega) gP.out HT2.out).mono ?_
  rw [Int.emod_eq_of_lt s1 s2]; rintro e3 w3 ⟨rfl, rfl⟩
  go_wp2_with fail
  go_region_held3 (fun W' => W'.cell? ⟨w.heap.size, 0, none⟩ = some (.int .i64 p) ∧ W'.cell? ⟨w.heap.size, 1, none⟩ = some (.int .i64 q) ∧ W'.cell? ⟨w.heap.size, 2, none⟩ = some (.int .i64 g) ∧ Below w.heap.size w W') (first | (go_split_ands; refine ⟨?_, ?_, ?_, ?_⟩; (iterate 3 exact cell_keep (by assumption) (by assumption)); exact bnext (by assumption) (by assumption)) | (refine ⟨?_, ?_, ?_, ?_⟩; (iterate 3 go_keep); (repeat (first | exact hT2 | refine bnew ?_ _ | refine Below.drew ?_ | refine Below.drewN ?_ _)); done) | go_keep) (first | (go_at_call 21; refine (nMod_any _ _ _ (by omega) (by omega)).mono ?_; rintro e9 w9 ⟨rfl, rfl⟩))
  go_wp2
  go_ret2
  exact ⟨ret_ib (by rw [hR.out]) (by rw [hR.out]), by first | exact (by assumption : _ ∧ _ ∧ _ ∧ _).2.2.2 | assumption⟩
end Go.Proofs.Ytobomnnobndebaa
