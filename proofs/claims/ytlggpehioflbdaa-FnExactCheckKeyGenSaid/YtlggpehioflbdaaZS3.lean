import Derived.Test.YtlggpehioflbdaaZS2
/- Walks: valid dealings. -/
set_option linter.all false
set_option linter.unusedVariables false
set_option linter.unusedSimpArgs false
namespace Go.Proofs.Ytlggpehioflbdaa
open Go.RowKit
def dlB (p q : Int) (cs ss : List Int) : Bool := comB p q cs && inr ss.length cs.length 7 && expsB q ss
theorem dlB_of {p q : Int} {cs ss : List Int} (h : dlB p q cs ss = true) : comB p q cs = true ∧ (cs.length ≤ ss.length ∧ ss.length ≤ 7) ∧ expsB q ss = true := by
  unfold dlB at h
  simp only [Bool.and_eq_true] at h
  have := inr_t h.1.2
  exact ⟨h.1.1, by omega, h.2⟩
set_option maxHeartbeats 400000 in
theorem hasDealing_any (p q g : Int) (A E : Option Addr) (c d : Nat) (cs ss : List Int) (hl : cs.length ≤ 9223372036854775807) (hll : ss.length ≤ 9223372036854775807) (hG : M.Grp p q g) (w : World) (hx : RI w w.heap.size A cs) (hy : RI w w.heap.size E ss) :
    Calls Try.prog 161 #[.agg #[.int .i64 p, .int .i64 q, .int .i64 g], .agg #[.slice A cs.length c, .slice E ss.length d]] w fun en w' => en = .returned (.bool (dlB p q cs ss)) ∧ Below w.heap.size w w' := by
  have g1 := hG.q2
  have g2 := hG.qp
  have g3 := hG.p3
  have g4 := hG.pM
  have HG := Lib.hid hG
  clear hG
  have hT0 : Below w.heap.size w ((w.alloc (.cells #[.int .i64 p, .int .i64 q, .int .i64 g] 29)).alloc (.cells #[.slice A cs.length c, .slice E ss.length d] 81)) := by repeat (first | exact Below.refl _ _ | refine bnew ?_ _)
  go_enter Try.func161, Try.ntmps161
  go_wp2_with fail
  refine (areCommits_any p q g _ _ cs hl HG.out _ (hx.next (by repeat (first | exact hT0 | refine bnew ?_ _ | refine Below.drew ?_ | refine Below.drewN ?_ _ | (refine below_set _ ?_ ?_; rotate_left; focus (first | omega | (simp; done) | (simp <;> omega))))))).mono ?_
  rintro e1 w1 ⟨rfl, hb1⟩
  have hT1 : Below w.heap.size w w1 := bnext (by repeat (first | exact hT0 | refine bnew ?_ _ | refine Below.drew ?_ | refine Below.drewN ?_ _ | (refine below_set _ ?_ ?_; rotate_left; focus (first | omega | (simp; done) | (simp <;> omega))))) hb1
  have c1_0 : w1.cell? ⟨w.heap.size, 0, none⟩ = some (.int .i64 p) := by
    refine cell_keep hb1 ?_
    repeat (first | with_reducible assumption | (refine cell_new' ?_ _ _ _ rfl; focus (simp; done)) | with_reducible refine cell_keep (below_new _ _) ?_ | (with_reducible apply set1b; with_reducible assumption) | (with_reducible refine (sc_other _ ?_).trans ?_; focus (simp; done)))
  have c1_1 : w1.cell? ⟨w.heap.size, 1, none⟩ = some (.int .i64 q) := by
    refine cell_keep hb1 ?_
    repeat (first | with_reducible assumption | (refine cell_new' ?_ _ _ _ rfl; focus (simp; done)) | with_reducible refine cell_keep (below_new _ _) ?_ | (with_reducible apply set1b; with_reducible assumption) | (with_reducible refine (sc_other _ ?_).trans ?_; focus (simp; done)))
  have c1_2 : w1.cell? ⟨w.heap.size, 2, none⟩ = some (.int .i64 g) := by
    refine cell_keep hb1 ?_
    repeat (first | with_reducible assumption | (refine cell_new' ?_ _ _ _ rfl; focus (simp; done)) | with_reducible refine cell_keep (below_new _ _) ?_ | (with_reducible apply set1b; with_reducible assumption) | (with_reducible refine (sc_other _ ?_).trans ?_; focus (simp; done)))
  have c1_3 : w1.cell? ⟨w.heap.size + 1, 0, none⟩ = some (.slice A cs.length c) := by
    refine cell_keep hb1 ?_
    repeat (first | with_reducible assumption | (refine cell_new' ?_ _ _ _ rfl; focus (simp; done)) | with_reducible refine cell_keep (below_new _ _) ?_ | (with_reducible apply set1b; with_reducible assumption) | (with_reducible refine (sc_other _ ?_).trans ?_; focus (simp; done)))
  have c1_4 : w1.cell? ⟨w.heap.size + 1, 1, none⟩ = some (.slice E ss.length d) := by
    refine cell_keep hb1 ?_
    repeat (first | with_reducible assumption | (refine cell_new' ?_ _ _ _ rfl; focus (simp; done)) | with_reducible refine cell_keep (below_new _ _) ?_ | (with_reducible apply set1b; with_reducible assumption) | (with_reducible refine (sc_other _ ?_).trans ?_; focus (simp; done)))
  rcases Bool.eq_false_or_eq_true (comB p q cs) with h1 | h1
  rotate_left
  · have hR := Lib.hid (show dlB p q cs ss = false by unfold dlB; rw [h1]; simp)
    go_wp2
    go_ret
    exact ⟨ret_bool hR.out.symm, hT1⟩
  go_wp2_with fail
  refine (within_any _ _ _ _).mono ?_
  rintro e2 w2 ⟨rfl, rfl⟩
  rcases Bool.eq_false_or_eq_true (inr ss.length cs.length 7) with h2 | h2
  rotate_left
  · have hR := Lib.hid (show dlB p q cs ss = false by unfold dlB; rw [h2]; simp)
    go_wp2
    go_ret
    exact ⟨ret_bool hR.out.symm, hT1⟩
  have hR := Lib.hid (show dlB p q cs ss = expsB q ss by unfold dlB; rw [h1, h2]; simp)
  go_wp2_with fail
  refine (areExps_any p q g _ _ ss _ (by omega) (hy.next (by repeat (first | exact hT1 | refine bnew ?_ _ | refine Below.drew ?_ | refine Below.drewN ?_ _ | (refine below_set _ ?_ ?_; rotate_left; focus (first | omega | (simp; done) | (simp <;> omega)))))) hll).mono ?_
  rintro e3 w3 ⟨rfl, hb3⟩
  have hT3 : Below w.heap.size w w3 := bnext (by repeat (first | exact hT1 | refine bnew ?_ _ | refine Below.drew ?_ | refine Below.drewN ?_ _ | (refine below_set _ ?_ ?_; rotate_left; focus (first | omega | (simp; done) | (simp <;> omega))))) hb3
  have c3_0 : w3.cell? ⟨w.heap.size, 0, none⟩ = some (.int .i64 p) := by
    refine cell_keep hb3 ?_
    repeat (first | with_reducible assumption | (refine cell_new' ?_ _ _ _ rfl; focus (simp; done)) | with_reducible refine cell_keep (below_new _ _) ?_ | (with_reducible apply set1b; with_reducible assumption) | (with_reducible refine (sc_other _ ?_).trans ?_; focus (simp; done)))
  have c3_1 : w3.cell? ⟨w.heap.size, 1, none⟩ = some (.int .i64 q) := by
    refine cell_keep hb3 ?_
    repeat (first | with_reducible assumption | (refine cell_new' ?_ _ _ _ rfl; focus (simp; done)) | with_reducible refine cell_keep (below_new _ _) ?_ | (with_reducible apply set1b; with_reducible assumption) | (with_reducible refine (sc_other _ ?_).trans ?_; focus (simp; done)))
  have c3_2 : w3.cell? ⟨w.heap.size, 2, none⟩ = some (.int .i64 g) := by
    refine cell_keep hb3 ?_
    repeat (first | with_reducible assumption | (refine cell_new' ?_ _ _ _ rfl; focus (simp; done)) | with_reducible refine cell_keep (below_new _ _) ?_ | (with_reducible apply set1b; with_reducible assumption) | (with_reducible refine (sc_other _ ?_).trans ?_; focus (simp; done)))
  have c3_3 : w3.cell? ⟨w.heap.size + 1, 0, none⟩ = some (.slice A cs.length c) := by
    refine cell_keep hb3 ?_
    repeat (first | with_reducible assumption | (refine cell_new' ?_ _ _ _ rfl; focus (simp; done)) | with_reducible refine cell_keep (below_new _ _) ?_ | (with_reducible apply set1b; with_reducible assumption) | (with_reducible refine (sc_other _ ?_).trans ?_; focus (simp; done)))
  have c3_4 : w3.cell? ⟨w.heap.size + 1, 1, none⟩ = some (.slice E ss.length d) := by
    refine cell_keep hb3 ?_
    repeat (first | with_reducible assumption | (refine cell_new' ?_ _ _ _ rfl; focus (simp; done)) | with_reducible refine cell_keep (below_new _ _) ?_ | (with_reducible apply set1b; with_reducible assumption) | (with_reducible refine (sc_other _ ?_).trans ?_; focus (simp; done)))
  clear c1_0 c1_1 c1_2 c1_3 c1_4
  go_wp2
  go_ret
  exact ⟨ret_bool hR.out.symm, hT3⟩
set_option maxHeartbeats 400000 in
theorem sDealing_any (p q g : Int) (A E : Option Addr) (c d : Nat) (cs ss : List Int) (hl : cs.length ≤ 9223372036854775807) (hll : ss.length ≤ 9223372036854775807) (hG : M.Grp p q g) (w : World) (hx : RI w w.heap.size A cs) (hy : RI w w.heap.size E ss) :
    Calls Try.prog 112 #[.agg #[.int .i64 p, .int .i64 q, .int .i64 g], .agg #[.slice A cs.length c, .slice E ss.length d]] w fun en w' => en = .returned (.bool (dlB p q cs ss)) ∧ Below w.heap.size w w' := by
  have g1 := hG.q2
  have g2 := hG.qp
  have g3 := hG.p3
  have g4 := hG.pM
  have HG := Lib.hid hG
  clear hG
  have hT0 : Below w.heap.size w ((w.alloc (.cells #[.int .i64 p, .int .i64 q, .int .i64 g] 29)).alloc (.cells #[.slice A cs.length c, .slice E ss.length d] 81)) := by repeat (first | exact Below.refl _ _ | refine bnew ?_ _)
  go_enter Try.func112, Try.ntmps112
  go_wp2_with fail
  refine (sCommits_any p q g _ _ cs hl HG.out _ (hx.next (by repeat (first | exact hT0 | refine bnew ?_ _ | refine Below.drew ?_ | refine Below.drewN ?_ _ | (refine below_set _ ?_ ?_; rotate_left; focus (first | omega | (simp; done) | (simp <;> omega))))))).mono ?_
  rintro e1 w1 ⟨rfl, hb1⟩
  have hT1 : Below w.heap.size w w1 := bnext (by repeat (first | exact hT0 | refine bnew ?_ _ | refine Below.drew ?_ | refine Below.drewN ?_ _ | (refine below_set _ ?_ ?_; rotate_left; focus (first | omega | (simp; done) | (simp <;> omega))))) hb1
  have c1_0 : w1.cell? ⟨w.heap.size, 0, none⟩ = some (.int .i64 p) := by
    refine cell_keep hb1 ?_
    repeat (first | with_reducible assumption | (refine cell_new' ?_ _ _ _ rfl; focus (simp; done)) | with_reducible refine cell_keep (below_new _ _) ?_ | (with_reducible apply set1b; with_reducible assumption) | (with_reducible refine (sc_other _ ?_).trans ?_; focus (simp; done)))
  have c1_1 : w1.cell? ⟨w.heap.size, 1, none⟩ = some (.int .i64 q) := by
    refine cell_keep hb1 ?_
    repeat (first | with_reducible assumption | (refine cell_new' ?_ _ _ _ rfl; focus (simp; done)) | with_reducible refine cell_keep (below_new _ _) ?_ | (with_reducible apply set1b; with_reducible assumption) | (with_reducible refine (sc_other _ ?_).trans ?_; focus (simp; done)))
  have c1_2 : w1.cell? ⟨w.heap.size, 2, none⟩ = some (.int .i64 g) := by
    refine cell_keep hb1 ?_
    repeat (first | with_reducible assumption | (refine cell_new' ?_ _ _ _ rfl; focus (simp; done)) | with_reducible refine cell_keep (below_new _ _) ?_ | (with_reducible apply set1b; with_reducible assumption) | (with_reducible refine (sc_other _ ?_).trans ?_; focus (simp; done)))
  have c1_3 : w1.cell? ⟨w.heap.size + 1, 0, none⟩ = some (.slice A cs.length c) := by
    refine cell_keep hb1 ?_
    repeat (first | with_reducible assumption | (refine cell_new' ?_ _ _ _ rfl; focus (simp; done)) | with_reducible refine cell_keep (below_new _ _) ?_ | (with_reducible apply set1b; with_reducible assumption) | (with_reducible refine (sc_other _ ?_).trans ?_; focus (simp; done)))
  have c1_4 : w1.cell? ⟨w.heap.size + 1, 1, none⟩ = some (.slice E ss.length d) := by
    refine cell_keep hb1 ?_
    repeat (first | with_reducible assumption | (refine cell_new' ?_ _ _ _ rfl; focus (simp; done)) | with_reducible refine cell_keep (below_new _ _) ?_ | (with_reducible apply set1b; with_reducible assumption) | (with_reducible refine (sc_other _ ?_).trans ?_; focus (simp; done)))
  rcases Bool.eq_false_or_eq_true (comB p q cs) with h1 | h1
  rotate_left
  · have hR := Lib.hid (show dlB p q cs ss = false by unfold dlB; rw [h1]; simp)
    go_wp2
    go_ret
    exact ⟨ret_bool hR.out.symm, hT1⟩
  go_wp2_with fail
  refine (l1In_any _ _ _ _).mono ?_
  rintro e2 w2 ⟨rfl, rfl⟩
  rcases Bool.eq_false_or_eq_true (inr ss.length cs.length 7) with h2 | h2
  rotate_left
  · have hR := Lib.hid (show dlB p q cs ss = false by unfold dlB; rw [h2]; simp)
    go_wp2
    go_ret
    exact ⟨ret_bool hR.out.symm, hT1⟩
  have hR := Lib.hid (show dlB p q cs ss = expsB q ss by unfold dlB; rw [h1, h2]; simp)
  go_wp2_with fail
  refine (gExps_any p q g _ _ ss _ (by omega) (hy.next (by repeat (first | exact hT1 | refine bnew ?_ _ | refine Below.drew ?_ | refine Below.drewN ?_ _ | (refine below_set _ ?_ ?_; rotate_left; focus (first | omega | (simp; done) | (simp <;> omega)))))) hll).mono ?_
  rintro e3 w3 ⟨rfl, hb3⟩
  have hT3 : Below w.heap.size w w3 := bnext (by repeat (first | exact hT1 | refine bnew ?_ _ | refine Below.drew ?_ | refine Below.drewN ?_ _ | (refine below_set _ ?_ ?_; rotate_left; focus (first | omega | (simp; done) | (simp <;> omega))))) hb3
  have c3_0 : w3.cell? ⟨w.heap.size, 0, none⟩ = some (.int .i64 p) := by
    refine cell_keep hb3 ?_
    repeat (first | with_reducible assumption | (refine cell_new' ?_ _ _ _ rfl; focus (simp; done)) | with_reducible refine cell_keep (below_new _ _) ?_ | (with_reducible apply set1b; with_reducible assumption) | (with_reducible refine (sc_other _ ?_).trans ?_; focus (simp; done)))
  have c3_1 : w3.cell? ⟨w.heap.size, 1, none⟩ = some (.int .i64 q) := by
    refine cell_keep hb3 ?_
    repeat (first | with_reducible assumption | (refine cell_new' ?_ _ _ _ rfl; focus (simp; done)) | with_reducible refine cell_keep (below_new _ _) ?_ | (with_reducible apply set1b; with_reducible assumption) | (with_reducible refine (sc_other _ ?_).trans ?_; focus (simp; done)))
  have c3_2 : w3.cell? ⟨w.heap.size, 2, none⟩ = some (.int .i64 g) := by
    refine cell_keep hb3 ?_
    repeat (first | with_reducible assumption | (refine cell_new' ?_ _ _ _ rfl; focus (simp; done)) | with_reducible refine cell_keep (below_new _ _) ?_ | (with_reducible apply set1b; with_reducible assumption) | (with_reducible refine (sc_other _ ?_).trans ?_; focus (simp; done)))
  have c3_3 : w3.cell? ⟨w.heap.size + 1, 0, none⟩ = some (.slice A cs.length c) := by
    refine cell_keep hb3 ?_
    repeat (first | with_reducible assumption | (refine cell_new' ?_ _ _ _ rfl; focus (simp; done)) | with_reducible refine cell_keep (below_new _ _) ?_ | (with_reducible apply set1b; with_reducible assumption) | (with_reducible refine (sc_other _ ?_).trans ?_; focus (simp; done)))
  have c3_4 : w3.cell? ⟨w.heap.size + 1, 1, none⟩ = some (.slice E ss.length d) := by
    refine cell_keep hb3 ?_
    repeat (first | with_reducible assumption | (refine cell_new' ?_ _ _ _ rfl; focus (simp; done)) | with_reducible refine cell_keep (below_new _ _) ?_ | (with_reducible apply set1b; with_reducible assumption) | (with_reducible refine (sc_other _ ?_).trans ?_; focus (simp; done)))
  clear c1_0 c1_1 c1_2 c1_3 c1_4
  go_wp2
  go_ret
  exact ⟨ret_bool hR.out.symm, hT3⟩
end Go.Proofs.Ytlggpehioflbdaa
