/- Walks: CommitAt, CheckShare. -/
import Derived.Test.YtiegpbpijfmhdaaS1
namespace Go.Proofs.Ytiegpbpijfmhdaa
open Go.RowKit
noncomputable def shB (p q g : Int) : Bool := M.goodB p q g && decide (7 < q)
theorem shB_of {p q g : Int} (h : shB p q g = true) : M.goodB p q g = true ∧ 7 < q := by unfold shB at h; simpa using h
def comB (p q : Int) (l : List Int) : Bool := inr l.length 1 7 && elemsB p q l
theorem comB_of {p q : Int} {l : List Int} (h : comB p q l = true) : (1 ≤ l.length ∧ l.length ≤ 7) ∧ elemsB p q l = true := by
  unfold comB at h
  simp only [Bool.and_eq_true] at h
  have := inr_t h.1
  exact ⟨by omega, h.2⟩
noncomputable def comAt (p q g : Int) (l : List Int) (i : Int) : Int × Bool := if shB p q g = true ∧ comB p q l = true ∧ inr i 0 7 = true then (atV p q i l, true) else (0, false)
noncomputable def chkS (p q g : Int) (l : List Int) (i s : Int) : Bool × Bool := if shB p q g = true ∧ comB p q l = true ∧ inr i 1 7 = true ∧ inr s 0 (q - 1) = true then (M.gpw p q g s == atV p q i l, true) else (false, false)
set_option maxHeartbeats 400000 in
theorem isSharing_any (p q g : Int) (w : World) :
    Calls Try.prog 40 #[.agg #[.int .i64 p, .int .i64 q, .int .i64 g]] w fun en w' => en = .returned (.bool (shB p q g)) ∧ Below w.heap.size w w' := by
  have hT0 : Below w.heap.size w (w.alloc (.cells #[.int .i64 p, .int .i64 q, .int .i64 g] 27)) := by repeat (first | exact Below.refl _ _ | refine bnew ?_ _)
  go_enter Try.func40, Try.ntmps40
  rcases Bool.eq_false_or_eq_true (decide (7 < q)) with h | h
  rotate_left
  · have h' : ¬ 7 < q := of_decide_eq_false h
    have hR := Lib.hid (show shB p q g = false by unfold shB; rw [h]; simp)
    go_wp2
    go_ret
    exact ⟨ret_bool hR.out.symm, hT0⟩
  have h' : 7 < q := of_decide_eq_true h
  have hR := Lib.hid (show shB p q g = M.goodB p q g by unfold shB; rw [h]; simp)
  go_wp2_with fail
  refine (isValidGroup_any p q g _).mono ?_
  rintro e1 w1 ⟨rfl, hb1⟩
  have hT1 : Below w.heap.size w w1 := bnext (by repeat (first | exact hT0 | refine bnew ?_ _ | refine Below.drew ?_ | refine Below.drewN ?_ _)) hb1
  have c1_0 : w1.cell? ⟨w.heap.size, 0, none⟩ = some (.int .i64 p) := by
    refine cell_keep hb1 ?_
    repeat (first | with_reducible assumption | (refine cell_new' ?_ _ _ _ rfl; focus (simp; done)) | with_reducible refine cell_keep (below_new _ _) ?_)
  have c1_1 : w1.cell? ⟨w.heap.size, 1, none⟩ = some (.int .i64 q) := by
    refine cell_keep hb1 ?_
    repeat (first | with_reducible assumption | (refine cell_new' ?_ _ _ _ rfl; focus (simp; done)) | with_reducible refine cell_keep (below_new _ _) ?_)
  have c1_2 : w1.cell? ⟨w.heap.size, 2, none⟩ = some (.int .i64 g) := by
    refine cell_keep hb1 ?_
    repeat (first | with_reducible assumption | (refine cell_new' ?_ _ _ _ rfl; focus (simp; done)) | with_reducible refine cell_keep (below_new _ _) ?_)
  go_wp2
  go_ret
  exact ⟨ret_bool hR.out.symm, hT1⟩
set_option maxHeartbeats 400000 in
theorem sGroup_any (p q g : Int) (w : World) :
    Calls Try.prog 35 #[.agg #[.int .i64 p, .int .i64 q, .int .i64 g]] w fun en w' => en = .returned (.bool (shB p q g)) ∧ Below w.heap.size w w' := by
  have hT0 : Below w.heap.size w (w.alloc (.cells #[.int .i64 p, .int .i64 q, .int .i64 g] 27)) := by repeat (first | exact Below.refl _ _ | refine bnew ?_ _)
  go_enter Try.func35, Try.ntmps35
  go_wp2_with fail
  refine (l2Good_any p q g _).mono ?_
  rintro e1 w1 ⟨rfl, hb1⟩
  have hT1 : Below w.heap.size w w1 := bnext (by repeat (first | exact hT0 | refine bnew ?_ _ | refine Below.drew ?_ | refine Below.drewN ?_ _)) hb1
  have c1_0 : w1.cell? ⟨w.heap.size, 0, none⟩ = some (.int .i64 p) := by
    refine cell_keep hb1 ?_
    repeat (first | with_reducible assumption | (refine cell_new' ?_ _ _ _ rfl; focus (simp; done)) | with_reducible refine cell_keep (below_new _ _) ?_)
  have c1_1 : w1.cell? ⟨w.heap.size, 1, none⟩ = some (.int .i64 q) := by
    refine cell_keep hb1 ?_
    repeat (first | with_reducible assumption | (refine cell_new' ?_ _ _ _ rfl; focus (simp; done)) | with_reducible refine cell_keep (below_new _ _) ?_)
  have c1_2 : w1.cell? ⟨w.heap.size, 2, none⟩ = some (.int .i64 g) := by
    refine cell_keep hb1 ?_
    repeat (first | with_reducible assumption | (refine cell_new' ?_ _ _ _ rfl; focus (simp; done)) | with_reducible refine cell_keep (below_new _ _) ?_)
  rcases Bool.eq_false_or_eq_true (M.goodB p q g) with h | h
  rotate_left
  · have hR := Lib.hid (show shB p q g = false by unfold shB; rw [h]; simp)
    go_wp2
    go_ret
    exact ⟨ret_bool hR.out.symm, hT1⟩
  have hR := Lib.hid (show shB p q g = decide (7 < q) by unfold shB; rw [h]; simp)
  go_wp2
  go_ret
  exact ⟨ret_bool hR.out.symm, hT1⟩
set_option maxHeartbeats 400000 in
theorem areCommits_any (p q g : Int) (A : Option Addr) (c : Nat) (xs : List Int) (hl : xs.length ≤ 9223372036854775807) (hG : M.Grp p q g) (w : World) (hx : RI w w.heap.size A xs) :
    Calls Try.prog 92 #[.agg #[.int .i64 p, .int .i64 q, .int .i64 g], .slice A xs.length c] w fun en w' => en = .returned (.bool (comB p q xs)) ∧ Below w.heap.size w w' := by
  have HG := Lib.hid hG
  clear hG
  have hT0 : Below w.heap.size w (w.alloc (.cells #[.int .i64 p, .int .i64 q, .int .i64 g] 27)) := by repeat (first | exact Below.refl _ _ | refine bnew ?_ _)
  go_enter Try.func92, Try.ntmps92
  go_wp2_with fail
  refine (within_any _ _ _ _).mono ?_
  rintro e1 w1 ⟨rfl, rfl⟩
  rcases Bool.eq_false_or_eq_true (inr xs.length 1 7) with h | h
  rotate_left
  · have hR := Lib.hid (show comB p q xs = false by unfold comB; rw [h]; simp)
    go_wp2
    go_ret
    exact ⟨ret_bool hR.out.symm, hT0⟩
  have hR := Lib.hid (show comB p q xs = elemsB p q xs by unfold comB; rw [h]; simp)
  go_wp2_with fail
  refine (hasAll_any p q g HG.out _ _ xs hl _ (hx.next (by repeat (first | exact hT0 | refine bnew ?_ _ | refine Below.drew ?_ | refine Below.drewN ?_ _)))).mono ?_
  rintro e2 w2 ⟨rfl, hb2⟩
  have hT2 : Below w.heap.size w w2 := bnext (by repeat (first | exact hT0 | refine bnew ?_ _ | refine Below.drew ?_ | refine Below.drewN ?_ _)) hb2
  have c2_0 : w2.cell? ⟨w.heap.size, 0, none⟩ = some (.int .i64 p) := by
    refine cell_keep hb2 ?_
    repeat (first | with_reducible assumption | (refine cell_new' ?_ _ _ _ rfl; focus (simp; done)) | with_reducible refine cell_keep (below_new _ _) ?_)
  have c2_1 : w2.cell? ⟨w.heap.size, 1, none⟩ = some (.int .i64 q) := by
    refine cell_keep hb2 ?_
    repeat (first | with_reducible assumption | (refine cell_new' ?_ _ _ _ rfl; focus (simp; done)) | with_reducible refine cell_keep (below_new _ _) ?_)
  have c2_2 : w2.cell? ⟨w.heap.size, 2, none⟩ = some (.int .i64 g) := by
    refine cell_keep hb2 ?_
    repeat (first | with_reducible assumption | (refine cell_new' ?_ _ _ _ rfl; focus (simp; done)) | with_reducible refine cell_keep (below_new _ _) ?_)
  go_wp2
  go_ret
  exact ⟨ret_bool hR.out.symm, hT2⟩
set_option maxHeartbeats 400000 in
theorem sCommits_any (p q g : Int) (A : Option Addr) (c : Nat) (xs : List Int) (hl : xs.length ≤ 9223372036854775807) (hG : M.Grp p q g) (w : World) (hx : RI w w.heap.size A xs) :
    Calls Try.prog 56 #[.agg #[.int .i64 p, .int .i64 q, .int .i64 g], .slice A xs.length c] w fun en w' => en = .returned (.bool (comB p q xs)) ∧ Below w.heap.size w w' := by
  have HG := Lib.hid hG
  clear hG
  have hT0 : Below w.heap.size w (w.alloc (.cells #[.int .i64 p, .int .i64 q, .int .i64 g] 27)) := by repeat (first | exact Below.refl _ _ | refine bnew ?_ _)
  go_enter Try.func56, Try.ntmps56
  go_wp2_with fail
  refine (l1In_any _ _ _ _).mono ?_
  rintro e1 w1 ⟨rfl, rfl⟩
  rcases Bool.eq_false_or_eq_true (inr xs.length 1 7) with h | h
  rotate_left
  · have hR := Lib.hid (show comB p q xs = false by unfold comB; rw [h]; simp)
    go_wp2
    go_ret
    exact ⟨ret_bool hR.out.symm, hT0⟩
  have hR := Lib.hid (show comB p q xs = elemsB p q xs by unfold comB; rw [h]; simp)
  go_wp2_with fail
  refine (gIs_any p q g HG.out _ _ xs hl _ (hx.next (by repeat (first | exact hT0 | refine bnew ?_ _ | refine Below.drew ?_ | refine Below.drewN ?_ _)))).mono ?_
  rintro e2 w2 ⟨rfl, hb2⟩
  have hT2 : Below w.heap.size w w2 := bnext (by repeat (first | exact hT0 | refine bnew ?_ _ | refine Below.drew ?_ | refine Below.drewN ?_ _)) hb2
  have c2_0 : w2.cell? ⟨w.heap.size, 0, none⟩ = some (.int .i64 p) := by
    refine cell_keep hb2 ?_
    repeat (first | with_reducible assumption | (refine cell_new' ?_ _ _ _ rfl; focus (simp; done)) | with_reducible refine cell_keep (below_new _ _) ?_)
  have c2_1 : w2.cell? ⟨w.heap.size, 1, none⟩ = some (.int .i64 q) := by
    refine cell_keep hb2 ?_
    repeat (first | with_reducible assumption | (refine cell_new' ?_ _ _ _ rfl; focus (simp; done)) | with_reducible refine cell_keep (below_new _ _) ?_)
  have c2_2 : w2.cell? ⟨w.heap.size, 2, none⟩ = some (.int .i64 g) := by
    refine cell_keep hb2 ?_
    repeat (first | with_reducible assumption | (refine cell_new' ?_ _ _ _ rfl; focus (simp; done)) | with_reducible refine cell_keep (below_new _ _) ?_)
  go_wp2
  go_ret
  exact ⟨ret_bool hR.out.symm, hT2⟩
theorem isTrustee_any (i : Int) (w : World) : Calls Try.prog 41 #[.int .i64 i] w fun en w' => en = .returned (.bool (inr i 1 7)) ∧ w = w' := by
  go_enter Try.func41, Try.ntmps41
  go_wp2_with fail
  refine (within_any _ _ _ _).mono ?_
  rintro e1 w1 ⟨rfl, rfl⟩
  go_wp2
  go_ret
  exact ⟨rfl, rfl⟩
set_option maxHeartbeats 800000 in
theorem commitAtApiI (i : Int) (p q g : Int) (A : Option Addr) (c : Nat) (xs : List Int) (hl : xs.length ≤ 9223372036854775807) (w : World) (hx : RI w w.heap.size A xs) :
    Calls Try.prog 64 #[.agg #[.int .i64 p, .int .i64 q, .int .i64 g], .slice A xs.length c, .int .i64 i] w fun en w' => en = .returned (.tuple #[.int .i64 (comAt p q g xs i).1, .bool (comAt p q g xs i).2]) ∧ Below w.heap.size w w' := by
  have hT0 : Below w.heap.size w (w.alloc (.cells #[.int .i64 p, .int .i64 q, .int .i64 g] 27)) := by repeat (first | exact Below.refl _ _ | refine bnew ?_ _)
  go_enter Try.func64, Try.ntmps64
  go_wp2_with fail
  refine (isSharing_any p q g _).mono ?_
  rintro e1 w1 ⟨rfl, hb1⟩
  have hT1 : Below w.heap.size w w1 := bnext (by repeat (first | exact hT0 | refine bnew ?_ _ | refine Below.drew ?_ | refine Below.drewN ?_ _)) hb1
  have c1_0 : w1.cell? ⟨w.heap.size, 0, none⟩ = some (.int .i64 p) := by
    refine cell_keep hb1 ?_
    repeat (first | with_reducible assumption | (refine cell_new' ?_ _ _ _ rfl; focus (simp; done)) | with_reducible refine cell_keep (below_new _ _) ?_)
  have c1_1 : w1.cell? ⟨w.heap.size, 1, none⟩ = some (.int .i64 q) := by
    refine cell_keep hb1 ?_
    repeat (first | with_reducible assumption | (refine cell_new' ?_ _ _ _ rfl; focus (simp; done)) | with_reducible refine cell_keep (below_new _ _) ?_)
  have c1_2 : w1.cell? ⟨w.heap.size, 2, none⟩ = some (.int .i64 g) := by
    refine cell_keep hb1 ?_
    repeat (first | with_reducible assumption | (refine cell_new' ?_ _ _ _ rfl; focus (simp; done)) | with_reducible refine cell_keep (below_new _ _) ?_)
  rcases Bool.eq_false_or_eq_true (shB p q g) with hsh | hsh
  rotate_left
  · have hR := Lib.hid (show comAt p q g xs i = (0, false) by unfold comAt; rw [if_neg fun hh => Bool.false_ne_true (hsh.symm.trans hh.1)])
    go_wp2
    go_ret2
    exact ⟨ret_ib (by rw [hR.out]) (by rw [hR.out]), hT1⟩
  obtain ⟨hg, q7⟩ := shB_of hsh
  have hG := M.goodB_of hg
  have g1 := hG.q2
  have g2 := hG.qp
  have g3 := hG.p3
  have g4 := hG.pM
  have HG := Lib.hid hG
  clear hG
  go_wp2_with fail
  refine (areCommits_any p q g _ _ xs hl HG.out _ (hx.next (by repeat (first | with_reducible assumption | exact Below.refl _ _ | refine bnew ?_ _)))).mono ?_
  rintro e2 w2 ⟨rfl, hb2⟩
  have hT2 : Below w.heap.size w w2 := bnext (by repeat (first | exact hT1 | refine bnew ?_ _ | refine Below.drew ?_ | refine Below.drewN ?_ _)) hb2
  have c2_0 : w2.cell? ⟨w.heap.size, 0, none⟩ = some (.int .i64 p) := by
    refine cell_keep hb2 ?_
    repeat (first | with_reducible assumption | (refine cell_new' ?_ _ _ _ rfl; focus (simp; done)) | with_reducible refine cell_keep (below_new _ _) ?_)
  have c2_1 : w2.cell? ⟨w.heap.size, 1, none⟩ = some (.int .i64 q) := by
    refine cell_keep hb2 ?_
    repeat (first | with_reducible assumption | (refine cell_new' ?_ _ _ _ rfl; focus (simp; done)) | with_reducible refine cell_keep (below_new _ _) ?_)
  have c2_2 : w2.cell? ⟨w.heap.size, 2, none⟩ = some (.int .i64 g) := by
    refine cell_keep hb2 ?_
    repeat (first | with_reducible assumption | (refine cell_new' ?_ _ _ _ rfl; focus (simp; done)) | with_reducible refine cell_keep (below_new _ _) ?_)
  clear c1_0 c1_1 c1_2
  rcases Bool.eq_false_or_eq_true (comB p q xs) with hcm | hcm
  rotate_left
  · have hR := Lib.hid (show comAt p q g xs i = (0, false) by unfold comAt; rw [if_neg fun hh => Bool.false_ne_true (hcm.symm.trans hh.2.1)])
    go_wp2
    go_ret2
    exact ⟨ret_ib (by rw [hR.out]) (by rw [hR.out]), hT2⟩
  obtain ⟨n7, hel⟩ := comB_of hcm
  go_wp2_with fail
  refine (within_any _ _ _ _).mono ?_
  rintro e3 w3 ⟨rfl, rfl⟩
  rcases Bool.eq_false_or_eq_true (inr i 0 7) with h3 | h3
  rotate_left
  · have hR := Lib.hid (show comAt p q g xs i = (0, false) by unfold comAt; rw [if_neg fun hh => Bool.false_ne_true (h3.symm.trans hh.2.2)])
    go_wp2
    go_ret2
    exact ⟨ret_ib (by rw [hR.out]) (by rw [hR.out]), hT2⟩
  obtain ⟨t_i, t_i'⟩ := inr_t h3
  have u_i : 0 ≤ i ∧ i ≤ 7 := ⟨by omega, by omega⟩
  have hR := Lib.hid (show comAt p q g xs i = (atV p q i xs, true) by unfold comAt; rw [if_pos ⟨hsh, hcm, h3⟩])
  go_wp2_with fail
  refine (commitAt_any p q g i HG.out _ _ xs hl u_i _ (hx.next (by repeat (first | exact hT2 | refine bnew ?_ _ | refine Below.drew ?_ | refine Below.drewN ?_ _))) (fun x h => elem_bd (elemsB_mem hel h))).mono ?_
  rintro e4 w4 ⟨rfl, hb4⟩
  have hT4 : Below w.heap.size w w4 := bnext (by repeat (first | exact hT2 | refine bnew ?_ _ | refine Below.drew ?_ | refine Below.drewN ?_ _)) hb4
  have c4_0 : w4.cell? ⟨w.heap.size, 0, none⟩ = some (.int .i64 p) := by
    refine cell_keep hb4 ?_
    repeat (first | with_reducible assumption | (refine cell_new' ?_ _ _ _ rfl; focus (simp; done)) | with_reducible refine cell_keep (below_new _ _) ?_)
  have c4_1 : w4.cell? ⟨w.heap.size, 1, none⟩ = some (.int .i64 q) := by
    refine cell_keep hb4 ?_
    repeat (first | with_reducible assumption | (refine cell_new' ?_ _ _ _ rfl; focus (simp; done)) | with_reducible refine cell_keep (below_new _ _) ?_)
  have c4_2 : w4.cell? ⟨w.heap.size, 2, none⟩ = some (.int .i64 g) := by
    refine cell_keep hb4 ?_
    repeat (first | with_reducible assumption | (refine cell_new' ?_ _ _ _ rfl; focus (simp; done)) | with_reducible refine cell_keep (below_new _ _) ?_)
  clear c2_0 c2_1 c2_2
  go_wp2
  go_ret2
  exact ⟨ret_ib (by rw [hR.out]) (by rw [hR.out]), hT4⟩
set_option maxHeartbeats 800000 in
theorem commitAtApiS (i : Int) (p q g : Int) (A : Option Addr) (c : Nat) (xs : List Int) (hl : xs.length ≤ 9223372036854775807) (w : World) (hx : RI w w.heap.size A xs) :
    Calls Try.prog 63 #[.agg #[.int .i64 p, .int .i64 q, .int .i64 g], .slice A xs.length c, .int .i64 i] w fun en w' => en = .returned (.tuple #[.int .i64 (comAt p q g xs i).1, .bool (comAt p q g xs i).2]) ∧ Below w.heap.size w w' := by
  have hT0 : Below w.heap.size w (w.alloc (.cells #[.int .i64 p, .int .i64 q, .int .i64 g] 27)) := by repeat (first | exact Below.refl _ _ | refine bnew ?_ _)
  go_enter Try.func63, Try.ntmps63
  go_wp2_with fail
  refine (sGroup_any p q g _).mono ?_
  rintro e1 w1 ⟨rfl, hb1⟩
  have hT1 : Below w.heap.size w w1 := bnext (by repeat (first | exact hT0 | refine bnew ?_ _ | refine Below.drew ?_ | refine Below.drewN ?_ _)) hb1
  have c1_0 : w1.cell? ⟨w.heap.size, 0, none⟩ = some (.int .i64 p) := by
    refine cell_keep hb1 ?_
    repeat (first | with_reducible assumption | (refine cell_new' ?_ _ _ _ rfl; focus (simp; done)) | with_reducible refine cell_keep (below_new _ _) ?_)
  have c1_1 : w1.cell? ⟨w.heap.size, 1, none⟩ = some (.int .i64 q) := by
    refine cell_keep hb1 ?_
    repeat (first | with_reducible assumption | (refine cell_new' ?_ _ _ _ rfl; focus (simp; done)) | with_reducible refine cell_keep (below_new _ _) ?_)
  have c1_2 : w1.cell? ⟨w.heap.size, 2, none⟩ = some (.int .i64 g) := by
    refine cell_keep hb1 ?_
    repeat (first | with_reducible assumption | (refine cell_new' ?_ _ _ _ rfl; focus (simp; done)) | with_reducible refine cell_keep (below_new _ _) ?_)
  rcases Bool.eq_false_or_eq_true (shB p q g) with hsh | hsh
  rotate_left
  · have hR := Lib.hid (show comAt p q g xs i = (0, false) by unfold comAt; rw [if_neg fun hh => Bool.false_ne_true (hsh.symm.trans hh.1)])
    go_wp2
    go_ret2
    exact ⟨ret_ib (by rw [hR.out]) (by rw [hR.out]), hT1⟩
  obtain ⟨hg, q7⟩ := shB_of hsh
  have hG := M.goodB_of hg
  have g1 := hG.q2
  have g2 := hG.qp
  have g3 := hG.p3
  have g4 := hG.pM
  have HG := Lib.hid hG
  clear hG
  go_wp2_with fail
  refine (sCommits_any p q g _ _ xs hl HG.out _ (hx.next (by repeat (first | with_reducible assumption | exact Below.refl _ _ | refine bnew ?_ _)))).mono ?_
  rintro e2 w2 ⟨rfl, hb2⟩
  have hT2 : Below w.heap.size w w2 := bnext (by repeat (first | exact hT1 | refine bnew ?_ _ | refine Below.drew ?_ | refine Below.drewN ?_ _)) hb2
  have c2_0 : w2.cell? ⟨w.heap.size, 0, none⟩ = some (.int .i64 p) := by
    refine cell_keep hb2 ?_
    repeat (first | with_reducible assumption | (refine cell_new' ?_ _ _ _ rfl; focus (simp; done)) | with_reducible refine cell_keep (below_new _ _) ?_)
  have c2_1 : w2.cell? ⟨w.heap.size, 1, none⟩ = some (.int .i64 q) := by
    refine cell_keep hb2 ?_
    repeat (first | with_reducible assumption | (refine cell_new' ?_ _ _ _ rfl; focus (simp; done)) | with_reducible refine cell_keep (below_new _ _) ?_)
  have c2_2 : w2.cell? ⟨w.heap.size, 2, none⟩ = some (.int .i64 g) := by
    refine cell_keep hb2 ?_
    repeat (first | with_reducible assumption | (refine cell_new' ?_ _ _ _ rfl; focus (simp; done)) | with_reducible refine cell_keep (below_new _ _) ?_)
  clear c1_0 c1_1 c1_2
  rcases Bool.eq_false_or_eq_true (comB p q xs) with hcm | hcm
  rotate_left
  · have hR := Lib.hid (show comAt p q g xs i = (0, false) by unfold comAt; rw [if_neg fun hh => Bool.false_ne_true (hcm.symm.trans hh.2.1)])
    go_wp2
    go_ret2
    exact ⟨ret_ib (by rw [hR.out]) (by rw [hR.out]), hT2⟩
  obtain ⟨n7, hel⟩ := comB_of hcm
  go_wp2_with fail
  refine (l1In_any _ _ _ _).mono ?_
  rintro e3 w3 ⟨rfl, rfl⟩
  rcases Bool.eq_false_or_eq_true (inr i 0 7) with h3 | h3
  rotate_left
  · have hR := Lib.hid (show comAt p q g xs i = (0, false) by unfold comAt; rw [if_neg fun hh => Bool.false_ne_true (h3.symm.trans hh.2.2)])
    go_wp2
    go_ret2
    exact ⟨ret_ib (by rw [hR.out]) (by rw [hR.out]), hT2⟩
  obtain ⟨t_i, t_i'⟩ := inr_t h3
  have u_i : 0 ≤ i ∧ i ≤ 7 := ⟨by omega, by omega⟩
  have hR := Lib.hid (show comAt p q g xs i = (atV p q i xs, true) by unfold comAt; rw [if_pos ⟨hsh, hcm, h3⟩])
  go_wp2_with fail
  refine (sAt_any p q g i HG.out _ _ xs hl u_i _ (hx.next (by repeat (first | exact hT2 | refine bnew ?_ _ | refine Below.drew ?_ | refine Below.drewN ?_ _))) (fun x h => elem_bd (elemsB_mem hel h))).mono ?_
  rintro e4 w4 ⟨rfl, hb4⟩
  have hT4 : Below w.heap.size w w4 := bnext (by repeat (first | exact hT2 | refine bnew ?_ _ | refine Below.drew ?_ | refine Below.drewN ?_ _)) hb4
  have c4_0 : w4.cell? ⟨w.heap.size, 0, none⟩ = some (.int .i64 p) := by
    refine cell_keep hb4 ?_
    repeat (first | with_reducible assumption | (refine cell_new' ?_ _ _ _ rfl; focus (simp; done)) | with_reducible refine cell_keep (below_new _ _) ?_)
  have c4_1 : w4.cell? ⟨w.heap.size, 1, none⟩ = some (.int .i64 q) := by
    refine cell_keep hb4 ?_
    repeat (first | with_reducible assumption | (refine cell_new' ?_ _ _ _ rfl; focus (simp; done)) | with_reducible refine cell_keep (below_new _ _) ?_)
  have c4_2 : w4.cell? ⟨w.heap.size, 2, none⟩ = some (.int .i64 g) := by
    refine cell_keep hb4 ?_
    repeat (first | with_reducible assumption | (refine cell_new' ?_ _ _ _ rfl; focus (simp; done)) | with_reducible refine cell_keep (below_new _ _) ?_)
  clear c2_0 c2_1 c2_2
  go_wp2
  go_ret2
  exact ⟨ret_ib (by rw [hR.out]) (by rw [hR.out]), hT4⟩
end Go.Proofs.Ytiegpbpijfmhdaa
