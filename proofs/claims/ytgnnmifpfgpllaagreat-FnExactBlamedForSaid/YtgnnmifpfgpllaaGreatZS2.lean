import Derived.Test.YtgnnmifpfgpllaaGreatZS1
/- Walks: CommitAt, CheckShare. -/
set_option linter.all false
set_option linter.unusedVariables false
set_option linter.unusedSimpArgs false
namespace Go.Proofs.YtgnnmifpfgpllaaGreat
open Go.RowKit
noncomputable def shB (p q g : Int) : Bool := M.goodB p q g && decide (7 < q)
theorem shB_of {p q g : Int} (h : shB p q g = true) : M.goodB p q g = true ∧ 7 < q := by unfold shB at h; simpa using h
def comB (p q : Int) (l : List Int) : Bool := inr l.length 1 7 && elemsB p q l
theorem comB_of {p q : Int} {l : List Int} (h : comB p q l = true) : (1 ≤ l.length ∧ l.length ≤ 7) ∧ elemsB p q l = true := by
  unfold comB at h
  simp only [Bool.and_eq_true] at h
  have := inr_t h.1
  exact ⟨by omega, h.2⟩
set_option maxHeartbeats 400000 in
theorem isSharing_any (p q g : Int) (w : World) :
    Calls Tryz.prog 49 #[.agg #[.int .i64 p, .int .i64 q, .int .i64 g]] w fun en w' => en = .returned (.bool (shB p q g)) ∧ Below w.heap.size w w' := by
  have hT0 : Below w.heap.size w (w.alloc (.cells #[.int .i64 p, .int .i64 q, .int .i64 g] 31)) := by repeat (first | exact Below.refl _ _ | refine bnew ?_ _)
  go_enter Tryz.func49, Tryz.ntmps49
  rcases Bool.eq_false_or_eq_true (decide (7 < q)) with h | h
  rotate_left
  · have h' : ¬ 7 < q := of_decide_eq_false h
    have hR := Lib.hid (show shB p q g = false by unfold shB; rw [h]; simp)
    go_wp2
    go_ret
    exact ⟨ret_bool hR.out.symm, hT0⟩
  have h' : 7 < q := of_decide_eq_true h
  have hR := Lib.hid (show shB p q g = M.goodB p q g by unfold shB; rw [h]; simp)
  go_wp2_with fail
  refine (isValidGroup_any p q g _).mono ?_
  rintro e1 w1 ⟨rfl, hb1⟩
  have hT1 : Below w.heap.size w w1 := bnext (by repeat (first | exact hT0 | refine bnew ?_ _ | refine Below.drew ?_ | refine Below.drewN ?_ _)) hb1
  have c1_0 : w1.cell? ⟨w.heap.size, 0, none⟩ = some (.int .i64 p) := by
    refine cell_keep hb1 ?_
    repeat (first | with_reducible assumption | (refine cell_new' ?_ _ _ _ rfl; focus (simp; done)) | with_reducible refine cell_keep (below_new _ _) ?_)
  have c1_1 : w1.cell? ⟨w.heap.size, 1, none⟩ = some (.int .i64 q) := by
    refine cell_keep hb1 ?_
    repeat (first | with_reducible assumption | (refine cell_new' ?_ _ _ _ rfl; focus (simp; done)) | with_reducible refine cell_keep (below_new _ _) ?_)
  have c1_2 : w1.cell? ⟨w.heap.size, 2, none⟩ = some (.int .i64 g) := by
    refine cell_keep hb1 ?_
    repeat (first | with_reducible assumption | (refine cell_new' ?_ _ _ _ rfl; focus (simp; done)) | with_reducible refine cell_keep (below_new _ _) ?_)
  go_wp2
  go_ret
  exact ⟨ret_bool hR.out.symm, hT1⟩
set_option maxHeartbeats 400000 in
theorem sGroup_any (p q g : Int) (w : World) :
    Calls Tryz.prog 46 #[.agg #[.int .i64 p, .int .i64 q, .int .i64 g]] w fun en w' => en = .returned (.bool (shB p q g)) ∧ Below w.heap.size w w' := by
  have hT0 : Below w.heap.size w (w.alloc (.cells #[.int .i64 p, .int .i64 q, .int .i64 g] 31)) := by repeat (first | exact Below.refl _ _ | refine bnew ?_ _)
  go_enter Tryz.func46, Tryz.ntmps46
  go_wp2_with fail
  refine (l2Good_any p q g _).mono ?_
  rintro e1 w1 ⟨rfl, hb1⟩
  have hT1 : Below w.heap.size w w1 := bnext (by repeat (first | exact hT0 | refine bnew ?_ _ | refine Below.drew ?_ | refine Below.drewN ?_ _)) hb1
  have c1_0 : w1.cell? ⟨w.heap.size, 0, none⟩ = some (.int .i64 p) := by
    refine cell_keep hb1 ?_
    repeat (first | with_reducible assumption | (refine cell_new' ?_ _ _ _ rfl; focus (simp; done)) | with_reducible refine cell_keep (below_new _ _) ?_)
  have c1_1 : w1.cell? ⟨w.heap.size, 1, none⟩ = some (.int .i64 q) := by
    refine cell_keep hb1 ?_
    repeat (first | with_reducible assumption | (refine cell_new' ?_ _ _ _ rfl; focus (simp; done)) | with_reducible refine cell_keep (below_new _ _) ?_)
  have c1_2 : w1.cell? ⟨w.heap.size, 2, none⟩ = some (.int .i64 g) := by
    refine cell_keep hb1 ?_
    repeat (first | with_reducible assumption | (refine cell_new' ?_ _ _ _ rfl; focus (simp; done)) | with_reducible refine cell_keep (below_new _ _) ?_)
  rcases Bool.eq_false_or_eq_true (M.goodB p q g) with h | h
  rotate_left
  · have hR := Lib.hid (show shB p q g = false by unfold shB; rw [h]; simp)
    go_wp2
    go_ret
    exact ⟨ret_bool hR.out.symm, hT1⟩
  have hR := Lib.hid (show shB p q g = decide (7 < q) by unfold shB; rw [h]; simp)
  go_wp2
  go_ret
  exact ⟨ret_bool hR.out.symm, hT1⟩
set_option maxHeartbeats 400000 in
theorem areCommits_any (p q g : Int) (A : Option Addr) (c : Nat) (xs : List Int) (hl : xs.length ≤ 9223372036854775807) (hG : M.Grp p q g) (w : World) (hx : RI w w.heap.size A xs) :
    Calls Tryz.prog 50 #[.agg #[.int .i64 p, .int .i64 q, .int .i64 g], .slice A xs.length c] w fun en w' => en = .returned (.bool (comB p q xs)) ∧ Below w.heap.size w w' := by
  have HG := Lib.hid hG
  clear hG
  have hT0 : Below w.heap.size w (w.alloc (.cells #[.int .i64 p, .int .i64 q, .int .i64 g] 31)) := by repeat (first | exact Below.refl _ _ | refine bnew ?_ _)
  go_enter Tryz.func50, Tryz.ntmps50
  go_wp2_with fail
  refine (within_any _ _ _ _).mono ?_
  rintro e1 w1 ⟨rfl, rfl⟩
  rcases Bool.eq_false_or_eq_true (inr xs.length 1 7) with h | h
  rotate_left
  · have hR := Lib.hid (show comB p q xs = false by unfold comB; rw [h]; simp)
    go_wp2
    go_ret
    exact ⟨ret_bool hR.out.symm, hT0⟩
  have hR := Lib.hid (show comB p q xs = elemsB p q xs by unfold comB; rw [h]; simp)
  go_wp2_with fail
  refine (hasAll_any p q g HG.out _ _ xs hl _ (hx.next (by repeat (first | exact hT0 | refine bnew ?_ _ | refine Below.drew ?_ | refine Below.drewN ?_ _)))).mono ?_
  rintro e2 w2 ⟨rfl, hb2⟩
  have hT2 : Below w.heap.size w w2 := bnext (by repeat (first | exact hT0 | refine bnew ?_ _ | refine Below.drew ?_ | refine Below.drewN ?_ _)) hb2
  have c2_0 : w2.cell? ⟨w.heap.size, 0, none⟩ = some (.int .i64 p) := by
    refine cell_keep hb2 ?_
    repeat (first | with_reducible assumption | (refine cell_new' ?_ _ _ _ rfl; focus (simp; done)) | with_reducible refine cell_keep (below_new _ _) ?_)
  have c2_1 : w2.cell? ⟨w.heap.size, 1, none⟩ = some (.int .i64 q) := by
    refine cell_keep hb2 ?_
    repeat (first | with_reducible assumption | (refine cell_new' ?_ _ _ _ rfl; focus (simp; done)) | with_reducible refine cell_keep (below_new _ _) ?_)
  have c2_2 : w2.cell? ⟨w.heap.size, 2, none⟩ = some (.int .i64 g) := by
    refine cell_keep hb2 ?_
    repeat (first | with_reducible assumption | (refine cell_new' ?_ _ _ _ rfl; focus (simp; done)) | with_reducible refine cell_keep (below_new _ _) ?_)
  go_wp2
  go_ret
  exact ⟨ret_bool hR.out.symm, hT2⟩
set_option maxHeartbeats 400000 in
theorem sCommits_any (p q g : Int) (A : Option Addr) (c : Nat) (xs : List Int) (hl : xs.length ≤ 9223372036854775807) (hG : M.Grp p q g) (w : World) (hx : RI w w.heap.size A xs) :
    Calls Tryz.prog 47 #[.agg #[.int .i64 p, .int .i64 q, .int .i64 g], .slice A xs.length c] w fun en w' => en = .returned (.bool (comB p q xs)) ∧ Below w.heap.size w w' := by
  have HG := Lib.hid hG
  clear hG
  have hT0 : Below w.heap.size w (w.alloc (.cells #[.int .i64 p, .int .i64 q, .int .i64 g] 31)) := by repeat (first | exact Below.refl _ _ | refine bnew ?_ _)
  go_enter Tryz.func47, Tryz.ntmps47
  go_wp2_with fail
  refine (l1In_any _ _ _ _).mono ?_
  rintro e1 w1 ⟨rfl, rfl⟩
  rcases Bool.eq_false_or_eq_true (inr xs.length 1 7) with h | h
  rotate_left
  · have hR := Lib.hid (show comB p q xs = false by unfold comB; rw [h]; simp)
    go_wp2
    go_ret
    exact ⟨ret_bool hR.out.symm, hT0⟩
  have hR := Lib.hid (show comB p q xs = elemsB p q xs by unfold comB; rw [h]; simp)
  go_wp2_with fail
  refine (gIs_any p q g HG.out _ _ xs hl _ (hx.next (by repeat (first | exact hT0 | refine bnew ?_ _ | refine Below.drew ?_ | refine Below.drewN ?_ _)))).mono ?_
  rintro e2 w2 ⟨rfl, hb2⟩
  have hT2 : Below w.heap.size w w2 := bnext (by repeat (first | exact hT0 | refine bnew ?_ _ | refine Below.drew ?_ | refine Below.drewN ?_ _)) hb2
  have c2_0 : w2.cell? ⟨w.heap.size, 0, none⟩ = some (.int .i64 p) := by
    refine cell_keep hb2 ?_
    repeat (first | with_reducible assumption | (refine cell_new' ?_ _ _ _ rfl; focus (simp; done)) | with_reducible refine cell_keep (below_new _ _) ?_)
  have c2_1 : w2.cell? ⟨w.heap.size, 1, none⟩ = some (.int .i64 q) := by
    refine cell_keep hb2 ?_
    repeat (first | with_reducible assumption | (refine cell_new' ?_ _ _ _ rfl; focus (simp; done)) | with_reducible refine cell_keep (below_new _ _) ?_)
  have c2_2 : w2.cell? ⟨w.heap.size, 2, none⟩ = some (.int .i64 g) := by
    refine cell_keep hb2 ?_
    repeat (first | with_reducible assumption | (refine cell_new' ?_ _ _ _ rfl; focus (simp; done)) | with_reducible refine cell_keep (below_new _ _) ?_)
  go_wp2
  go_ret
  exact ⟨ret_bool hR.out.symm, hT2⟩
theorem isTrustee_any (i : Int) (w : World) : Calls Tryz.prog 37 #[.int .i64 i] w fun en w' => en = .returned (.bool (inr i 1 7)) ∧ w = w' := by
  go_enter Tryz.func37, Tryz.ntmps37
  go_wp2_with fail
  refine (within_any _ _ _ _).mono ?_
  rintro e1 w1 ⟨rfl, rfl⟩
  go_wp2
  go_ret
  exact ⟨rfl, rfl⟩
end Go.Proofs.YtgnnmifpfgpllaaGreat
