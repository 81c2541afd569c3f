/- Walks: the key of a trustee. -/
import Derived.Test.YtiegpbpijfmhdaaS2
namespace Go.Proofs.Ytiegpbpijfmhdaa
open Go.RowKit
noncomputable def trK (p q g : Int) (l : List Int) (i : Int) : Int × Bool := if inr i 1 7 = true then comAt p q g l i else (0, false)
set_option maxHeartbeats 400000 in
theorem trusteeKeyI (p q g kk i : Int) (Q A E : Option Addr) (cq c ce : Nat) (kq kc ks : List Int) (hl : kc.length ≤ 9223372036854775807) (w : World) (hx : RI w w.heap.size A kc) :
    Calls Try.prog 28 #[.agg #[.int .i64 p, .int .i64 q, .int .i64 g], .agg #[.slice Q kq.length cq, .int .i64 kk, .slice A kc.length c, .slice E ks.length ce], .int .i64 i] w fun en w' => en = .returned (.tuple #[.int .i64 (trK p q g kc i).1, .bool (trK p q g kc i).2]) ∧ Below w.heap.size w w' := by
  have hT0 : Below w.heap.size w ((w.alloc (.cells #[.int .i64 p, .int .i64 q, .int .i64 g] 27)).alloc (.cells #[.slice Q kq.length cq, .int .i64 kk, .slice A kc.length c, .slice E ks.length ce] 52)) := by repeat (first | exact Below.refl _ _ | refine bnew ?_ _)
  go_enter Try.func28, Try.ntmps28
  go_wp2_with fail
  refine (isTrustee_any i _).mono ?_
  rintro e1 w1 ⟨rfl, rfl⟩
  rcases Bool.eq_false_or_eq_true (inr i 1 7) with h1 | h1
  rotate_left
  · have hR := Lib.hid (show trK p q g kc i = (0, false) by unfold trK; rw [h1]; rfl)
    go_wp2
    go_ret2
    exact ⟨ret_ib (by rw [hR.out]) (by rw [hR.out]), hT0⟩
  have hR := Lib.hid (show trK p q g kc i = comAt p q g kc i by unfold trK; rw [if_pos h1])
  go_wp2_with fail
  refine (commitAtApiI i p q g _ _ kc hl _ (hx.next (by repeat (first | exact hT0 | refine bnew ?_ _ | refine Below.drew ?_ | refine Below.drewN ?_ _ | (refine below_set _ ?_ ?_; rotate_left; focus (first | omega | (simp; done) | (simp <;> omega))))))).mono ?_
  rintro e2 w2 ⟨rfl, hb2⟩
  have hT2 : Below w.heap.size w w2 := bnext (by repeat (first | exact hT0 | refine bnew ?_ _ | refine Below.drew ?_ | refine Below.drewN ?_ _ | (refine below_set _ ?_ ?_; rotate_left; focus (first | omega | (simp; done) | (simp <;> omega))))) hb2
  have c2_0 : w2.cell? ⟨w.heap.size, 0, none⟩ = some (.int .i64 p) := by
    refine cell_keep hb2 ?_
    repeat (first | with_reducible assumption | (refine cell_new' ?_ _ _ _ rfl; focus (simp; done)) | with_reducible refine cell_keep (below_new _ _) ?_ | (with_reducible apply set1b; with_reducible assumption) | (with_reducible refine (sc_other _ ?_).trans ?_; focus (simp; done)))
  have c2_1 : w2.cell? ⟨w.heap.size, 1, none⟩ = some (.int .i64 q) := by
    refine cell_keep hb2 ?_
    repeat (first | with_reducible assumption | (refine cell_new' ?_ _ _ _ rfl; focus (simp; done)) | with_reducible refine cell_keep (below_new _ _) ?_ | (with_reducible apply set1b; with_reducible assumption) | (with_reducible refine (sc_other _ ?_).trans ?_; focus (simp; done)))
  have c2_2 : w2.cell? ⟨w.heap.size, 2, none⟩ = some (.int .i64 g) := by
    refine cell_keep hb2 ?_
    repeat (first | with_reducible assumption | (refine cell_new' ?_ _ _ _ rfl; focus (simp; done)) | with_reducible refine cell_keep (below_new _ _) ?_ | (with_reducible apply set1b; with_reducible assumption) | (with_reducible refine (sc_other _ ?_).trans ?_; focus (simp; done)))
  have c2_3 : w2.cell? ⟨w.heap.size + 1, 0, none⟩ = some (.slice Q kq.length cq) := by
    refine cell_keep hb2 ?_
    repeat (first | with_reducible assumption | (refine cell_new' ?_ _ _ _ rfl; focus (simp; done)) | with_reducible refine cell_keep (below_new _ _) ?_ | (with_reducible apply set1b; with_reducible assumption) | (with_reducible refine (sc_other _ ?_).trans ?_; focus (simp; done)))
  have c2_4 : w2.cell? ⟨w.heap.size + 1, 1, none⟩ = some (.int .i64 kk) := by
    refine cell_keep hb2 ?_
    repeat (first | with_reducible assumption | (refine cell_new' ?_ _ _ _ rfl; focus (simp; done)) | with_reducible refine cell_keep (below_new _ _) ?_ | (with_reducible apply set1b; with_reducible assumption) | (with_reducible refine (sc_other _ ?_).trans ?_; focus (simp; done)))
  have c2_5 : w2.cell? ⟨w.heap.size + 1, 2, none⟩ = some (.slice A kc.length c) := by
    refine cell_keep hb2 ?_
    repeat (first | with_reducible assumption | (refine cell_new' ?_ _ _ _ rfl; focus (simp; done)) | with_reducible refine cell_keep (below_new _ _) ?_ | (with_reducible apply set1b; with_reducible assumption) | (with_reducible refine (sc_other _ ?_).trans ?_; focus (simp; done)))
  have c2_6 : w2.cell? ⟨w.heap.size + 1, 3, none⟩ = some (.slice E ks.length ce) := by
    refine cell_keep hb2 ?_
    repeat (first | with_reducible assumption | (refine cell_new' ?_ _ _ _ rfl; focus (simp; done)) | with_reducible refine cell_keep (below_new _ _) ?_ | (with_reducible apply set1b; with_reducible assumption) | (with_reducible refine (sc_other _ ?_).trans ?_; focus (simp; done)))
  go_wp2
  go_ret2
  exact ⟨ret_ib (by rw [hR.out]) (by rw [hR.out]), hT2⟩
set_option maxHeartbeats 400000 in
theorem trusteeKeyS (p q g kk i : Int) (Q A E : Option Addr) (cq c ce : Nat) (kq kc ks : List Int) (hl : kc.length ≤ 9223372036854775807) (w : World) (hx : RI w w.heap.size A kc) :
    Calls Try.prog 26 #[.agg #[.int .i64 p, .int .i64 q, .int .i64 g], .agg #[.slice Q kq.length cq, .int .i64 kk, .slice A kc.length c, .slice E ks.length ce], .int .i64 i] w fun en w' => en = .returned (.tuple #[.int .i64 (trK p q g kc i).1, .bool (trK p q g kc i).2]) ∧ Below w.heap.size w w' := by
  have hT0 : Below w.heap.size w ((w.alloc (.cells #[.int .i64 p, .int .i64 q, .int .i64 g] 27)).alloc (.cells #[.slice Q kq.length cq, .int .i64 kk, .slice A kc.length c, .slice E ks.length ce] 52)) := by repeat (first | exact Below.refl _ _ | refine bnew ?_ _)
  go_enter Try.func26, Try.ntmps26
  go_wp2_with fail
  refine (l1In_any _ _ _ _).mono ?_
  rintro e1 w1 ⟨rfl, rfl⟩
  rcases Bool.eq_false_or_eq_true (inr i 1 7) with h1 | h1
  rotate_left
  · have hR := Lib.hid (show trK p q g kc i = (0, false) by unfold trK; rw [h1]; rfl)
    go_wp2
    go_ret2
    exact ⟨ret_ib (by rw [hR.out]) (by rw [hR.out]), hT0⟩
  have hR := Lib.hid (show trK p q g kc i = comAt p q g kc i by unfold trK; rw [if_pos h1])
  go_wp2_with fail
  refine (commitAtApiS i p q g _ _ kc hl _ (hx.next (by repeat (first | exact hT0 | refine bnew ?_ _ | refine Below.drew ?_ | refine Below.drewN ?_ _ | (refine below_set _ ?_ ?_; rotate_left; focus (first | omega | (simp; done) | (simp <;> omega))))))).mono ?_
  rintro e2 w2 ⟨rfl, hb2⟩
  have hT2 : Below w.heap.size w w2 := bnext (by repeat (first | exact hT0 | refine bnew ?_ _ | refine Below.drew ?_ | refine Below.drewN ?_ _ | (refine below_set _ ?_ ?_; rotate_left; focus (first | omega | (simp; done) | (simp <;> omega))))) hb2
  have c2_0 : w2.cell? ⟨w.heap.size, 0, none⟩ = some (.int .i64 p) := by
    refine cell_keep hb2 ?_
    repeat (first | with_reducible assumption | (refine cell_new' ?_ _ _ _ rfl; focus (simp; done)) | with_reducible refine cell_keep (below_new _ _) ?_ | (with_reducible apply set1b; with_reducible assumption) | (with_reducible refine (sc_other _ ?_).trans ?_; focus (simp; done)))
  have c2_1 : w2.cell? ⟨w.heap.size, 1, none⟩ = some (.int .i64 q) := by
    refine cell_keep hb2 ?_
    repeat (first | with_reducible assumption | (refine cell_new' ?_ _ _ _ rfl; focus (simp; done)) | with_reducible refine cell_keep (below_new _ _) ?_ | (with_reducible apply set1b; with_reducible assumption) | (with_reducible refine (sc_other _ ?_).trans ?_; focus (simp; done)))
  have c2_2 : w2.cell? ⟨w.heap.size, 2, none⟩ = some (.int .i64 g) := by
    refine cell_keep hb2 ?_
    repeat (first | with_reducible assumption | (refine cell_new' ?_ _ _ _ rfl; focus (simp; done)) | with_reducible refine cell_keep (below_new _ _) ?_ | (with_reducible apply set1b; with_reducible assumption) | (with_reducible refine (sc_other _ ?_).trans ?_; focus (simp; done)))
  have c2_3 : w2.cell? ⟨w.heap.size + 1, 0, none⟩ = some (.slice Q kq.length cq) := by
    refine cell_keep hb2 ?_
    repeat (first | with_reducible assumption | (refine cell_new' ?_ _ _ _ rfl; focus (simp; done)) | with_reducible refine cell_keep (below_new _ _) ?_ | (with_reducible apply set1b; with_reducible assumption) | (with_reducible refine (sc_other _ ?_).trans ?_; focus (simp; done)))
  have c2_4 : w2.cell? ⟨w.heap.size + 1, 1, none⟩ = some (.int .i64 kk) := by
    refine cell_keep hb2 ?_
    repeat (first | with_reducible assumption | (refine cell_new' ?_ _ _ _ rfl; focus (simp; done)) | with_reducible refine cell_keep (below_new _ _) ?_ | (with_reducible apply set1b; with_reducible assumption) | (with_reducible refine (sc_other _ ?_).trans ?_; focus (simp; done)))
  have c2_5 : w2.cell? ⟨w.heap.size + 1, 2, none⟩ = some (.slice A kc.length c) := by
    refine cell_keep hb2 ?_
    repeat (first | with_reducible assumption | (refine cell_new' ?_ _ _ _ rfl; focus (simp; done)) | with_reducible refine cell_keep (below_new _ _) ?_ | (with_reducible apply set1b; with_reducible assumption) | (with_reducible refine (sc_other _ ?_).trans ?_; focus (simp; done)))
  have c2_6 : w2.cell? ⟨w.heap.size + 1, 3, none⟩ = some (.slice E ks.length ce) := by
    refine cell_keep hb2 ?_
    repeat (first | with_reducible assumption | (refine cell_new' ?_ _ _ _ rfl; focus (simp; done)) | with_reducible refine cell_keep (below_new _ _) ?_ | (with_reducible apply set1b; with_reducible assumption) | (with_reducible refine (sc_other _ ?_).trans ?_; focus (simp; done)))
  go_wp2
  go_ret2
  exact ⟨ret_ib (by rw [hR.out]) (by rw [hR.out]), hT2⟩
end Go.Proofs.Ytiegpbpijfmhdaa
