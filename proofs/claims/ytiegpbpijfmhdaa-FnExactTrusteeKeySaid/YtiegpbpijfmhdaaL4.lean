/- Walks of the laws' own functions: structs with slices. -/
import Derived.Test.YtiegpbpijfmhdaaL2
import Derived.Test.YtiegpbpijfmhdaaKit5
namespace Go.Proofs.Ytiegpbpijfmhdaa
open Go.RowKit
/-- what toDealing says: the struct, its slices of their own -/
def RetDealing (w : World) (cs : List Int) (ss : List Int) (e : Ending) (w' : World) : Prop := ∃ A_cs c_cs A_ss c_ss, e = .returned (.agg #[.slice A_cs cs.length c_cs, .slice A_ss ss.length c_ss]) ∧ OIs w' w.heap.size [(.slice A_cs cs.length c_cs, cs), (.slice A_ss ss.length c_ss, ss)] ∧ Below w.heap.size w w'
set_option maxHeartbeats 3200000 in
theorem toDealing_any (A_cs : Option Addr) (c_cs : Nat) (cs : List Int) (hl_cs : cs.length ≤ 35184372088832) (A_ss : Option Addr) (c_ss : Nat) (ss : List Int) (hl_ss : ss.length ≤ 35184372088832) (w : World) (hx_cs : RI w w.heap.size A_cs cs) (hx_ss : RI w w.heap.size A_ss ss) :
    Calls Try.prog 49 #[.agg #[.slice A_cs cs.length c_cs, .slice A_ss ss.length c_ss]] w (RetDealing w cs ss) := by
  have hT0 : Below w.heap.size w (((w.alloc (.cells #[.slice A_cs cs.length c_cs, .slice A_ss ss.length c_ss] 68)).alloc (.cells #[.slice none 0 0, .slice none 0 0] 35)).alloc (.cells #[.slice none 0 0, .slice none 0 0] 35)) := by repeat (first | exact Below.refl _ _ | refine bnew ?_ _)
  go_enter Try.func49, Try.ntmps49
  go_wp2_with fail
  refine (toIntS_any A_cs c_cs cs hl_cs _ (hx_cs.next (by repeat (first | exact hT0 | refine bnew ?_ _ | refine Below.drew ?_ | refine Below.drewN ?_ _ | (refine below_set _ ?_ ?_; rotate_left; focus (first | omega | (simp; done) | (simp <;> omega))))))).mono ?_
  rintro e1 w1 ⟨B_cs, d_cs, rfl, ho_cs, hb1⟩
  have hT1 : Below w.heap.size w w1 := bnext (by repeat (first | exact hT0 | refine bnew ?_ _ | refine Below.drew ?_ | refine Below.drewN ?_ _ | (refine below_set _ ?_ ?_; rotate_left; focus (first | omega | (simp; done) | (simp <;> omega))))) hb1
  have c1_0 : w1.cell? ⟨w.heap.size, 0, none⟩ = some (.slice A_cs cs.length c_cs) := by
    refine cell_keep hb1 ?_
    repeat (first | with_reducible assumption | (with_reducible apply set1b; with_reducible assumption) | (with_reducible refine (sc_other _ ?_).trans ?_; focus (simp; done)) | (refine cell_new' ?_ _ _ _ rfl; focus (simp; done)) | with_reducible refine cell_keep (below_new _ _) ?_)
  have c1_1 : w1.cell? ⟨w.heap.size, 1, none⟩ = some (.slice A_ss ss.length c_ss) := by
    refine cell_keep hb1 ?_
    repeat (first | with_reducible assumption | (with_reducible apply set1b; with_reducible assumption) | (with_reducible refine (sc_other _ ?_).trans ?_; focus (simp; done)) | (refine cell_new' ?_ _ _ _ rfl; focus (simp; done)) | with_reducible refine cell_keep (below_new _ _) ?_)
  have c1_2 : w1.cell? ⟨w.heap.size + 1, 0, none⟩ = some (.slice none 0 0) := by
    refine cell_keep hb1 ?_
    repeat (first | with_reducible assumption | (with_reducible apply set1b; with_reducible assumption) | (with_reducible refine (sc_other _ ?_).trans ?_; focus (simp; done)) | (refine cell_new' ?_ _ _ _ rfl; focus (simp; done)) | with_reducible refine cell_keep (below_new _ _) ?_)
  have f1_2 : w1.frozen? ⟨w.heap.size + 1, 0, none⟩ = false := by
    refine frozen_keep (v := .slice none 0 0) hb1 ?_ ?_
    · repeat (first | with_reducible assumption | (with_reducible apply set1b; with_reducible assumption) | (with_reducible refine (sc_other _ ?_).trans ?_; focus (simp; done)) | (refine cell_new' ?_ _ _ _ rfl; focus (simp; done)) | with_reducible refine cell_keep (below_new _ _) ?_)
    · repeat (first | with_reducible assumption | with_reducible refine frozen_set _ ?_ | (refine frozen_new' ?_ _ _ _; focus (simp; done)) | (refine frozen_alloc ?_ ?_; focus (simp; done)) | (refine frozen_keep (below_new _ _) (by with_reducible assumption) ?_))
  have c1_3 : w1.cell? ⟨w.heap.size + 1, 1, none⟩ = some (.slice none 0 0) := by
    refine cell_keep hb1 ?_
    repeat (first | with_reducible assumption | (with_reducible apply set1b; with_reducible assumption) | (with_reducible refine (sc_other _ ?_).trans ?_; focus (simp; done)) | (refine cell_new' ?_ _ _ _ rfl; focus (simp; done)) | with_reducible refine cell_keep (below_new _ _) ?_)
  have f1_3 : w1.frozen? ⟨w.heap.size + 1, 1, none⟩ = false := by
    refine frozen_keep (v := .slice none 0 0) hb1 ?_ ?_
    · repeat (first | with_reducible assumption | (with_reducible apply set1b; with_reducible assumption) | (with_reducible refine (sc_other _ ?_).trans ?_; focus (simp; done)) | (refine cell_new' ?_ _ _ _ rfl; focus (simp; done)) | with_reducible refine cell_keep (below_new _ _) ?_)
    · repeat (first | with_reducible assumption | with_reducible refine frozen_set _ ?_ | (refine frozen_new' ?_ _ _ _; focus (simp; done)) | (refine frozen_alloc ?_ ?_; focus (simp; done)) | (refine frozen_keep (below_new _ _) (by with_reducible assumption) ?_))
  have c1_4 : w1.cell? ⟨w.heap.size + 1 + 1, 0, none⟩ = some (.slice none 0 0) := by
    refine cell_keep hb1 ?_
    repeat (first | with_reducible assumption | (with_reducible apply set1b; with_reducible assumption) | (with_reducible refine (sc_other _ ?_).trans ?_; focus (simp; done)) | (refine cell_new' ?_ _ _ _ rfl; focus (simp; done)) | with_reducible refine cell_keep (below_new _ _) ?_)
  have f1_4 : w1.frozen? ⟨w.heap.size + 1 + 1, 0, none⟩ = false := by
    refine frozen_keep (v := .slice none 0 0) hb1 ?_ ?_
    · repeat (first | with_reducible assumption | (with_reducible apply set1b; with_reducible assumption) | (with_reducible refine (sc_other _ ?_).trans ?_; focus (simp; done)) | (refine cell_new' ?_ _ _ _ rfl; focus (simp; done)) | with_reducible refine cell_keep (below_new _ _) ?_)
    · repeat (first | with_reducible assumption | with_reducible refine frozen_set _ ?_ | (refine frozen_new' ?_ _ _ _; focus (simp; done)) | (refine frozen_alloc ?_ ?_; focus (simp; done)) | (refine frozen_keep (below_new _ _) (by with_reducible assumption) ?_))
  have c1_5 : w1.cell? ⟨w.heap.size + 1 + 1, 1, none⟩ = some (.slice none 0 0) := by
    refine cell_keep hb1 ?_
    repeat (first | with_reducible assumption | (with_reducible apply set1b; with_reducible assumption) | (with_reducible refine (sc_other _ ?_).trans ?_; focus (simp; done)) | (refine cell_new' ?_ _ _ _ rfl; focus (simp; done)) | with_reducible refine cell_keep (below_new _ _) ?_)
  have f1_5 : w1.frozen? ⟨w.heap.size + 1 + 1, 1, none⟩ = false := by
    refine frozen_keep (v := .slice none 0 0) hb1 ?_ ?_
    · repeat (first | with_reducible assumption | (with_reducible apply set1b; with_reducible assumption) | (with_reducible refine (sc_other _ ?_).trans ?_; focus (simp; done)) | (refine cell_new' ?_ _ _ _ rfl; focus (simp; done)) | with_reducible refine cell_keep (below_new _ _) ?_)
    · repeat (first | with_reducible assumption | with_reducible refine frozen_set _ ?_ | (refine frozen_new' ?_ _ _ _; focus (simp; done)) | (refine frozen_alloc ?_ ?_; focus (simp; done)) | (refine frozen_keep (below_new _ _) (by with_reducible assumption) ?_))
  have lt1 : w.heap.size + 1 + 1 < w1.heap.size := World.block_lt_of_cell? _ _ c1_5
  go_wp2_with fail
  refine (toIntS_any A_ss c_ss ss hl_ss _ (hx_ss.next (by repeat (first | exact hT1 | refine bnew ?_ _ | refine Below.drew ?_ | refine Below.drewN ?_ _ | (refine below_set _ ?_ ?_; rotate_left; focus (first | omega | (simp; done) | (simp <;> omega))))))).mono ?_
  rintro e2 w2 ⟨B_ss, d_ss, rfl, ho_ss, hb2⟩
  have ap_cs_ss : apart (.slice B_cs cs.length d_cs) (.slice B_ss ss.length d_ss) := apart_of ho_cs ho_ss (by simp)
  have hT2 : Below w.heap.size w w2 := bnext (by repeat (first | exact hT1 | refine bnew ?_ _ | refine Below.drew ?_ | refine Below.drewN ?_ _ | (refine below_set _ ?_ ?_; rotate_left; focus (first | omega | (simp; done) | (simp <;> omega))))) hb2
  have d2_0_0 : (w1.setCell ⟨w.heap.size + 1 + 1, 0, none⟩ (.slice B_cs cs.length d_cs)).cell? ⟨w.heap.size, 0, none⟩ = some (.slice A_cs cs.length c_cs) := (sc_other _ (by simp)).trans c1_0
  have d2_0_1 : (w1.setCell ⟨w.heap.size + 1 + 1, 0, none⟩ (.slice B_cs cs.length d_cs)).cell? ⟨w.heap.size, 1, none⟩ = some (.slice A_ss ss.length c_ss) := (sc_other _ (by simp)).trans c1_1
  have d2_0_2 : (w1.setCell ⟨w.heap.size + 1 + 1, 0, none⟩ (.slice B_cs cs.length d_cs)).cell? ⟨w.heap.size + 1, 0, none⟩ = some (.slice none 0 0) := (sc_other _ (by simp)).trans c1_2
  have d2_0_3 : (w1.setCell ⟨w.heap.size + 1 + 1, 0, none⟩ (.slice B_cs cs.length d_cs)).cell? ⟨w.heap.size + 1, 1, none⟩ = some (.slice none 0 0) := (sc_other _ (by simp)).trans c1_3
  have d2_0_4 : (w1.setCell ⟨w.heap.size + 1 + 1, 0, none⟩ (.slice B_cs cs.length d_cs)).cell? ⟨w.heap.size + 1 + 1, 0, none⟩ = some (.slice B_cs cs.length d_cs) := set1b _ c1_4
  have d2_0_5 : (w1.setCell ⟨w.heap.size + 1 + 1, 0, none⟩ (.slice B_cs cs.length d_cs)).cell? ⟨w.heap.size + 1 + 1, 1, none⟩ = some (.slice none 0 0) := (sc_other _ (by simp)).trans c1_5
  have c2_0 : w2.cell? ⟨w.heap.size, 0, none⟩ = some (.slice A_cs cs.length c_cs) := by
    refine cell_keep hb2 ?_
    repeat (first | with_reducible assumption | (with_reducible apply set1b; with_reducible assumption) | (with_reducible refine (sc_other _ ?_).trans ?_; focus (simp; done)) | (refine cell_new' ?_ _ _ _ rfl; focus (simp; done)) | with_reducible refine cell_keep (below_new _ _) ?_)
  have c2_1 : w2.cell? ⟨w.heap.size, 1, none⟩ = some (.slice A_ss ss.length c_ss) := by
    refine cell_keep hb2 ?_
    repeat (first | with_reducible assumption | (with_reducible apply set1b; with_reducible assumption) | (with_reducible refine (sc_other _ ?_).trans ?_; focus (simp; done)) | (refine cell_new' ?_ _ _ _ rfl; focus (simp; done)) | with_reducible refine cell_keep (below_new _ _) ?_)
  have c2_2 : w2.cell? ⟨w.heap.size + 1, 0, none⟩ = some (.slice none 0 0) := by
    refine cell_keep hb2 ?_
    repeat (first | with_reducible assumption | (with_reducible apply set1b; with_reducible assumption) | (with_reducible refine (sc_other _ ?_).trans ?_; focus (simp; done)) | (refine cell_new' ?_ _ _ _ rfl; focus (simp; done)) | with_reducible refine cell_keep (below_new _ _) ?_)
  have f2_2 : w2.frozen? ⟨w.heap.size + 1, 0, none⟩ = false := by
    refine frozen_keep (v := .slice none 0 0) hb2 ?_ ?_
    · repeat (first | with_reducible assumption | (with_reducible apply set1b; with_reducible assumption) | (with_reducible refine (sc_other _ ?_).trans ?_; focus (simp; done)) | (refine cell_new' ?_ _ _ _ rfl; focus (simp; done)) | with_reducible refine cell_keep (below_new _ _) ?_)
    · repeat (first | with_reducible assumption | with_reducible refine frozen_set _ ?_ | (refine frozen_new' ?_ _ _ _; focus (simp; done)) | (refine frozen_alloc ?_ ?_; focus (simp; done)) | (refine frozen_keep (below_new _ _) (by with_reducible assumption) ?_))
  have c2_3 : w2.cell? ⟨w.heap.size + 1, 1, none⟩ = some (.slice none 0 0) := by
    refine cell_keep hb2 ?_
    repeat (first | with_reducible assumption | (with_reducible apply set1b; with_reducible assumption) | (with_reducible refine (sc_other _ ?_).trans ?_; focus (simp; done)) | (refine cell_new' ?_ _ _ _ rfl; focus (simp; done)) | with_reducible refine cell_keep (below_new _ _) ?_)
  have f2_3 : w2.frozen? ⟨w.heap.size + 1, 1, none⟩ = false := by
    refine frozen_keep (v := .slice none 0 0) hb2 ?_ ?_
    · repeat (first | with_reducible assumption | (with_reducible apply set1b; with_reducible assumption) | (with_reducible refine (sc_other _ ?_).trans ?_; focus (simp; done)) | (refine cell_new' ?_ _ _ _ rfl; focus (simp; done)) | with_reducible refine cell_keep (below_new _ _) ?_)
    · repeat (first | with_reducible assumption | with_reducible refine frozen_set _ ?_ | (refine frozen_new' ?_ _ _ _; focus (simp; done)) | (refine frozen_alloc ?_ ?_; focus (simp; done)) | (refine frozen_keep (below_new _ _) (by with_reducible assumption) ?_))
  have c2_4 : w2.cell? ⟨w.heap.size + 1 + 1, 0, none⟩ = some (.slice B_cs cs.length d_cs) := by
    refine cell_keep hb2 ?_
    repeat (first | with_reducible assumption | (with_reducible apply set1b; with_reducible assumption) | (with_reducible refine (sc_other _ ?_).trans ?_; focus (simp; done)) | (refine cell_new' ?_ _ _ _ rfl; focus (simp; done)) | with_reducible refine cell_keep (below_new _ _) ?_)
  have f2_4 : w2.frozen? ⟨w.heap.size + 1 + 1, 0, none⟩ = false := by
    refine frozen_keep (v := .slice B_cs cs.length d_cs) hb2 ?_ ?_
    · repeat (first | with_reducible assumption | (with_reducible apply set1b; with_reducible assumption) | (with_reducible refine (sc_other _ ?_).trans ?_; focus (simp; done)) | (refine cell_new' ?_ _ _ _ rfl; focus (simp; done)) | with_reducible refine cell_keep (below_new _ _) ?_)
    · repeat (first | with_reducible assumption | with_reducible refine frozen_set _ ?_ | (refine frozen_new' ?_ _ _ _; focus (simp; done)) | (refine frozen_alloc ?_ ?_; focus (simp; done)) | (refine frozen_keep (below_new _ _) (by with_reducible assumption) ?_))
  have c2_5 : w2.cell? ⟨w.heap.size + 1 + 1, 1, none⟩ = some (.slice none 0 0) := by
    refine cell_keep hb2 ?_
    repeat (first | with_reducible assumption | (with_reducible apply set1b; with_reducible assumption) | (with_reducible refine (sc_other _ ?_).trans ?_; focus (simp; done)) | (refine cell_new' ?_ _ _ _ rfl; focus (simp; done)) | with_reducible refine cell_keep (below_new _ _) ?_)
  have f2_5 : w2.frozen? ⟨w.heap.size + 1 + 1, 1, none⟩ = false := by
    refine frozen_keep (v := .slice none 0 0) hb2 ?_ ?_
    · repeat (first | with_reducible assumption | (with_reducible apply set1b; with_reducible assumption) | (with_reducible refine (sc_other _ ?_).trans ?_; focus (simp; done)) | (refine cell_new' ?_ _ _ _ rfl; focus (simp; done)) | with_reducible refine cell_keep (below_new _ _) ?_)
    · repeat (first | with_reducible assumption | with_reducible refine frozen_set _ ?_ | (refine frozen_new' ?_ _ _ _; focus (simp; done)) | (refine frozen_alloc ?_ ?_; focus (simp; done)) | (refine frozen_keep (below_new _ _) (by with_reducible assumption) ?_))
  clear d2_0_0 d2_0_1 d2_0_2 d2_0_3 d2_0_4 d2_0_5
  clear c1_0 c1_1 c1_2 f1_2 c1_3 f1_3 c1_4 f1_4 c1_5 f1_5
  have hS2 : Below (w1.setCell ⟨w.heap.size + 1 + 1, 0, none⟩ (.slice B_cs cs.length d_cs)).heap.size (w1.setCell ⟨w.heap.size + 1 + 1, 0, none⟩ (.slice B_cs cs.length d_cs)) w2 := bnext (by repeat (first | exact Below.refl _ _ | refine bnew ?_ _ | refine Below.drew ?_ | refine Below.drewN ?_ _ | (refine below_set _ ?_ ?_; rotate_left; focus (first | omega | (simp; done) | (simp <;> omega))))) hb2
  have ho_cs_2 := (ho_cs.set_ ⟨w.heap.size + 1 + 1, 0, none⟩ (.slice B_cs cs.length d_cs) (by simp <;> omega)).below hS2
  clear ho_cs
  have lt2 : w.heap.size + 1 + 1 < w2.heap.size := World.block_lt_of_cell? _ _ c2_5
  go_wp2
  have d3_0_0 : (w2.setCell ⟨w.heap.size + 1 + 1, 1, none⟩ (.slice B_ss ss.length d_ss)).cell? ⟨w.heap.size, 0, none⟩ = some (.slice A_cs cs.length c_cs) := (sc_other _ (by simp)).trans c2_0
  have d3_0_1 : (w2.setCell ⟨w.heap.size + 1 + 1, 1, none⟩ (.slice B_ss ss.length d_ss)).cell? ⟨w.heap.size, 1, none⟩ = some (.slice A_ss ss.length c_ss) := (sc_other _ (by simp)).trans c2_1
  have d3_0_2 : (w2.setCell ⟨w.heap.size + 1 + 1, 1, none⟩ (.slice B_ss ss.length d_ss)).cell? ⟨w.heap.size + 1, 0, none⟩ = some (.slice none 0 0) := (sc_other _ (by simp)).trans c2_2
  have d3_0_3 : (w2.setCell ⟨w.heap.size + 1 + 1, 1, none⟩ (.slice B_ss ss.length d_ss)).cell? ⟨w.heap.size + 1, 1, none⟩ = some (.slice none 0 0) := (sc_other _ (by simp)).trans c2_3
  have d3_0_4 : (w2.setCell ⟨w.heap.size + 1 + 1, 1, none⟩ (.slice B_ss ss.length d_ss)).cell? ⟨w.heap.size + 1 + 1, 0, none⟩ = some (.slice B_cs cs.length d_cs) := (sc_other _ (by simp)).trans c2_4
  have d3_0_5 : (w2.setCell ⟨w.heap.size + 1 + 1, 1, none⟩ (.slice B_ss ss.length d_ss)).cell? ⟨w.heap.size + 1 + 1, 1, none⟩ = some (.slice B_ss ss.length d_ss) := set1b _ c2_5
  have r2 : (w2.setCell ⟨w.heap.size + 1 + 1, 1, none⟩ (.slice B_ss ss.length d_ss)).cell? ⟨w.heap.size + 1, 0, none⟩ = some (.slice none 0 0) := by
    repeat (first | with_reducible assumption | (with_reducible apply set1b; with_reducible assumption) | (with_reducible refine (sc_other _ ?_).trans ?_; focus (simp; done)) | (refine cell_new' ?_ _ _ _ rfl; focus (simp; done)) | with_reducible refine cell_keep (below_new _ _) ?_)
  have r3 : (w2.setCell ⟨w.heap.size + 1 + 1, 1, none⟩ (.slice B_ss ss.length d_ss)).cell? ⟨w.heap.size + 1, 1, none⟩ = some (.slice none 0 0) := by
    repeat (first | with_reducible assumption | (with_reducible apply set1b; with_reducible assumption) | (with_reducible refine (sc_other _ ?_).trans ?_; focus (simp; done)) | (refine cell_new' ?_ _ _ _ rfl; focus (simp; done)) | with_reducible refine cell_keep (below_new _ _) ?_)
  have r4 : (w2.setCell ⟨w.heap.size + 1 + 1, 1, none⟩ (.slice B_ss ss.length d_ss)).cell? ⟨w.heap.size + 1 + 1, 0, none⟩ = some (.slice B_cs cs.length d_cs) := by
    repeat (first | with_reducible assumption | (with_reducible apply set1b; with_reducible assumption) | (with_reducible refine (sc_other _ ?_).trans ?_; focus (simp; done)) | (refine cell_new' ?_ _ _ _ rfl; focus (simp; done)) | with_reducible refine cell_keep (below_new _ _) ?_)
  have r5 : (w2.setCell ⟨w.heap.size + 1 + 1, 1, none⟩ (.slice B_ss ss.length d_ss)).cell? ⟨w.heap.size + 1 + 1, 1, none⟩ = some (.slice B_ss ss.length d_ss) := by
    repeat (first | with_reducible assumption | (with_reducible apply set1b; with_reducible assumption) | (with_reducible refine (sc_other _ ?_).trans ?_; focus (simp; done)) | (refine cell_new' ?_ _ _ _ rfl; focus (simp; done)) | with_reducible refine cell_keep (below_new _ _) ?_)
  have z0 := set1b (W := (w2.setCell ⟨w.heap.size + 1 + 1, 1, none⟩ (.slice B_ss ss.length d_ss))) (b := w.heap.size + 1) (i := 0) (.slice B_cs cs.length d_cs) r2
  have z1 := set1b (W := ((w2.setCell ⟨w.heap.size + 1 + 1, 1, none⟩ (.slice B_ss ss.length d_ss)).setCell ⟨w.heap.size + 1, 0, none⟩ (.slice B_cs cs.length d_cs))) (b := w.heap.size + 1) (i := 1) (.slice B_ss ss.length d_ss) ((sc_other _ (by simp)).trans r3)
  refine bodyPost_ret (v := .agg #[.slice B_cs cs.length d_cs, .slice B_ss ss.length d_ss]) (by simp [results, Try.results49, go_sem, r4, r5, z0, z1]) rfl ⟨B_cs, d_cs, B_ss, d_ss, rfl, ⟨?_, ?_⟩, ?_⟩
  have hq_cs := (((ho_cs_2.set_ ⟨w.heap.size + 1 + 1, 1, none⟩ (.slice B_ss ss.length d_ss) (by simp <;> omega)).set_ ⟨w.heap.size + 1, 0, none⟩ (.slice B_cs cs.length d_cs) (by simp <;> omega)).set_ ⟨w.heap.size + 1, 1, none⟩ (.slice B_ss ss.length d_ss) (by simp <;> omega))
  have hq_ss := (((ho_ss.set_ ⟨w.heap.size + 1 + 1, 1, none⟩ (.slice B_ss ss.length d_ss) (by simp <;> omega)).set_ ⟨w.heap.size + 1, 0, none⟩ (.slice B_cs cs.length d_cs) (by simp <;> omega)).set_ ⟨w.heap.size + 1, 1, none⟩ (.slice B_ss ss.length d_ss) (by simp <;> omega))
  · intro r hr
    simp only [List.mem_cons, List.not_mem_nil, or_false] at hr
    rcases hr with rfl | rfl
    · exact hq_cs.lo (by simp <;> omega)
    · exact hq_ss.lo (by simp <;> omega)
  · simp only [List.pairwise_cons, List.mem_cons, List.not_mem_nil, or_false, forall_eq_or_imp, forall_eq, false_imp_iff, implies_true, and_true, List.Pairwise.nil]
    exact ap_cs_ss
  · exact (by repeat (first | exact hT2 | refine bnew ?_ _ | refine Below.drew ?_ | refine Below.drewN ?_ _ | (refine below_set _ ?_ ?_; rotate_left; focus (first | omega | (simp; done) | (simp <;> omega)))))
theorem szDealing_any (A_cs : Option Addr) (c_cs : Nat) (cs : List Int) (hl_cs : cs.length ≤ 9223372036854775807) (A_ss : Option Addr) (c_ss : Nat) (ss : List Int) (hl_ss : ss.length ≤ 9223372036854775807) (l : Int) (hl : l ≤ 1048576) (h0 : -1 ≤ l) (w : World) :
    Calls Try.prog 46 #[.agg #[.slice A_cs cs.length c_cs, .slice A_ss ss.length c_ss], .int .i64 l] w fun en w' => en = .returned (.int .i64 (if l - cs.length - ss.length < 0 then -1 else l - cs.length - ss.length)) ∧ Below w.heap.size w w' := by
  go_enter Try.func46, Try.ntmps46
  go_wp2_with fail
  refine (szIntS_any A_cs cs.length c_cs (l) (by omega) (by omega) hl_cs _).mono ?_
  rintro e0 w0 ⟨rfl, rfl⟩
  by_cases hz0 : l - cs.length < 0
  · rw [if_pos hz0]
    go_wp2
    go_ret
    exact ⟨ret_int (by first | rfl | rw [if_pos (show (l - cs.length - ss.length : Int) < 0 by omega)]), below_new w _⟩
  rw [if_neg hz0]
  go_wp2_with fail
  refine (szIntS_any A_ss ss.length c_ss (l - cs.length) (by omega) (by omega) hl_ss _).mono ?_
  rintro e1 w1 ⟨rfl, rfl⟩
  by_cases hz1 : l - cs.length - ss.length < 0
  · rw [if_pos hz1]
    go_wp2
    go_ret
    exact ⟨ret_int (by first | rfl | rw [if_pos (show (l - cs.length - ss.length : Int) < 0 by omega)]), below_new w _⟩
  rw [if_neg hz1]
  go_wp2
  go_ret
  exact ⟨ret_int (by first | rfl | rw [if_neg hz1]), below_new w _⟩
set_option maxHeartbeats 400000 in
theorem eqDealing_same (A_cs : Option Addr) (c_cs : Nat) (cs : List Int) (hl_cs : cs.length ≤ 9223372036854775807) (A_ss : Option Addr) (c_ss : Nat) (ss : List Int) (hl_ss : ss.length ≤ 9223372036854775807) (B_cs : Option Addr) (d_cs : Nat) (B_ss : Option Addr) (d_ss : Nat) (w : World) (hx_cs : RI w w.heap.size A_cs cs) (hx_ss : RI w w.heap.size A_ss ss) (hy_cs : RI w w.heap.size B_cs cs) (hy_ss : RI w w.heap.size B_ss ss) :
    Calls Try.prog 18 #[.agg #[.slice A_cs cs.length c_cs, .slice A_ss ss.length c_ss], .agg #[.slice B_cs cs.length d_cs, .slice B_ss ss.length d_ss]] w fun en w' => en = .returned (.bool true) ∧ Below w.heap.size w w' := by
  have hT0 : Below w.heap.size w ((w.alloc (.cells #[.slice A_cs cs.length c_cs, .slice A_ss ss.length c_ss] 35)).alloc (.cells #[.slice B_cs cs.length d_cs, .slice B_ss ss.length d_ss] 35)) := by repeat (first | exact Below.refl _ _ | refine bnew ?_ _)
  go_enter Try.func18, Try.ntmps18
  go_wp2_with fail
  refine (eqIntS_same A_cs B_cs c_cs d_cs cs hl_cs _ (hx_cs.next (by repeat (first | exact hT0 | refine bnew ?_ _ | refine Below.drew ?_ | refine Below.drewN ?_ _ | (refine below_set _ ?_ ?_; rotate_left; focus (first | omega | (simp; done) | (simp <;> omega)))))) (hy_cs.next (by repeat (first | exact hT0 | refine bnew ?_ _ | refine Below.drew ?_ | refine Below.drewN ?_ _ | (refine below_set _ ?_ ?_; rotate_left; focus (first | omega | (simp; done) | (simp <;> omega))))))).mono ?_
  rintro e1 w1 ⟨rfl, hb1⟩
  have hT1 : Below w.heap.size w w1 := bnext (by repeat (first | exact hT0 | refine bnew ?_ _ | refine Below.drew ?_ | refine Below.drewN ?_ _ | (refine below_set _ ?_ ?_; rotate_left; focus (first | omega | (simp; done) | (simp <;> omega))))) hb1
  have c1_0 : w1.cell? ⟨w.heap.size, 0, none⟩ = some (.slice A_cs cs.length c_cs) := by
    refine cell_keep hb1 ?_
    repeat (first | with_reducible assumption | (with_reducible apply set1b; with_reducible assumption) | (with_reducible refine (sc_other _ ?_).trans ?_; focus (simp; done)) | (refine cell_new' ?_ _ _ _ rfl; focus (simp; done)) | with_reducible refine cell_keep (below_new _ _) ?_)
  have c1_1 : w1.cell? ⟨w.heap.size, 1, none⟩ = some (.slice A_ss ss.length c_ss) := by
    refine cell_keep hb1 ?_
    repeat (first | with_reducible assumption | (with_reducible apply set1b; with_reducible assumption) | (with_reducible refine (sc_other _ ?_).trans ?_; focus (simp; done)) | (refine cell_new' ?_ _ _ _ rfl; focus (simp; done)) | with_reducible refine cell_keep (below_new _ _) ?_)
  have c1_2 : w1.cell? ⟨w.heap.size + 1, 0, none⟩ = some (.slice B_cs cs.length d_cs) := by
    refine cell_keep hb1 ?_
    repeat (first | with_reducible assumption | (with_reducible apply set1b; with_reducible assumption) | (with_reducible refine (sc_other _ ?_).trans ?_; focus (simp; done)) | (refine cell_new' ?_ _ _ _ rfl; focus (simp; done)) | with_reducible refine cell_keep (below_new _ _) ?_)
  have c1_3 : w1.cell? ⟨w.heap.size + 1, 1, none⟩ = some (.slice B_ss ss.length d_ss) := by
    refine cell_keep hb1 ?_
    repeat (first | with_reducible assumption | (with_reducible apply set1b; with_reducible assumption) | (with_reducible refine (sc_other _ ?_).trans ?_; focus (simp; done)) | (refine cell_new' ?_ _ _ _ rfl; focus (simp; done)) | with_reducible refine cell_keep (below_new _ _) ?_)
  go_wp2_with fail
  refine (eqIntS_same A_ss B_ss c_ss d_ss ss hl_ss _ (hx_ss.next (by repeat (first | exact hT1 | refine bnew ?_ _ | refine Below.drew ?_ | refine Below.drewN ?_ _ | (refine below_set _ ?_ ?_; rotate_left; focus (first | omega | (simp; done) | (simp <;> omega)))))) (hy_ss.next (by repeat (first | exact hT1 | refine bnew ?_ _ | refine Below.drew ?_ | refine Below.drewN ?_ _ | (refine below_set _ ?_ ?_; rotate_left; focus (first | omega | (simp; done) | (simp <;> omega))))))).mono ?_
  rintro e2 w2 ⟨rfl, hb2⟩
  have hT2 : Below w.heap.size w w2 := bnext (by repeat (first | exact hT1 | refine bnew ?_ _ | refine Below.drew ?_ | refine Below.drewN ?_ _ | (refine below_set _ ?_ ?_; rotate_left; focus (first | omega | (simp; done) | (simp <;> omega))))) hb2
  have c2_0 : w2.cell? ⟨w.heap.size, 0, none⟩ = some (.slice A_cs cs.length c_cs) := by
    refine cell_keep hb2 ?_
    repeat (first | with_reducible assumption | (with_reducible apply set1b; with_reducible assumption) | (with_reducible refine (sc_other _ ?_).trans ?_; focus (simp; done)) | (refine cell_new' ?_ _ _ _ rfl; focus (simp; done)) | with_reducible refine cell_keep (below_new _ _) ?_)
  have c2_1 : w2.cell? ⟨w.heap.size, 1, none⟩ = some (.slice A_ss ss.length c_ss) := by
    refine cell_keep hb2 ?_
    repeat (first | with_reducible assumption | (with_reducible apply set1b; with_reducible assumption) | (with_reducible refine (sc_other _ ?_).trans ?_; focus (simp; done)) | (refine cell_new' ?_ _ _ _ rfl; focus (simp; done)) | with_reducible refine cell_keep (below_new _ _) ?_)
  have c2_2 : w2.cell? ⟨w.heap.size + 1, 0, none⟩ = some (.slice B_cs cs.length d_cs) := by
    refine cell_keep hb2 ?_
    repeat (first | with_reducible assumption | (with_reducible apply set1b; with_reducible assumption) | (with_reducible refine (sc_other _ ?_).trans ?_; focus (simp; done)) | (refine cell_new' ?_ _ _ _ rfl; focus (simp; done)) | with_reducible refine cell_keep (below_new _ _) ?_)
  have c2_3 : w2.cell? ⟨w.heap.size + 1, 1, none⟩ = some (.slice B_ss ss.length d_ss) := by
    refine cell_keep hb2 ?_
    repeat (first | with_reducible assumption | (with_reducible apply set1b; with_reducible assumption) | (with_reducible refine (sc_other _ ?_).trans ?_; focus (simp; done)) | (refine cell_new' ?_ _ _ _ rfl; focus (simp; done)) | with_reducible refine cell_keep (below_new _ _) ?_)
  clear c1_0 c1_1 c1_2 c1_3
  go_wp2
  go_ret
  exact ⟨rfl, hT2⟩
set_option maxHeartbeats 800000 in
theorem markDealing_any (lo : Nat) (A_cs : Option Addr) (c_cs : Nat) (cs : List Int) (hl_cs : cs.length ≤ 35184372088832) (A_ss : Option Addr) (c_ss : Nat) (ss : List Int) (hl_ss : ss.length ≤ 35184372088832) (k0 : Int) (h0 : 0 ≤ k0) (h1 : k0 ≤ 1000000) (w : World) (ho : OIs w lo [(.slice A_cs cs.length c_cs, cs), (.slice A_ss ss.length c_ss, ss)]) (hlo : lo ≤ w.heap.size) :
    Calls Try.prog 21 #[.agg #[.slice A_cs cs.length c_cs, .slice A_ss ss.length c_ss], .int .i64 k0] w fun en w' => en = .returned (.int .i64 (k0 + cs.length + ss.length)) ∧ OIs w' lo [(.slice A_cs cs.length c_cs, marks (k0) cs.length), (.slice A_ss ss.length c_ss, marks (k0 + cs.length) ss.length)] ∧ Only lo w.heap.size w w' := by
  have q_cs : OI w lo (.slice A_cs cs.length c_cs) cs := ho.1 (.slice A_cs cs.length c_cs, cs) (by simp)
  have lt_cs := q_cs.lt
  have q_ss : OI w lo (.slice A_ss ss.length c_ss) ss := ho.1 (.slice A_ss ss.length c_ss, ss) (by simp)
  have lt_ss := q_ss.lt
  have hp := ho.2
  simp only [List.pairwise_cons, List.mem_cons, List.not_mem_nil, or_false, forall_eq_or_imp, forall_eq, false_imp_iff, implies_true, and_true, List.Pairwise.nil] at hp
  have ap_cs_ss := hp
  have HOS := Lib.hid ho
  clear ho
  have p0_cs : OI (w.alloc (.cells #[.slice A_cs cs.length c_cs, .slice A_ss ss.length c_ss] 35)) lo (.slice A_cs cs.length c_cs) cs := q_cs.below (below_new w _)
  have p0_ss : OI (w.alloc (.cells #[.slice A_cs cs.length c_cs, .slice A_ss ss.length c_ss] 35)) lo (.slice A_ss ss.length c_ss) ss := q_ss.below (below_new w _)
  have hO0 : Only lo w.heap.size w (w.alloc (.cells #[.slice A_cs cs.length c_cs, .slice A_ss ss.length c_ss] 35)) := Only.of_below (below_new w _) hlo
  go_enter Try.func21, Try.ntmps21
  go_wp2_with fail
  refine (markIntS_any lo A_cs c_cs cs (k0) hl_cs (by omega) (by omega) _ p0_cs).mono ?_
  rintro e1 w1 ⟨rfl, m1_cs, hg1⟩
  have c1_0 : w1.cell? ⟨w.heap.size, 0, none⟩ = some (.slice A_cs cs.length c_cs) := hg1.cell (by repeat (first | with_reducible assumption | (with_reducible apply set1b; with_reducible assumption) | (with_reducible refine (sc_other _ ?_).trans ?_; focus (simp; done)) | (refine cell_new' ?_ _ _ _ rfl; focus (simp; done)) | with_reducible refine cell_keep (below_new _ _) ?_)) (fun e => by have := (lt_cs _ e.symm).2; simp at this)
  have c1_1 : w1.cell? ⟨w.heap.size, 1, none⟩ = some (.slice A_ss ss.length c_ss) := hg1.cell (by repeat (first | with_reducible assumption | (with_reducible apply set1b; with_reducible assumption) | (with_reducible refine (sc_other _ ?_).trans ?_; focus (simp; done)) | (refine cell_new' ?_ _ _ _ rfl; focus (simp; done)) | with_reducible refine cell_keep (below_new _ _) ?_)) (fun e => by have := (lt_cs _ e.symm).2; simp at this)
  have sz1 : w.heap.size < w1.heap.size := World.block_lt_of_cell? _ _ c1_0
  have hO1 : Only lo w.heap.size w w1 := hO0.trans (Only.of_grown hg1 (by simp; omega) lt_cs)
  have p1_ss := p0_ss.kept hg1 ap_cs_ss.symm
  go_wp2_with fail
  refine (markIntS_any lo A_ss c_ss ss (k0 + cs.length) hl_ss (by omega) (by omega) _ p1_ss).mono ?_
  rintro e2 w2 ⟨rfl, m2_ss, hg2⟩
  have c2_0 : w2.cell? ⟨w.heap.size, 0, none⟩ = some (.slice A_cs cs.length c_cs) := hg2.cell (by repeat (first | with_reducible assumption | (with_reducible apply set1b; with_reducible assumption) | (with_reducible refine (sc_other _ ?_).trans ?_; focus (simp; done)) | (refine cell_new' ?_ _ _ _ rfl; focus (simp; done)) | with_reducible refine cell_keep (below_new _ _) ?_)) (fun e => by have := (lt_ss _ e.symm).2; simp at this)
  have c2_1 : w2.cell? ⟨w.heap.size, 1, none⟩ = some (.slice A_ss ss.length c_ss) := hg2.cell (by repeat (first | with_reducible assumption | (with_reducible apply set1b; with_reducible assumption) | (with_reducible refine (sc_other _ ?_).trans ?_; focus (simp; done)) | (refine cell_new' ?_ _ _ _ rfl; focus (simp; done)) | with_reducible refine cell_keep (below_new _ _) ?_)) (fun e => by have := (lt_ss _ e.symm).2; simp at this)
  have sz2 : w.heap.size < w2.heap.size := World.block_lt_of_cell? _ _ c2_0
  have hO2 : Only lo w.heap.size w w2 := hO1.trans (Only.of_grown hg2 (by omega) lt_ss)
  have m2_cs := m1_cs.kept hg2 ap_cs_ss
  clear c1_0 c1_1
  go_wp2
  go_ret
  refine ⟨rfl, ⟨?_, ?_⟩, hO2⟩
  · intro r hr
    simp only [List.mem_cons, List.not_mem_nil, or_false] at hr
    rcases hr with rfl | rfl
    · exact m2_cs
    · exact m2_ss
  · simp only [List.pairwise_cons, List.mem_cons, List.not_mem_nil, or_false, forall_eq_or_imp, forall_eq, false_imp_iff, implies_true, and_true, List.Pairwise.nil]
    exact ap_cs_ss
set_option maxHeartbeats 800000 in
theorem heldDealing_any (A_cs : Option Addr) (c_cs : Nat) (cs : List Int) (hl_cs : cs.length ≤ 35184372088832) (A_ss : Option Addr) (c_ss : Nat) (ss : List Int) (hl_ss : ss.length ≤ 35184372088832) (k0 : Int) (h0 : 0 ≤ k0) (h1 : k0 ≤ 1000000) (w : World) (hx_cs : RI w w.heap.size A_cs (marks (k0) cs.length)) (hx_ss : RI w w.heap.size A_ss (marks (k0 + cs.length) ss.length)) :
    Calls Try.prog 22 #[.agg #[.slice A_cs cs.length c_cs, .slice A_ss ss.length c_ss], .int .i64 k0] w fun en w' => en = .returned (.int .i64 (k0 + cs.length + ss.length)) ∧ Below w.heap.size w w' := by
  have hT0 : Below w.heap.size w (w.alloc (.cells #[.slice A_cs cs.length c_cs, .slice A_ss ss.length c_ss] 35)) := by repeat (first | exact Below.refl _ _ | refine bnew ?_ _)
  go_enter Try.func22, Try.ntmps22
  go_wp2_with fail
  refine (heldIntS_any A_cs c_cs cs.length (k0) hl_cs (by omega) (by omega) _ (hx_cs.next (by repeat (first | exact hT0 | refine bnew ?_ _ | refine Below.drew ?_ | refine Below.drewN ?_ _ | (refine below_set _ ?_ ?_; rotate_left; focus (first | omega | (simp; done) | (simp <;> omega))))))).mono ?_
  rintro e1 w1 ⟨rfl, rfl⟩
  have ng_cs : ¬ (k0 + (cs.length : Int)) < 0 := by omega
  go_wp2_with fail
  refine (heldIntS_any A_ss c_ss ss.length (k0 + cs.length) hl_ss (by omega) (by omega) _ (hx_ss.next (by repeat (first | exact hT0 | refine bnew ?_ _ | refine Below.drew ?_ | refine Below.drewN ?_ _ | (refine below_set _ ?_ ?_; rotate_left; focus (first | omega | (simp; done) | (simp <;> omega))))))).mono ?_
  rintro e2 w2 ⟨rfl, rfl⟩
  have ng_ss : ¬ (k0 + cs.length + (ss.length : Int)) < 0 := by omega
  go_wp2
  go_ret
  exact ⟨rfl, hT0⟩
/-- what toProof says: the struct, its slices of their own -/
def RetProof (w : World) (pa : List Int) (pc : List Int) (pr : List Int) (e : Ending) (w' : World) : Prop := ∃ A_pa c_pa A_pc c_pc A_pr c_pr, e = .returned (.agg #[.slice A_pa pa.length c_pa, .slice A_pc pc.length c_pc, .slice A_pr pr.length c_pr]) ∧ OIs w' w.heap.size [(.slice A_pa pa.length c_pa, pa), (.slice A_pc pc.length c_pc, pc), (.slice A_pr pr.length c_pr, pr)] ∧ Below w.heap.size w w'
/-- what toKeyGen says: the struct, its slices of their own -/
def RetKeyGen (w : World) (kq : List Int) (kk : Int) (kc : List Int) (ks : List Int) (e : Ending) (w' : World) : Prop := ∃ A_kq c_kq A_kc c_kc A_ks c_ks, e = .returned (.agg #[.slice A_kq kq.length c_kq, .int .i64 kk, .slice A_kc kc.length c_kc, .slice A_ks ks.length c_ks]) ∧ OIs w' w.heap.size [(.slice A_kq kq.length c_kq, kq), (.slice A_kc kc.length c_kc, kc), (.slice A_ks ks.length c_ks, ks)] ∧ Below w.heap.size w w'
set_option maxHeartbeats 3200000 in
theorem toKeyGen_any (A_kq : Option Addr) (c_kq : Nat) (kq : List Int) (hl_kq : kq.length ≤ 35184372088832) (kk : Int) (A_kc : Option Addr) (c_kc : Nat) (kc : List Int) (hl_kc : kc.length ≤ 35184372088832) (A_ks : Option Addr) (c_ks : Nat) (ks : List Int) (hl_ks : ks.length ≤ 35184372088832) (w : World) (hx_kq : RI w w.heap.size A_kq kq) (hx_kc : RI w w.heap.size A_kc kc) (hx_ks : RI w w.heap.size A_ks ks) :
    Calls Try.prog 27 #[.agg #[.slice A_kq kq.length c_kq, .int .i64 kk, .slice A_kc kc.length c_kc, .slice A_ks ks.length c_ks]] w (RetKeyGen w kq kk kc ks) := by
  have hT0 : Below w.heap.size w (((w.alloc (.cells #[.slice A_kq kq.length c_kq, .int .i64 kk, .slice A_kc kc.length c_kc, .slice A_ks ks.length c_ks] 49)).alloc (.cells #[.slice none 0 0, .int .i64 0, .slice none 0 0, .slice none 0 0] 52)).alloc (.cells #[.slice none 0 0, .int .i64 0, .slice none 0 0, .slice none 0 0] 52)) := by repeat (first | exact Below.refl _ _ | refine bnew ?_ _)
  go_enter Try.func27, Try.ntmps27
  go_wp2_with fail
  refine (toIntS_any A_kq c_kq kq hl_kq _ (hx_kq.next (by repeat (first | exact hT0 | refine bnew ?_ _ | refine Below.drew ?_ | refine Below.drewN ?_ _ | (refine below_set _ ?_ ?_; rotate_left; focus (first | omega | (simp; done) | (simp <;> omega))))))).mono ?_
  rintro e1 w1 ⟨B_kq, d_kq, rfl, ho_kq, hb1⟩
  have hT1 : Below w.heap.size w w1 := bnext (by repeat (first | exact hT0 | refine bnew ?_ _ | refine Below.drew ?_ | refine Below.drewN ?_ _ | (refine below_set _ ?_ ?_; rotate_left; focus (first | omega | (simp; done) | (simp <;> omega))))) hb1
  have c1_0 : w1.cell? ⟨w.heap.size, 0, none⟩ = some (.slice A_kq kq.length c_kq) := by
    refine cell_keep hb1 ?_
    repeat (first | with_reducible assumption | (with_reducible apply set1b; with_reducible assumption) | (with_reducible refine (sc_other _ ?_).trans ?_; focus (simp; done)) | (refine cell_new' ?_ _ _ _ rfl; focus (simp; done)) | with_reducible refine cell_keep (below_new _ _) ?_)
  have c1_1 : w1.cell? ⟨w.heap.size, 1, none⟩ = some (.int .i64 kk) := by
    refine cell_keep hb1 ?_
    repeat (first | with_reducible assumption | (with_reducible apply set1b; with_reducible assumption) | (with_reducible refine (sc_other _ ?_).trans ?_; focus (simp; done)) | (refine cell_new' ?_ _ _ _ rfl; focus (simp; done)) | with_reducible refine cell_keep (below_new _ _) ?_)
  have c1_2 : w1.cell? ⟨w.heap.size, 2, none⟩ = some (.slice A_kc kc.length c_kc) := by
    refine cell_keep hb1 ?_
    repeat (first | with_reducible assumption | (with_reducible apply set1b; with_reducible assumption) | (with_reducible refine (sc_other _ ?_).trans ?_; focus (simp; done)) | (refine cell_new' ?_ _ _ _ rfl; focus (simp; done)) | with_reducible refine cell_keep (below_new _ _) ?_)
  have c1_3 : w1.cell? ⟨w.heap.size, 3, none⟩ = some (.slice A_ks ks.length c_ks) := by
    refine cell_keep hb1 ?_
    repeat (first | with_reducible assumption | (with_reducible apply set1b; with_reducible assumption) | (with_reducible refine (sc_other _ ?_).trans ?_; focus (simp; done)) | (refine cell_new' ?_ _ _ _ rfl; focus (simp; done)) | with_reducible refine cell_keep (below_new _ _) ?_)
  have c1_4 : w1.cell? ⟨w.heap.size + 1, 0, none⟩ = some (.slice none 0 0) := by
    refine cell_keep hb1 ?_
    repeat (first | with_reducible assumption | (with_reducible apply set1b; with_reducible assumption) | (with_reducible refine (sc_other _ ?_).trans ?_; focus (simp; done)) | (refine cell_new' ?_ _ _ _ rfl; focus (simp; done)) | with_reducible refine cell_keep (below_new _ _) ?_)
  have f1_4 : w1.frozen? ⟨w.heap.size + 1, 0, none⟩ = false := by
    refine frozen_keep (v := .slice none 0 0) hb1 ?_ ?_
    · repeat (first | with_reducible assumption | (with_reducible apply set1b; with_reducible assumption) | (with_reducible refine (sc_other _ ?_).trans ?_; focus (simp; done)) | (refine cell_new' ?_ _ _ _ rfl; focus (simp; done)) | with_reducible refine cell_keep (below_new _ _) ?_)
    · repeat (first | with_reducible assumption | with_reducible refine frozen_set _ ?_ | (refine frozen_new' ?_ _ _ _; focus (simp; done)) | (refine frozen_alloc ?_ ?_; focus (simp; done)) | (refine frozen_keep (below_new _ _) (by with_reducible assumption) ?_))
  have c1_5 : w1.cell? ⟨w.heap.size + 1, 1, none⟩ = some (.int .i64 0) := by
    refine cell_keep hb1 ?_
    repeat (first | with_reducible assumption | (with_reducible apply set1b; with_reducible assumption) | (with_reducible refine (sc_other _ ?_).trans ?_; focus (simp; done)) | (refine cell_new' ?_ _ _ _ rfl; focus (simp; done)) | with_reducible refine cell_keep (below_new _ _) ?_)
  have f1_5 : w1.frozen? ⟨w.heap.size + 1, 1, none⟩ = false := by
    refine frozen_keep (v := .int .i64 0) hb1 ?_ ?_
    · repeat (first | with_reducible assumption | (with_reducible apply set1b; with_reducible assumption) | (with_reducible refine (sc_other _ ?_).trans ?_; focus (simp; done)) | (refine cell_new' ?_ _ _ _ rfl; focus (simp; done)) | with_reducible refine cell_keep (below_new _ _) ?_)
    · repeat (first | with_reducible assumption | with_reducible refine frozen_set _ ?_ | (refine frozen_new' ?_ _ _ _; focus (simp; done)) | (refine frozen_alloc ?_ ?_; focus (simp; done)) | (refine frozen_keep (below_new _ _) (by with_reducible assumption) ?_))
  have c1_6 : w1.cell? ⟨w.heap.size + 1, 2, none⟩ = some (.slice none 0 0) := by
    refine cell_keep hb1 ?_
    repeat (first | with_reducible assumption | (with_reducible apply set1b; with_reducible assumption) | (with_reducible refine (sc_other _ ?_).trans ?_; focus (simp; done)) | (refine cell_new' ?_ _ _ _ rfl; focus (simp; done)) | with_reducible refine cell_keep (below_new _ _) ?_)
  have f1_6 : w1.frozen? ⟨w.heap.size + 1, 2, none⟩ = false := by
    refine frozen_keep (v := .slice none 0 0) hb1 ?_ ?_
    · repeat (first | with_reducible assumption | (with_reducible apply set1b; with_reducible assumption) | (with_reducible refine (sc_other _ ?_).trans ?_; focus (simp; done)) | (refine cell_new' ?_ _ _ _ rfl; focus (simp; done)) | with_reducible refine cell_keep (below_new _ _) ?_)
    · repeat (first | with_reducible assumption | with_reducible refine frozen_set _ ?_ | (refine frozen_new' ?_ _ _ _; focus (simp; done)) | (refine frozen_alloc ?_ ?_; focus (simp; done)) | (refine frozen_keep (below_new _ _) (by with_reducible assumption) ?_))
  have c1_7 : w1.cell? ⟨w.heap.size + 1, 3, none⟩ = some (.slice none 0 0) := by
    refine cell_keep hb1 ?_
    repeat (first | with_reducible assumption | (with_reducible apply set1b; with_reducible assumption) | (with_reducible refine (sc_other _ ?_).trans ?_; focus (simp; done)) | (refine cell_new' ?_ _ _ _ rfl; focus (simp; done)) | with_reducible refine cell_keep (below_new _ _) ?_)
  have f1_7 : w1.frozen? ⟨w.heap.size + 1, 3, none⟩ = false := by
    refine frozen_keep (v := .slice none 0 0) hb1 ?_ ?_
    · repeat (first | with_reducible assumption | (with_reducible apply set1b; with_reducible assumption) | (with_reducible refine (sc_other _ ?_).trans ?_; focus (simp; done)) | (refine cell_new' ?_ _ _ _ rfl; focus (simp; done)) | with_reducible refine cell_keep (below_new _ _) ?_)
    · repeat (first | with_reducible assumption | with_reducible refine frozen_set _ ?_ | (refine frozen_new' ?_ _ _ _; focus (simp; done)) | (refine frozen_alloc ?_ ?_; focus (simp; done)) | (refine frozen_keep (below_new _ _) (by with_reducible assumption) ?_))
  have c1_8 : w1.cell? ⟨w.heap.size + 1 + 1, 0, none⟩ = some (.slice none 0 0) := by
    refine cell_keep hb1 ?_
    repeat (first | with_reducible assumption | (with_reducible apply set1b; with_reducible assumption) | (with_reducible refine (sc_other _ ?_).trans ?_; focus (simp; done)) | (refine cell_new' ?_ _ _ _ rfl; focus (simp; done)) | with_reducible refine cell_keep (below_new _ _) ?_)
  have f1_8 : w1.frozen? ⟨w.heap.size + 1 + 1, 0, none⟩ = false := by
    refine frozen_keep (v := .slice none 0 0) hb1 ?_ ?_
    · repeat (first | with_reducible assumption | (with_reducible apply set1b; with_reducible assumption) | (with_reducible refine (sc_other _ ?_).trans ?_; focus (simp; done)) | (refine cell_new' ?_ _ _ _ rfl; focus (simp; done)) | with_reducible refine cell_keep (below_new _ _) ?_)
    · repeat (first | with_reducible assumption | with_reducible refine frozen_set _ ?_ | (refine frozen_new' ?_ _ _ _; focus (simp; done)) | (refine frozen_alloc ?_ ?_; focus (simp; done)) | (refine frozen_keep (below_new _ _) (by with_reducible assumption) ?_))
  have c1_9 : w1.cell? ⟨w.heap.size + 1 + 1, 1, none⟩ = some (.int .i64 0) := by
    refine cell_keep hb1 ?_
    repeat (first | with_reducible assumption | (with_reducible apply set1b; with_reducible assumption) | (with_reducible refine (sc_other _ ?_).trans ?_; focus (simp; done)) | (refine cell_new' ?_ _ _ _ rfl; focus (simp; done)) | with_reducible refine cell_keep (below_new _ _) ?_)
  have f1_9 : w1.frozen? ⟨w.heap.size + 1 + 1, 1, none⟩ = false := by
    refine frozen_keep (v := .int .i64 0) hb1 ?_ ?_
    · repeat (first | with_reducible assumption | (with_reducible apply set1b; with_reducible assumption) | (with_reducible refine (sc_other _ ?_).trans ?_; focus (simp; done)) | (refine cell_new' ?_ _ _ _ rfl; focus (simp; done)) | with_reducible refine cell_keep (below_new _ _) ?_)
    · repeat (first | with_reducible assumption | with_reducible refine frozen_set _ ?_ | (refine frozen_new' ?_ _ _ _; focus (simp; done)) | (refine frozen_alloc ?_ ?_; focus (simp; done)) | (refine frozen_keep (below_new _ _) (by with_reducible assumption) ?_))
  have c1_10 : w1.cell? ⟨w.heap.size + 1 + 1, 2, none⟩ = some (.slice none 0 0) := by
    refine cell_keep hb1 ?_
    repeat (first | with_reducible assumption | (with_reducible apply set1b; with_reducible assumption) | (with_reducible refine (sc_other _ ?_).trans ?_; focus (simp; done)) | (refine cell_new' ?_ _ _ _ rfl; focus (simp; done)) | with_reducible refine cell_keep (below_new _ _) ?_)
  have f1_10 : w1.frozen? ⟨w.heap.size + 1 + 1, 2, none⟩ = false := by
    refine frozen_keep (v := .slice none 0 0) hb1 ?_ ?_
    · repeat (first | with_reducible assumption | (with_reducible apply set1b; with_reducible assumption) | (with_reducible refine (sc_other _ ?_).trans ?_; focus (simp; done)) | (refine cell_new' ?_ _ _ _ rfl; focus (simp; done)) | with_reducible refine cell_keep (below_new _ _) ?_)
    · repeat (first | with_reducible assumption | with_reducible refine frozen_set _ ?_ | (refine frozen_new' ?_ _ _ _; focus (simp; done)) | (refine frozen_alloc ?_ ?_; focus (simp; done)) | (refine frozen_keep (below_new _ _) (by with_reducible assumption) ?_))
  have c1_11 : w1.cell? ⟨w.heap.size + 1 + 1, 3, none⟩ = some (.slice none 0 0) := by
    refine cell_keep hb1 ?_
    repeat (first | with_reducible assumption | (with_reducible apply set1b; with_reducible assumption) | (with_reducible refine (sc_other _ ?_).trans ?_; focus (simp; done)) | (refine cell_new' ?_ _ _ _ rfl; focus (simp; done)) | with_reducible refine cell_keep (below_new _ _) ?_)
  have f1_11 : w1.frozen? ⟨w.heap.size + 1 + 1, 3, none⟩ = false := by
    refine frozen_keep (v := .slice none 0 0) hb1 ?_ ?_
    · repeat (first | with_reducible assumption | (with_reducible apply set1b; with_reducible assumption) | (with_reducible refine (sc_other _ ?_).trans ?_; focus (simp; done)) | (refine cell_new' ?_ _ _ _ rfl; focus (simp; done)) | with_reducible refine cell_keep (below_new _ _) ?_)
    · repeat (first | with_reducible assumption | with_reducible refine frozen_set _ ?_ | (refine frozen_new' ?_ _ _ _; focus (simp; done)) | (refine frozen_alloc ?_ ?_; focus (simp; done)) | (refine frozen_keep (below_new _ _) (by with_reducible assumption) ?_))
  have lt1 : w.heap.size + 1 + 1 < w1.heap.size := World.block_lt_of_cell? _ _ c1_11
  go_wp2_with fail
  refine (toIntS_any A_kc c_kc kc hl_kc _ (hx_kc.next (by repeat (first | exact hT1 | refine bnew ?_ _ | refine Below.drew ?_ | refine Below.drewN ?_ _ | (refine below_set _ ?_ ?_; rotate_left; focus (first | omega | (simp; done) | (simp <;> omega))))))).mono ?_
  rintro e2 w2 ⟨B_kc, d_kc, rfl, ho_kc, hb2⟩
  have ap_kq_kc : apart (.slice B_kq kq.length d_kq) (.slice B_kc kc.length d_kc) := apart_of ho_kq ho_kc (by simp)
  have hT2 : Below w.heap.size w w2 := bnext (by repeat (first | exact hT1 | refine bnew ?_ _ | refine Below.drew ?_ | refine Below.drewN ?_ _ | (refine below_set _ ?_ ?_; rotate_left; focus (first | omega | (simp; done) | (simp <;> omega))))) hb2
  have d2_0_0 : (w1.setCell ⟨w.heap.size + 1 + 1, 0, none⟩ (.slice B_kq kq.length d_kq)).cell? ⟨w.heap.size, 0, none⟩ = some (.slice A_kq kq.length c_kq) := (sc_other _ (by simp)).trans c1_0
  have d2_0_1 : (w1.setCell ⟨w.heap.size + 1 + 1, 0, none⟩ (.slice B_kq kq.length d_kq)).cell? ⟨w.heap.size, 1, none⟩ = some (.int .i64 kk) := (sc_other _ (by simp)).trans c1_1
  have d2_0_2 : (w1.setCell ⟨w.heap.size + 1 + 1, 0, none⟩ (.slice B_kq kq.length d_kq)).cell? ⟨w.heap.size, 2, none⟩ = some (.slice A_kc kc.length c_kc) := (sc_other _ (by simp)).trans c1_2
  have d2_0_3 : (w1.setCell ⟨w.heap.size + 1 + 1, 0, none⟩ (.slice B_kq kq.length d_kq)).cell? ⟨w.heap.size, 3, none⟩ = some (.slice A_ks ks.length c_ks) := (sc_other _ (by simp)).trans c1_3
  have d2_0_4 : (w1.setCell ⟨w.heap.size + 1 + 1, 0, none⟩ (.slice B_kq kq.length d_kq)).cell? ⟨w.heap.size + 1, 0, none⟩ = some (.slice none 0 0) := (sc_other _ (by simp)).trans c1_4
  have d2_0_5 : (w1.setCell ⟨w.heap.size + 1 + 1, 0, none⟩ (.slice B_kq kq.length d_kq)).cell? ⟨w.heap.size + 1, 1, none⟩ = some (.int .i64 0) := (sc_other _ (by simp)).trans c1_5
  have d2_0_6 : (w1.setCell ⟨w.heap.size + 1 + 1, 0, none⟩ (.slice B_kq kq.length d_kq)).cell? ⟨w.heap.size + 1, 2, none⟩ = some (.slice none 0 0) := (sc_other _ (by simp)).trans c1_6
  have d2_0_7 : (w1.setCell ⟨w.heap.size + 1 + 1, 0, none⟩ (.slice B_kq kq.length d_kq)).cell? ⟨w.heap.size + 1, 3, none⟩ = some (.slice none 0 0) := (sc_other _ (by simp)).trans c1_7
  have d2_0_8 : (w1.setCell ⟨w.heap.size + 1 + 1, 0, none⟩ (.slice B_kq kq.length d_kq)).cell? ⟨w.heap.size + 1 + 1, 0, none⟩ = some (.slice B_kq kq.length d_kq) := set1b _ c1_8
  have d2_0_9 : (w1.setCell ⟨w.heap.size + 1 + 1, 0, none⟩ (.slice B_kq kq.length d_kq)).cell? ⟨w.heap.size + 1 + 1, 1, none⟩ = some (.int .i64 0) := (sc_other _ (by simp)).trans c1_9
  have d2_0_10 : (w1.setCell ⟨w.heap.size + 1 + 1, 0, none⟩ (.slice B_kq kq.length d_kq)).cell? ⟨w.heap.size + 1 + 1, 2, none⟩ = some (.slice none 0 0) := (sc_other _ (by simp)).trans c1_10
  have d2_0_11 : (w1.setCell ⟨w.heap.size + 1 + 1, 0, none⟩ (.slice B_kq kq.length d_kq)).cell? ⟨w.heap.size + 1 + 1, 3, none⟩ = some (.slice none 0 0) := (sc_other _ (by simp)).trans c1_11
  have d2_1_0 : ((w1.setCell ⟨w.heap.size + 1 + 1, 0, none⟩ (.slice B_kq kq.length d_kq)).setCell ⟨w.heap.size + 1 + 1, 1, none⟩ (.int .i64 kk)).cell? ⟨w.heap.size, 0, none⟩ = some (.slice A_kq kq.length c_kq) := (sc_other _ (by simp)).trans d2_0_0
  have d2_1_1 : ((w1.setCell ⟨w.heap.size + 1 + 1, 0, none⟩ (.slice B_kq kq.length d_kq)).setCell ⟨w.heap.size + 1 + 1, 1, none⟩ (.int .i64 kk)).cell? ⟨w.heap.size, 1, none⟩ = some (.int .i64 kk) := (sc_other _ (by simp)).trans d2_0_1
  have d2_1_2 : ((w1.setCell ⟨w.heap.size + 1 + 1, 0, none⟩ (.slice B_kq kq.length d_kq)).setCell ⟨w.heap.size + 1 + 1, 1, none⟩ (.int .i64 kk)).cell? ⟨w.heap.size, 2, none⟩ = some (.slice A_kc kc.length c_kc) := (sc_other _ (by simp)).trans d2_0_2
  have d2_1_3 : ((w1.setCell ⟨w.heap.size + 1 + 1, 0, none⟩ (.slice B_kq kq.length d_kq)).setCell ⟨w.heap.size + 1 + 1, 1, none⟩ (.int .i64 kk)).cell? ⟨w.heap.size, 3, none⟩ = some (.slice A_ks ks.length c_ks) := (sc_other _ (by simp)).trans d2_0_3
  have d2_1_4 : ((w1.setCell ⟨w.heap.size + 1 + 1, 0, none⟩ (.slice B_kq kq.length d_kq)).setCell ⟨w.heap.size + 1 + 1, 1, none⟩ (.int .i64 kk)).cell? ⟨w.heap.size + 1, 0, none⟩ = some (.slice none 0 0) := (sc_other _ (by simp)).trans d2_0_4
  have d2_1_5 : ((w1.setCell ⟨w.heap.size + 1 + 1, 0, none⟩ (.slice B_kq kq.length d_kq)).setCell ⟨w.heap.size + 1 + 1, 1, none⟩ (.int .i64 kk)).cell? ⟨w.heap.size + 1, 1, none⟩ = some (.int .i64 0) := (sc_other _ (by simp)).trans d2_0_5
  have d2_1_6 : ((w1.setCell ⟨w.heap.size + 1 + 1, 0, none⟩ (.slice B_kq kq.length d_kq)).setCell ⟨w.heap.size + 1 + 1, 1, none⟩ (.int .i64 kk)).cell? ⟨w.heap.size + 1, 2, none⟩ = some (.slice none 0 0) := (sc_other _ (by simp)).trans d2_0_6
  have d2_1_7 : ((w1.setCell ⟨w.heap.size + 1 + 1, 0, none⟩ (.slice B_kq kq.length d_kq)).setCell ⟨w.heap.size + 1 + 1, 1, none⟩ (.int .i64 kk)).cell? ⟨w.heap.size + 1, 3, none⟩ = some (.slice none 0 0) := (sc_other _ (by simp)).trans d2_0_7
  have d2_1_8 : ((w1.setCell ⟨w.heap.size + 1 + 1, 0, none⟩ (.slice B_kq kq.length d_kq)).setCell ⟨w.heap.size + 1 + 1, 1, none⟩ (.int .i64 kk)).cell? ⟨w.heap.size + 1 + 1, 0, none⟩ = some (.slice B_kq kq.length d_kq) := (sc_other _ (by simp)).trans d2_0_8
  have d2_1_9 : ((w1.setCell ⟨w.heap.size + 1 + 1, 0, none⟩ (.slice B_kq kq.length d_kq)).setCell ⟨w.heap.size + 1 + 1, 1, none⟩ (.int .i64 kk)).cell? ⟨w.heap.size + 1 + 1, 1, none⟩ = some (.int .i64 kk) := set1b _ d2_0_9
  have d2_1_10 : ((w1.setCell ⟨w.heap.size + 1 + 1, 0, none⟩ (.slice B_kq kq.length d_kq)).setCell ⟨w.heap.size + 1 + 1, 1, none⟩ (.int .i64 kk)).cell? ⟨w.heap.size + 1 + 1, 2, none⟩ = some (.slice none 0 0) := (sc_other _ (by simp)).trans d2_0_10
  have d2_1_11 : ((w1.setCell ⟨w.heap.size + 1 + 1, 0, none⟩ (.slice B_kq kq.length d_kq)).setCell ⟨w.heap.size + 1 + 1, 1, none⟩ (.int .i64 kk)).cell? ⟨w.heap.size + 1 + 1, 3, none⟩ = some (.slice none 0 0) := (sc_other _ (by simp)).trans d2_0_11
  have c2_0 : w2.cell? ⟨w.heap.size, 0, none⟩ = some (.slice A_kq kq.length c_kq) := by
    refine cell_keep hb2 ?_
    repeat (first | with_reducible assumption | (with_reducible apply set1b; with_reducible assumption) | (with_reducible refine (sc_other _ ?_).trans ?_; focus (simp; done)) | (refine cell_new' ?_ _ _ _ rfl; focus (simp; done)) | with_reducible refine cell_keep (below_new _ _) ?_)
  have c2_1 : w2.cell? ⟨w.heap.size, 1, none⟩ = some (.int .i64 kk) := by
    refine cell_keep hb2 ?_
    repeat (first | with_reducible assumption | (with_reducible apply set1b; with_reducible assumption) | (with_reducible refine (sc_other _ ?_).trans ?_; focus (simp; done)) | (refine cell_new' ?_ _ _ _ rfl; focus (simp; done)) | with_reducible refine cell_keep (below_new _ _) ?_)
  have c2_2 : w2.cell? ⟨w.heap.size, 2, none⟩ = some (.slice A_kc kc.length c_kc) := by
    refine cell_keep hb2 ?_
    repeat (first | with_reducible assumption | (with_reducible apply set1b; with_reducible assumption) | (with_reducible refine (sc_other _ ?_).trans ?_; focus (simp; done)) | (refine cell_new' ?_ _ _ _ rfl; focus (simp; done)) | with_reducible refine cell_keep (below_new _ _) ?_)
  have c2_3 : w2.cell? ⟨w.heap.size, 3, none⟩ = some (.slice A_ks ks.length c_ks) := by
    refine cell_keep hb2 ?_
    repeat (first | with_reducible assumption | (with_reducible apply set1b; with_reducible assumption) | (with_reducible refine (sc_other _ ?_).trans ?_; focus (simp; done)) | (refine cell_new' ?_ _ _ _ rfl; focus (simp; done)) | with_reducible refine cell_keep (below_new _ _) ?_)
  have c2_4 : w2.cell? ⟨w.heap.size + 1, 0, none⟩ = some (.slice none 0 0) := by
    refine cell_keep hb2 ?_
    repeat (first | with_reducible assumption | (with_reducible apply set1b; with_reducible assumption) | (with_reducible refine (sc_other _ ?_).trans ?_; focus (simp; done)) | (refine cell_new' ?_ _ _ _ rfl; focus (simp; done)) | with_reducible refine cell_keep (below_new _ _) ?_)
  have f2_4 : w2.frozen? ⟨w.heap.size + 1, 0, none⟩ = false := by
    refine frozen_keep (v := .slice none 0 0) hb2 ?_ ?_
    · repeat (first | with_reducible assumption | (with_reducible apply set1b; with_reducible assumption) | (with_reducible refine (sc_other _ ?_).trans ?_; focus (simp; done)) | (refine cell_new' ?_ _ _ _ rfl; focus (simp; done)) | with_reducible refine cell_keep (below_new _ _) ?_)
    · repeat (first | with_reducible assumption | with_reducible refine frozen_set _ ?_ | (refine frozen_new' ?_ _ _ _; focus (simp; done)) | (refine frozen_alloc ?_ ?_; focus (simp; done)) | (refine frozen_keep (below_new _ _) (by with_reducible assumption) ?_))
  have c2_5 : w2.cell? ⟨w.heap.size + 1, 1, none⟩ = some (.int .i64 0) := by
    refine cell_keep hb2 ?_
    repeat (first | with_reducible assumption | (with_reducible apply set1b; with_reducible assumption) | (with_reducible refine (sc_other _ ?_).trans ?_; focus (simp; done)) | (refine cell_new' ?_ _ _ _ rfl; focus (simp; done)) | with_reducible refine cell_keep (below_new _ _) ?_)
  have f2_5 : w2.frozen? ⟨w.heap.size + 1, 1, none⟩ = false := by
    refine frozen_keep (v := .int .i64 0) hb2 ?_ ?_
    · repeat (first | with_reducible assumption | (with_reducible apply set1b; with_reducible assumption) | (with_reducible refine (sc_other _ ?_).trans ?_; focus (simp; done)) | (refine cell_new' ?_ _ _ _ rfl; focus (simp; done)) | with_reducible refine cell_keep (below_new _ _) ?_)
    · repeat (first | with_reducible assumption | with_reducible refine frozen_set _ ?_ | (refine frozen_new' ?_ _ _ _; focus (simp; done)) | (refine frozen_alloc ?_ ?_; focus (simp; done)) | (refine frozen_keep (below_new _ _) (by with_reducible assumption) ?_))
  have c2_6 : w2.cell? ⟨w.heap.size + 1, 2, none⟩ = some (.slice none 0 0) := by
    refine cell_keep hb2 ?_
    repeat (first | with_reducible assumption | (with_reducible apply set1b; with_reducible assumption) | (with_reducible refine (sc_other _ ?_).trans ?_; focus (simp; done)) | (refine cell_new' ?_ _ _ _ rfl; focus (simp; done)) | with_reducible refine cell_keep (below_new _ _) ?_)
  have f2_6 : w2.frozen? ⟨w.heap.size + 1, 2, none⟩ = false := by
    refine frozen_keep (v := .slice none 0 0) hb2 ?_ ?_
    · repeat (first | with_reducible assumption | (with_reducible apply set1b; with_reducible assumption) | (with_reducible refine (sc_other _ ?_).trans ?_; focus (simp; done)) | (refine cell_new' ?_ _ _ _ rfl; focus (simp; done)) | with_reducible refine cell_keep (below_new _ _) ?_)
    · repeat (first | with_reducible assumption | with_reducible refine frozen_set _ ?_ | (refine frozen_new' ?_ _ _ _; focus (simp; done)) | (refine frozen_alloc ?_ ?_; focus (simp; done)) | (refine frozen_keep (below_new _ _) (by with_reducible assumption) ?_))
  have c2_7 : w2.cell? ⟨w.heap.size + 1, 3, none⟩ = some (.slice none 0 0) := by
    refine cell_keep hb2 ?_
    repeat (first | with_reducible assumption | (with_reducible apply set1b; with_reducible assumption) | (with_reducible refine (sc_other _ ?_).trans ?_; focus (simp; done)) | (refine cell_new' ?_ _ _ _ rfl; focus (simp; done)) | with_reducible refine cell_keep (below_new _ _) ?_)
  have f2_7 : w2.frozen? ⟨w.heap.size + 1, 3, none⟩ = false := by
    refine frozen_keep (v := .slice none 0 0) hb2 ?_ ?_
    · repeat (first | with_reducible assumption | (with_reducible apply set1b; with_reducible assumption) | (with_reducible refine (sc_other _ ?_).trans ?_; focus (simp; done)) | (refine cell_new' ?_ _ _ _ rfl; focus (simp; done)) | with_reducible refine cell_keep (below_new _ _) ?_)
    · repeat (first | with_reducible assumption | with_reducible refine frozen_set _ ?_ | (refine frozen_new' ?_ _ _ _; focus (simp; done)) | (refine frozen_alloc ?_ ?_; focus (simp; done)) | (refine frozen_keep (below_new _ _) (by with_reducible assumption) ?_))
  have c2_8 : w2.cell? ⟨w.heap.size + 1 + 1, 0, none⟩ = some (.slice B_kq kq.length d_kq) := by
    refine cell_keep hb2 ?_
    repeat (first | with_reducible assumption | (with_reducible apply set1b; with_reducible assumption) | (with_reducible refine (sc_other _ ?_).trans ?_; focus (simp; done)) | (refine cell_new' ?_ _ _ _ rfl; focus (simp; done)) | with_reducible refine cell_keep (below_new _ _) ?_)
  have f2_8 : w2.frozen? ⟨w.heap.size + 1 + 1, 0, none⟩ = false := by
    refine frozen_keep (v := .slice B_kq kq.length d_kq) hb2 ?_ ?_
    · repeat (first | with_reducible assumption | (with_reducible apply set1b; with_reducible assumption) | (with_reducible refine (sc_other _ ?_).trans ?_; focus (simp; done)) | (refine cell_new' ?_ _ _ _ rfl; focus (simp; done)) | with_reducible refine cell_keep (below_new _ _) ?_)
    · repeat (first | with_reducible assumption | with_reducible refine frozen_set _ ?_ | (refine frozen_new' ?_ _ _ _; focus (simp; done)) | (refine frozen_alloc ?_ ?_; focus (simp; done)) | (refine frozen_keep (below_new _ _) (by with_reducible assumption) ?_))
  have c2_9 : w2.cell? ⟨w.heap.size + 1 + 1, 1, none⟩ = some (.int .i64 kk) := by
    refine cell_keep hb2 ?_
    repeat (first | with_reducible assumption | (with_reducible apply set1b; with_reducible assumption) | (with_reducible refine (sc_other _ ?_).trans ?_; focus (simp; done)) | (refine cell_new' ?_ _ _ _ rfl; focus (simp; done)) | with_reducible refine cell_keep (below_new _ _) ?_)
  have f2_9 : w2.frozen? ⟨w.heap.size + 1 + 1, 1, none⟩ = false := by
    refine frozen_keep (v := .int .i64 kk) hb2 ?_ ?_
    · repeat (first | with_reducible assumption | (with_reducible apply set1b; with_reducible assumption) | (with_reducible refine (sc_other _ ?_).trans ?_; focus (simp; done)) | (refine cell_new' ?_ _ _ _ rfl; focus (simp; done)) | with_reducible refine cell_keep (below_new _ _) ?_)
    · repeat (first | with_reducible assumption | with_reducible refine frozen_set _ ?_ | (refine frozen_new' ?_ _ _ _; focus (simp; done)) | (refine frozen_alloc ?_ ?_; focus (simp; done)) | (refine frozen_keep (below_new _ _) (by with_reducible assumption) ?_))
  have c2_10 : w2.cell? ⟨w.heap.size + 1 + 1, 2, none⟩ = some (.slice none 0 0) := by
    refine cell_keep hb2 ?_
    repeat (first | with_reducible assumption | (with_reducible apply set1b; with_reducible assumption) | (with_reducible refine (sc_other _ ?_).trans ?_; focus (simp; done)) | (refine cell_new' ?_ _ _ _ rfl; focus (simp; done)) | with_reducible refine cell_keep (below_new _ _) ?_)
  have f2_10 : w2.frozen? ⟨w.heap.size + 1 + 1, 2, none⟩ = false := by
    refine frozen_keep (v := .slice none 0 0) hb2 ?_ ?_
    · repeat (first | with_reducible assumption | (with_reducible apply set1b; with_reducible assumption) | (with_reducible refine (sc_other _ ?_).trans ?_; focus (simp; done)) | (refine cell_new' ?_ _ _ _ rfl; focus (simp; done)) | with_reducible refine cell_keep (below_new _ _) ?_)
    · repeat (first | with_reducible assumption | with_reducible refine frozen_set _ ?_ | (refine frozen_new' ?_ _ _ _; focus (simp; done)) | (refine frozen_alloc ?_ ?_; focus (simp; done)) | (refine frozen_keep (below_new _ _) (by with_reducible assumption) ?_))
  have c2_11 : w2.cell? ⟨w.heap.size + 1 + 1, 3, none⟩ = some (.slice none 0 0) := by
    refine cell_keep hb2 ?_
    repeat (first | with_reducible assumption | (with_reducible apply set1b; with_reducible assumption) | (with_reducible refine (sc_other _ ?_).trans ?_; focus (simp; done)) | (refine cell_new' ?_ _ _ _ rfl; focus (simp; done)) | with_reducible refine cell_keep (below_new _ _) ?_)
  have f2_11 : w2.frozen? ⟨w.heap.size + 1 + 1, 3, none⟩ = false := by
    refine frozen_keep (v := .slice none 0 0) hb2 ?_ ?_
    · repeat (first | with_reducible assumption | (with_reducible apply set1b; with_reducible assumption) | (with_reducible refine (sc_other _ ?_).trans ?_; focus (simp; done)) | (refine cell_new' ?_ _ _ _ rfl; focus (simp; done)) | with_reducible refine cell_keep (below_new _ _) ?_)
    · repeat (first | with_reducible assumption | with_reducible refine frozen_set _ ?_ | (refine frozen_new' ?_ _ _ _; focus (simp; done)) | (refine frozen_alloc ?_ ?_; focus (simp; done)) | (refine frozen_keep (below_new _ _) (by with_reducible assumption) ?_))
  clear d2_0_0 d2_0_1 d2_0_2 d2_0_3 d2_0_4 d2_0_5 d2_0_6 d2_0_7 d2_0_8 d2_0_9 d2_0_10 d2_0_11 d2_1_0 d2_1_1 d2_1_2 d2_1_3 d2_1_4 d2_1_5 d2_1_6 d2_1_7 d2_1_8 d2_1_9 d2_1_10 d2_1_11
  clear c1_0 c1_1 c1_2 c1_3 c1_4 f1_4 c1_5 f1_5 c1_6 f1_6 c1_7 f1_7 c1_8 f1_8 c1_9 f1_9 c1_10 f1_10 c1_11 f1_11
  have hS2 : Below ((w1.setCell ⟨w.heap.size + 1 + 1, 0, none⟩ (.slice B_kq kq.length d_kq)).setCell ⟨w.heap.size + 1 + 1, 1, none⟩ (.int .i64 kk)).heap.size ((w1.setCell ⟨w.heap.size + 1 + 1, 0, none⟩ (.slice B_kq kq.length d_kq)).setCell ⟨w.heap.size + 1 + 1, 1, none⟩ (.int .i64 kk)) w2 := bnext (by repeat (first | exact Below.refl _ _ | refine bnew ?_ _ | refine Below.drew ?_ | refine Below.drewN ?_ _ | (refine below_set _ ?_ ?_; rotate_left; focus (first | omega | (simp; done) | (simp <;> omega))))) hb2
  have ho_kq_2 := ((ho_kq.set_ ⟨w.heap.size + 1 + 1, 0, none⟩ (.slice B_kq kq.length d_kq) (by simp <;> omega)).set_ ⟨w.heap.size + 1 + 1, 1, none⟩ (.int .i64 kk) (by simp <;> omega)).below hS2
  clear ho_kq
  have lt2 : w.heap.size + 1 + 1 < w2.heap.size := World.block_lt_of_cell? _ _ c2_11
  go_wp2_with fail
  refine (toIntS_any A_ks c_ks ks hl_ks _ (hx_ks.next (by repeat (first | exact hT2 | refine bnew ?_ _ | refine Below.drew ?_ | refine Below.drewN ?_ _ | (refine below_set _ ?_ ?_; rotate_left; focus (first | omega | (simp; done) | (simp <;> omega))))))).mono ?_
  rintro e3 w3 ⟨B_ks, d_ks, rfl, ho_ks, hb3⟩
  have ap_kc_ks : apart (.slice B_kc kc.length d_kc) (.slice B_ks ks.length d_ks) := apart_of ho_kc ho_ks (by simp)
  have ap_kq_ks : apart (.slice B_kq kq.length d_kq) (.slice B_ks ks.length d_ks) := apart_of ho_kq_2 ho_ks (by simp)
  have hT3 : Below w.heap.size w w3 := bnext (by repeat (first | exact hT2 | refine bnew ?_ _ | refine Below.drew ?_ | refine Below.drewN ?_ _ | (refine below_set _ ?_ ?_; rotate_left; focus (first | omega | (simp; done) | (simp <;> omega))))) hb3
  have d3_0_0 : (w2.setCell ⟨w.heap.size + 1 + 1, 2, none⟩ (.slice B_kc kc.length d_kc)).cell? ⟨w.heap.size, 0, none⟩ = some (.slice A_kq kq.length c_kq) := (sc_other _ (by simp)).trans c2_0
  have d3_0_1 : (w2.setCell ⟨w.heap.size + 1 + 1, 2, none⟩ (.slice B_kc kc.length d_kc)).cell? ⟨w.heap.size, 1, none⟩ = some (.int .i64 kk) := (sc_other _ (by simp)).trans c2_1
  have d3_0_2 : (w2.setCell ⟨w.heap.size + 1 + 1, 2, none⟩ (.slice B_kc kc.length d_kc)).cell? ⟨w.heap.size, 2, none⟩ = some (.slice A_kc kc.length c_kc) := (sc_other _ (by simp)).trans c2_2
  have d3_0_3 : (w2.setCell ⟨w.heap.size + 1 + 1, 2, none⟩ (.slice B_kc kc.length d_kc)).cell? ⟨w.heap.size, 3, none⟩ = some (.slice A_ks ks.length c_ks) := (sc_other _ (by simp)).trans c2_3
  have d3_0_4 : (w2.setCell ⟨w.heap.size + 1 + 1, 2, none⟩ (.slice B_kc kc.length d_kc)).cell? ⟨w.heap.size + 1, 0, none⟩ = some (.slice none 0 0) := (sc_other _ (by simp)).trans c2_4
  have d3_0_5 : (w2.setCell ⟨w.heap.size + 1 + 1, 2, none⟩ (.slice B_kc kc.length d_kc)).cell? ⟨w.heap.size + 1, 1, none⟩ = some (.int .i64 0) := (sc_other _ (by simp)).trans c2_5
  have d3_0_6 : (w2.setCell ⟨w.heap.size + 1 + 1, 2, none⟩ (.slice B_kc kc.length d_kc)).cell? ⟨w.heap.size + 1, 2, none⟩ = some (.slice none 0 0) := (sc_other _ (by simp)).trans c2_6
  have d3_0_7 : (w2.setCell ⟨w.heap.size + 1 + 1, 2, none⟩ (.slice B_kc kc.length d_kc)).cell? ⟨w.heap.size + 1, 3, none⟩ = some (.slice none 0 0) := (sc_other _ (by simp)).trans c2_7
  have d3_0_8 : (w2.setCell ⟨w.heap.size + 1 + 1, 2, none⟩ (.slice B_kc kc.length d_kc)).cell? ⟨w.heap.size + 1 + 1, 0, none⟩ = some (.slice B_kq kq.length d_kq) := (sc_other _ (by simp)).trans c2_8
  have d3_0_9 : (w2.setCell ⟨w.heap.size + 1 + 1, 2, none⟩ (.slice B_kc kc.length d_kc)).cell? ⟨w.heap.size + 1 + 1, 1, none⟩ = some (.int .i64 kk) := (sc_other _ (by simp)).trans c2_9
  have d3_0_10 : (w2.setCell ⟨w.heap.size + 1 + 1, 2, none⟩ (.slice B_kc kc.length d_kc)).cell? ⟨w.heap.size + 1 + 1, 2, none⟩ = some (.slice B_kc kc.length d_kc) := set1b _ c2_10
  have d3_0_11 : (w2.setCell ⟨w.heap.size + 1 + 1, 2, none⟩ (.slice B_kc kc.length d_kc)).cell? ⟨w.heap.size + 1 + 1, 3, none⟩ = some (.slice none 0 0) := (sc_other _ (by simp)).trans c2_11
  have c3_0 : w3.cell? ⟨w.heap.size, 0, none⟩ = some (.slice A_kq kq.length c_kq) := by
    refine cell_keep hb3 ?_
    repeat (first | with_reducible assumption | (with_reducible apply set1b; with_reducible assumption) | (with_reducible refine (sc_other _ ?_).trans ?_; focus (simp; done)) | (refine cell_new' ?_ _ _ _ rfl; focus (simp; done)) | with_reducible refine cell_keep (below_new _ _) ?_)
  have c3_1 : w3.cell? ⟨w.heap.size, 1, none⟩ = some (.int .i64 kk) := by
    refine cell_keep hb3 ?_
    repeat (first | with_reducible assumption | (with_reducible apply set1b; with_reducible assumption) | (with_reducible refine (sc_other _ ?_).trans ?_; focus (simp; done)) | (refine cell_new' ?_ _ _ _ rfl; focus (simp; done)) | with_reducible refine cell_keep (below_new _ _) ?_)
  have c3_2 : w3.cell? ⟨w.heap.size, 2, none⟩ = some (.slice A_kc kc.length c_kc) := by
    refine cell_keep hb3 ?_
    repeat (first | with_reducible assumption | (with_reducible apply set1b; with_reducible assumption) | (with_reducible refine (sc_other _ ?_).trans ?_; focus (simp; done)) | (refine cell_new' ?_ _ _ _ rfl; focus (simp; done)) | with_reducible refine cell_keep (below_new _ _) ?_)
  have c3_3 : w3.cell? ⟨w.heap.size, 3, none⟩ = some (.slice A_ks ks.length c_ks) := by
    refine cell_keep hb3 ?_
    repeat (first | with_reducible assumption | (with_reducible apply set1b; with_reducible assumption) | (with_reducible refine (sc_other _ ?_).trans ?_; focus (simp; done)) | (refine cell_new' ?_ _ _ _ rfl; focus (simp; done)) | with_reducible refine cell_keep (below_new _ _) ?_)
  have c3_4 : w3.cell? ⟨w.heap.size + 1, 0, none⟩ = some (.slice none 0 0) := by
    refine cell_keep hb3 ?_
    repeat (first | with_reducible assumption | (with_reducible apply set1b; with_reducible assumption) | (with_reducible refine (sc_other _ ?_).trans ?_; focus (simp; done)) | (refine cell_new' ?_ _ _ _ rfl; focus (simp; done)) | with_reducible refine cell_keep (below_new _ _) ?_)
  have f3_4 : w3.frozen? ⟨w.heap.size + 1, 0, none⟩ = false := by
    refine frozen_keep (v := .slice none 0 0) hb3 ?_ ?_
    · repeat (first | with_reducible assumption | (with_reducible apply set1b; with_reducible assumption) | (with_reducible refine (sc_other _ ?_).trans ?_; focus (simp; done)) | (refine cell_new' ?_ _ _ _ rfl; focus (simp; done)) | with_reducible refine cell_keep (below_new _ _) ?_)
    · repeat (first | with_reducible assumption | with_reducible refine frozen_set _ ?_ | (refine frozen_new' ?_ _ _ _; focus (simp; done)) | (refine frozen_alloc ?_ ?_; focus (simp; done)) | (refine frozen_keep (below_new _ _) (by with_reducible assumption) ?_))
  have c3_5 : w3.cell? ⟨w.heap.size + 1, 1, none⟩ = some (.int .i64 0) := by
    refine cell_keep hb3 ?_
    repeat (first | with_reducible assumption | (with_reducible apply set1b; with_reducible assumption) | (with_reducible refine (sc_other _ ?_).trans ?_; focus (simp; done)) | (refine cell_new' ?_ _ _ _ rfl; focus (simp; done)) | with_reducible refine cell_keep (below_new _ _) ?_)
  have f3_5 : w3.frozen? ⟨w.heap.size + 1, 1, none⟩ = false := by
    refine frozen_keep (v := .int .i64 0) hb3 ?_ ?_
    · repeat (first | with_reducible assumption | (with_reducible apply set1b; with_reducible assumption) | (with_reducible refine (sc_other _ ?_).trans ?_; focus (simp; done)) | (refine cell_new' ?_ _ _ _ rfl; focus (simp; done)) | with_reducible refine cell_keep (below_new _ _) ?_)
    · repeat (first | with_reducible assumption | with_reducible refine frozen_set _ ?_ | (refine frozen_new' ?_ _ _ _; focus (simp; done)) | (refine frozen_alloc ?_ ?_; focus (simp; done)) | (refine frozen_keep (below_new _ _) (by with_reducible assumption) ?_))
  have c3_6 : w3.cell? ⟨w.heap.size + 1, 2, none⟩ = some (.slice none 0 0) := by
    refine cell_keep hb3 ?_
    repeat (first | with_reducible assumption | (with_reducible apply set1b; with_reducible assumption) | (with_reducible refine (sc_other _ ?_).trans ?_; focus (simp; done)) | (refine cell_new' ?_ _ _ _ rfl; focus (simp; done)) | with_reducible refine cell_keep (below_new _ _) ?_)
  have f3_6 : w3.frozen? ⟨w.heap.size + 1, 2, none⟩ = false := by
    refine frozen_keep (v := .slice none 0 0) hb3 ?_ ?_
    · repeat (first | with_reducible assumption | (with_reducible apply set1b; with_reducible assumption) | (with_reducible refine (sc_other _ ?_).trans ?_; focus (simp; done)) | (refine cell_new' ?_ _ _ _ rfl; focus (simp; done)) | with_reducible refine cell_keep (below_new _ _) ?_)
    · repeat (first | with_reducible assumption | with_reducible refine frozen_set _ ?_ | (refine frozen_new' ?_ _ _ _; focus (simp; done)) | (refine frozen_alloc ?_ ?_; focus (simp; done)) | (refine frozen_keep (below_new _ _) (by with_reducible assumption) ?_))
  have c3_7 : w3.cell? ⟨w.heap.size + 1, 3, none⟩ = some (.slice none 0 0) := by
    refine cell_keep hb3 ?_
    repeat (first | with_reducible assumption | (with_reducible apply set1b; with_reducible assumption) | (with_reducible refine (sc_other _ ?_).trans ?_; focus (simp; done)) | (refine cell_new' ?_ _ _ _ rfl; focus (simp; done)) | with_reducible refine cell_keep (below_new _ _) ?_)
  have f3_7 : w3.frozen? ⟨w.heap.size + 1, 3, none⟩ = false := by
    refine frozen_keep (v := .slice none 0 0) hb3 ?_ ?_
    · repeat (first | with_reducible assumption | (with_reducible apply set1b; with_reducible assumption) | (with_reducible refine (sc_other _ ?_).trans ?_; focus (simp; done)) | (refine cell_new' ?_ _ _ _ rfl; focus (simp; done)) | with_reducible refine cell_keep (below_new _ _) ?_)
    · repeat (first | with_reducible assumption | with_reducible refine frozen_set _ ?_ | (refine frozen_new' ?_ _ _ _; focus (simp; done)) | (refine frozen_alloc ?_ ?_; focus (simp; done)) | (refine frozen_keep (below_new _ _) (by with_reducible assumption) ?_))
  have c3_8 : w3.cell? ⟨w.heap.size + 1 + 1, 0, none⟩ = some (.slice B_kq kq.length d_kq) := by
    refine cell_keep hb3 ?_
    repeat (first | with_reducible assumption | (with_reducible apply set1b; with_reducible assumption) | (with_reducible refine (sc_other _ ?_).trans ?_; focus (simp; done)) | (refine cell_new' ?_ _ _ _ rfl; focus (simp; done)) | with_reducible refine cell_keep (below_new _ _) ?_)
  have f3_8 : w3.frozen? ⟨w.heap.size + 1 + 1, 0, none⟩ = false := by
    refine frozen_keep (v := .slice B_kq kq.length d_kq) hb3 ?_ ?_
    · repeat (first | with_reducible assumption | (with_reducible apply set1b; with_reducible assumption) | (with_reducible refine (sc_other _ ?_).trans ?_; focus (simp; done)) | (refine cell_new' ?_ _ _ _ rfl; focus (simp; done)) | with_reducible refine cell_keep (below_new _ _) ?_)
    · repeat (first | with_reducible assumption | with_reducible refine frozen_set _ ?_ | (refine frozen_new' ?_ _ _ _; focus (simp; done)) | (refine frozen_alloc ?_ ?_; focus (simp; done)) | (refine frozen_keep (below_new _ _) (by with_reducible assumption) ?_))
  have c3_9 : w3.cell? ⟨w.heap.size + 1 + 1, 1, none⟩ = some (.int .i64 kk) := by
    refine cell_keep hb3 ?_
    repeat (first | with_reducible assumption | (with_reducible apply set1b; with_reducible assumption) | (with_reducible refine (sc_other _ ?_).trans ?_; focus (simp; done)) | (refine cell_new' ?_ _ _ _ rfl; focus (simp; done)) | with_reducible refine cell_keep (below_new _ _) ?_)
  have f3_9 : w3.frozen? ⟨w.heap.size + 1 + 1, 1, none⟩ = false := by
    refine frozen_keep (v := .int .i64 kk) hb3 ?_ ?_
    · repeat (first | with_reducible assumption | (with_reducible apply set1b; with_reducible assumption) | (with_reducible refine (sc_other _ ?_).trans ?_; focus (simp; done)) | (refine cell_new' ?_ _ _ _ rfl; focus (simp; done)) | with_reducible refine cell_keep (below_new _ _) ?_)
    · repeat (first | with_reducible assumption | with_reducible refine frozen_set _ ?_ | (refine frozen_new' ?_ _ _ _; focus (simp; done)) | (refine frozen_alloc ?_ ?_; focus (simp; done)) | (refine frozen_keep (below_new _ _) (by with_reducible assumption) ?_))
  have c3_10 : w3.cell? ⟨w.heap.size + 1 + 1, 2, none⟩ = some (.slice B_kc kc.length d_kc) := by
    refine cell_keep hb3 ?_
    repeat (first | with_reducible assumption | (with_reducible apply set1b; with_reducible assumption) | (with_reducible refine (sc_other _ ?_).trans ?_; focus (simp; done)) | (refine cell_new' ?_ _ _ _ rfl; focus (simp; done)) | with_reducible refine cell_keep (below_new _ _) ?_)
  have f3_10 : w3.frozen? ⟨w.heap.size + 1 + 1, 2, none⟩ = false := by
    refine frozen_keep (v := .slice B_kc kc.length d_kc) hb3 ?_ ?_
    · repeat (first | with_reducible assumption | (with_reducible apply set1b; with_reducible assumption) | (with_reducible refine (sc_other _ ?_).trans ?_; focus (simp; done)) | (refine cell_new' ?_ _ _ _ rfl; focus (simp; done)) | with_reducible refine cell_keep (below_new _ _) ?_)
    · repeat (first | with_reducible assumption | with_reducible refine frozen_set _ ?_ | (refine frozen_new' ?_ _ _ _; focus (simp; done)) | (refine frozen_alloc ?_ ?_; focus (simp; done)) | (refine frozen_keep (below_new _ _) (by with_reducible assumption) ?_))
  have c3_11 : w3.cell? ⟨w.heap.size + 1 + 1, 3, none⟩ = some (.slice none 0 0) := by
    refine cell_keep hb3 ?_
    repeat (first | with_reducible assumption | (with_reducible apply set1b; with_reducible assumption) | (with_reducible refine (sc_other _ ?_).trans ?_; focus (simp; done)) | (refine cell_new' ?_ _ _ _ rfl; focus (simp; done)) | with_reducible refine cell_keep (below_new _ _) ?_)
  have f3_11 : w3.frozen? ⟨w.heap.size + 1 + 1, 3, none⟩ = false := by
    refine frozen_keep (v := .slice none 0 0) hb3 ?_ ?_
    · repeat (first | with_reducible assumption | (with_reducible apply set1b; with_reducible assumption) | (with_reducible refine (sc_other _ ?_).trans ?_; focus (simp; done)) | (refine cell_new' ?_ _ _ _ rfl; focus (simp; done)) | with_reducible refine cell_keep (below_new _ _) ?_)
    · repeat (first | with_reducible assumption | with_reducible refine frozen_set _ ?_ | (refine frozen_new' ?_ _ _ _; focus (simp; done)) | (refine frozen_alloc ?_ ?_; focus (simp; done)) | (refine frozen_keep (below_new _ _) (by with_reducible assumption) ?_))
  clear d3_0_0 d3_0_1 d3_0_2 d3_0_3 d3_0_4 d3_0_5 d3_0_6 d3_0_7 d3_0_8 d3_0_9 d3_0_10 d3_0_11
  clear c2_0 c2_1 c2_2 c2_3 c2_4 f2_4 c2_5 f2_5 c2_6 f2_6 c2_7 f2_7 c2_8 f2_8 c2_9 f2_9 c2_10 f2_10 c2_11 f2_11
  have hS3 : Below (w2.setCell ⟨w.heap.size + 1 + 1, 2, none⟩ (.slice B_kc kc.length d_kc)).heap.size (w2.setCell ⟨w.heap.size + 1 + 1, 2, none⟩ (.slice B_kc kc.length d_kc)) w3 := bnext (by repeat (first | exact Below.refl _ _ | refine bnew ?_ _ | refine Below.drew ?_ | refine Below.drewN ?_ _ | (refine below_set _ ?_ ?_; rotate_left; focus (first | omega | (simp; done) | (simp <;> omega))))) hb3
  have ho_kq_3 := (ho_kq_2.set_ ⟨w.heap.size + 1 + 1, 2, none⟩ (.slice B_kc kc.length d_kc) (by simp <;> omega)).below hS3
  clear ho_kq_2
  have ho_kc_3 := (ho_kc.set_ ⟨w.heap.size + 1 + 1, 2, none⟩ (.slice B_kc kc.length d_kc) (by simp <;> omega)).below hS3
  clear ho_kc
  have lt3 : w.heap.size + 1 + 1 < w3.heap.size := World.block_lt_of_cell? _ _ c3_11
  go_wp2
  have d4_0_0 : (w3.setCell ⟨w.heap.size + 1 + 1, 3, none⟩ (.slice B_ks ks.length d_ks)).cell? ⟨w.heap.size, 0, none⟩ = some (.slice A_kq kq.length c_kq) := (sc_other _ (by simp)).trans c3_0
  have d4_0_1 : (w3.setCell ⟨w.heap.size + 1 + 1, 3, none⟩ (.slice B_ks ks.length d_ks)).cell? ⟨w.heap.size, 1, none⟩ = some (.int .i64 kk) := (sc_other _ (by simp)).trans c3_1
  have d4_0_2 : (w3.setCell ⟨w.heap.size + 1 + 1, 3, none⟩ (.slice B_ks ks.length d_ks)).cell? ⟨w.heap.size, 2, none⟩ = some (.slice A_kc kc.length c_kc) := (sc_other _ (by simp)).trans c3_2
  have d4_0_3 : (w3.setCell ⟨w.heap.size + 1 + 1, 3, none⟩ (.slice B_ks ks.length d_ks)).cell? ⟨w.heap.size, 3, none⟩ = some (.slice A_ks ks.length c_ks) := (sc_other _ (by simp)).trans c3_3
  have d4_0_4 : (w3.setCell ⟨w.heap.size + 1 + 1, 3, none⟩ (.slice B_ks ks.length d_ks)).cell? ⟨w.heap.size + 1, 0, none⟩ = some (.slice none 0 0) := (sc_other _ (by simp)).trans c3_4
  have d4_0_5 : (w3.setCell ⟨w.heap.size + 1 + 1, 3, none⟩ (.slice B_ks ks.length d_ks)).cell? ⟨w.heap.size + 1, 1, none⟩ = some (.int .i64 0) := (sc_other _ (by simp)).trans c3_5
  have d4_0_6 : (w3.setCell ⟨w.heap.size + 1 + 1, 3, none⟩ (.slice B_ks ks.length d_ks)).cell? ⟨w.heap.size + 1, 2, none⟩ = some (.slice none 0 0) := (sc_other _ (by simp)).trans c3_6
  have d4_0_7 : (w3.setCell ⟨w.heap.size + 1 + 1, 3, none⟩ (.slice B_ks ks.length d_ks)).cell? ⟨w.heap.size + 1, 3, none⟩ = some (.slice none 0 0) := (sc_other _ (by simp)).trans c3_7
  have d4_0_8 : (w3.setCell ⟨w.heap.size + 1 + 1, 3, none⟩ (.slice B_ks ks.length d_ks)).cell? ⟨w.heap.size + 1 + 1, 0, none⟩ = some (.slice B_kq kq.length d_kq) := (sc_other _ (by simp)).trans c3_8
  have d4_0_9 : (w3.setCell ⟨w.heap.size + 1 + 1, 3, none⟩ (.slice B_ks ks.length d_ks)).cell? ⟨w.heap.size + 1 + 1, 1, none⟩ = some (.int .i64 kk) := (sc_other _ (by simp)).trans c3_9
  have d4_0_10 : (w3.setCell ⟨w.heap.size + 1 + 1, 3, none⟩ (.slice B_ks ks.length d_ks)).cell? ⟨w.heap.size + 1 + 1, 2, none⟩ = some (.slice B_kc kc.length d_kc) := (sc_other _ (by simp)).trans c3_10
  have d4_0_11 : (w3.setCell ⟨w.heap.size + 1 + 1, 3, none⟩ (.slice B_ks ks.length d_ks)).cell? ⟨w.heap.size + 1 + 1, 3, none⟩ = some (.slice B_ks ks.length d_ks) := set1b _ c3_11
  have r4 : (w3.setCell ⟨w.heap.size + 1 + 1, 3, none⟩ (.slice B_ks ks.length d_ks)).cell? ⟨w.heap.size + 1, 0, none⟩ = some (.slice none 0 0) := by
    repeat (first | with_reducible assumption | (with_reducible apply set1b; with_reducible assumption) | (with_reducible refine (sc_other _ ?_).trans ?_; focus (simp; done)) | (refine cell_new' ?_ _ _ _ rfl; focus (simp; done)) | with_reducible refine cell_keep (below_new _ _) ?_)
  have r5 : (w3.setCell ⟨w.heap.size + 1 + 1, 3, none⟩ (.slice B_ks ks.length d_ks)).cell? ⟨w.heap.size + 1, 1, none⟩ = some (.int .i64 0) := by
    repeat (first | with_reducible assumption | (with_reducible apply set1b; with_reducible assumption) | (with_reducible refine (sc_other _ ?_).trans ?_; focus (simp; done)) | (refine cell_new' ?_ _ _ _ rfl; focus (simp; done)) | with_reducible refine cell_keep (below_new _ _) ?_)
  have r6 : (w3.setCell ⟨w.heap.size + 1 + 1, 3, none⟩ (.slice B_ks ks.length d_ks)).cell? ⟨w.heap.size + 1, 2, none⟩ = some (.slice none 0 0) := by
    repeat (first | with_reducible assumption | (with_reducible apply set1b; with_reducible assumption) | (with_reducible refine (sc_other _ ?_).trans ?_; focus (simp; done)) | (refine cell_new' ?_ _ _ _ rfl; focus (simp; done)) | with_reducible refine cell_keep (below_new _ _) ?_)
  have r7 : (w3.setCell ⟨w.heap.size + 1 + 1, 3, none⟩ (.slice B_ks ks.length d_ks)).cell? ⟨w.heap.size + 1, 3, none⟩ = some (.slice none 0 0) := by
    repeat (first | with_reducible assumption | (with_reducible apply set1b; with_reducible assumption) | (with_reducible refine (sc_other _ ?_).trans ?_; focus (simp; done)) | (refine cell_new' ?_ _ _ _ rfl; focus (simp; done)) | with_reducible refine cell_keep (below_new _ _) ?_)
  have r8 : (w3.setCell ⟨w.heap.size + 1 + 1, 3, none⟩ (.slice B_ks ks.length d_ks)).cell? ⟨w.heap.size + 1 + 1, 0, none⟩ = some (.slice B_kq kq.length d_kq) := by
    repeat (first | with_reducible assumption | (with_reducible apply set1b; with_reducible assumption) | (with_reducible refine (sc_other _ ?_).trans ?_; focus (simp; done)) | (refine cell_new' ?_ _ _ _ rfl; focus (simp; done)) | with_reducible refine cell_keep (below_new _ _) ?_)
  have r9 : (w3.setCell ⟨w.heap.size + 1 + 1, 3, none⟩ (.slice B_ks ks.length d_ks)).cell? ⟨w.heap.size + 1 + 1, 1, none⟩ = some (.int .i64 kk) := by
    repeat (first | with_reducible assumption | (with_reducible apply set1b; with_reducible assumption) | (with_reducible refine (sc_other _ ?_).trans ?_; focus (simp; done)) | (refine cell_new' ?_ _ _ _ rfl; focus (simp; done)) | with_reducible refine cell_keep (below_new _ _) ?_)
  have r10 : (w3.setCell ⟨w.heap.size + 1 + 1, 3, none⟩ (.slice B_ks ks.length d_ks)).cell? ⟨w.heap.size + 1 + 1, 2, none⟩ = some (.slice B_kc kc.length d_kc) := by
    repeat (first | with_reducible assumption | (with_reducible apply set1b; with_reducible assumption) | (with_reducible refine (sc_other _ ?_).trans ?_; focus (simp; done)) | (refine cell_new' ?_ _ _ _ rfl; focus (simp; done)) | with_reducible refine cell_keep (below_new _ _) ?_)
  have r11 : (w3.setCell ⟨w.heap.size + 1 + 1, 3, none⟩ (.slice B_ks ks.length d_ks)).cell? ⟨w.heap.size + 1 + 1, 3, none⟩ = some (.slice B_ks ks.length d_ks) := by
    repeat (first | with_reducible assumption | (with_reducible apply set1b; with_reducible assumption) | (with_reducible refine (sc_other _ ?_).trans ?_; focus (simp; done)) | (refine cell_new' ?_ _ _ _ rfl; focus (simp; done)) | with_reducible refine cell_keep (below_new _ _) ?_)
  have z0 := set1b (W := (w3.setCell ⟨w.heap.size + 1 + 1, 3, none⟩ (.slice B_ks ks.length d_ks))) (b := w.heap.size + 1) (i := 0) (.slice B_kq kq.length d_kq) r4
  have z1 := set1b (W := ((w3.setCell ⟨w.heap.size + 1 + 1, 3, none⟩ (.slice B_ks ks.length d_ks)).setCell ⟨w.heap.size + 1, 0, none⟩ (.slice B_kq kq.length d_kq))) (b := w.heap.size + 1) (i := 1) (.int .i64 kk) ((sc_other _ (by simp)).trans r5)
  have z2 := set1b (W := (((w3.setCell ⟨w.heap.size + 1 + 1, 3, none⟩ (.slice B_ks ks.length d_ks)).setCell ⟨w.heap.size + 1, 0, none⟩ (.slice B_kq kq.length d_kq)).setCell ⟨w.heap.size + 1, 1, none⟩ (.int .i64 kk))) (b := w.heap.size + 1) (i := 2) (.slice B_kc kc.length d_kc) ((sc_other _ (by simp)).trans ((sc_other _ (by simp)).trans r6))
  have z3 := set1b (W := ((((w3.setCell ⟨w.heap.size + 1 + 1, 3, none⟩ (.slice B_ks ks.length d_ks)).setCell ⟨w.heap.size + 1, 0, none⟩ (.slice B_kq kq.length d_kq)).setCell ⟨w.heap.size + 1, 1, none⟩ (.int .i64 kk)).setCell ⟨w.heap.size + 1, 2, none⟩ (.slice B_kc kc.length d_kc))) (b := w.heap.size + 1) (i := 3) (.slice B_ks ks.length d_ks) ((sc_other _ (by simp)).trans ((sc_other _ (by simp)).trans ((sc_other _ (by simp)).trans r7)))
  refine bodyPost_ret (v := .agg #[.slice B_kq kq.length d_kq, .int .i64 kk, .slice B_kc kc.length d_kc, .slice B_ks ks.length d_ks]) (by simp [results, Try.results27, go_sem, r8, r9, r10, r11, z0, z1, z2, z3]) rfl ⟨B_kq, d_kq, B_kc, d_kc, B_ks, d_ks, rfl, ⟨?_, ?_⟩, ?_⟩
  have hq_kq := (((((ho_kq_3.set_ ⟨w.heap.size + 1 + 1, 3, none⟩ (.slice B_ks ks.length d_ks) (by simp <;> omega)).set_ ⟨w.heap.size + 1, 0, none⟩ (.slice B_kq kq.length d_kq) (by simp <;> omega)).set_ ⟨w.heap.size + 1, 1, none⟩ (.int .i64 kk) (by simp <;> omega)).set_ ⟨w.heap.size + 1, 2, none⟩ (.slice B_kc kc.length d_kc) (by simp <;> omega)).set_ ⟨w.heap.size + 1, 3, none⟩ (.slice B_ks ks.length d_ks) (by simp <;> omega))
  have hq_kc := (((((ho_kc_3.set_ ⟨w.heap.size + 1 + 1, 3, none⟩ (.slice B_ks ks.length d_ks) (by simp <;> omega)).set_ ⟨w.heap.size + 1, 0, none⟩ (.slice B_kq kq.length d_kq) (by simp <;> omega)).set_ ⟨w.heap.size + 1, 1, none⟩ (.int .i64 kk) (by simp <;> omega)).set_ ⟨w.heap.size + 1, 2, none⟩ (.slice B_kc kc.length d_kc) (by simp <;> omega)).set_ ⟨w.heap.size + 1, 3, none⟩ (.slice B_ks ks.length d_ks) (by simp <;> omega))
  have hq_ks := (((((ho_ks.set_ ⟨w.heap.size + 1 + 1, 3, none⟩ (.slice B_ks ks.length d_ks) (by simp <;> omega)).set_ ⟨w.heap.size + 1, 0, none⟩ (.slice B_kq kq.length d_kq) (by simp <;> omega)).set_ ⟨w.heap.size + 1, 1, none⟩ (.int .i64 kk) (by simp <;> omega)).set_ ⟨w.heap.size + 1, 2, none⟩ (.slice B_kc kc.length d_kc) (by simp <;> omega)).set_ ⟨w.heap.size + 1, 3, none⟩ (.slice B_ks ks.length d_ks) (by simp <;> omega))
  · intro r hr
    simp only [List.mem_cons, List.not_mem_nil, or_false] at hr
    rcases hr with rfl | rfl | rfl
    · exact hq_kq.lo (by simp <;> omega)
    · exact hq_kc.lo (by simp <;> omega)
    · exact hq_ks.lo (by simp <;> omega)
  · simp only [List.pairwise_cons, List.mem_cons, List.not_mem_nil, or_false, forall_eq_or_imp, forall_eq, false_imp_iff, implies_true, and_true, List.Pairwise.nil]
    exact ⟨⟨ap_kq_kc, ap_kq_ks⟩, ap_kc_ks⟩
  · exact (by repeat (first | exact hT3 | refine bnew ?_ _ | refine Below.drew ?_ | refine Below.drewN ?_ _ | (refine below_set _ ?_ ?_; rotate_left; focus (first | omega | (simp; done) | (simp <;> omega)))))
theorem szKeyGen_any (A_kq : Option Addr) (c_kq : Nat) (kq : List Int) (hl_kq : kq.length ≤ 9223372036854775807) (kk : Int) (A_kc : Option Addr) (c_kc : Nat) (kc : List Int) (hl_kc : kc.length ≤ 9223372036854775807) (A_ks : Option Addr) (c_ks : Nat) (ks : List Int) (hl_ks : ks.length ≤ 9223372036854775807) (l : Int) (hl : l ≤ 1048576) (h0 : -1 ≤ l) (w : World) :
    Calls Try.prog 25 #[.agg #[.slice A_kq kq.length c_kq, .int .i64 kk, .slice A_kc kc.length c_kc, .slice A_ks ks.length c_ks], .int .i64 l] w fun en w' => en = .returned (.int .i64 (if l - kq.length - kc.length - ks.length < 0 then -1 else l - kq.length - kc.length - ks.length)) ∧ Below w.heap.size w w' := by
  go_enter Try.func25, Try.ntmps25
  go_wp2_with fail
  refine (szIntS_any A_kq kq.length c_kq (l) (by omega) (by omega) hl_kq _).mono ?_
  rintro e0 w0 ⟨rfl, rfl⟩
  by_cases hz0 : l - kq.length < 0
  · rw [if_pos hz0]
    go_wp2
    go_ret
    exact ⟨ret_int (by first | rfl | rw [if_pos (show (l - kq.length - kc.length - ks.length : Int) < 0 by omega)]), below_new w _⟩
  rw [if_neg hz0]
  go_wp2_with fail
  refine (szIntS_any A_kc kc.length c_kc (l - kq.length) (by omega) (by omega) hl_kc _).mono ?_
  rintro e1 w1 ⟨rfl, rfl⟩
  by_cases hz1 : l - kq.length - kc.length < 0
  · rw [if_pos hz1]
    go_wp2
    go_ret
    exact ⟨ret_int (by first | rfl | rw [if_pos (show (l - kq.length - kc.length - ks.length : Int) < 0 by omega)]), below_new w _⟩
  rw [if_neg hz1]
  go_wp2_with fail
  refine (szIntS_any A_ks ks.length c_ks (l - kq.length - kc.length) (by omega) (by omega) hl_ks _).mono ?_
  rintro e2 w2 ⟨rfl, rfl⟩
  by_cases hz2 : l - kq.length - kc.length - ks.length < 0
  · rw [if_pos hz2]
    go_wp2
    go_ret
    exact ⟨ret_int (by first | rfl | rw [if_pos (show (l - kq.length - kc.length - ks.length : Int) < 0 by omega)]), below_new w _⟩
  rw [if_neg hz2]
  go_wp2
  go_ret
  exact ⟨ret_int (by first | rfl | rw [if_neg hz2]), below_new w _⟩
set_option maxHeartbeats 400000 in
theorem eqKeyGen_same (A_kq : Option Addr) (c_kq : Nat) (kq : List Int) (hl_kq : kq.length ≤ 9223372036854775807) (kk : Int) (A_kc : Option Addr) (c_kc : Nat) (kc : List Int) (hl_kc : kc.length ≤ 9223372036854775807) (A_ks : Option Addr) (c_ks : Nat) (ks : List Int) (hl_ks : ks.length ≤ 9223372036854775807) (B_kq : Option Addr) (d_kq : Nat) (B_kc : Option Addr) (d_kc : Nat) (B_ks : Option Addr) (d_ks : Nat) (w : World) (hx_kq : RI w w.heap.size A_kq kq) (hx_kc : RI w w.heap.size A_kc kc) (hx_ks : RI w w.heap.size A_ks ks) (hy_kq : RI w w.heap.size B_kq kq) (hy_kc : RI w w.heap.size B_kc kc) (hy_ks : RI w w.heap.size B_ks ks) :
    Calls Try.prog 29 #[.agg #[.slice A_kq kq.length c_kq, .int .i64 kk, .slice A_kc kc.length c_kc, .slice A_ks ks.length c_ks], .agg #[.slice B_kq kq.length d_kq, .int .i64 kk, .slice B_kc kc.length d_kc, .slice B_ks ks.length d_ks]] w fun en w' => en = .returned (.bool true) ∧ Below w.heap.size w w' := by
  have hne_kk : (kk != kk) = false := by simp
  have hT0 : Below w.heap.size w ((w.alloc (.cells #[.slice A_kq kq.length c_kq, .int .i64 kk, .slice A_kc kc.length c_kc, .slice A_ks ks.length c_ks] 52)).alloc (.cells #[.slice B_kq kq.length d_kq, .int .i64 kk, .slice B_kc kc.length d_kc, .slice B_ks ks.length d_ks] 52)) := by repeat (first | exact Below.refl _ _ | refine bnew ?_ _)
  go_enter Try.func29, Try.ntmps29
  go_wp2_with fail
  refine (eqIntS_same A_kq B_kq c_kq d_kq kq hl_kq _ (hx_kq.next (by repeat (first | exact hT0 | refine bnew ?_ _ | refine Below.drew ?_ | refine Below.drewN ?_ _ | (refine below_set _ ?_ ?_; rotate_left; focus (first | omega | (simp; done) | (simp <;> omega)))))) (hy_kq.next (by repeat (first | exact hT0 | refine bnew ?_ _ | refine Below.drew ?_ | refine Below.drewN ?_ _ | (refine below_set _ ?_ ?_; rotate_left; focus (first | omega | (simp; done) | (simp <;> omega))))))).mono ?_
  rintro e1 w1 ⟨rfl, hb1⟩
  have hT1 : Below w.heap.size w w1 := bnext (by repeat (first | exact hT0 | refine bnew ?_ _ | refine Below.drew ?_ | refine Below.drewN ?_ _ | (refine below_set _ ?_ ?_; rotate_left; focus (first | omega | (simp; done) | (simp <;> omega))))) hb1
  have c1_0 : w1.cell? ⟨w.heap.size, 0, none⟩ = some (.slice A_kq kq.length c_kq) := by
    refine cell_keep hb1 ?_
    repeat (first | with_reducible assumption | (with_reducible apply set1b; with_reducible assumption) | (with_reducible refine (sc_other _ ?_).trans ?_; focus (simp; done)) | (refine cell_new' ?_ _ _ _ rfl; focus (simp; done)) | with_reducible refine cell_keep (below_new _ _) ?_)
  have c1_1 : w1.cell? ⟨w.heap.size, 1, none⟩ = some (.int .i64 kk) := by
    refine cell_keep hb1 ?_
    repeat (first | with_reducible assumption | (with_reducible apply set1b; with_reducible assumption) | (with_reducible refine (sc_other _ ?_).trans ?_; focus (simp; done)) | (refine cell_new' ?_ _ _ _ rfl; focus (simp; done)) | with_reducible refine cell_keep (below_new _ _) ?_)
  have c1_2 : w1.cell? ⟨w.heap.size, 2, none⟩ = some (.slice A_kc kc.length c_kc) := by
    refine cell_keep hb1 ?_
    repeat (first | with_reducible assumption | (with_reducible apply set1b; with_reducible assumption) | (with_reducible refine (sc_other _ ?_).trans ?_; focus (simp; done)) | (refine cell_new' ?_ _ _ _ rfl; focus (simp; done)) | with_reducible refine cell_keep (below_new _ _) ?_)
  have c1_3 : w1.cell? ⟨w.heap.size, 3, none⟩ = some (.slice A_ks ks.length c_ks) := by
    refine cell_keep hb1 ?_
    repeat (first | with_reducible assumption | (with_reducible apply set1b; with_reducible assumption) | (with_reducible refine (sc_other _ ?_).trans ?_; focus (simp; done)) | (refine cell_new' ?_ _ _ _ rfl; focus (simp; done)) | with_reducible refine cell_keep (below_new _ _) ?_)
  have c1_4 : w1.cell? ⟨w.heap.size + 1, 0, none⟩ = some (.slice B_kq kq.length d_kq) := by
    refine cell_keep hb1 ?_
    repeat (first | with_reducible assumption | (with_reducible apply set1b; with_reducible assumption) | (with_reducible refine (sc_other _ ?_).trans ?_; focus (simp; done)) | (refine cell_new' ?_ _ _ _ rfl; focus (simp; done)) | with_reducible refine cell_keep (below_new _ _) ?_)
  have c1_5 : w1.cell? ⟨w.heap.size + 1, 1, none⟩ = some (.int .i64 kk) := by
    refine cell_keep hb1 ?_
    repeat (first | with_reducible assumption | (with_reducible apply set1b; with_reducible assumption) | (with_reducible refine (sc_other _ ?_).trans ?_; focus (simp; done)) | (refine cell_new' ?_ _ _ _ rfl; focus (simp; done)) | with_reducible refine cell_keep (below_new _ _) ?_)
  have c1_6 : w1.cell? ⟨w.heap.size + 1, 2, none⟩ = some (.slice B_kc kc.length d_kc) := by
    refine cell_keep hb1 ?_
    repeat (first | with_reducible assumption | (with_reducible apply set1b; with_reducible assumption) | (with_reducible refine (sc_other _ ?_).trans ?_; focus (simp; done)) | (refine cell_new' ?_ _ _ _ rfl; focus (simp; done)) | with_reducible refine cell_keep (below_new _ _) ?_)
  have c1_7 : w1.cell? ⟨w.heap.size + 1, 3, none⟩ = some (.slice B_ks ks.length d_ks) := by
    refine cell_keep hb1 ?_
    repeat (first | with_reducible assumption | (with_reducible apply set1b; with_reducible assumption) | (with_reducible refine (sc_other _ ?_).trans ?_; focus (simp; done)) | (refine cell_new' ?_ _ _ _ rfl; focus (simp; done)) | with_reducible refine cell_keep (below_new _ _) ?_)
  go_wp2_with fail
  refine (eqIntS_same A_kc B_kc c_kc d_kc kc hl_kc _ (hx_kc.next (by repeat (first | exact hT1 | refine bnew ?_ _ | refine Below.drew ?_ | refine Below.drewN ?_ _ | (refine below_set _ ?_ ?_; rotate_left; focus (first | omega | (simp; done) | (simp <;> omega)))))) (hy_kc.next (by repeat (first | exact hT1 | refine bnew ?_ _ | refine Below.drew ?_ | refine Below.drewN ?_ _ | (refine below_set _ ?_ ?_; rotate_left; focus (first | omega | (simp; done) | (simp <;> omega))))))).mono ?_
  rintro e2 w2 ⟨rfl, hb2⟩
  have hT2 : Below w.heap.size w w2 := bnext (by repeat (first | exact hT1 | refine bnew ?_ _ | refine Below.drew ?_ | refine Below.drewN ?_ _ | (refine below_set _ ?_ ?_; rotate_left; focus (first | omega | (simp; done) | (simp <;> omega))))) hb2
  have c2_0 : w2.cell? ⟨w.heap.size, 0, none⟩ = some (.slice A_kq kq.length c_kq) := by
    refine cell_keep hb2 ?_
    repeat (first | with_reducible assumption | (with_reducible apply set1b; with_reducible assumption) | (with_reducible refine (sc_other _ ?_).trans ?_; focus (simp; done)) | (refine cell_new' ?_ _ _ _ rfl; focus (simp; done)) | with_reducible refine cell_keep (below_new _ _) ?_)
  have c2_1 : w2.cell? ⟨w.heap.size, 1, none⟩ = some (.int .i64 kk) := by
    refine cell_keep hb2 ?_
    repeat (first | with_reducible assumption | (with_reducible apply set1b; with_reducible assumption) | (with_reducible refine (sc_other _ ?_).trans ?_; focus (simp; done)) | (refine cell_new' ?_ _ _ _ rfl; focus (simp; done)) | with_reducible refine cell_keep (below_new _ _) ?_)
  have c2_2 : w2.cell? ⟨w.heap.size, 2, none⟩ = some (.slice A_kc kc.length c_kc) := by
    refine cell_keep hb2 ?_
    repeat (first | with_reducible assumption | (with_reducible apply set1b; with_reducible assumption) | (with_reducible refine (sc_other _ ?_).trans ?_; focus (simp; done)) | (refine cell_new' ?_ _ _ _ rfl; focus (simp; done)) | with_reducible refine cell_keep (below_new _ _) ?_)
  have c2_3 : w2.cell? ⟨w.heap.size, 3, none⟩ = some (.slice A_ks ks.length c_ks) := by
    refine cell_keep hb2 ?_
    repeat (first | with_reducible assumption | (with_reducible apply set1b; with_reducible assumption) | (with_reducible refine (sc_other _ ?_).trans ?_; focus (simp; done)) | (refine cell_new' ?_ _ _ _ rfl; focus (simp; done)) | with_reducible refine cell_keep (below_new _ _) ?_)
  have c2_4 : w2.cell? ⟨w.heap.size + 1, 0, none⟩ = some (.slice B_kq kq.length d_kq) := by
    refine cell_keep hb2 ?_
    repeat (first | with_reducible assumption | (with_reducible apply set1b; with_reducible assumption) | (with_reducible refine (sc_other _ ?_).trans ?_; focus (simp; done)) | (refine cell_new' ?_ _ _ _ rfl; focus (simp; done)) | with_reducible refine cell_keep (below_new _ _) ?_)
  have c2_5 : w2.cell? ⟨w.heap.size + 1, 1, none⟩ = some (.int .i64 kk) := by
    refine cell_keep hb2 ?_
    repeat (first | with_reducible assumption | (with_reducible apply set1b; with_reducible assumption) | (with_reducible refine (sc_other _ ?_).trans ?_; focus (simp; done)) | (refine cell_new' ?_ _ _ _ rfl; focus (simp; done)) | with_reducible refine cell_keep (below_new _ _) ?_)
  have c2_6 : w2.cell? ⟨w.heap.size + 1, 2, none⟩ = some (.slice B_kc kc.length d_kc) := by
    refine cell_keep hb2 ?_
    repeat (first | with_reducible assumption | (with_reducible apply set1b; with_reducible assumption) | (with_reducible refine (sc_other _ ?_).trans ?_; focus (simp; done)) | (refine cell_new' ?_ _ _ _ rfl; focus (simp; done)) | with_reducible refine cell_keep (below_new _ _) ?_)
  have c2_7 : w2.cell? ⟨w.heap.size + 1, 3, none⟩ = some (.slice B_ks ks.length d_ks) := by
    refine cell_keep hb2 ?_
    repeat (first | with_reducible assumption | (with_reducible apply set1b; with_reducible assumption) | (with_reducible refine (sc_other _ ?_).trans ?_; focus (simp; done)) | (refine cell_new' ?_ _ _ _ rfl; focus (simp; done)) | with_reducible refine cell_keep (below_new _ _) ?_)
  clear c1_0 c1_1 c1_2 c1_3 c1_4 c1_5 c1_6 c1_7
  go_wp2_with fail
  refine (eqIntS_same A_ks B_ks c_ks d_ks ks hl_ks _ (hx_ks.next (by repeat (first | exact hT2 | refine bnew ?_ _ | refine Below.drew ?_ | refine Below.drewN ?_ _ | (refine below_set _ ?_ ?_; rotate_left; focus (first | omega | (simp; done) | (simp <;> omega)))))) (hy_ks.next (by repeat (first | exact hT2 | refine bnew ?_ _ | refine Below.drew ?_ | refine Below.drewN ?_ _ | (refine below_set _ ?_ ?_; rotate_left; focus (first | omega | (simp; done) | (simp <;> omega))))))).mono ?_
  rintro e3 w3 ⟨rfl, hb3⟩
  have hT3 : Below w.heap.size w w3 := bnext (by repeat (first | exact hT2 | refine bnew ?_ _ | refine Below.drew ?_ | refine Below.drewN ?_ _ | (refine below_set _ ?_ ?_; rotate_left; focus (first | omega | (simp; done) | (simp <;> omega))))) hb3
  have c3_0 : w3.cell? ⟨w.heap.size, 0, none⟩ = some (.slice A_kq kq.length c_kq) := by
    refine cell_keep hb3 ?_
    repeat (first | with_reducible assumption | (with_reducible apply set1b; with_reducible assumption) | (with_reducible refine (sc_other _ ?_).trans ?_; focus (simp; done)) | (refine cell_new' ?_ _ _ _ rfl; focus (simp; done)) | with_reducible refine cell_keep (below_new _ _) ?_)
  have c3_1 : w3.cell? ⟨w.heap.size, 1, none⟩ = some (.int .i64 kk) := by
    refine cell_keep hb3 ?_
    repeat (first | with_reducible assumption | (with_reducible apply set1b; with_reducible assumption) | (with_reducible refine (sc_other _ ?_).trans ?_; focus (simp; done)) | (refine cell_new' ?_ _ _ _ rfl; focus (simp; done)) | with_reducible refine cell_keep (below_new _ _) ?_)
  have c3_2 : w3.cell? ⟨w.heap.size, 2, none⟩ = some (.slice A_kc kc.length c_kc) := by
    refine cell_keep hb3 ?_
    repeat (first | with_reducible assumption | (with_reducible apply set1b; with_reducible assumption) | (with_reducible refine (sc_other _ ?_).trans ?_; focus (simp; done)) | (refine cell_new' ?_ _ _ _ rfl; focus (simp; done)) | with_reducible refine cell_keep (below_new _ _) ?_)
  have c3_3 : w3.cell? ⟨w.heap.size, 3, none⟩ = some (.slice A_ks ks.length c_ks) := by
    refine cell_keep hb3 ?_
    repeat (first | with_reducible assumption | (with_reducible apply set1b; with_reducible assumption) | (with_reducible refine (sc_other _ ?_).trans ?_; focus (simp; done)) | (refine cell_new' ?_ _ _ _ rfl; focus (simp; done)) | with_reducible refine cell_keep (below_new _ _) ?_)
  have c3_4 : w3.cell? ⟨w.heap.size + 1, 0, none⟩ = some (.slice B_kq kq.length d_kq) := by
    refine cell_keep hb3 ?_
    repeat (first | with_reducible assumption | (with_reducible apply set1b; with_reducible assumption) | (with_reducible refine (sc_other _ ?_).trans ?_; focus (simp; done)) | (refine cell_new' ?_ _ _ _ rfl; focus (simp; done)) | with_reducible refine cell_keep (below_new _ _) ?_)
  have c3_5 : w3.cell? ⟨w.heap.size + 1, 1, none⟩ = some (.int .i64 kk) := by
    refine cell_keep hb3 ?_
    repeat (first | with_reducible assumption | (with_reducible apply set1b; with_reducible assumption) | (with_reducible refine (sc_other _ ?_).trans ?_; focus (simp; done)) | (refine cell_new' ?_ _ _ _ rfl; focus (simp; done)) | with_reducible refine cell_keep (below_new _ _) ?_)
  have c3_6 : w3.cell? ⟨w.heap.size + 1, 2, none⟩ = some (.slice B_kc kc.length d_kc) := by
    refine cell_keep hb3 ?_
    repeat (first | with_reducible assumption | (with_reducible apply set1b; with_reducible assumption) | (with_reducible refine (sc_other _ ?_).trans ?_; focus (simp; done)) | (refine cell_new' ?_ _ _ _ rfl; focus (simp; done)) | with_reducible refine cell_keep (below_new _ _) ?_)
  have c3_7 : w3.cell? ⟨w.heap.size + 1, 3, none⟩ = some (.slice B_ks ks.length d_ks) := by
    refine cell_keep hb3 ?_
    repeat (first | with_reducible assumption | (with_reducible apply set1b; with_reducible assumption) | (with_reducible refine (sc_other _ ?_).trans ?_; focus (simp; done)) | (refine cell_new' ?_ _ _ _ rfl; focus (simp; done)) | with_reducible refine cell_keep (below_new _ _) ?_)
  clear c2_0 c2_1 c2_2 c2_3 c2_4 c2_5 c2_6 c2_7
  go_wp2
  go_ret
  exact ⟨rfl, hT3⟩
end Go.Proofs.Ytiegpbpijfmhdaa
