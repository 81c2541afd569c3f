/- Walks of the laws' own functions: structs with slices. -/
import Derived.Test.YtiiddgpjeknahaaL2
import Derived.Test.YtiiddgpjeknahaaKit5
namespace Go.Proofs.Ytiiddgpjeknahaa
open Go.RowKit
/-- what toDealing says: the struct, its slices of their own -/
def RetDealing (w : World) (cs : List Int) (ss : List Int) (e : Ending) (w' : World) : Prop := ∃ A_cs c_cs A_ss c_ss, e = .returned (.agg #[.slice A_cs cs.length c_cs, .slice A_ss ss.length c_ss]) ∧ OIs w' w.heap.size [(.slice A_cs cs.length c_cs, cs), (.slice A_ss ss.length c_ss, ss)] ∧ Below w.heap.size w w'
set_option maxHeartbeats 400000 in
theorem toDealing_any (A_cs : Option Addr) (c_cs : Nat) (cs : List Int) (hl_cs : cs.length ≤ 35184372088832) (A_ss : Option Addr) (c_ss : Nat) (ss : List Int) (hl_ss : ss.length ≤ 35184372088832) (w : World) (hx_cs : RI w w.heap.size A_cs cs) (hx_ss : RI w w.heap.size A_ss ss) :
    Calls Try.prog 16 #[.agg #[.slice A_cs cs.length c_cs, .slice A_ss ss.length c_ss]] w (RetDealing w cs ss) := by
  have hT0 : Below w.heap.size w (((w.alloc (.cells #[.slice A_cs cs.length c_cs, .slice A_ss ss.length c_ss] 33)).alloc (.cells #[.slice none 0 0, .slice none 0 0] 36)).alloc (.cells #[.slice none 0 0, .slice none 0 0] 36)) := by repeat (first | exact Below.refl _ _ | refine bnew ?_ _)
  go_enter Try.func16, Try.ntmps16
  go_wp2_with fail
  refine (toIntS_any A_cs c_cs cs hl_cs _ (hx_cs.next (by repeat (first | exact hT0 | refine bnew ?_ _ | refine Below.drew ?_ | refine Below.drewN ?_ _ | (refine below_set _ ?_ ?_; rotate_left; focus (first | omega | (simp; done) | (simp <;> omega))))))).mono ?_
  rintro e1 w1 ⟨B_cs, d_cs, rfl, ho_cs, hb1⟩
  have hT1 : Below w.heap.size w w1 := bnext (by repeat (first | exact hT0 | refine bnew ?_ _ | refine Below.drew ?_ | refine Below.drewN ?_ _ | (refine below_set _ ?_ ?_; rotate_left; focus (first | omega | (simp; done) | (simp <;> omega))))) hb1
  have c1_0 : w1.cell? ⟨w.heap.size, 0, none⟩ = some (.slice A_cs cs.length c_cs) := by
    refine cell_keep hb1 ?_
    repeat (first | with_reducible assumption | (refine cell_new' ?_ _ _ _ rfl; focus (simp; done)) | with_reducible refine cell_keep (below_new _ _) ?_ | (with_reducible apply set1b; with_reducible assumption) | (with_reducible refine (sc_other _ ?_).trans ?_; focus (simp; done)))
  have c1_1 : w1.cell? ⟨w.heap.size, 1, none⟩ = some (.slice A_ss ss.length c_ss) := by
    refine cell_keep hb1 ?_
    repeat (first | with_reducible assumption | (refine cell_new' ?_ _ _ _ rfl; focus (simp; done)) | with_reducible refine cell_keep (below_new _ _) ?_ | (with_reducible apply set1b; with_reducible assumption) | (with_reducible refine (sc_other _ ?_).trans ?_; focus (simp; done)))
  have c1_2 : w1.cell? ⟨w.heap.size + 1, 0, none⟩ = some (.slice none 0 0) := by
    refine cell_keep hb1 ?_
    repeat (first | with_reducible assumption | (refine cell_new' ?_ _ _ _ rfl; focus (simp; done)) | with_reducible refine cell_keep (below_new _ _) ?_ | (with_reducible apply set1b; with_reducible assumption) | (with_reducible refine (sc_other _ ?_).trans ?_; focus (simp; done)))
  have f1_2 : w1.frozen? ⟨w.heap.size + 1, 0, none⟩ = false := by
    refine frozen_keep (v := .slice none 0 0) hb1 ?_ ?_
    · repeat (first | with_reducible assumption | (refine cell_new' ?_ _ _ _ rfl; focus (simp; done)) | with_reducible refine cell_keep (below_new _ _) ?_ | (with_reducible apply set1b; with_reducible assumption) | (with_reducible refine (sc_other _ ?_).trans ?_; focus (simp; done)))
    · repeat (first | with_reducible assumption | (refine frozen_new' ?_ _ _ _; focus (simp; done)) | (refine frozen_alloc ?_ ?_; focus (simp; done)) | (refine frozen_keep (below_new _ _) (by with_reducible assumption) ?_) | with_reducible refine frozen_set _ ?_)
  have c1_3 : w1.cell? ⟨w.heap.size + 1, 1, none⟩ = some (.slice none 0 0) := by
    refine cell_keep hb1 ?_
    repeat (first | with_reducible assumption | (refine cell_new' ?_ _ _ _ rfl; focus (simp; done)) | with_reducible refine cell_keep (below_new _ _) ?_ | (with_reducible apply set1b; with_reducible assumption) | (with_reducible refine (sc_other _ ?_).trans ?_; focus (simp; done)))
  have f1_3 : w1.frozen? ⟨w.heap.size + 1, 1, none⟩ = false := by
    refine frozen_keep (v := .slice none 0 0) hb1 ?_ ?_
    · repeat (first | with_reducible assumption | (refine cell_new' ?_ _ _ _ rfl; focus (simp; done)) | with_reducible refine cell_keep (below_new _ _) ?_ | (with_reducible apply set1b; with_reducible assumption) | (with_reducible refine (sc_other _ ?_).trans ?_; focus (simp; done)))
    · repeat (first | with_reducible assumption | (refine frozen_new' ?_ _ _ _; focus (simp; done)) | (refine frozen_alloc ?_ ?_; focus (simp; done)) | (refine frozen_keep (below_new _ _) (by with_reducible assumption) ?_) | with_reducible refine frozen_set _ ?_)
  have c1_4 : w1.cell? ⟨w.heap.size + 1 + 1, 0, none⟩ = some (.slice none 0 0) := by
    refine cell_keep hb1 ?_
    repeat (first | with_reducible assumption | (refine cell_new' ?_ _ _ _ rfl; focus (simp; done)) | with_reducible refine cell_keep (below_new _ _) ?_ | (with_reducible apply set1b; with_reducible assumption) | (with_reducible refine (sc_other _ ?_).trans ?_; focus (simp; done)))
  have f1_4 : w1.frozen? ⟨w.heap.size + 1 + 1, 0, none⟩ = false := by
    refine frozen_keep (v := .slice none 0 0) hb1 ?_ ?_
    · repeat (first | with_reducible assumption | (refine cell_new' ?_ _ _ _ rfl; focus (simp; done)) | with_reducible refine cell_keep (below_new _ _) ?_ | (with_reducible apply set1b; with_reducible assumption) | (with_reducible refine (sc_other _ ?_).trans ?_; focus (simp; done)))
    · repeat (first | with_reducible assumption | (refine frozen_new' ?_ _ _ _; focus (simp; done)) | (refine frozen_alloc ?_ ?_; focus (simp; done)) | (refine frozen_keep (below_new _ _) (by with_reducible assumption) ?_) | with_reducible refine frozen_set _ ?_)
  have c1_5 : w1.cell? ⟨w.heap.size + 1 + 1, 1, none⟩ = some (.slice none 0 0) := by
    refine cell_keep hb1 ?_
    repeat (first | with_reducible assumption | (refine cell_new' ?_ _ _ _ rfl; focus (simp; done)) | with_reducible refine cell_keep (below_new _ _) ?_ | (with_reducible apply set1b; with_reducible assumption) | (with_reducible refine (sc_other _ ?_).trans ?_; focus (simp; done)))
  have f1_5 : w1.frozen? ⟨w.heap.size + 1 + 1, 1, none⟩ = false := by
    refine frozen_keep (v := .slice none 0 0) hb1 ?_ ?_
    · repeat (first | with_reducible assumption | (refine cell_new' ?_ _ _ _ rfl; focus (simp; done)) | with_reducible refine cell_keep (below_new _ _) ?_ | (with_reducible apply set1b; with_reducible assumption) | (with_reducible refine (sc_other _ ?_).trans ?_; focus (simp; done)))
    · repeat (first | with_reducible assumption | (refine frozen_new' ?_ _ _ _; focus (simp; done)) | (refine frozen_alloc ?_ ?_; focus (simp; done)) | (refine frozen_keep (below_new _ _) (by with_reducible assumption) ?_) | with_reducible refine frozen_set _ ?_)
  have lt1 : w.heap.size + 1 + 1 < w1.heap.size := World.block_lt_of_cell? _ _ c1_5
  go_wp2_with fail
  refine (toIntS_any A_ss c_ss ss hl_ss _ (hx_ss.next (by repeat (first | exact hT1 | refine bnew ?_ _ | refine Below.drew ?_ | refine Below.drewN ?_ _ | (refine below_set _ ?_ ?_; rotate_left; focus (first | omega | (simp; done) | (simp <;> omega))))))).mono ?_
  rintro e2 w2 ⟨B_ss, d_ss, rfl, ho_ss, hb2⟩
  have ap_cs_ss : apart (.slice B_cs cs.length d_cs) (.slice B_ss ss.length d_ss) := apart_of ho_cs ho_ss (by simp)
  have hT2 : Below w.heap.size w w2 := bnext (by repeat (first | exact hT1 | refine bnew ?_ _ | refine Below.drew ?_ | refine Below.drewN ?_ _ | (refine below_set _ ?_ ?_; rotate_left; focus (first | omega | (simp; done) | (simp <;> omega))))) hb2
  have c2_0 : w2.cell? ⟨w.heap.size, 0, none⟩ = some (.slice A_cs cs.length c_cs) := by
    refine cell_keep hb2 ?_
    repeat (first | with_reducible assumption | (refine cell_new' ?_ _ _ _ rfl; focus (simp; done)) | with_reducible refine cell_keep (below_new _ _) ?_ | (with_reducible apply set1b; with_reducible assumption) | (with_reducible refine (sc_other _ ?_).trans ?_; focus (simp; done)))
  have c2_1 : w2.cell? ⟨w.heap.size, 1, none⟩ = some (.slice A_ss ss.length c_ss) := by
    refine cell_keep hb2 ?_
    repeat (first | with_reducible assumption | (refine cell_new' ?_ _ _ _ rfl; focus (simp; done)) | with_reducible refine cell_keep (below_new _ _) ?_ | (with_reducible apply set1b; with_reducible assumption) | (with_reducible refine (sc_other _ ?_).trans ?_; focus (simp; done)))
  have c2_2 : w2.cell? ⟨w.heap.size + 1, 0, none⟩ = some (.slice none 0 0) := by
    refine cell_keep hb2 ?_
    repeat (first | with_reducible assumption | (refine cell_new' ?_ _ _ _ rfl; focus (simp; done)) | with_reducible refine cell_keep (below_new _ _) ?_ | (with_reducible apply set1b; with_reducible assumption) | (with_reducible refine (sc_other _ ?_).trans ?_; focus (simp; done)))
  have f2_2 : w2.frozen? ⟨w.heap.size + 1, 0, none⟩ = false := by
    refine frozen_keep (v := .slice none 0 0) hb2 ?_ ?_
    · repeat (first | with_reducible assumption | (refine cell_new' ?_ _ _ _ rfl; focus (simp; done)) | with_reducible refine cell_keep (below_new _ _) ?_ | (with_reducible apply set1b; with_reducible assumption) | (with_reducible refine (sc_other _ ?_).trans ?_; focus (simp; done)))
    · repeat (first | with_reducible assumption | (refine frozen_new' ?_ _ _ _; focus (simp; done)) | (refine frozen_alloc ?_ ?_; focus (simp; done)) | (refine frozen_keep (below_new _ _) (by with_reducible assumption) ?_) | with_reducible refine frozen_set _ ?_)
  have c2_3 : w2.cell? ⟨w.heap.size + 1, 1, none⟩ = some (.slice none 0 0) := by
    refine cell_keep hb2 ?_
    repeat (first | with_reducible assumption | (refine cell_new' ?_ _ _ _ rfl; focus (simp; done)) | with_reducible refine cell_keep (below_new _ _) ?_ | (with_reducible apply set1b; with_reducible assumption) | (with_reducible refine (sc_other _ ?_).trans ?_; focus (simp; done)))
  have f2_3 : w2.frozen? ⟨w.heap.size + 1, 1, none⟩ = false := by
    refine frozen_keep (v := .slice none 0 0) hb2 ?_ ?_
    · repeat (first | with_reducible assumption | (refine cell_new' ?_ _ _ _ rfl; focus (simp; done)) | with_reducible refine cell_keep (below_new _ _) ?_ | (with_reducible apply set1b; with_reducible assumption) | (with_reducible refine (sc_other _ ?_).trans ?_; focus (simp; done)))
    · repeat (first | with_reducible assumption | (refine frozen_new' ?_ _ _ _; focus (simp; done)) | (refine frozen_alloc ?_ ?_; focus (simp; done)) | (refine frozen_keep (below_new _ _) (by with_reducible assumption) ?_) | with_reducible refine frozen_set _ ?_)
  have c2_4 : w2.cell? ⟨w.heap.size + 1 + 1, 0, none⟩ = some (.slice B_cs cs.length d_cs) := by
    refine cell_keep hb2 ?_
    repeat (first | with_reducible assumption | (refine cell_new' ?_ _ _ _ rfl; focus (simp; done)) | with_reducible refine cell_keep (below_new _ _) ?_ | (with_reducible apply set1b; with_reducible assumption) | (with_reducible refine (sc_other _ ?_).trans ?_; focus (simp; done)))
  have f2_4 : w2.frozen? ⟨w.heap.size + 1 + 1, 0, none⟩ = false := by
    refine frozen_keep (v := .slice B_cs cs.length d_cs) hb2 ?_ ?_
    · repeat (first | with_reducible assumption | (refine cell_new' ?_ _ _ _ rfl; focus (simp; done)) | with_reducible refine cell_keep (below_new _ _) ?_ | (with_reducible apply set1b; with_reducible assumption) | (with_reducible refine (sc_other _ ?_).trans ?_; focus (simp; done)))
    · repeat (first | with_reducible assumption | (refine frozen_new' ?_ _ _ _; focus (simp; done)) | (refine frozen_alloc ?_ ?_; focus (simp; done)) | (refine frozen_keep (below_new _ _) (by with_reducible assumption) ?_) | with_reducible refine frozen_set _ ?_)
  have c2_5 : w2.cell? ⟨w.heap.size + 1 + 1, 1, none⟩ = some (.slice none 0 0) := by
    refine cell_keep hb2 ?_
    repeat (first | with_reducible assumption | (refine cell_new' ?_ _ _ _ rfl; focus (simp; done)) | with_reducible refine cell_keep (below_new _ _) ?_ | (with_reducible apply set1b; with_reducible assumption) | (with_reducible refine (sc_other _ ?_).trans ?_; focus (simp; done)))
  have f2_5 : w2.frozen? ⟨w.heap.size + 1 + 1, 1, none⟩ = false := by
    refine frozen_keep (v := .slice none 0 0) hb2 ?_ ?_
    · repeat (first | with_reducible assumption | (refine cell_new' ?_ _ _ _ rfl; focus (simp; done)) | with_reducible refine cell_keep (below_new _ _) ?_ | (with_reducible apply set1b; with_reducible assumption) | (with_reducible refine (sc_other _ ?_).trans ?_; focus (simp; done)))
    · repeat (first | with_reducible assumption | (refine frozen_new' ?_ _ _ _; focus (simp; done)) | (refine frozen_alloc ?_ ?_; focus (simp; done)) | (refine frozen_keep (below_new _ _) (by with_reducible assumption) ?_) | with_reducible refine frozen_set _ ?_)
  clear c1_0 c1_1 c1_2 f1_2 c1_3 f1_3 c1_4 f1_4 c1_5 f1_5
  have hS2 : Below (w1.setCell ⟨w.heap.size + 1 + 1, 0, none⟩ (.slice B_cs cs.length d_cs)).heap.size (w1.setCell ⟨w.heap.size + 1 + 1, 0, none⟩ (.slice B_cs cs.length d_cs)) w2 := bnext (by repeat (first | exact Below.refl _ _ | refine bnew ?_ _ | refine Below.drew ?_ | refine Below.drewN ?_ _ | (refine below_set _ ?_ ?_; rotate_left; focus (first | omega | (simp; done) | (simp <;> omega))))) hb2
  have ho_cs_2 := (ho_cs.set_ ⟨w.heap.size + 1 + 1, 0, none⟩ (.slice B_cs cs.length d_cs) (by simp <;> omega)).below hS2
  clear ho_cs
  have lt2 : w.heap.size + 1 + 1 < w2.heap.size := World.block_lt_of_cell? _ _ c2_5
  go_wp2
  have r2 : (w2.setCell ⟨w.heap.size + 1 + 1, 1, none⟩ (.slice B_ss ss.length d_ss)).cell? ⟨w.heap.size + 1, 0, none⟩ = some (.slice none 0 0) := by
    repeat (first | with_reducible assumption | (refine cell_new' ?_ _ _ _ rfl; focus (simp; done)) | with_reducible refine cell_keep (below_new _ _) ?_ | (with_reducible apply set1b; with_reducible assumption) | (with_reducible refine (sc_other _ ?_).trans ?_; focus (simp; done)))
  have r3 : (w2.setCell ⟨w.heap.size + 1 + 1, 1, none⟩ (.slice B_ss ss.length d_ss)).cell? ⟨w.heap.size + 1, 1, none⟩ = some (.slice none 0 0) := by
    repeat (first | with_reducible assumption | (refine cell_new' ?_ _ _ _ rfl; focus (simp; done)) | with_reducible refine cell_keep (below_new _ _) ?_ | (with_reducible apply set1b; with_reducible assumption) | (with_reducible refine (sc_other _ ?_).trans ?_; focus (simp; done)))
  have r4 : (w2.setCell ⟨w.heap.size + 1 + 1, 1, none⟩ (.slice B_ss ss.length d_ss)).cell? ⟨w.heap.size + 1 + 1, 0, none⟩ = some (.slice B_cs cs.length d_cs) := by
    repeat (first | with_reducible assumption | (refine cell_new' ?_ _ _ _ rfl; focus (simp; done)) | with_reducible refine cell_keep (below_new _ _) ?_ | (with_reducible apply set1b; with_reducible assumption) | (with_reducible refine (sc_other _ ?_).trans ?_; focus (simp; done)))
  have r5 : (w2.setCell ⟨w.heap.size + 1 + 1, 1, none⟩ (.slice B_ss ss.length d_ss)).cell? ⟨w.heap.size + 1 + 1, 1, none⟩ = some (.slice B_ss ss.length d_ss) := by
    repeat (first | with_reducible assumption | (refine cell_new' ?_ _ _ _ rfl; focus (simp; done)) | with_reducible refine cell_keep (below_new _ _) ?_ | (with_reducible apply set1b; with_reducible assumption) | (with_reducible refine (sc_other _ ?_).trans ?_; focus (simp; done)))
  have z0 := set1b (W := (w2.setCell ⟨w.heap.size + 1 + 1, 1, none⟩ (.slice B_ss ss.length d_ss))) (b := w.heap.size + 1) (i := 0) (.slice B_cs cs.length d_cs) r2
  have z1 := set1b (W := ((w2.setCell ⟨w.heap.size + 1 + 1, 1, none⟩ (.slice B_ss ss.length d_ss)).setCell ⟨w.heap.size + 1, 0, none⟩ (.slice B_cs cs.length d_cs))) (b := w.heap.size + 1) (i := 1) (.slice B_ss ss.length d_ss) ((sc_other _ (by simp)).trans r3)
  refine bodyPost_ret (v := .agg #[.slice B_cs cs.length d_cs, .slice B_ss ss.length d_ss]) (by simp [results, Try.results16, go_sem, r4, r5, z0, z1]) rfl ⟨B_cs, d_cs, B_ss, d_ss, rfl, ⟨?_, ?_⟩, ?_⟩
  have hq_cs := (((ho_cs_2.set_ ⟨w.heap.size + 1 + 1, 1, none⟩ (.slice B_ss ss.length d_ss) (by simp <;> omega)).set_ ⟨w.heap.size + 1, 0, none⟩ (.slice B_cs cs.length d_cs) (by simp <;> omega)).set_ ⟨w.heap.size + 1, 1, none⟩ (.slice B_ss ss.length d_ss) (by simp <;> omega))
  have hq_ss := (((ho_ss.set_ ⟨w.heap.size + 1 + 1, 1, none⟩ (.slice B_ss ss.length d_ss) (by simp <;> omega)).set_ ⟨w.heap.size + 1, 0, none⟩ (.slice B_cs cs.length d_cs) (by simp <;> omega)).set_ ⟨w.heap.size + 1, 1, none⟩ (.slice B_ss ss.length d_ss) (by simp <;> omega))
  · intro r hr
    simp only [List.mem_cons, List.not_mem_nil, or_false] at hr
    rcases hr with rfl | rfl
    · exact hq_cs.lo (by simp <;> omega)
    · exact hq_ss.lo (by simp <;> omega)
  · simp only [List.pairwise_cons, List.mem_cons, List.not_mem_nil, or_false, forall_eq_or_imp, forall_eq, false_imp_iff, implies_true, and_true, List.Pairwise.nil]
    exact ap_cs_ss
  · exact (by repeat (first | exact hT2 | refine bnew ?_ _ | refine Below.drew ?_ | refine Below.drewN ?_ _ | (refine below_set _ ?_ ?_; rotate_left; focus (first | omega | (simp; done) | (simp <;> omega)))))
theorem szDealing_any (A_cs : Option Addr) (c_cs : Nat) (cs : List Int) (hl_cs : cs.length ≤ 9223372036854775807) (A_ss : Option Addr) (c_ss : Nat) (ss : List Int) (hl_ss : ss.length ≤ 9223372036854775807) (l : Int) (hl : l ≤ 1048576) (h0 : -1 ≤ l) (w : World) :
    Calls Try.prog 14 #[.agg #[.slice A_cs cs.length c_cs, .slice A_ss ss.length c_ss], .int .i64 l] w fun en w' => en = .returned (.int .i64 (if l - cs.length - ss.length < 0 then -1 else l - cs.length - ss.length)) ∧ Below w.heap.size w w' := by
  go_enter Try.func14, Try.ntmps14
  go_wp2_with fail
  refine (szIntS_any A_cs cs.length c_cs (l) (by omega) (by omega) hl_cs _).mono ?_
  rintro e0 w0 ⟨rfl, rfl⟩
  by_cases hz0 : l - cs.length < 0
  · rw [if_pos hz0]
    go_wp2
    go_ret
    exact ⟨ret_int (by first | rfl | rw [if_pos (show (l - cs.length - ss.length : Int) < 0 by omega)]), below_new w _⟩
  rw [if_neg hz0]
  go_wp2_with fail
  refine (szIntS_any A_ss ss.length c_ss (l - cs.length) (by omega) (by omega) hl_ss _).mono ?_
  rintro e1 w1 ⟨rfl, rfl⟩
  by_cases hz1 : l - cs.length - ss.length < 0
  · rw [if_pos hz1]
    go_wp2
    go_ret
    exact ⟨ret_int (by first | rfl | rw [if_pos (show (l - cs.length - ss.length : Int) < 0 by omega)]), below_new w _⟩
  rw [if_neg hz1]
  go_wp2
  go_ret
  exact ⟨ret_int (by first | rfl | rw [if_neg hz1]), below_new w _⟩
set_option maxHeartbeats 400000 in
theorem eqDealing_same (A_cs : Option Addr) (c_cs : Nat) (cs : List Int) (hl_cs : cs.length ≤ 9223372036854775807) (A_ss : Option Addr) (c_ss : Nat) (ss : List Int) (hl_ss : ss.length ≤ 9223372036854775807) (B_cs : Option Addr) (d_cs : Nat) (B_ss : Option Addr) (d_ss : Nat) (w : World) (hx_cs : RI w w.heap.size A_cs cs) (hx_ss : RI w w.heap.size A_ss ss) (hy_cs : RI w w.heap.size B_cs cs) (hy_ss : RI w w.heap.size B_ss ss) :
    Calls Try.prog 18 #[.agg #[.slice A_cs cs.length c_cs, .slice A_ss ss.length c_ss], .agg #[.slice B_cs cs.length d_cs, .slice B_ss ss.length d_ss]] w fun en w' => en = .returned (.bool true) ∧ Below w.heap.size w w' := by
  have hT0 : Below w.heap.size w ((w.alloc (.cells #[.slice A_cs cs.length c_cs, .slice A_ss ss.length c_ss] 36)).alloc (.cells #[.slice B_cs cs.length d_cs, .slice B_ss ss.length d_ss] 36)) := by repeat (first | exact Below.refl _ _ | refine bnew ?_ _)
  go_enter Try.func18, Try.ntmps18
  go_wp2_with fail
  refine (eqIntS_same A_cs B_cs c_cs d_cs cs hl_cs _ (hx_cs.next (by repeat (first | exact hT0 | refine bnew ?_ _ | refine Below.drew ?_ | refine Below.drewN ?_ _ | (refine below_set _ ?_ ?_; rotate_left; focus (first | omega | (simp; done) | (simp <;> omega)))))) (hy_cs.next (by repeat (first | exact hT0 | refine bnew ?_ _ | refine Below.drew ?_ | refine Below.drewN ?_ _ | (refine below_set _ ?_ ?_; rotate_left; focus (first | omega | (simp; done) | (simp <;> omega))))))).mono ?_
  rintro e1 w1 ⟨rfl, hb1⟩
  have hT1 : Below w.heap.size w w1 := bnext (by repeat (first | exact hT0 | refine bnew ?_ _ | refine Below.drew ?_ | refine Below.drewN ?_ _ | (refine below_set _ ?_ ?_; rotate_left; focus (first | omega | (simp; done) | (simp <;> omega))))) hb1
  have c1_0 : w1.cell? ⟨w.heap.size, 0, none⟩ = some (.slice A_cs cs.length c_cs) := by
    refine cell_keep hb1 ?_
    repeat (first | with_reducible assumption | (refine cell_new' ?_ _ _ _ rfl; focus (simp; done)) | with_reducible refine cell_keep (below_new _ _) ?_ | (with_reducible apply set1b; with_reducible assumption) | (with_reducible refine (sc_other _ ?_).trans ?_; focus (simp; done)))
  have c1_1 : w1.cell? ⟨w.heap.size, 1, none⟩ = some (.slice A_ss ss.length c_ss) := by
    refine cell_keep hb1 ?_
    repeat (first | with_reducible assumption | (refine cell_new' ?_ _ _ _ rfl; focus (simp; done)) | with_reducible refine cell_keep (below_new _ _) ?_ | (with_reducible apply set1b; with_reducible assumption) | (with_reducible refine (sc_other _ ?_).trans ?_; focus (simp; done)))
  have c1_2 : w1.cell? ⟨w.heap.size + 1, 0, none⟩ = some (.slice B_cs cs.length d_cs) := by
    refine cell_keep hb1 ?_
    repeat (first | with_reducible assumption | (refine cell_new' ?_ _ _ _ rfl; focus (simp; done)) | with_reducible refine cell_keep (below_new _ _) ?_ | (with_reducible apply set1b; with_reducible assumption) | (with_reducible refine (sc_other _ ?_).trans ?_; focus (simp; done)))
  have c1_3 : w1.cell? ⟨w.heap.size + 1, 1, none⟩ = some (.slice B_ss ss.length d_ss) := by
    refine cell_keep hb1 ?_
    repeat (first | with_reducible assumption | (refine cell_new' ?_ _ _ _ rfl; focus (simp; done)) | with_reducible refine cell_keep (below_new _ _) ?_ | (with_reducible apply set1b; with_reducible assumption) | (with_reducible refine (sc_other _ ?_).trans ?_; focus (simp; done)))
  go_wp2_with fail
  refine (eqIntS_same A_ss B_ss c_ss d_ss ss hl_ss _ (hx_ss.next (by repeat (first | exact hT1 | refine bnew ?_ _ | refine Below.drew ?_ | refine Below.drewN ?_ _ | (refine below_set _ ?_ ?_; rotate_left; focus (first | omega | (simp; done) | (simp <;> omega)))))) (hy_ss.next (by repeat (first | exact hT1 | refine bnew ?_ _ | refine Below.drew ?_ | refine Below.drewN ?_ _ | (refine below_set _ ?_ ?_; rotate_left; focus (first | omega | (simp; done) | (simp <;> omega))))))).mono ?_
  rintro e2 w2 ⟨rfl, hb2⟩
  have hT2 : Below w.heap.size w w2 := bnext (by repeat (first | exact hT1 | refine bnew ?_ _ | refine Below.drew ?_ | refine Below.drewN ?_ _ | (refine below_set _ ?_ ?_; rotate_left; focus (first | omega | (simp; done) | (simp <;> omega))))) hb2
  have c2_0 : w2.cell? ⟨w.heap.size, 0, none⟩ = some (.slice A_cs cs.length c_cs) := by
    refine cell_keep hb2 ?_
    repeat (first | with_reducible assumption | (refine cell_new' ?_ _ _ _ rfl; focus (simp; done)) | with_reducible refine cell_keep (below_new _ _) ?_ | (with_reducible apply set1b; with_reducible assumption) | (with_reducible refine (sc_other _ ?_).trans ?_; focus (simp; done)))
  have c2_1 : w2.cell? ⟨w.heap.size, 1, none⟩ = some (.slice A_ss ss.length c_ss) := by
    refine cell_keep hb2 ?_
    repeat (first | with_reducible assumption | (refine cell_new' ?_ _ _ _ rfl; focus (simp; done)) | with_reducible refine cell_keep (below_new _ _) ?_ | (with_reducible apply set1b; with_reducible assumption) | (with_reducible refine (sc_other _ ?_).trans ?_; focus (simp; done)))
  have c2_2 : w2.cell? ⟨w.heap.size + 1, 0, none⟩ = some (.slice B_cs cs.length d_cs) := by
    refine cell_keep hb2 ?_
    repeat (first | with_reducible assumption | (refine cell_new' ?_ _ _ _ rfl; focus (simp; done)) | with_reducible refine cell_keep (below_new _ _) ?_ | (with_reducible apply set1b; with_reducible assumption) | (with_reducible refine (sc_other _ ?_).trans ?_; focus (simp; done)))
  have c2_3 : w2.cell? ⟨w.heap.size + 1, 1, none⟩ = some (.slice B_ss ss.length d_ss) := by
    refine cell_keep hb2 ?_
    repeat (first | with_reducible assumption | (refine cell_new' ?_ _ _ _ rfl; focus (simp; done)) | with_reducible refine cell_keep (below_new _ _) ?_ | (with_reducible apply set1b; with_reducible assumption) | (with_reducible refine (sc_other _ ?_).trans ?_; focus (simp; done)))
  clear c1_0 c1_1 c1_2 c1_3
  go_wp2
  go_ret
  exact ⟨rfl, hT2⟩
set_option maxHeartbeats 800000 in
theorem markDealing_any (lo : Nat) (A_cs : Option Addr) (c_cs : Nat) (cs : List Int) (hl_cs : cs.length ≤ 35184372088832) (A_ss : Option Addr) (c_ss : Nat) (ss : List Int) (hl_ss : ss.length ≤ 35184372088832) (k0 : Int) (h0 : 0 ≤ k0) (h1 : k0 ≤ 1000000) (w : World) (ho : OIs w lo [(.slice A_cs cs.length c_cs, cs), (.slice A_ss ss.length c_ss, ss)]) (hlo : lo ≤ w.heap.size) :
    Calls Try.prog 27 #[.agg #[.slice A_cs cs.length c_cs, .slice A_ss ss.length c_ss], .int .i64 k0] w fun en w' => en = .returned (.int .i64 (k0 + cs.length + ss.length)) ∧ OIs w' lo [(.slice A_cs cs.length c_cs, marks (k0) cs.length), (.slice A_ss ss.length c_ss, marks (k0 + cs.length) ss.length)] ∧ Only lo w.heap.size w w' := by
  have q_cs : OI w lo (.slice A_cs cs.length c_cs) cs := ho.1 (.slice A_cs cs.length c_cs, cs) (by simp)
  have lt_cs := q_cs.lt
  have q_ss : OI w lo (.slice A_ss ss.length c_ss) ss := ho.1 (.slice A_ss ss.length c_ss, ss) (by simp)
  have lt_ss := q_ss.lt
  have hp := ho.2
  simp only [List.pairwise_cons, List.mem_cons, List.not_mem_nil, or_false, forall_eq_or_imp, forall_eq, false_imp_iff, implies_true, and_true, List.Pairwise.nil] at hp
  have ap_cs_ss := hp
  have HOS := Lib.hid ho
  clear ho
  have p0_cs : OI (w.alloc (.cells #[.slice A_cs cs.length c_cs, .slice A_ss ss.length c_ss] 36)) lo (.slice A_cs cs.length c_cs) cs := q_cs.below (below_new w _)
  have p0_ss : OI (w.alloc (.cells #[.slice A_cs cs.length c_cs, .slice A_ss ss.length c_ss] 36)) lo (.slice A_ss ss.length c_ss) ss := q_ss.below (below_new w _)
  have hO0 : Only lo w.heap.size w (w.alloc (.cells #[.slice A_cs cs.length c_cs, .slice A_ss ss.length c_ss] 36)) := Only.of_below (below_new w _) hlo
  go_enter Try.func27, Try.ntmps27
  go_wp2_with fail
  refine (markIntS_any lo A_cs c_cs cs (k0) hl_cs (by omega) (by omega) _ p0_cs).mono ?_
  rintro e1 w1 ⟨rfl, m1_cs, hg1⟩
  have c1_0 : w1.cell? ⟨w.heap.size, 0, none⟩ = some (.slice A_cs cs.length c_cs) := hg1.cell (by repeat (first | with_reducible assumption | (refine cell_new' ?_ _ _ _ rfl; focus (simp; done)) | with_reducible refine cell_keep (below_new _ _) ?_ | (with_reducible apply set1b; with_reducible assumption) | (with_reducible refine (sc_other _ ?_).trans ?_; focus (simp; done)))) (fun e => by have := (lt_cs _ e.symm).2; simp at this)
  have c1_1 : w1.cell? ⟨w.heap.size, 1, none⟩ = some (.slice A_ss ss.length c_ss) := hg1.cell (by repeat (first | with_reducible assumption | (refine cell_new' ?_ _ _ _ rfl; focus (simp; done)) | with_reducible refine cell_keep (below_new _ _) ?_ | (with_reducible apply set1b; with_reducible assumption) | (with_reducible refine (sc_other _ ?_).trans ?_; focus (simp; done)))) (fun e => by have := (lt_cs _ e.symm).2; simp at this)
  have sz1 : w.heap.size < w1.heap.size := World.block_lt_of_cell? _ _ c1_0
  have hO1 : Only lo w.heap.size w w1 := hO0.trans (Only.of_grown hg1 (by simp; omega) lt_cs)
  have p1_ss := p0_ss.kept hg1 ap_cs_ss.symm
  go_wp2_with fail
  refine (markIntS_any lo A_ss c_ss ss (k0 + cs.length) hl_ss (by omega) (by omega) _ p1_ss).mono ?_
  rintro e2 w2 ⟨rfl, m2_ss, hg2⟩
  have c2_0 : w2.cell? ⟨w.heap.size, 0, none⟩ = some (.slice A_cs cs.length c_cs) := hg2.cell (by repeat (first | with_reducible assumption | (refine cell_new' ?_ _ _ _ rfl; focus (simp; done)) | with_reducible refine cell_keep (below_new _ _) ?_ | (with_reducible apply set1b; with_reducible assumption) | (with_reducible refine (sc_other _ ?_).trans ?_; focus (simp; done)))) (fun e => by have := (lt_ss _ e.symm).2; simp at this)
  have c2_1 : w2.cell? ⟨w.heap.size, 1, none⟩ = some (.slice A_ss ss.length c_ss) := hg2.cell (by repeat (first | with_reducible assumption | (refine cell_new' ?_ _ _ _ rfl; focus (simp; done)) | with_reducible refine cell_keep (below_new _ _) ?_ | (with_reducible apply set1b; with_reducible assumption) | (with_reducible refine (sc_other _ ?_).trans ?_; focus (simp; done)))) (fun e => by have := (lt_ss _ e.symm).2; simp at this)
  have sz2 : w.heap.size < w2.heap.size := World.block_lt_of_cell? _ _ c2_0
  have hO2 : Only lo w.heap.size w w2 := hO1.trans (Only.of_grown hg2 (by omega) lt_ss)
  have m2_cs := m1_cs.kept hg2 ap_cs_ss
  clear c1_0 c1_1
  go_wp2
  go_ret
  refine ⟨rfl, ⟨?_, ?_⟩, hO2⟩
  · intro r hr
    simp only [List.mem_cons, List.not_mem_nil, or_false] at hr
    rcases hr with rfl | rfl
    · exact m2_cs
    · exact m2_ss
  · simp only [List.pairwise_cons, List.mem_cons, List.not_mem_nil, or_false, forall_eq_or_imp, forall_eq, false_imp_iff, implies_true, and_true, List.Pairwise.nil]
    exact ap_cs_ss
set_option maxHeartbeats 800000 in
theorem heldDealing_any (A_cs : Option Addr) (c_cs : Nat) (cs : List Int) (hl_cs : cs.length ≤ 35184372088832) (A_ss : Option Addr) (c_ss : Nat) (ss : List Int) (hl_ss : ss.length ≤ 35184372088832) (k0 : Int) (h0 : 0 ≤ k0) (h1 : k0 ≤ 1000000) (w : World) (hx_cs : RI w w.heap.size A_cs (marks (k0) cs.length)) (hx_ss : RI w w.heap.size A_ss (marks (k0 + cs.length) ss.length)) :
    Calls Try.prog 28 #[.agg #[.slice A_cs cs.length c_cs, .slice A_ss ss.length c_ss], .int .i64 k0] w fun en w' => en = .returned (.int .i64 (k0 + cs.length + ss.length)) ∧ Below w.heap.size w w' := by
  have hT0 : Below w.heap.size w (w.alloc (.cells #[.slice A_cs cs.length c_cs, .slice A_ss ss.length c_ss] 36)) := by repeat (first | exact Below.refl _ _ | refine bnew ?_ _)
  go_enter Try.func28, Try.ntmps28
  go_wp2_with fail
  refine (heldIntS_any A_cs c_cs cs.length (k0) hl_cs (by omega) (by omega) _ (hx_cs.next (by repeat (first | exact hT0 | refine bnew ?_ _ | refine Below.drew ?_ | refine Below.drewN ?_ _ | (refine below_set _ ?_ ?_; rotate_left; focus (first | omega | (simp; done) | (simp <;> omega))))))).mono ?_
  rintro e1 w1 ⟨rfl, rfl⟩
  have ng_cs : ¬ (k0 + (cs.length : Int)) < 0 := by omega
  go_wp2_with fail
  refine (heldIntS_any A_ss c_ss ss.length (k0 + cs.length) hl_ss (by omega) (by omega) _ (hx_ss.next (by repeat (first | exact hT0 | refine bnew ?_ _ | refine Below.drew ?_ | refine Below.drewN ?_ _ | (refine below_set _ ?_ ?_; rotate_left; focus (first | omega | (simp; done) | (simp <;> omega))))))).mono ?_
  rintro e2 w2 ⟨rfl, rfl⟩
  have ng_ss : ¬ (k0 + cs.length + (ss.length : Int)) < 0 := by omega
  go_wp2
  go_ret
  exact ⟨rfl, hT0⟩
/-- what toProof says: the struct, its slices of their own -/
def RetProof (w : World) (pa : List Int) (pc : List Int) (pr : List Int) (e : Ending) (w' : World) : Prop := ∃ A_pa c_pa A_pc c_pc A_pr c_pr, e = .returned (.agg #[.slice A_pa pa.length c_pa, .slice A_pc pc.length c_pc, .slice A_pr pr.length c_pr]) ∧ OIs w' w.heap.size [(.slice A_pa pa.length c_pa, pa), (.slice A_pc pc.length c_pc, pc), (.slice A_pr pr.length c_pr, pr)] ∧ Below w.heap.size w w'
/-- what toKeyGen says: the struct, its slices of their own -/
def RetKeyGen (w : World) (kq : List Int) (kk : Int) (kc : List Int) (ks : List Int) (e : Ending) (w' : World) : Prop := ∃ A_kq c_kq A_kc c_kc A_ks c_ks, e = .returned (.agg #[.slice A_kq kq.length c_kq, .int .i64 kk, .slice A_kc kc.length c_kc, .slice A_ks ks.length c_ks]) ∧ OIs w' w.heap.size [(.slice A_kq kq.length c_kq, kq), (.slice A_kc kc.length c_kc, kc), (.slice A_ks ks.length c_ks, ks)] ∧ Below w.heap.size w w'
end Go.Proofs.Ytiiddgpjeknahaa
