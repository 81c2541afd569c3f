/- Walks of the laws' own functions: bases. -/
import Derived.Test.YtljlimlgdnbllaaL2
set_option linter.all false
set_option linter.unusedVariables false
set_option linter.unusedSimpArgs false
namespace Go.Proofs.Ytljlimlgdnbllaa
open Go.RowKit
/-- what toBases says -/
def RetB (w : World) (bh : Int) (bs : List Int) (e : Ending) (w' : World) : Prop := ∃ A c, e = .returned (.agg #[.int .i64 bh, .slice A bs.length c]) ∧ OI w' w.heap.size (.slice A bs.length c) bs ∧ Below w.heap.size w w'
set_option maxHeartbeats 400000 in
theorem toBases_any (bh : Int) (A : Option Addr) (c : Nat) (bs : List Int) (hl : bs.length ≤ 35184372088832) (w : World) (hx : RI w w.heap.size A bs) :
    Calls Try.prog 19 #[.agg #[.int .i64 bh, .slice A bs.length c]] w (RetB w bh bs) := by
  have hT0 : Below w.heap.size w (((w.alloc (.cells #[.int .i64 bh, .slice A bs.length c] 26)).alloc (.cells #[.int .i64 0, .slice none 0 0] 35)).alloc (.cells #[.int .i64 bh, .slice none 0 0] 35)) := by repeat (first | exact Below.refl _ _ | refine bnew ?_ _)
  go_enter Try.func19, Try.ntmps19
  go_wp2_with fail
  refine (toIntS_any A c bs hl _ (hx.next (by repeat (first | exact hT0 | refine bnew ?_ _ | refine Below.drew ?_ | refine Below.drewN ?_ _)))).mono ?_
  rintro e1 w1 ⟨A1, c1, rfl, ho1, hb1⟩
  have hT1 : Below w.heap.size w w1 := bnext (by repeat (first | exact hT0 | refine bnew ?_ _ | refine Below.drew ?_ | refine Below.drewN ?_ _)) hb1
  have c1_0 : w1.cell? ⟨w.heap.size, 0, none⟩ = some (.int .i64 bh) := by
    refine cell_keep hb1 ?_
    repeat (first | with_reducible assumption | (refine cell_new' ?_ _ _ _ rfl; focus (simp; done)) | with_reducible refine cell_keep (below_new _ _) ?_)
  have c1_1 : w1.cell? ⟨w.heap.size, 1, none⟩ = some (.slice A bs.length c) := by
    refine cell_keep hb1 ?_
    repeat (first | with_reducible assumption | (refine cell_new' ?_ _ _ _ rfl; focus (simp; done)) | with_reducible refine cell_keep (below_new _ _) ?_)
  have c1_2 : w1.cell? ⟨w.heap.size + 1, 0, none⟩ = some (.int .i64 0) := by
    refine cell_keep hb1 ?_
    repeat (first | with_reducible assumption | (refine cell_new' ?_ _ _ _ rfl; focus (simp; done)) | with_reducible refine cell_keep (below_new _ _) ?_)
  have f1_2 : w1.frozen? ⟨w.heap.size + 1, 0, none⟩ = false := by
    refine frozen_keep (v := .int .i64 0) hb1 ?_ ?_
    · repeat (first | with_reducible assumption | (refine cell_new' ?_ _ _ _ rfl; focus (simp; done)) | with_reducible refine cell_keep (below_new _ _) ?_)
    · repeat (first | with_reducible assumption | (refine frozen_new' ?_ _ _ _; focus (simp; done)) | (refine frozen_alloc ?_ ?_; focus (simp; done)) | (refine frozen_keep (below_new _ _) (by with_reducible assumption) ?_))
  have c1_3 : w1.cell? ⟨w.heap.size + 1, 1, none⟩ = some (.slice none 0 0) := by
    refine cell_keep hb1 ?_
    repeat (first | with_reducible assumption | (refine cell_new' ?_ _ _ _ rfl; focus (simp; done)) | with_reducible refine cell_keep (below_new _ _) ?_)
  have f1_3 : w1.frozen? ⟨w.heap.size + 1, 1, none⟩ = false := by
    refine frozen_keep (v := .slice none 0 0) hb1 ?_ ?_
    · repeat (first | with_reducible assumption | (refine cell_new' ?_ _ _ _ rfl; focus (simp; done)) | with_reducible refine cell_keep (below_new _ _) ?_)
    · repeat (first | with_reducible assumption | (refine frozen_new' ?_ _ _ _; focus (simp; done)) | (refine frozen_alloc ?_ ?_; focus (simp; done)) | (refine frozen_keep (below_new _ _) (by with_reducible assumption) ?_))
  have c1_4 : w1.cell? ⟨w.heap.size + 1 + 1, 0, none⟩ = some (.int .i64 bh) := by
    refine cell_keep hb1 ?_
    repeat (first | with_reducible assumption | (refine cell_new' ?_ _ _ _ rfl; focus (simp; done)) | with_reducible refine cell_keep (below_new _ _) ?_)
  have f1_4 : w1.frozen? ⟨w.heap.size + 1 + 1, 0, none⟩ = false := by
    refine frozen_keep (v := .int .i64 bh) hb1 ?_ ?_
    · repeat (first | with_reducible assumption | (refine cell_new' ?_ _ _ _ rfl; focus (simp; done)) | with_reducible refine cell_keep (below_new _ _) ?_)
    · repeat (first | with_reducible assumption | (refine frozen_new' ?_ _ _ _; focus (simp; done)) | (refine frozen_alloc ?_ ?_; focus (simp; done)) | (refine frozen_keep (below_new _ _) (by with_reducible assumption) ?_))
  have c1_5 : w1.cell? ⟨w.heap.size + 1 + 1, 1, none⟩ = some (.slice none 0 0) := by
    refine cell_keep hb1 ?_
    repeat (first | with_reducible assumption | (refine cell_new' ?_ _ _ _ rfl; focus (simp; done)) | with_reducible refine cell_keep (below_new _ _) ?_)
  have f1_5 : w1.frozen? ⟨w.heap.size + 1 + 1, 1, none⟩ = false := by
    refine frozen_keep (v := .slice none 0 0) hb1 ?_ ?_
    · repeat (first | with_reducible assumption | (refine cell_new' ?_ _ _ _ rfl; focus (simp; done)) | with_reducible refine cell_keep (below_new _ _) ?_)
    · repeat (first | with_reducible assumption | (refine frozen_new' ?_ _ _ _; focus (simp; done)) | (refine frozen_alloc ?_ ?_; focus (simp; done)) | (refine frozen_keep (below_new _ _) (by with_reducible assumption) ?_))
  go_wp2
  have r1 := set1b (.slice A1 bs.length c1) c1_5
  have r0 : (w1.setCell ⟨w.heap.size + 1 + 1, 1, none⟩ (.slice A1 bs.length c1)).cell? ⟨w.heap.size + 1 + 1, 0, none⟩ = some (.int .i64 bh) := (sc_other _ (by simp)).trans c1_4
  have y0 : (w1.setCell ⟨w.heap.size + 1 + 1, 1, none⟩ (.slice A1 bs.length c1)).cell? ⟨w.heap.size + 1, 0, none⟩ = some (.int .i64 0) := (sc_other _ (by simp)).trans c1_2
  have y1 : (w1.setCell ⟨w.heap.size + 1 + 1, 1, none⟩ (.slice A1 bs.length c1)).cell? ⟨w.heap.size + 1, 1, none⟩ = some (.slice none 0 0) := (sc_other _ (by simp)).trans c1_3
  have z0 := set1b (W := (w1.setCell ⟨w.heap.size + 1 + 1, 1, none⟩ (.slice A1 bs.length c1))) (b := w.heap.size + 1) (i := 0) (.int .i64 bh) y0
  have z1 := set1b (W := ((w1.setCell ⟨w.heap.size + 1 + 1, 1, none⟩ (.slice A1 bs.length c1)).setCell ⟨w.heap.size + 1, 0, none⟩ (.int .i64 bh))) (b := w.heap.size + 1) (i := 1) (.slice A1 bs.length c1) ((sc_other _ (by simp)).trans y1)
  refine bodyPost_ret (v := .agg #[.int .i64 bh, .slice A1 bs.length c1]) (by simp [results, Try.results19, go_sem, r0, r1, z0, z1]) rfl ⟨A1, c1, rfl, ?_, ?_⟩
  · exact (((ho1.set_ _ _ (by simp)).set_ _ _ (by simp)).set_ _ _ (by simp)).lo (by simp <;> omega)
  · repeat (first | exact hT1 | refine below_set _ ?_ (by simp <;> omega))
theorem szBases_any (bh : Int) (A : Option Addr) (n c : Nat) (l : Int) (hl : l ≤ 1048576) (h0 : -1 ≤ l) (hn : n ≤ 9223372036854775807) (w : World) :
    Calls Try.prog 15 #[.agg #[.int .i64 bh, .slice A n c], .int .i64 l] w fun en w' => en = .returned (.int .i64 (if l - n < 0 then -1 else l - n)) ∧ Below w.heap.size w w' := by
  go_enter Try.func15, Try.ntmps15
  go_wp2_with fail
  refine (szIntS_any A n c l hl h0 hn _).mono ?_
  rintro e1 w1 ⟨rfl, rfl⟩
  by_cases h : l - n < 0
  · rw [if_pos h]
    go_wp2
    go_ret
    exact ⟨rfl, below_new w _⟩
  · rw [if_neg h]
    go_wp2
    go_ret
    exact ⟨rfl, below_new w _⟩
set_option maxHeartbeats 400000 in
theorem eqBases_same (bh : Int) (A B : Option Addr) (c d : Nat) (bs : List Int) (hl : bs.length ≤ 9223372036854775807) (w : World) (hx : RI w w.heap.size A bs) (hy : RI w w.heap.size B bs) :
    Calls Try.prog 23 #[.agg #[.int .i64 bh, .slice A bs.length c], .agg #[.int .i64 bh, .slice B bs.length d]] w fun en w' => en = .returned (.bool true) ∧ Below w.heap.size w w' := by
  have hne : (bh != bh) = false := by simp
  have hT0 : Below w.heap.size w ((w.alloc (.cells #[.int .i64 bh, .slice A bs.length c] 35)).alloc (.cells #[.int .i64 bh, .slice B bs.length d] 35)) := by repeat (first | exact Below.refl _ _ | refine bnew ?_ _)
  go_enter Try.func23, Try.ntmps23
  go_wp2_with fail
  refine (eqIntS_same A B c d bs hl _ (hx.next (by repeat (first | exact hT0 | refine bnew ?_ _ | refine Below.drew ?_ | refine Below.drewN ?_ _))) (hy.next (by repeat (first | exact hT0 | refine bnew ?_ _ | refine Below.drew ?_ | refine Below.drewN ?_ _)))).mono ?_
  rintro e1 w1 ⟨rfl, hb1⟩
  have hT1 : Below w.heap.size w w1 := bnext (by repeat (first | exact hT0 | refine bnew ?_ _ | refine Below.drew ?_ | refine Below.drewN ?_ _)) hb1
  have c1_0 : w1.cell? ⟨w.heap.size, 0, none⟩ = some (.int .i64 bh) := by
    refine cell_keep hb1 ?_
    repeat (first | with_reducible assumption | (refine cell_new' ?_ _ _ _ rfl; focus (simp; done)) | with_reducible refine cell_keep (below_new _ _) ?_)
  have c1_1 : w1.cell? ⟨w.heap.size, 1, none⟩ = some (.slice A bs.length c) := by
    refine cell_keep hb1 ?_
    repeat (first | with_reducible assumption | (refine cell_new' ?_ _ _ _ rfl; focus (simp; done)) | with_reducible refine cell_keep (below_new _ _) ?_)
  have c1_2 : w1.cell? ⟨w.heap.size + 1, 0, none⟩ = some (.int .i64 bh) := by
    refine cell_keep hb1 ?_
    repeat (first | with_reducible assumption | (refine cell_new' ?_ _ _ _ rfl; focus (simp; done)) | with_reducible refine cell_keep (below_new _ _) ?_)
  have c1_3 : w1.cell? ⟨w.heap.size + 1, 1, none⟩ = some (.slice B bs.length d) := by
    refine cell_keep hb1 ?_
    repeat (first | with_reducible assumption | (refine cell_new' ?_ _ _ _ rfl; focus (simp; done)) | with_reducible refine cell_keep (below_new _ _) ?_)
  go_wp2
  go_ret
  exact ⟨rfl, hT1⟩
end Go.Proofs.Ytljlimlgdnbllaa
