/- FnExactCheckVector returns true for every input. No condition. -/
import Derived.Test.YtekfeplaphemkaaE10
import Derived.Test.YtekfeplaphemkaaL1
import Derived.Test.YtekfeplaphemkaaL3
import Derived.Test.YtekfeplaphemkaaOpen
namespace Go.Proofs.Ytekfeplaphemkaa.pCheckVector
open Go.ChangeShapes Go.WideShapes Go.ChangeAt Go.RowKit Go.Joins
theorem own : ownKnob Try.prog.godebug = none := by kernel_rfl
theorem cellsG : Try.prog.cellsOf 23 = 3 := by kernel_rfl
set_option maxHeartbeats 1600000 in
theorem walk (p q g : Int) (bh : Int) (A_b : Option Addr) (c_b : Nat) (bs : List Int) (c : Int) (A_l : Option Addr) (c_l : Nat) (l : List Int) (r : Int) (w : World) (hx_b : RI w w.heap.size A_b bs) (hl_b : bs.length ≤ 9223372036854775807) (hx_l : RI w w.heap.size A_l l) (hl_l : l.length ≤ 9223372036854775807) : Calls Try.prog 7 #[.agg #[.int .i64 p, .int .i64 q, .int .i64 g], .agg #[.int .i64 bh, .slice A_b bs.length c_b], .int .i64 c, .slice A_l l.length c_l, .int .i64 r] w fun e w' => e = .returned (.bool true) ∧ Below w.heap.size w w' := by
  have hT0 : Below w.heap.size w ((w.alloc (.cells #[.int .i64 p, .int .i64 q, .int .i64 g] 23)).alloc (.cells #[.int .i64 bh, .slice A_b bs.length c_b] 35)) := by repeat (first | exact Below.refl _ _ | refine bnew ?_ _)
  go_enter Try.func7, Try.ntmps7
  by_cases big_l : (1048576 : Int) < (l.length : Int)
  · go_wp2
    go_ret
    exact ⟨rfl, hT0⟩
  go_wp2_with fail
  refine (szBases_any bh A_b bs.length c_b 1048576 (by omega) (by omega) hl_b _).mono ?_
  rintro e1 w1 ⟨rfl, hb1⟩
  have hT1 : Below w.heap.size w w1 := bnext (by repeat (first | exact hT0 | refine bnew ?_ _ | refine Below.drew ?_ | refine Below.drewN ?_ _)) hb1
  have c1_0 : w1.cell? ⟨w.heap.size, 0, none⟩ = some (.int .i64 p) := by
    refine cell_keep hb1 ?_
    repeat (first | with_reducible assumption | (refine cell_new' ?_ _ _ _ rfl; focus (simp; done)) | with_reducible refine cell_keep (below_new _ _) ?_)
  have c1_1 : w1.cell? ⟨w.heap.size, 1, none⟩ = some (.int .i64 q) := by
    refine cell_keep hb1 ?_
    repeat (first | with_reducible assumption | (refine cell_new' ?_ _ _ _ rfl; focus (simp; done)) | with_reducible refine cell_keep (below_new _ _) ?_)
  have c1_2 : w1.cell? ⟨w.heap.size, 2, none⟩ = some (.int .i64 g) := by
    refine cell_keep hb1 ?_
    repeat (first | with_reducible assumption | (refine cell_new' ?_ _ _ _ rfl; focus (simp; done)) | with_reducible refine cell_keep (below_new _ _) ?_)
  have c1_3 : w1.cell? ⟨w.heap.size + 1, 0, none⟩ = some (.int .i64 bh) := by
    refine cell_keep hb1 ?_
    repeat (first | with_reducible assumption | (refine cell_new' ?_ _ _ _ rfl; focus (simp; done)) | with_reducible refine cell_keep (below_new _ _) ?_)
  have c1_4 : w1.cell? ⟨w.heap.size + 1, 1, none⟩ = some (.slice A_b bs.length c_b) := by
    refine cell_keep hb1 ?_
    repeat (first | with_reducible assumption | (refine cell_new' ?_ _ _ _ rfl; focus (simp; done)) | with_reducible refine cell_keep (below_new _ _) ?_)
  by_cases big_b : ((1048576 : Int) - bs.length : Int) < 0
  · rw [if_pos big_b]
    go_wp2
    go_ret
    exact ⟨rfl, hT1⟩
  rw [if_neg big_b]
  go_wp2_with fail
  go_region_held3 (fun W' => W'.cell? ⟨w.heap.size, 0, none⟩ = some (.int .i64 p) ∧ W'.cell? ⟨w.heap.size, 1, none⟩ = some (.int .i64 q) ∧ W'.cell? ⟨w.heap.size, 2, none⟩ = some (.int .i64 g) ∧ W'.cell? ⟨w.heap.size + 1, 0, none⟩ = some (.int .i64 bh) ∧ W'.cell? ⟨w.heap.size + 1, 1, none⟩ = some (.slice A_b bs.length c_b) ∧ Below w.heap.size w W') ((go_split_ands; refine ⟨?_, ?_, ?_, ?_, ?_, ?_⟩; (first | with_reducible exact cell_keep (by with_reducible assumption) (by with_reducible assumption) | with_reducible exact cell_keep (below_new _ _) (by with_reducible assumption) | (with_reducible refine cell_set _ ?_ (by simp); (repeat with_reducible refine cell_set _ ?_ (by simp)); with_reducible assumption) | with_reducible exact cell_drew (by with_reducible assumption) | go_keep); (first | with_reducible exact cell_keep (by with_reducible assumption) (by with_reducible assumption) | with_reducible exact cell_keep (below_new _ _) (by with_reducible assumption) | (with_reducible refine cell_set _ ?_ (by simp); (repeat with_reducible refine cell_set _ ?_ (by simp)); with_reducible assumption) | with_reducible exact cell_drew (by with_reducible assumption) | go_keep); (first | with_reducible exact cell_keep (by with_reducible assumption) (by with_reducible assumption) | with_reducible exact cell_keep (below_new _ _) (by with_reducible assumption) | (with_reducible refine cell_set _ ?_ (by simp); (repeat with_reducible refine cell_set _ ?_ (by simp)); with_reducible assumption) | with_reducible exact cell_drew (by with_reducible assumption) | go_keep); (first | with_reducible exact cell_keep (by with_reducible assumption) (by with_reducible assumption) | with_reducible exact cell_keep (below_new _ _) (by with_reducible assumption) | (with_reducible refine cell_set _ ?_ (by simp); (repeat with_reducible refine cell_set _ ?_ (by simp)); with_reducible assumption) | with_reducible exact cell_drew (by with_reducible assumption) | go_keep); (first | with_reducible exact cell_keep (by with_reducible assumption) (by with_reducible assumption) | with_reducible exact cell_keep (below_new _ _) (by with_reducible assumption) | (with_reducible refine cell_set _ ?_ (by simp); (repeat with_reducible refine cell_set _ ?_ (by simp)); with_reducible assumption) | with_reducible exact cell_drew (by with_reducible assumption) | go_keep); (repeat (first | with_reducible assumption | with_reducible refine bnext ?_ (by with_reducible assumption) | with_reducible refine bnew ?_ _ | with_reducible refine below_set _ ?_ (by simp) | with_reducible refine Below.drew ?_ | with_reducible refine Below.drewN ?_ _)); done)) (first | (go_at_call 10; refine (toGroup_any _ _ _ _).mono ?_; rintro e2 w2 ⟨rfl, hb2⟩) | (go_at_call 15; refine (toBases_any _ _ _ _ (by omega) _ (by refine RI.next (by with_reducible assumption) ?_; repeat (first | exact Below.refl _ _ | with_reducible assumption | with_reducible refine bnext ?_ (by with_reducible assumption) | with_reducible refine bnew ?_ _ | with_reducible refine Below.drew ?_))).mono ?_; rintro e2 w2 ⟨A2, c2, rfl, ho2, hb2⟩) | (go_at_call 21; refine (toIntS_any _ _ _ (by omega) _ (by refine RI.next (by with_reducible assumption) ?_; repeat (first | exact Below.refl _ _ | with_reducible assumption | with_reducible refine bnext ?_ (by with_reducible assumption) | with_reducible refine bnew ?_ _ | with_reducible refine Below.drew ?_))).mono ?_; rintro e2 w2 ⟨A2, c2, rfl, ho2, hb2⟩) | (go_at_call 24; refine (checkVectorS p q g bh c r _ _ _ _ bs l hl_b hl_l (OI.cap (by with_reducible assumption) rfl) _ (by refine RI.next (OI.ri (by with_reducible assumption)) ?_; repeat (first | exact Below.refl _ _ | with_reducible assumption | with_reducible refine bnext ?_ (by with_reducible assumption) | with_reducible refine bnew ?_ _ | with_reducible refine Below.drew ?_)) (by refine RI.next (OI.ri (by with_reducible assumption)) ?_; repeat (first | exact Below.refl _ _ | with_reducible assumption | with_reducible refine bnext ?_ (by with_reducible assumption) | with_reducible refine bnew ?_ _ | with_reducible refine Below.drew ?_))).mono ?_; rintro e2 w2 ⟨rfl, hb2⟩))
  obtain ⟨c2_0, c2_1, c2_2, c2_3, c2_4, hT2⟩ := (by assumption : _ ∧ _ ∧ _ ∧ _ ∧ _ ∧  _)
  clear c1_0 c1_1 c1_2 c1_3 c1_4
  go_wp2_with fail
  refine (toBases_any _ _ _ _ (by omega) _ (by refine RI.next (by with_reducible assumption) ?_; repeat (first | exact Below.refl _ _ | with_reducible assumption | with_reducible refine bnext ?_ (by with_reducible assumption) | with_reducible refine bnew ?_ _ | with_reducible refine Below.drew ?_))).mono ?_
  rintro e3 w3 ⟨A3, c3, rfl, ho3, hb3⟩
  have hT3 : Below w.heap.size w w3 := bnext (by repeat (first | exact hT2 | refine bnew ?_ _ | refine Below.drew ?_ | refine Below.drewN ?_ _)) hb3
  have c3_0 : w3.cell? ⟨w.heap.size, 0, none⟩ = some (.int .i64 p) := by
    refine cell_keep hb3 ?_
    repeat (first | with_reducible assumption | (refine cell_new' ?_ _ _ _ rfl; focus (simp; done)) | with_reducible refine cell_keep (below_new _ _) ?_)
  have c3_1 : w3.cell? ⟨w.heap.size, 1, none⟩ = some (.int .i64 q) := by
    refine cell_keep hb3 ?_
    repeat (first | with_reducible assumption | (refine cell_new' ?_ _ _ _ rfl; focus (simp; done)) | with_reducible refine cell_keep (below_new _ _) ?_)
  have c3_2 : w3.cell? ⟨w.heap.size, 2, none⟩ = some (.int .i64 g) := by
    refine cell_keep hb3 ?_
    repeat (first | with_reducible assumption | (refine cell_new' ?_ _ _ _ rfl; focus (simp; done)) | with_reducible refine cell_keep (below_new _ _) ?_)
  have c3_3 : w3.cell? ⟨w.heap.size + 1, 0, none⟩ = some (.int .i64 bh) := by
    refine cell_keep hb3 ?_
    repeat (first | with_reducible assumption | (refine cell_new' ?_ _ _ _ rfl; focus (simp; done)) | with_reducible refine cell_keep (below_new _ _) ?_)
  have c3_4 : w3.cell? ⟨w.heap.size + 1, 1, none⟩ = some (.slice A_b bs.length c_b) := by
    refine cell_keep hb3 ?_
    repeat (first | with_reducible assumption | (refine cell_new' ?_ _ _ _ rfl; focus (simp; done)) | with_reducible refine cell_keep (below_new _ _) ?_)
  clear c2_0 c2_1 c2_2 c2_3 c2_4
  have l3_0 : w.heap.size < w3.heap.size := World.block_lt_of_cell? _ _ c3_0
  have n3_0 : w.heap.size ≠ w3.heap.size := Nat.ne_of_lt l3_0
  have l3_3 : w.heap.size + 1 < w3.heap.size := World.block_lt_of_cell? _ _ c3_3
  have n3_3 : w.heap.size + 1 ≠ w3.heap.size := Nat.ne_of_lt l3_3
  go_wp2_with fail
  refine (toIntS_any _ _ _ (by omega) _ (by refine RI.next (by with_reducible assumption) ?_; repeat (first | exact Below.refl _ _ | with_reducible assumption | with_reducible refine bnext ?_ (by with_reducible assumption) | with_reducible refine bnew ?_ _ | with_reducible refine Below.drew ?_))).mono ?_
  rintro e4 w4 ⟨A4, c4, rfl, ho4, hb4⟩
  have hT4 : Below w.heap.size w w4 := bnext (by repeat (first | exact hT3 | refine bnew ?_ _ | refine Below.drew ?_ | refine Below.drewN ?_ _)) hb4
  have c4_0 : w4.cell? ⟨w.heap.size, 0, none⟩ = some (.int .i64 p) := by
    refine cell_keep hb4 ?_
    repeat (first | with_reducible assumption | (refine cell_new' ?_ _ _ _ rfl; focus (simp; done)) | with_reducible refine cell_keep (below_new _ _) ?_)
  have c4_1 : w4.cell? ⟨w.heap.size, 1, none⟩ = some (.int .i64 q) := by
    refine cell_keep hb4 ?_
    repeat (first | with_reducible assumption | (refine cell_new' ?_ _ _ _ rfl; focus (simp; done)) | with_reducible refine cell_keep (below_new _ _) ?_)
  have c4_2 : w4.cell? ⟨w.heap.size, 2, none⟩ = some (.int .i64 g) := by
    refine cell_keep hb4 ?_
    repeat (first | with_reducible assumption | (refine cell_new' ?_ _ _ _ rfl; focus (simp; done)) | with_reducible refine cell_keep (below_new _ _) ?_)
  have c4_3 : w4.cell? ⟨w.heap.size + 1, 0, none⟩ = some (.int .i64 bh) := by
    refine cell_keep hb4 ?_
    repeat (first | with_reducible assumption | (refine cell_new' ?_ _ _ _ rfl; focus (simp; done)) | with_reducible refine cell_keep (below_new _ _) ?_)
  have c4_4 : w4.cell? ⟨w.heap.size + 1, 1, none⟩ = some (.slice A_b bs.length c_b) := by
    refine cell_keep hb4 ?_
    repeat (first | with_reducible assumption | (refine cell_new' ?_ _ _ _ rfl; focus (simp; done)) | with_reducible refine cell_keep (below_new _ _) ?_)
  have c4_5 : w4.cell? ⟨w3.heap.size, 0, none⟩ = some (.int .i64 bh) := by
    refine cell_keep hb4 ?_
    repeat (first | with_reducible assumption | (refine cell_new' ?_ _ _ _ rfl; focus (simp; done)) | with_reducible refine cell_keep (below_new _ _) ?_)
  have c4_6 : w4.cell? ⟨w3.heap.size, 1, none⟩ = some (.slice A3 bs.length c3) := by
    refine cell_keep hb4 ?_
    repeat (first | with_reducible assumption | (refine cell_new' ?_ _ _ _ rfl; focus (simp; done)) | with_reducible refine cell_keep (below_new _ _) ?_)
  clear c3_0 c3_1 c3_2 c3_3 c3_4
  have hS4 : Below w3.heap.size w3 w4 := bnext (by repeat (first | exact Below.refl _ _ | refine bnew ?_ _ | refine Below.drew ?_ | refine Below.drewN ?_ _)) hb4
  have ho3_4 := ho3.below hS4
  clear ho3
  go_wp2_with fail
  go_region_held3 (fun W' => W'.cell? ⟨w.heap.size, 0, none⟩ = some (.int .i64 p) ∧ W'.cell? ⟨w.heap.size, 1, none⟩ = some (.int .i64 q) ∧ W'.cell? ⟨w.heap.size, 2, none⟩ = some (.int .i64 g) ∧ W'.cell? ⟨w.heap.size + 1, 0, none⟩ = some (.int .i64 bh) ∧ W'.cell? ⟨w.heap.size + 1, 1, none⟩ = some (.slice A_b bs.length c_b) ∧ W'.cell? ⟨w3.heap.size, 0, none⟩ = some (.int .i64 bh) ∧ W'.cell? ⟨w3.heap.size, 1, none⟩ = some (.slice A3 bs.length c3) ∧ Below w.heap.size w W') ((go_split_ands; refine ⟨?_, ?_, ?_, ?_, ?_, ?_, ?_, ?_⟩; (first | with_reducible exact cell_keep (by with_reducible assumption) (by with_reducible assumption) | with_reducible exact cell_keep (below_new _ _) (by with_reducible assumption) | (with_reducible refine cell_set _ ?_ (by simp); (repeat with_reducible refine cell_set _ ?_ (by simp)); with_reducible assumption) | with_reducible exact cell_drew (by with_reducible assumption) | go_keep); (first | with_reducible exact cell_keep (by with_reducible assumption) (by with_reducible assumption) | with_reducible exact cell_keep (below_new _ _) (by with_reducible assumption) | (with_reducible refine cell_set _ ?_ (by simp); (repeat with_reducible refine cell_set _ ?_ (by simp)); with_reducible assumption) | with_reducible exact cell_drew (by with_reducible assumption) | go_keep); (first | with_reducible exact cell_keep (by with_reducible assumption) (by with_reducible assumption) | with_reducible exact cell_keep (below_new _ _) (by with_reducible assumption) | (with_reducible refine cell_set _ ?_ (by simp); (repeat with_reducible refine cell_set _ ?_ (by simp)); with_reducible assumption) | with_reducible exact cell_drew (by with_reducible assumption) | go_keep); (first | with_reducible exact cell_keep (by with_reducible assumption) (by with_reducible assumption) | with_reducible exact cell_keep (below_new _ _) (by with_reducible assumption) | (with_reducible refine cell_set _ ?_ (by simp); (repeat with_reducible refine cell_set _ ?_ (by simp)); with_reducible assumption) | with_reducible exact cell_drew (by with_reducible assumption) | go_keep); (first | with_reducible exact cell_keep (by with_reducible assumption) (by with_reducible assumption) | with_reducible exact cell_keep (below_new _ _) (by with_reducible assumption) | (with_reducible refine cell_set _ ?_ (by simp); (repeat with_reducible refine cell_set _ ?_ (by simp)); with_reducible assumption) | with_reducible exact cell_drew (by with_reducible assumption) | go_keep); (first | with_reducible exact cell_keep (by with_reducible assumption) (by with_reducible assumption) | with_reducible exact cell_keep (below_new _ _) (by with_reducible assumption) | (with_reducible refine cell_set _ ?_ (by simp); (repeat with_reducible refine cell_set _ ?_ (by simp)); with_reducible assumption) | with_reducible exact cell_drew (by with_reducible assumption) | go_keep); (first | with_reducible exact cell_keep (by with_reducible assumption) (by with_reducible assumption) | with_reducible exact cell_keep (below_new _ _) (by with_reducible assumption) | (with_reducible refine cell_set _ ?_ (by simp); (repeat with_reducible refine cell_set _ ?_ (by simp)); with_reducible assumption) | with_reducible exact cell_drew (by with_reducible assumption) | go_keep); (repeat (first | with_reducible assumption | with_reducible refine bnext ?_ (by with_reducible assumption) | with_reducible refine bnew ?_ _ | with_reducible refine below_set _ ?_ (by simp) | with_reducible refine Below.drew ?_ | with_reducible refine Below.drewN ?_ _)); done)) (first | (go_at_call 10; refine (toGroup_any _ _ _ _).mono ?_; rintro e5 w5 ⟨rfl, hb5⟩) | (go_at_call 25; refine (checkVectorI p q g bh c r _ _ _ _ bs l hl_b hl_l (OI.cap (by with_reducible assumption) rfl) _ (by refine RI.next (OI.ri (by with_reducible assumption)) ?_; repeat (first | exact Below.refl _ _ | with_reducible assumption | with_reducible refine bnext ?_ (by with_reducible assumption) | with_reducible refine bnew ?_ _ | with_reducible refine Below.drew ?_)) (by refine RI.next (OI.ri (by with_reducible assumption)) ?_; repeat (first | exact Below.refl _ _ | with_reducible assumption | with_reducible refine bnext ?_ (by with_reducible assumption) | with_reducible refine bnew ?_ _ | with_reducible refine Below.drew ?_))).mono ?_; rintro e5 w5 ⟨rfl, hb5⟩))
  have ho3_5 := OI.below ho3_4 (show Below w4.heap.size w4 w5 by repeat (first | exact Below.refl _ _ | with_reducible assumption | with_reducible refine bnext ?_ (by with_reducible assumption) | with_reducible refine bnew ?_ _ | with_reducible refine Below.drew ?_))
  clear ho3_4
  have ho4_5 := OI.below ho4 (show Below w4.heap.size w4 w5 by repeat (first | exact Below.refl _ _ | with_reducible assumption | with_reducible refine bnext ?_ (by with_reducible assumption) | with_reducible refine bnew ?_ _ | with_reducible refine Below.drew ?_))
  clear ho4
  obtain ⟨c5_0, c5_1, c5_2, c5_3, c5_4, c5_5, c5_6, hT5⟩ := (by assumption : _ ∧ _ ∧ _ ∧ _ ∧ _ ∧ _ ∧ _ ∧  _)
  clear c4_0 c4_1 c4_2 c4_3 c4_4 c4_5 c4_6
  go_wp2_with fail
  go_region_held3 (fun W' => W'.cell? ⟨w.heap.size, 0, none⟩ = some (.int .i64 p) ∧ W'.cell? ⟨w.heap.size, 1, none⟩ = some (.int .i64 q) ∧ W'.cell? ⟨w.heap.size, 2, none⟩ = some (.int .i64 g) ∧ W'.cell? ⟨w.heap.size + 1, 0, none⟩ = some (.int .i64 bh) ∧ W'.cell? ⟨w.heap.size + 1, 1, none⟩ = some (.slice A_b bs.length c_b) ∧ W'.cell? ⟨w3.heap.size, 0, none⟩ = some (.int .i64 bh) ∧ W'.cell? ⟨w3.heap.size, 1, none⟩ = some (.slice A3 bs.length c3) ∧ Below w.heap.size w W') ((go_split_ands; refine ⟨?_, ?_, ?_, ?_, ?_, ?_, ?_, ?_⟩; (first | with_reducible exact cell_keep (by with_reducible assumption) (by with_reducible assumption) | with_reducible exact cell_keep (below_new _ _) (by with_reducible assumption) | (with_reducible refine cell_set _ ?_ (by simp); (repeat with_reducible refine cell_set _ ?_ (by simp)); with_reducible assumption) | with_reducible exact cell_drew (by with_reducible assumption) | go_keep); (first | with_reducible exact cell_keep (by with_reducible assumption) (by with_reducible assumption) | with_reducible exact cell_keep (below_new _ _) (by with_reducible assumption) | (with_reducible refine cell_set _ ?_ (by simp); (repeat with_reducible refine cell_set _ ?_ (by simp)); with_reducible assumption) | with_reducible exact cell_drew (by with_reducible assumption) | go_keep); (first | with_reducible exact cell_keep (by with_reducible assumption) (by with_reducible assumption) | with_reducible exact cell_keep (below_new _ _) (by with_reducible assumption) | (with_reducible refine cell_set _ ?_ (by simp); (repeat with_reducible refine cell_set _ ?_ (by simp)); with_reducible assumption) | with_reducible exact cell_drew (by with_reducible assumption) | go_keep); (first | with_reducible exact cell_keep (by with_reducible assumption) (by with_reducible assumption) | with_reducible exact cell_keep (below_new _ _) (by with_reducible assumption) | (with_reducible refine cell_set _ ?_ (by simp); (repeat with_reducible refine cell_set _ ?_ (by simp)); with_reducible assumption) | with_reducible exact cell_drew (by with_reducible assumption) | go_keep); (first | with_reducible exact cell_keep (by with_reducible assumption) (by with_reducible assumption) | with_reducible exact cell_keep (below_new _ _) (by with_reducible assumption) | (with_reducible refine cell_set _ ?_ (by simp); (repeat with_reducible refine cell_set _ ?_ (by simp)); with_reducible assumption) | with_reducible exact cell_drew (by with_reducible assumption) | go_keep); (first | with_reducible exact cell_keep (by with_reducible assumption) (by with_reducible assumption) | with_reducible exact cell_keep (below_new _ _) (by with_reducible assumption) | (with_reducible refine cell_set _ ?_ (by simp); (repeat with_reducible refine cell_set _ ?_ (by simp)); with_reducible assumption) | with_reducible exact cell_drew (by with_reducible assumption) | go_keep); (first | with_reducible exact cell_keep (by with_reducible assumption) (by with_reducible assumption) | with_reducible exact cell_keep (below_new _ _) (by with_reducible assumption) | (with_reducible refine cell_set _ ?_ (by simp); (repeat with_reducible refine cell_set _ ?_ (by simp)); with_reducible assumption) | with_reducible exact cell_drew (by with_reducible assumption) | go_keep); (repeat (first | with_reducible assumption | with_reducible refine bnext ?_ (by with_reducible assumption) | with_reducible refine bnew ?_ _ | with_reducible refine below_set _ ?_ (by simp) | with_reducible refine Below.drew ?_ | with_reducible refine Below.drewN ?_ _)); done)) (first | (go_at_call 15; refine (toBases_any _ _ _ _ (by omega) _ (by refine RI.next (by with_reducible assumption) ?_; repeat (first | exact Below.refl _ _ | with_reducible assumption | with_reducible refine bnext ?_ (by with_reducible assumption) | with_reducible refine bnew ?_ _ | with_reducible refine Below.drew ?_))).mono ?_; rintro e6 w6 ⟨A6, c6, rfl, ho6, hb6⟩) | (go_at_call 17; refine (eqBases_same _ _ _ _ _ _ (by omega) _ (by refine RI.next (OI.ri (by with_reducible assumption)) ?_; repeat (first | exact Below.refl _ _ | with_reducible assumption | with_reducible refine bnext ?_ (by with_reducible assumption) | with_reducible refine bnew ?_ _ | with_reducible refine Below.drew ?_)) (by refine RI.next (OI.ri (by with_reducible assumption)) ?_; repeat (first | exact Below.refl _ _ | with_reducible assumption | with_reducible refine bnext ?_ (by with_reducible assumption) | with_reducible refine bnew ?_ _ | with_reducible refine Below.drew ?_))).mono ?_; rintro e6 w6 ⟨rfl, hb6⟩))
  have ho3_6 := OI.below ho3_5 (show Below w5.heap.size w5 w6 by repeat (first | exact Below.refl _ _ | with_reducible assumption | with_reducible refine bnext ?_ (by with_reducible assumption) | with_reducible refine bnew ?_ _ | with_reducible refine Below.drew ?_))
  clear ho3_5
  have ho4_6 := OI.below ho4_5 (show Below w5.heap.size w5 w6 by repeat (first | exact Below.refl _ _ | with_reducible assumption | with_reducible refine bnext ?_ (by with_reducible assumption) | with_reducible refine bnew ?_ _ | with_reducible refine Below.drew ?_))
  clear ho4_5
  obtain ⟨c6_0, c6_1, c6_2, c6_3, c6_4, c6_5, c6_6, hT6⟩ := (by assumption : _ ∧ _ ∧ _ ∧ _ ∧ _ ∧ _ ∧ _ ∧  _)
  clear c5_0 c5_1 c5_2 c5_3 c5_4 c5_5 c5_6
  go_wp2_with fail
  refine (toIntS_any _ _ _ (by omega) _ (by refine RI.next (by with_reducible assumption) ?_; repeat (first | exact Below.refl _ _ | with_reducible assumption | with_reducible refine bnext ?_ (by with_reducible assumption) | with_reducible refine bnew ?_ _ | with_reducible refine Below.drew ?_))).mono ?_
  rintro e7 w7 ⟨A7, c7, rfl, ho7, hb7⟩
  have hT7 : Below w.heap.size w w7 := bnext (by repeat (first | exact hT6 | refine bnew ?_ _ | refine Below.drew ?_ | refine Below.drewN ?_ _)) hb7
  have c7_0 : w7.cell? ⟨w.heap.size, 0, none⟩ = some (.int .i64 p) := by
    refine cell_keep hb7 ?_
    repeat (first | with_reducible assumption | (refine cell_new' ?_ _ _ _ rfl; focus (simp; done)) | with_reducible refine cell_keep (below_new _ _) ?_)
  have c7_1 : w7.cell? ⟨w.heap.size, 1, none⟩ = some (.int .i64 q) := by
    refine cell_keep hb7 ?_
    repeat (first | with_reducible assumption | (refine cell_new' ?_ _ _ _ rfl; focus (simp; done)) | with_reducible refine cell_keep (below_new _ _) ?_)
  have c7_2 : w7.cell? ⟨w.heap.size, 2, none⟩ = some (.int .i64 g) := by
    refine cell_keep hb7 ?_
    repeat (first | with_reducible assumption | (refine cell_new' ?_ _ _ _ rfl; focus (simp; done)) | with_reducible refine cell_keep (below_new _ _) ?_)
  have c7_3 : w7.cell? ⟨w.heap.size + 1, 0, none⟩ = some (.int .i64 bh) := by
    refine cell_keep hb7 ?_
    repeat (first | with_reducible assumption | (refine cell_new' ?_ _ _ _ rfl; focus (simp; done)) | with_reducible refine cell_keep (below_new _ _) ?_)
  have c7_4 : w7.cell? ⟨w.heap.size + 1, 1, none⟩ = some (.slice A_b bs.length c_b) := by
    refine cell_keep hb7 ?_
    repeat (first | with_reducible assumption | (refine cell_new' ?_ _ _ _ rfl; focus (simp; done)) | with_reducible refine cell_keep (below_new _ _) ?_)
  have c7_5 : w7.cell? ⟨w3.heap.size, 0, none⟩ = some (.int .i64 bh) := by
    refine cell_keep hb7 ?_
    repeat (first | with_reducible assumption | (refine cell_new' ?_ _ _ _ rfl; focus (simp; done)) | with_reducible refine cell_keep (below_new _ _) ?_)
  have c7_6 : w7.cell? ⟨w3.heap.size, 1, none⟩ = some (.slice A3 bs.length c3) := by
    refine cell_keep hb7 ?_
    repeat (first | with_reducible assumption | (refine cell_new' ?_ _ _ _ rfl; focus (simp; done)) | with_reducible refine cell_keep (below_new _ _) ?_)
  clear c6_0 c6_1 c6_2 c6_3 c6_4 c6_5 c6_6
  have hS7 : Below w6.heap.size w6 w7 := bnext (by repeat (first | exact Below.refl _ _ | refine bnew ?_ _ | refine Below.drew ?_ | refine Below.drewN ?_ _)) hb7
  have ho3_7 := ho3_6.below hS7
  clear ho3_6
  have ho4_7 := ho4_6.below hS7
  clear ho4_6
  go_wp2_with fail
  refine (eqIntS_same _ _ _ _ _ (by omega) _ (by refine RI.next (OI.ri (by with_reducible assumption)) ?_; repeat (first | exact Below.refl _ _ | with_reducible assumption | with_reducible refine bnext ?_ (by with_reducible assumption) | with_reducible refine bnew ?_ _ | with_reducible refine Below.drew ?_)) (by refine RI.next (OI.ri (by with_reducible assumption)) ?_; repeat (first | exact Below.refl _ _ | with_reducible assumption | with_reducible refine bnext ?_ (by with_reducible assumption) | with_reducible refine bnew ?_ _ | with_reducible refine Below.drew ?_))).mono ?_
  rintro e8 w8 ⟨rfl, hb8⟩
  have hT8 : Below w.heap.size w w8 := bnext (by repeat (first | exact hT7 | refine bnew ?_ _ | refine Below.drew ?_ | refine Below.drewN ?_ _)) hb8
  have c8_0 : w8.cell? ⟨w.heap.size, 0, none⟩ = some (.int .i64 p) := by
    refine cell_keep hb8 ?_
    repeat (first | with_reducible assumption | (refine cell_new' ?_ _ _ _ rfl; focus (simp; done)) | with_reducible refine cell_keep (below_new _ _) ?_)
  have c8_1 : w8.cell? ⟨w.heap.size, 1, none⟩ = some (.int .i64 q) := by
    refine cell_keep hb8 ?_
    repeat (first | with_reducible assumption | (refine cell_new' ?_ _ _ _ rfl; focus (simp; done)) | with_reducible refine cell_keep (below_new _ _) ?_)
  have c8_2 : w8.cell? ⟨w.heap.size, 2, none⟩ = some (.int .i64 g) := by
    refine cell_keep hb8 ?_
    repeat (first | with_reducible assumption | (refine cell_new' ?_ _ _ _ rfl; focus (simp; done)) | with_reducible refine cell_keep (below_new _ _) ?_)
  have c8_3 : w8.cell? ⟨w.heap.size + 1, 0, none⟩ = some (.int .i64 bh) := by
    refine cell_keep hb8 ?_
    repeat (first | with_reducible assumption | (refine cell_new' ?_ _ _ _ rfl; focus (simp; done)) | with_reducible refine cell_keep (below_new _ _) ?_)
  have c8_4 : w8.cell? ⟨w.heap.size + 1, 1, none⟩ = some (.slice A_b bs.length c_b) := by
    refine cell_keep hb8 ?_
    repeat (first | with_reducible assumption | (refine cell_new' ?_ _ _ _ rfl; focus (simp; done)) | with_reducible refine cell_keep (below_new _ _) ?_)
  have c8_5 : w8.cell? ⟨w3.heap.size, 0, none⟩ = some (.int .i64 bh) := by
    refine cell_keep hb8 ?_
    repeat (first | with_reducible assumption | (refine cell_new' ?_ _ _ _ rfl; focus (simp; done)) | with_reducible refine cell_keep (below_new _ _) ?_)
  have c8_6 : w8.cell? ⟨w3.heap.size, 1, none⟩ = some (.slice A3 bs.length c3) := by
    refine cell_keep hb8 ?_
    repeat (first | with_reducible assumption | (refine cell_new' ?_ _ _ _ rfl; focus (simp; done)) | with_reducible refine cell_keep (below_new _ _) ?_)
  clear c7_0 c7_1 c7_2 c7_3 c7_4 c7_5 c7_6
  have hS8 : Below w7.heap.size w7 w8 := bnext (by repeat (first | exact Below.refl _ _ | refine bnew ?_ _ | refine Below.drew ?_ | refine Below.drewN ?_ _)) hb8
  have ho3_8 := ho3_7.below hS8
  clear ho3_7
  have ho4_8 := ho4_7.below hS8
  clear ho4_7
  have ho7_8 := ho7.below hS8
  clear ho7
  go_wp2
  go_ret
  exact ⟨rfl, (by repeat (first | exact hT8 | refine bnew ?_ _ | refine Below.drew ?_ | refine Below.drewN ?_ _))⟩
set_option maxRecDepth 100000 in
theorem lifted (os : Os) (started : os.Started) (H : Type) (enc : TypeId × Value → H) :
    ReturnsInHanded {} Try.checked os 7 .any (Rows.fnExactCheckVectorSpec.pre6 enc Try.prog Try.f7 Rows.fnExactCheckVectorRow.domain false) (Rows.fnExactCheckVectorSpec.post enc Try.prog Try.f7 false true false false) := by
  refine law_lift (C := Try.checked) own started (by kernel_rfl) Try.func7
    (ChangeSpec.witness6 (enc := enc) (C := Try.checked) false ⟨#[], #[.agg #[.int .i64 0, .int .i64 0, .int .i64 0], .agg #[.int .i64 0, .slice none 0 0], .int .i64 0, .slice none 0 0, .int .i64 0], []⟩ 8 (by kernel_rfl) (by kernel_rfl) (by kernel_rfl) (by kernel_rfl))
    (by kernel_rfl) [23, 35, 3, 33, 3] rfl (by kernel_rfl) 4 rfl Try.underlying4 rfl (fun ds h => by
      match ds, h with
      | [_, _, _, _, _], _ => rfl) ?_
  intro W base args ds p hval hA hlt
  obtain ⟨v0, vs0, d0, ds0, p0, q0, hargs, rfl, rfl, h0, r0⟩ := trodAll_cons hA
  obtain ⟨v1, vs1, d1, ds1, p1, q1, rfl, rfl, rfl, h1, r1⟩ := trodAll_cons r0
  obtain ⟨v2, vs2, d2, ds2, p2, q2, rfl, rfl, rfl, h2, r2⟩ := trodAll_cons r1
  obtain ⟨v3, vs3, d3, ds3, p3, q3, rfl, rfl, rfl, h3, r3⟩ := trodAll_cons r2
  obtain ⟨v4, vs4, d4, ds4, p4, q4, rfl, rfl, rfl, h4, r4⟩ := trodAll_cons r3
  obtain ⟨rfl, rfl, rfl⟩ := trodAll_nil r4
  rw [hargs] at hval
  obtain rfl : args = #[v0, v1, v2, v3, v4] := by cases args; simp_all
  obtain ⟨c0, c1, c2, y0, y1, y2, m9, rfl, rfl, rfl, hy0, hy1, hy2⟩ := open_agg3 Try.underlying23 (by kernel_rfl) cellsG (hval 0 23 v0 rfl rfl) h0
  obtain ⟨p, e0, rfl, wa0⟩ := DataW.trod_int Try.underlying3 hy0
  obtain ⟨q, e1, rfl, wa1⟩ := DataW.trod_int Try.underlying3 hy1
  obtain ⟨g, e2, rfl, wa2⟩ := DataW.trod_int Try.underlying3 hy2
  simp at e0 e1 e2
  subst e0 e1 e2
  obtain ⟨cc0, cc1, yy0, yy1, mm, rfl, rfl, rfl, hyy0, hyy1⟩ := open_agg2 Try.underlying35 (by kernel_rfl) (by kernel_rfl) (hval 1 35 v1 rfl rfl) h1
  obtain ⟨bh, ee0, rfl, wwb⟩ := DataW.trod_int Try.underlying3 hyy0
  simp at ee0
  subst ee0
  obtain ⟨A_b, c_b, bs, rfl, hx_b, hl_b⟩ := open_RIc hyy1 (fun x hx => hlt x (by simp [hx]))
  obtain ⟨c, rfl, rfl, rfl, ww2⟩ := open_int Try.underlying3 (hval 2 3 v2 rfl rfl) h2
  obtain ⟨A_l, c_l, l, rfl, hx_l, hl_l⟩ := open_RI rfl (hval 3 33 v3 rfl rfl) h3 (fun x hx => hlt x (by simp [hx]))
  obtain ⟨r, rfl, rfl, rfl, ww4⟩ := open_int Try.underlying3 (hval 4 3 v4 rfl rfl) h4
  exact walk p q g bh A_b c_b bs c A_l c_l l r W hx_b hl_b hx_l hl_l
theorem proved : Rows.FnExactCheckVectorSaid :=
  OpenClaim.holds_of_wide 7 Try.f7 rfl rfl rfl rfl rfl rfl rfl ⟨rfl, rfl, rfl, rfl, rfl⟩ rfl rfl rfl rfl rfl (by kernel_rfl) Try.func7 (by kernel_rfl)
    (of_decide_eq_true (by kernel_rfl)) (by unfold Func.isWrapper; rw [if_neg (of_decide_eq_false (by kernel_rfl))]; exact ⟨rfl, rfl⟩)
    (fun os started H enc _ => lifted os started H enc)
#print axioms proved
end Go.Proofs.Ytekfeplaphemkaa.pCheckVector
