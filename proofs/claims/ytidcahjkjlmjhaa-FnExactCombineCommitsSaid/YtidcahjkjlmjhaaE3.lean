/- Walks: transcripts, simulations. -/
import Derived.Test.YtidcahjkjlmjhaaN5
namespace Go.Proofs.Ytidcahjkjlmjhaa
open Go.RowKit
theorem elem_bd {p q x : Int} (h : M.elem p q x) : 0 ≤ x ∧ x < p := ⟨by have := h.1.1; omega, h.1.2⟩
theorem RI.lit4 (w : World) (a b c d : Int) (t : TypeId) {n : Nat} (hn : n = w.heap.size) : RI (w.alloc (.cells #[.int .i64 a, .int .i64 b, .int .i64 c, .int .i64 d] t)) (w.alloc (.cells #[.int .i64 a, .int .i64 b, .int .i64 c, .int .i64 d] t)).heap.size (some ⟨n, 0, none⟩) [a, b, c, d] := RI.lit w [a, b, c, d] t hn
def simC (p q b y c z : Int) : Int := M.gpw p q b z * M.gpw p q y (-c) % p
def acc (p q b y a c z : Int) : Bool := M.gpw p q b z == a * M.gpw p q y c % p
set_option maxHeartbeats 400000 in
theorem hasEqual_any (p q g g1' y1 g2' y2 : Int) (hG : M.Grp p q g) (w : World) :
    Calls Try.prog 35 #[.agg #[.int .i64 p, .int .i64 q, .int .i64 g], .agg #[.int .i64 g1', .int .i64 y1, .int .i64 g2', .int .i64 y2]] w fun en w' => en = .returned (.bool (elemsB p q [g1', y1, g2', y2])) ∧ Below w.heap.size w w' := by
  have hB0 : Below ((w.alloc (.cells #[.int .i64 p, .int .i64 q, .int .i64 g] 28)).alloc (.cells #[.int .i64 g1', .int .i64 y1, .int .i64 g2', .int .i64 y2] 30)).heap.size ((w.alloc (.cells #[.int .i64 p, .int .i64 q, .int .i64 g] 28)).alloc (.cells #[.int .i64 g1', .int .i64 y1, .int .i64 g2', .int .i64 y2] 30)) ((w.alloc (.cells #[.int .i64 p, .int .i64 q, .int .i64 g] 28)).alloc (.cells #[.int .i64 g1', .int .i64 y1, .int .i64 g2', .int .i64 y2] 30)) := Below.refl _ _
  have hT0 : Below w.heap.size w ((w.alloc (.cells #[.int .i64 p, .int .i64 q, .int .i64 g] 28)).alloc (.cells #[.int .i64 g1', .int .i64 y1, .int .i64 g2', .int .i64 y2] 30)) := by repeat (first | exact Below.refl _ _ | refine bnew ?_ _)
  go_enter Try.func35, Try.ntmps35
  go_wp2_with fail
  refine (hasAll_any p q g hG _ _ [g1', y1, g2', y2] (by simp) _ (RI.lit4 _ _ _ _ _ _ (by simp))).mono ?_
  rintro e1 w1 ⟨rfl, hb1⟩
  have hB1 : Below ((w.alloc (.cells #[.int .i64 p, .int .i64 q, .int .i64 g] 28)).alloc (.cells #[.int .i64 g1', .int .i64 y1, .int .i64 g2', .int .i64 y2] 30)).heap.size ((w.alloc (.cells #[.int .i64 p, .int .i64 q, .int .i64 g] 28)).alloc (.cells #[.int .i64 g1', .int .i64 y1, .int .i64 g2', .int .i64 y2] 30)) w1 := bnext (by repeat (first | exact hB0 | refine bnew ?_ _ | refine Below.drew ?_ | refine Below.drewN ?_ _)) hb1
  have hT1 : Below w.heap.size w w1 := bnext (by repeat (first | exact hT0 | refine bnew ?_ _ | refine Below.drew ?_ | refine Below.drewN ?_ _)) hb1
  obtain ⟨hc1, hf1⟩ := bcell hB1
  go_wp2
  go_ret
  exact ⟨rfl, hT1⟩
set_option maxHeartbeats 400000 in
theorem sElements_any (p q g g1' y1 g2' y2 : Int) (hG : M.Grp p q g) (w : World) :
    Calls Try.prog 31 #[.agg #[.int .i64 p, .int .i64 q, .int .i64 g], .agg #[.int .i64 g1', .int .i64 y1, .int .i64 g2', .int .i64 y2]] w fun en w' => en = .returned (.bool (elemsB p q [g1', y1, g2', y2])) ∧ Below w.heap.size w w' := by
  have hB0 : Below ((w.alloc (.cells #[.int .i64 p, .int .i64 q, .int .i64 g] 28)).alloc (.cells #[.int .i64 g1', .int .i64 y1, .int .i64 g2', .int .i64 y2] 30)).heap.size ((w.alloc (.cells #[.int .i64 p, .int .i64 q, .int .i64 g] 28)).alloc (.cells #[.int .i64 g1', .int .i64 y1, .int .i64 g2', .int .i64 y2] 30)) ((w.alloc (.cells #[.int .i64 p, .int .i64 q, .int .i64 g] 28)).alloc (.cells #[.int .i64 g1', .int .i64 y1, .int .i64 g2', .int .i64 y2] 30)) := Below.refl _ _
  have hT0 : Below w.heap.size w ((w.alloc (.cells #[.int .i64 p, .int .i64 q, .int .i64 g] 28)).alloc (.cells #[.int .i64 g1', .int .i64 y1, .int .i64 g2', .int .i64 y2] 30)) := by repeat (first | exact Below.refl _ _ | refine bnew ?_ _)
  go_enter Try.func31, Try.ntmps31
  go_wp2_with fail
  refine (gIs_any p q g hG _ _ [g1', y1, g2', y2] (by simp) _ (RI.lit4 _ _ _ _ _ _ (by simp))).mono ?_
  rintro e1 w1 ⟨rfl, hb1⟩
  have hB1 : Below ((w.alloc (.cells #[.int .i64 p, .int .i64 q, .int .i64 g] 28)).alloc (.cells #[.int .i64 g1', .int .i64 y1, .int .i64 g2', .int .i64 y2] 30)).heap.size ((w.alloc (.cells #[.int .i64 p, .int .i64 q, .int .i64 g] 28)).alloc (.cells #[.int .i64 g1', .int .i64 y1, .int .i64 g2', .int .i64 y2] 30)) w1 := bnext (by repeat (first | exact hB0 | refine bnew ?_ _ | refine Below.drew ?_ | refine Below.drewN ?_ _)) hb1
  have hT1 : Below w.heap.size w w1 := bnext (by repeat (first | exact hT0 | refine bnew ?_ _ | refine Below.drew ?_ | refine Below.drewN ?_ _)) hb1
  obtain ⟨hc1, hf1⟩ := bcell hB1
  go_wp2
  go_ret
  exact ⟨rfl, hT1⟩
set_option maxHeartbeats 400000 in
theorem hasTranscript_any (p q g a c z : Int) (hG : M.Grp p q g) (w : World) :
    Calls Try.prog 43 #[.agg #[.int .i64 p, .int .i64 q, .int .i64 g], .agg #[.int .i64 a, .int .i64 c, .int .i64 z]] w fun en w' => en = .returned (.bool (elemB p q a && expsB q [c, z])) ∧ Below w.heap.size w w' := by
  have g1 := hG.q2
  have g2 := hG.qp
  have g4 := hG.pM
  have hB0 : Below ((w.alloc (.cells #[.int .i64 p, .int .i64 q, .int .i64 g] 28)).alloc (.cells #[.int .i64 a, .int .i64 c, .int .i64 z] 34)).heap.size ((w.alloc (.cells #[.int .i64 p, .int .i64 q, .int .i64 g] 28)).alloc (.cells #[.int .i64 a, .int .i64 c, .int .i64 z] 34)) ((w.alloc (.cells #[.int .i64 p, .int .i64 q, .int .i64 g] 28)).alloc (.cells #[.int .i64 a, .int .i64 c, .int .i64 z] 34)) := Below.refl _ _
  have hT0 : Below w.heap.size w ((w.alloc (.cells #[.int .i64 p, .int .i64 q, .int .i64 g] 28)).alloc (.cells #[.int .i64 a, .int .i64 c, .int .i64 z] 34)) := by repeat (first | exact Below.refl _ _ | refine bnew ?_ _)
  go_enter Try.func43, Try.ntmps43
  go_wp2_with fail
  refine (has_any _ _ _ _ hG _).mono ?_
  rintro e1 w1 ⟨rfl, hb1⟩
  have hB1 : Below ((w.alloc (.cells #[.int .i64 p, .int .i64 q, .int .i64 g] 28)).alloc (.cells #[.int .i64 a, .int .i64 c, .int .i64 z] 34)).heap.size ((w.alloc (.cells #[.int .i64 p, .int .i64 q, .int .i64 g] 28)).alloc (.cells #[.int .i64 a, .int .i64 c, .int .i64 z] 34)) w1 := bnext (by repeat (first | exact hB0 | refine bnew ?_ _ | refine Below.drew ?_ | refine Below.drewN ?_ _)) hb1
  have hT1 : Below w.heap.size w w1 := bnext (by repeat (first | exact hT0 | refine bnew ?_ _ | refine Below.drew ?_ | refine Below.drewN ?_ _)) hb1
  obtain ⟨hc1, hf1⟩ := bcell hB1
  rcases Bool.eq_false_or_eq_true (elemB p q a) with h | h
  rotate_left
  · go_wp2
    go_ret
    exact ⟨ret_bool (by rw [h]; rfl), hT1⟩
  go_wp2_with fail
  refine (areExps_any p q g _ _ [c, z] _ (by omega) (RI.lit2 _ _ _ _ (by simp)) (by simp)).mono ?_
  rintro e2 w2 ⟨rfl, hb2⟩
  have hB2 : Below ((w.alloc (.cells #[.int .i64 p, .int .i64 q, .int .i64 g] 28)).alloc (.cells #[.int .i64 a, .int .i64 c, .int .i64 z] 34)).heap.size ((w.alloc (.cells #[.int .i64 p, .int .i64 q, .int .i64 g] 28)).alloc (.cells #[.int .i64 a, .int .i64 c, .int .i64 z] 34)) w2 := bnext (by repeat (first | exact hB1 | refine bnew ?_ _ | refine Below.drew ?_ | refine Below.drewN ?_ _)) hb2
  have hT2 : Below w.heap.size w w2 := bnext (by repeat (first | exact hT1 | refine bnew ?_ _ | refine Below.drew ?_ | refine Below.drewN ?_ _)) hb2
  clear hc1 hf1
  obtain ⟨hc2, hf2⟩ := bcell hB2
  go_wp2
  go_ret
  exact ⟨ret_bool (by rw [h]; rfl), hT2⟩
set_option maxHeartbeats 400000 in
theorem xTranscript_any (p q g a c z : Int) (hG : M.Grp p q g) (w : World) :
    Calls Try.prog 41 #[.agg #[.int .i64 p, .int .i64 q, .int .i64 g], .agg #[.int .i64 a, .int .i64 c, .int .i64 z]] w fun en w' => en = .returned (.bool (elemB p q a && expsB q [c, z])) ∧ Below w.heap.size w w' := by
  have g1 := hG.q2
  have g2 := hG.qp
  have g4 := hG.pM
  have he1 : elemsB p q [a] = elemB p q a := by simp [elemsB]
  have HE1 := Lib.hid he1
  clear he1
  have hB0 : Below ((w.alloc (.cells #[.int .i64 p, .int .i64 q, .int .i64 g] 28)).alloc (.cells #[.int .i64 a, .int .i64 c, .int .i64 z] 34)).heap.size ((w.alloc (.cells #[.int .i64 p, .int .i64 q, .int .i64 g] 28)).alloc (.cells #[.int .i64 a, .int .i64 c, .int .i64 z] 34)) ((w.alloc (.cells #[.int .i64 p, .int .i64 q, .int .i64 g] 28)).alloc (.cells #[.int .i64 a, .int .i64 c, .int .i64 z] 34)) := Below.refl _ _
  have hT0 : Below w.heap.size w ((w.alloc (.cells #[.int .i64 p, .int .i64 q, .int .i64 g] 28)).alloc (.cells #[.int .i64 a, .int .i64 c, .int .i64 z] 34)) := by repeat (first | exact Below.refl _ _ | refine bnew ?_ _)
  go_enter Try.func41, Try.ntmps41
  go_wp2_with fail
  refine (gIs_any p q g hG _ _ [a] (by simp) _ (RI.lit _ [a] _ (by simp))).mono ?_
  rw [HE1.out]
  rintro e1 w1 ⟨rfl, hb1⟩
  have hB1 : Below ((w.alloc (.cells #[.int .i64 p, .int .i64 q, .int .i64 g] 28)).alloc (.cells #[.int .i64 a, .int .i64 c, .int .i64 z] 34)).heap.size ((w.alloc (.cells #[.int .i64 p, .int .i64 q, .int .i64 g] 28)).alloc (.cells #[.int .i64 a, .int .i64 c, .int .i64 z] 34)) w1 := bnext (by repeat (first | exact hB0 | refine bnew ?_ _ | refine Below.drew ?_ | refine Below.drewN ?_ _)) hb1
  have hT1 : Below w.heap.size w w1 := bnext (by repeat (first | exact hT0 | refine bnew ?_ _ | refine Below.drew ?_ | refine Below.drewN ?_ _)) hb1
  obtain ⟨hc1, hf1⟩ := bcell hB1
  rcases Bool.eq_false_or_eq_true (elemB p q a) with h | h
  rotate_left
  · go_wp2
    go_ret
    exact ⟨ret_bool (by rw [h]; rfl), hT1⟩
  go_wp2_with fail
  refine (gExps_any p q g _ _ [c, z] _ (by omega) (RI.lit2 _ _ _ _ (by simp)) (by simp)).mono ?_
  rintro e2 w2 ⟨rfl, hb2⟩
  have hB2 : Below ((w.alloc (.cells #[.int .i64 p, .int .i64 q, .int .i64 g] 28)).alloc (.cells #[.int .i64 a, .int .i64 c, .int .i64 z] 34)).heap.size ((w.alloc (.cells #[.int .i64 p, .int .i64 q, .int .i64 g] 28)).alloc (.cells #[.int .i64 a, .int .i64 c, .int .i64 z] 34)) w2 := bnext (by repeat (first | exact hB1 | refine bnew ?_ _ | refine Below.drew ?_ | refine Below.drewN ?_ _)) hb2
  have hT2 : Below w.heap.size w w2 := bnext (by repeat (first | exact hT1 | refine bnew ?_ _ | refine Below.drew ?_ | refine Below.drewN ?_ _)) hb2
  clear hc1 hf1
  obtain ⟨hc2, hf2⟩ := bcell hB2
  go_wp2
  go_ret
  exact ⟨ret_bool (by rw [h]; rfl), hT2⟩
set_option maxHeartbeats 800000 in
theorem accepts_any (p q g b y a c z : Int) (hG : M.Grp p q g) (hb : 0 ≤ b ∧ b < p) (hy : 0 ≤ y ∧ y < p) (ha : 0 ≤ a ∧ a < p) (hc : -9000000000000000000 ≤ c ∧ c ≤ 9000000000000000000) (hz : -9000000000000000000 ≤ z ∧ z ≤ 9000000000000000000) (w : World) :
    Calls Try.prog 44 #[.agg #[.int .i64 p, .int .i64 q, .int .i64 g], .int .i64 b, .int .i64 y, .agg #[.int .i64 a, .int .i64 c, .int .i64 z]] w fun en w' => en = .returned (.bool (acc p q b y a c z)) ∧ Below w.heap.size w w' := by
  have g1 := hG.q2
  have g2 := hG.qp
  have g3 := hG.p3
  have g4 := hG.pM
  have HG := Lib.hid hG
  clear hG
  have hB0 : Below ((w.alloc (.cells #[.int .i64 p, .int .i64 q, .int .i64 g] 28)).alloc (.cells #[.int .i64 a, .int .i64 c, .int .i64 z] 34)).heap.size ((w.alloc (.cells #[.int .i64 p, .int .i64 q, .int .i64 g] 28)).alloc (.cells #[.int .i64 a, .int .i64 c, .int .i64 z] 34)) ((w.alloc (.cells #[.int .i64 p, .int .i64 q, .int .i64 g] 28)).alloc (.cells #[.int .i64 a, .int .i64 c, .int .i64 z] 34)) := Below.refl _ _
  have hT0 : Below w.heap.size w ((w.alloc (.cells #[.int .i64 p, .int .i64 q, .int .i64 g] 28)).alloc (.cells #[.int .i64 a, .int .i64 c, .int .i64 z] 34)) := by repeat (first | exact Below.refl _ _ | refine bnew ?_ _)
  go_enter Try.func44, Try.ntmps44
  go_wp2_with fail
  go_region_held3 (fun W' => W'.cell? ⟨w.heap.size, 0, none⟩ = some (.int .i64 p) ∧ W'.cell? ⟨w.heap.size, 1, none⟩ = some (.int .i64 q) ∧ W'.cell? ⟨w.heap.size, 2, none⟩ = some (.int .i64 g) ∧ W'.cell? ⟨w.heap.size + 1, 0, none⟩ = some (.int .i64 a) ∧ W'.cell? ⟨w.heap.size + 1, 1, none⟩ = some (.int .i64 c) ∧ W'.cell? ⟨w.heap.size + 1, 2, none⟩ = some (.int .i64 z) ∧ Below w.heap.size w W') ((go_split_ands; refine ⟨?_, ?_, ?_, ?_, ?_, ?_, ?_⟩; (first | with_reducible exact cell_keep (by with_reducible assumption) (by with_reducible assumption) | with_reducible exact cell_keep (below_new _ _) (by with_reducible assumption) | (with_reducible refine cell_set _ ?_ (by simp); (repeat with_reducible refine cell_set _ ?_ (by simp)); with_reducible assumption) | go_keep); (first | with_reducible exact cell_keep (by with_reducible assumption) (by with_reducible assumption) | with_reducible exact cell_keep (below_new _ _) (by with_reducible assumption) | (with_reducible refine cell_set _ ?_ (by simp); (repeat with_reducible refine cell_set _ ?_ (by simp)); with_reducible assumption) | go_keep); (first | with_reducible exact cell_keep (by with_reducible assumption) (by with_reducible assumption) | with_reducible exact cell_keep (below_new _ _) (by with_reducible assumption) | (with_reducible refine cell_set _ ?_ (by simp); (repeat with_reducible refine cell_set _ ?_ (by simp)); with_reducible assumption) | go_keep); (first | with_reducible exact cell_keep (by with_reducible assumption) (by with_reducible assumption) | with_reducible exact cell_keep (below_new _ _) (by with_reducible assumption) | (with_reducible refine cell_set _ ?_ (by simp); (repeat with_reducible refine cell_set _ ?_ (by simp)); with_reducible assumption) | go_keep); (first | with_reducible exact cell_keep (by with_reducible assumption) (by with_reducible assumption) | with_reducible exact cell_keep (below_new _ _) (by with_reducible assumption) | (with_reducible refine cell_set _ ?_ (by simp); (repeat with_reducible refine cell_set _ ?_ (by simp)); with_reducible assumption) | go_keep); (first | with_reducible exact cell_keep (by with_reducible assumption) (by with_reducible assumption) | with_reducible exact cell_keep (below_new _ _) (by with_reducible assumption) | (with_reducible refine cell_set _ ?_ (by simp); (repeat with_reducible refine cell_set _ ?_ (by simp)); with_reducible assumption) | go_keep); (repeat (first | with_reducible assumption | with_reducible refine bnext ?_ (by with_reducible assumption) | with_reducible refine bnew ?_ _ | with_reducible refine below_set _ ?_ (by simp) | with_reducible refine Below.drew ?_ | with_reducible refine Below.drewN ?_ _)); done)) (first | (go_at_call 63; refine (pow_any _ _ _ _ _ HG.out (by assumption) (by omega) _).mono ?_; rintro e9 w9 ⟨rfl, hb9⟩) | (go_at_call 62; refine (mul2_any _ _ _ _ _ HG.out (by first | assumption | exact M.gpw_lt g3) (by first | assumption | exact M.gpw_lt g3) _ _ _ (RI.lit2 _ _ _ _ (by simp))).mono ?_; rintro e9 w9 ⟨rfl, hb9⟩))
  go_wp2
  go_ret
  exact ⟨rfl, (by first | exact (by assumption : _ ∧ _ ∧ _ ∧ _ ∧ _ ∧ _ ∧  _).2.2.2.2.2.2 | assumption)⟩
set_option maxHeartbeats 800000 in
theorem xAccepts_any (p q g b y a c z : Int) (hG : M.Grp p q g) (hb : 0 ≤ b ∧ b < p) (hy : 0 ≤ y ∧ y < p) (ha : 0 ≤ a ∧ a < p) (hc : -9000000000000000000 ≤ c ∧ c ≤ 9000000000000000000) (hz : -9000000000000000000 ≤ z ∧ z ≤ 9000000000000000000) (w : World) :
    Calls Try.prog 42 #[.agg #[.int .i64 p, .int .i64 q, .int .i64 g], .int .i64 b, .int .i64 y, .agg #[.int .i64 a, .int .i64 c, .int .i64 z]] w fun en w' => en = .returned (.bool (acc p q b y a c z)) ∧ Below w.heap.size w w' := by
  have g1 := hG.q2
  have g2 := hG.qp
  have g3 := hG.p3
  have g4 := hG.pM
  have HG := Lib.hid hG
  clear hG
  have hB0 : Below ((w.alloc (.cells #[.int .i64 p, .int .i64 q, .int .i64 g] 28)).alloc (.cells #[.int .i64 a, .int .i64 c, .int .i64 z] 34)).heap.size ((w.alloc (.cells #[.int .i64 p, .int .i64 q, .int .i64 g] 28)).alloc (.cells #[.int .i64 a, .int .i64 c, .int .i64 z] 34)) ((w.alloc (.cells #[.int .i64 p, .int .i64 q, .int .i64 g] 28)).alloc (.cells #[.int .i64 a, .int .i64 c, .int .i64 z] 34)) := Below.refl _ _
  have hT0 : Below w.heap.size w ((w.alloc (.cells #[.int .i64 p, .int .i64 q, .int .i64 g] 28)).alloc (.cells #[.int .i64 a, .int .i64 c, .int .i64 z] 34)) := by repeat (first | exact Below.refl _ _ | refine bnew ?_ _)
  go_enter Try.func42, Try.ntmps42
  go_wp2_with fail
  go_region_held3 (fun W' => W'.cell? ⟨w.heap.size, 0, none⟩ = some (.int .i64 p) ∧ W'.cell? ⟨w.heap.size, 1, none⟩ = some (.int .i64 q) ∧ W'.cell? ⟨w.heap.size, 2, none⟩ = some (.int .i64 g) ∧ W'.cell? ⟨w.heap.size + 1, 0, none⟩ = some (.int .i64 a) ∧ W'.cell? ⟨w.heap.size + 1, 1, none⟩ = some (.int .i64 c) ∧ W'.cell? ⟨w.heap.size + 1, 2, none⟩ = some (.int .i64 z) ∧ Below w.heap.size w W') ((go_split_ands; refine ⟨?_, ?_, ?_, ?_, ?_, ?_, ?_⟩; (first | with_reducible exact cell_keep (by with_reducible assumption) (by with_reducible assumption) | with_reducible exact cell_keep (below_new _ _) (by with_reducible assumption) | (with_reducible refine cell_set _ ?_ (by simp); (repeat with_reducible refine cell_set _ ?_ (by simp)); with_reducible assumption) | go_keep); (first | with_reducible exact cell_keep (by with_reducible assumption) (by with_reducible assumption) | with_reducible exact cell_keep (below_new _ _) (by with_reducible assumption) | (with_reducible refine cell_set _ ?_ (by simp); (repeat with_reducible refine cell_set _ ?_ (by simp)); with_reducible assumption) | go_keep); (first | with_reducible exact cell_keep (by with_reducible assumption) (by with_reducible assumption) | with_reducible exact cell_keep (below_new _ _) (by with_reducible assumption) | (with_reducible refine cell_set _ ?_ (by simp); (repeat with_reducible refine cell_set _ ?_ (by simp)); with_reducible assumption) | go_keep); (first | with_reducible exact cell_keep (by with_reducible assumption) (by with_reducible assumption) | with_reducible exact cell_keep (below_new _ _) (by with_reducible assumption) | (with_reducible refine cell_set _ ?_ (by simp); (repeat with_reducible refine cell_set _ ?_ (by simp)); with_reducible assumption) | go_keep); (first | with_reducible exact cell_keep (by with_reducible assumption) (by with_reducible assumption) | with_reducible exact cell_keep (below_new _ _) (by with_reducible assumption) | (with_reducible refine cell_set _ ?_ (by simp); (repeat with_reducible refine cell_set _ ?_ (by simp)); with_reducible assumption) | go_keep); (first | with_reducible exact cell_keep (by with_reducible assumption) (by with_reducible assumption) | with_reducible exact cell_keep (below_new _ _) (by with_reducible assumption) | (with_reducible refine cell_set _ ?_ (by simp); (repeat with_reducible refine cell_set _ ?_ (by simp)); with_reducible assumption) | go_keep); (repeat (first | with_reducible assumption | with_reducible refine bnext ?_ (by with_reducible assumption) | with_reducible refine bnew ?_ _ | with_reducible refine below_set _ ?_ (by simp) | with_reducible refine Below.drew ?_ | with_reducible refine Below.drewN ?_ _)); done)) (first | (go_at_call 45; refine (gExp_any _ _ _ _ _ HG.out (by assumption) (by omega) _).mono ?_; rintro e9 w9 ⟨rfl, hb9⟩) | (go_at_call 46; refine (gMul2_any _ _ _ _ _ HG.out (by first | assumption | exact M.gpw_lt g3) (by first | assumption | exact M.gpw_lt g3) _ _ _ (RI.lit2 _ _ _ _ (by simp))).mono ?_; rintro e9 w9 ⟨rfl, hb9⟩))
  go_wp2
  go_ret
  exact ⟨rfl, (by first | exact (by assumption : _ ∧ _ ∧ _ ∧ _ ∧ _ ∧ _ ∧  _).2.2.2.2.2.2 | assumption)⟩
set_option maxHeartbeats 800000 in
theorem simulate_any (p q g b y c z : Int) (hG : M.Grp p q g) (hb : 0 ≤ b ∧ b < p) (hy : 0 ≤ y ∧ y < p) (hc : -9000000000000000000 ≤ c ∧ c ≤ 9000000000000000000) (hz : -9000000000000000000 ≤ z ∧ z ≤ 9000000000000000000) (w : World) :
    Calls Try.prog 40 #[.agg #[.int .i64 p, .int .i64 q, .int .i64 g], .int .i64 b, .int .i64 y, .int .i64 c, .int .i64 z] w fun en w' => en = .returned (.agg #[.int .i64 (simC p q b y c z), .int .i64 c, .int .i64 z]) ∧ Below w.heap.size w w' := by
  have g1 := hG.q2
  have g2 := hG.qp
  have g3 := hG.p3
  have g4 := hG.pM
  have HG := Lib.hid hG
  clear hG
  have hw : IntKind.i64.wrap (-c) = -c := IntWalk.i64_in _ (by omega)
  have hB0 : Below ((w.alloc (.cells #[.int .i64 p, .int .i64 q, .int .i64 g] 28)).alloc (.cells #[.int .i64 0, .int .i64 0, .int .i64 0] 34)).heap.size ((w.alloc (.cells #[.int .i64 p, .int .i64 q, .int .i64 g] 28)).alloc (.cells #[.int .i64 0, .int .i64 0, .int .i64 0] 34)) ((w.alloc (.cells #[.int .i64 p, .int .i64 q, .int .i64 g] 28)).alloc (.cells #[.int .i64 0, .int .i64 0, .int .i64 0] 34)) := Below.refl _ _
  have hT0 : Below w.heap.size w ((w.alloc (.cells #[.int .i64 p, .int .i64 q, .int .i64 g] 28)).alloc (.cells #[.int .i64 0, .int .i64 0, .int .i64 0] 34)) := by repeat (first | exact Below.refl _ _ | refine bnew ?_ _)
  go_enter Try.func40, Try.ntmps40
  have hz0 : ((w.alloc (.cells #[.int .i64 p, .int .i64 q, .int .i64 g] 28)).alloc (.cells #[.int .i64 0, .int .i64 0, .int .i64 0] 34)).cell? ⟨w.heap.size + 1, 0, none⟩ = some _ := cell_new' (by simp) _ _ 0 rfl
  have hz1 : ((w.alloc (.cells #[.int .i64 p, .int .i64 q, .int .i64 g] 28)).alloc (.cells #[.int .i64 0, .int .i64 0, .int .i64 0] 34)).cell? ⟨w.heap.size + 1, 1, none⟩ = some _ := cell_new' (by simp) _ _ 1 rfl
  have hz2 : ((w.alloc (.cells #[.int .i64 p, .int .i64 q, .int .i64 g] 28)).alloc (.cells #[.int .i64 0, .int .i64 0, .int .i64 0] 34)).cell? ⟨w.heap.size + 1, 2, none⟩ = some _ := cell_new' (by simp) _ _ 2 rfl
  go_wp2_with fail
  go_region_held3 (fun W' => W'.cell? ⟨w.heap.size, 0, none⟩ = some (.int .i64 p) ∧ W'.cell? ⟨w.heap.size, 1, none⟩ = some (.int .i64 q) ∧ W'.cell? ⟨w.heap.size, 2, none⟩ = some (.int .i64 g) ∧ W'.cell? ⟨w.heap.size + 1, 0, none⟩ = some (getC W' (w.heap.size + 1) 0) ∧ W'.cell? ⟨w.heap.size + 1, 1, none⟩ = some (getC W' (w.heap.size + 1) 1) ∧ W'.cell? ⟨w.heap.size + 1, 2, none⟩ = some (getC W' (w.heap.size + 1) 2) ∧ W'.frozen? ⟨w.heap.size + 1, 0, none⟩ = false ∧ W'.frozen? ⟨w.heap.size + 1, 1, none⟩ = false ∧ W'.frozen? ⟨w.heap.size + 1, 2, none⟩ = false ∧ Below w.heap.size w W') ((go_split_ands; refine ⟨?_, ?_, ?_, ?_, ?_, ?_, ?_, ?_, ?_, ?_⟩; (first | with_reducible exact cell_keep (by with_reducible assumption) (by with_reducible assumption) | with_reducible exact cell_keep (below_new _ _) (by with_reducible assumption) | (with_reducible refine cell_set _ ?_ (by simp); (repeat with_reducible refine cell_set _ ?_ (by simp)); with_reducible assumption) | go_keep); (first | with_reducible exact cell_keep (by with_reducible assumption) (by with_reducible assumption) | with_reducible exact cell_keep (below_new _ _) (by with_reducible assumption) | (with_reducible refine cell_set _ ?_ (by simp); (repeat with_reducible refine cell_set _ ?_ (by simp)); with_reducible assumption) | go_keep); (first | with_reducible exact cell_keep (by with_reducible assumption) (by with_reducible assumption) | with_reducible exact cell_keep (below_new _ _) (by with_reducible assumption) | (with_reducible refine cell_set _ ?_ (by simp); (repeat with_reducible refine cell_set _ ?_ (by simp)); with_reducible assumption) | go_keep); (first | with_reducible exact hasC_below (by with_reducible assumption) (by with_reducible assumption) | with_reducible exact hasC_below (below_new _ _) (by with_reducible assumption) | with_reducible exact hasC_drew (by with_reducible assumption) | (with_reducible refine hasC_set _ _ ?_; (repeat with_reducible refine hasC_set _ _ ?_); with_reducible assumption)); (first | with_reducible exact hasC_below (by with_reducible assumption) (by with_reducible assumption) | with_reducible exact hasC_below (below_new _ _) (by with_reducible assumption) | with_reducible exact hasC_drew (by with_reducible assumption) | (with_reducible refine hasC_set _ _ ?_; (repeat with_reducible refine hasC_set _ _ ?_); with_reducible assumption)); (first | with_reducible exact hasC_below (by with_reducible assumption) (by with_reducible assumption) | with_reducible exact hasC_below (below_new _ _) (by with_reducible assumption) | with_reducible exact hasC_drew (by with_reducible assumption) | (with_reducible refine hasC_set _ _ ?_; (repeat with_reducible refine hasC_set _ _ ?_); with_reducible assumption)); (first | with_reducible exact frozen_keep (by with_reducible assumption) (by with_reducible assumption) (by with_reducible assumption) | with_reducible exact frozen_keep (below_new _ _) (by with_reducible assumption) (by with_reducible assumption) | (with_reducible refine frozen_set _ ?_; (repeat with_reducible refine frozen_set _ ?_); with_reducible assumption) | go_keep); (first | with_reducible exact frozen_keep (by with_reducible assumption) (by with_reducible assumption) (by with_reducible assumption) | with_reducible exact frozen_keep (below_new _ _) (by with_reducible assumption) (by with_reducible assumption) | (with_reducible refine frozen_set _ ?_; (repeat with_reducible refine frozen_set _ ?_); with_reducible assumption) | go_keep); (first | with_reducible exact frozen_keep (by with_reducible assumption) (by with_reducible assumption) (by with_reducible assumption) | with_reducible exact frozen_keep (below_new _ _) (by with_reducible assumption) (by with_reducible assumption) | (with_reducible refine frozen_set _ ?_; (repeat with_reducible refine frozen_set _ ?_); with_reducible assumption) | go_keep); (repeat (first | with_reducible assumption | with_reducible refine bnext ?_ (by with_reducible assumption) | with_reducible refine bnew ?_ _ | with_reducible refine below_set _ ?_ (by simp) | with_reducible refine Below.drew ?_ | with_reducible refine Below.drewN ?_ _)); done)) (first | (go_at_call 63; refine (pow_any _ _ _ _ _ HG.out (by assumption) (by omega) _).mono ?_; rintro e9 w9 ⟨rfl, hb9⟩) | (go_at_call 62; refine (mul2_any _ _ _ _ _ HG.out (by first | assumption | exact M.gpw_lt g3) (by first | assumption | exact M.gpw_lt g3) _ _ _ (RI.lit2 _ _ _ _ (by simp))).mono ?_; rintro e9 w9 ⟨rfl, hb9⟩))
  go_wp2
  obtain ⟨_, _, _, s0, s1, s2, _, _, _, s9⟩ := (by assumption : _ ∧ _ ∧ _ ∧ _ ∧ _ ∧ _ ∧ _ ∧ _ ∧ _ ∧ Below w.heap.size w _)
  obtain ⟨r0, r1, r2⟩ := set3 s0 s1 s2
  exact bodyPost_ret (v := .agg #[.int .i64 (simC p q b y c z), .int .i64 c, .int .i64 z]) (by simp [results, Try.results40, go_sem, r0, r1, r2, simC]) rfl ⟨rfl, s9⟩
set_option maxHeartbeats 800000 in
theorem xSimulate_any (p q g b y c z : Int) (hG : M.Grp p q g) (hb : 0 ≤ b ∧ b < p) (hy : 0 ≤ y ∧ y < p) (hc : -9000000000000000000 ≤ c ∧ c ≤ 9000000000000000000) (hz : -9000000000000000000 ≤ z ∧ z ≤ 9000000000000000000) (w : World) :
    Calls Try.prog 33 #[.agg #[.int .i64 p, .int .i64 q, .int .i64 g], .int .i64 b, .int .i64 y, .int .i64 c, .int .i64 z] w fun en w' => en = .returned (.agg #[.int .i64 (simC p q b y c z), .int .i64 c, .int .i64 z]) ∧ Below w.heap.size w w' := by
  have g1 := hG.q2
  have g2 := hG.qp
  have g3 := hG.p3
  have g4 := hG.pM
  have HG := Lib.hid hG
  clear hG
  have hw : IntKind.i64.wrap (-c) = -c := IntWalk.i64_in _ (by omega)
  have hB0 : Below ((w.alloc (.cells #[.int .i64 p, .int .i64 q, .int .i64 g] 28)).alloc (.cells #[.int .i64 0, .int .i64 0, .int .i64 0] 34)).heap.size ((w.alloc (.cells #[.int .i64 p, .int .i64 q, .int .i64 g] 28)).alloc (.cells #[.int .i64 0, .int .i64 0, .int .i64 0] 34)) ((w.alloc (.cells #[.int .i64 p, .int .i64 q, .int .i64 g] 28)).alloc (.cells #[.int .i64 0, .int .i64 0, .int .i64 0] 34)) := Below.refl _ _
  have hT0 : Below w.heap.size w ((w.alloc (.cells #[.int .i64 p, .int .i64 q, .int .i64 g] 28)).alloc (.cells #[.int .i64 0, .int .i64 0, .int .i64 0] 34)) := by repeat (first | exact Below.refl _ _ | refine bnew ?_ _)
  go_enter Try.func33, Try.ntmps33
  have hz0 : ((w.alloc (.cells #[.int .i64 p, .int .i64 q, .int .i64 g] 28)).alloc (.cells #[.int .i64 0, .int .i64 0, .int .i64 0] 34)).cell? ⟨w.heap.size + 1, 0, none⟩ = some _ := cell_new' (by simp) _ _ 0 rfl
  have hz1 : ((w.alloc (.cells #[.int .i64 p, .int .i64 q, .int .i64 g] 28)).alloc (.cells #[.int .i64 0, .int .i64 0, .int .i64 0] 34)).cell? ⟨w.heap.size + 1, 1, none⟩ = some _ := cell_new' (by simp) _ _ 1 rfl
  have hz2 : ((w.alloc (.cells #[.int .i64 p, .int .i64 q, .int .i64 g] 28)).alloc (.cells #[.int .i64 0, .int .i64 0, .int .i64 0] 34)).cell? ⟨w.heap.size + 1, 2, none⟩ = some _ := cell_new' (by simp) _ _ 2 rfl
  go_wp2_with fail
  go_region_held3 (fun W' => W'.cell? ⟨w.heap.size, 0, none⟩ = some (.int .i64 p) ∧ W'.cell? ⟨w.heap.size, 1, none⟩ = some (.int .i64 q) ∧ W'.cell? ⟨w.heap.size, 2, none⟩ = some (.int .i64 g) ∧ W'.cell? ⟨w.heap.size + 1, 0, none⟩ = some (getC W' (w.heap.size + 1) 0) ∧ W'.cell? ⟨w.heap.size + 1, 1, none⟩ = some (getC W' (w.heap.size + 1) 1) ∧ W'.cell? ⟨w.heap.size + 1, 2, none⟩ = some (getC W' (w.heap.size + 1) 2) ∧ W'.frozen? ⟨w.heap.size + 1, 0, none⟩ = false ∧ W'.frozen? ⟨w.heap.size + 1, 1, none⟩ = false ∧ W'.frozen? ⟨w.heap.size + 1, 2, none⟩ = false ∧ Below w.heap.size w W') ((go_split_ands; refine ⟨?_, ?_, ?_, ?_, ?_, ?_, ?_, ?_, ?_, ?_⟩; (first | with_reducible exact cell_keep (by with_reducible assumption) (by with_reducible assumption) | with_reducible exact cell_keep (below_new _ _) (by with_reducible assumption) | (with_reducible refine cell_set _ ?_ (by simp); (repeat with_reducible refine cell_set _ ?_ (by simp)); with_reducible assumption) | go_keep); (first | with_reducible exact cell_keep (by with_reducible assumption) (by with_reducible assumption) | with_reducible exact cell_keep (below_new _ _) (by with_reducible assumption) | (with_reducible refine cell_set _ ?_ (by simp); (repeat with_reducible refine cell_set _ ?_ (by simp)); with_reducible assumption) | go_keep); (first | with_reducible exact cell_keep (by with_reducible assumption) (by with_reducible assumption) | with_reducible exact cell_keep (below_new _ _) (by with_reducible assumption) | (with_reducible refine cell_set _ ?_ (by simp); (repeat with_reducible refine cell_set _ ?_ (by simp)); with_reducible assumption) | go_keep); (first | with_reducible exact hasC_below (by with_reducible assumption) (by with_reducible assumption) | with_reducible exact hasC_below (below_new _ _) (by with_reducible assumption) | with_reducible exact hasC_drew (by with_reducible assumption) | (with_reducible refine hasC_set _ _ ?_; (repeat with_reducible refine hasC_set _ _ ?_); with_reducible assumption)); (first | with_reducible exact hasC_below (by with_reducible assumption) (by with_reducible assumption) | with_reducible exact hasC_below (below_new _ _) (by with_reducible assumption) | with_reducible exact hasC_drew (by with_reducible assumption) | (with_reducible refine hasC_set _ _ ?_; (repeat with_reducible refine hasC_set _ _ ?_); with_reducible assumption)); (first | with_reducible exact hasC_below (by with_reducible assumption) (by with_reducible assumption) | with_reducible exact hasC_below (below_new _ _) (by with_reducible assumption) | with_reducible exact hasC_drew (by with_reducible assumption) | (with_reducible refine hasC_set _ _ ?_; (repeat with_reducible refine hasC_set _ _ ?_); with_reducible assumption)); (first | with_reducible exact frozen_keep (by with_reducible assumption) (by with_reducible assumption) (by with_reducible assumption) | with_reducible exact frozen_keep (below_new _ _) (by with_reducible assumption) (by with_reducible assumption) | (with_reducible refine frozen_set _ ?_; (repeat with_reducible refine frozen_set _ ?_); with_reducible assumption) | go_keep); (first | with_reducible exact frozen_keep (by with_reducible assumption) (by with_reducible assumption) (by with_reducible assumption) | with_reducible exact frozen_keep (below_new _ _) (by with_reducible assumption) (by with_reducible assumption) | (with_reducible refine frozen_set _ ?_; (repeat with_reducible refine frozen_set _ ?_); with_reducible assumption) | go_keep); (first | with_reducible exact frozen_keep (by with_reducible assumption) (by with_reducible assumption) (by with_reducible assumption) | with_reducible exact frozen_keep (below_new _ _) (by with_reducible assumption) (by with_reducible assumption) | (with_reducible refine frozen_set _ ?_; (repeat with_reducible refine frozen_set _ ?_); with_reducible assumption) | go_keep); (repeat (first | with_reducible assumption | with_reducible refine bnext ?_ (by with_reducible assumption) | with_reducible refine bnew ?_ _ | with_reducible refine below_set _ ?_ (by simp) | with_reducible refine Below.drew ?_ | with_reducible refine Below.drewN ?_ _)); done)) (first | (go_at_call 45; refine (gExp_any _ _ _ _ _ HG.out (by assumption) (by omega) _).mono ?_; rintro e9 w9 ⟨rfl, hb9⟩) | (go_at_call 46; refine (gMul2_any _ _ _ _ _ HG.out (by first | assumption | exact M.gpw_lt g3) (by first | assumption | exact M.gpw_lt g3) _ _ _ (RI.lit2 _ _ _ _ (by simp))).mono ?_; rintro e9 w9 ⟨rfl, hb9⟩))
  go_wp2
  obtain ⟨_, _, _, s0, s1, s2, _, _, _, s9⟩ := (by assumption : _ ∧ _ ∧ _ ∧ _ ∧ _ ∧ _ ∧ _ ∧ _ ∧ _ ∧ Below w.heap.size w _)
  obtain ⟨r0, r1, r2⟩ := set3 s0 s1 s2
  exact bodyPost_ret (v := .agg #[.int .i64 (simC p q b y c z), .int .i64 c, .int .i64 z]) (by simp [results, Try.results33, go_sem, r0, r1, r2, simC]) rfl ⟨rfl, s9⟩
set_option maxHeartbeats 1600000 in
theorem simulated_any (p q g g1' y1 g2' y2 c z : Int) (hG : M.Grp p q g) (he1 : 0 ≤ g1' ∧ g1' < p) (he2 : 0 ≤ y1 ∧ y1 < p) (he3 : 0 ≤ g2' ∧ g2' < p) (he4 : 0 ≤ y2 ∧ y2 < p) (hc : -9000000000000000000 ≤ c ∧ c ≤ 9000000000000000000) (hz : -9000000000000000000 ≤ z ∧ z ≤ 9000000000000000000) (w : World) :
    Calls Try.prog 37 #[.agg #[.int .i64 p, .int .i64 q, .int .i64 g], .agg #[.int .i64 g1', .int .i64 y1, .int .i64 g2', .int .i64 y2], .int .i64 c, .int .i64 z] w fun en w' => en = .returned (.tuple #[.int .i64 (simC p q g1' y1 c z), .int .i64 (simC p q g2' y2 c z)]) ∧ Below w.heap.size w w' := by
  have g1 := hG.q2
  have g2 := hG.qp
  have g3 := hG.p3
  have g4 := hG.pM
  have HG := Lib.hid hG
  clear hG
  have hw : IntKind.i64.wrap (-c) = -c := IntWalk.i64_in _ (by omega)
  have hB0 : Below ((w.alloc (.cells #[.int .i64 p, .int .i64 q, .int .i64 g] 28)).alloc (.cells #[.int .i64 g1', .int .i64 y1, .int .i64 g2', .int .i64 y2] 30)).heap.size ((w.alloc (.cells #[.int .i64 p, .int .i64 q, .int .i64 g] 28)).alloc (.cells #[.int .i64 g1', .int .i64 y1, .int .i64 g2', .int .i64 y2] 30)) ((w.alloc (.cells #[.int .i64 p, .int .i64 q, .int .i64 g] 28)).alloc (.cells #[.int .i64 g1', .int .i64 y1, .int .i64 g2', .int .i64 y2] 30)) := Below.refl _ _
  have hT0 : Below w.heap.size w ((w.alloc (.cells #[.int .i64 p, .int .i64 q, .int .i64 g] 28)).alloc (.cells #[.int .i64 g1', .int .i64 y1, .int .i64 g2', .int .i64 y2] 30)) := by repeat (first | exact Below.refl _ _ | refine bnew ?_ _)
  go_enter Try.func37, Try.ntmps37
  go_wp2_with fail
  go_region_held3 (fun W' => W'.cell? ⟨w.heap.size, 0, none⟩ = some (.int .i64 p) ∧ W'.cell? ⟨w.heap.size, 1, none⟩ = some (.int .i64 q) ∧ W'.cell? ⟨w.heap.size, 2, none⟩ = some (.int .i64 g) ∧ W'.cell? ⟨w.heap.size + 1, 0, none⟩ = some (.int .i64 g1') ∧ W'.cell? ⟨w.heap.size + 1, 1, none⟩ = some (.int .i64 y1) ∧ W'.cell? ⟨w.heap.size + 1, 2, none⟩ = some (.int .i64 g2') ∧ W'.cell? ⟨w.heap.size + 1, 3, none⟩ = some (.int .i64 y2) ∧ Below w.heap.size w W') ((go_split_ands; refine ⟨?_, ?_, ?_, ?_, ?_, ?_, ?_, ?_⟩; (first | with_reducible exact cell_keep (by with_reducible assumption) (by with_reducible assumption) | with_reducible exact cell_keep (below_new _ _) (by with_reducible assumption) | (with_reducible refine cell_set _ ?_ (by simp); (repeat with_reducible refine cell_set _ ?_ (by simp)); with_reducible assumption) | go_keep); (first | with_reducible exact cell_keep (by with_reducible assumption) (by with_reducible assumption) | with_reducible exact cell_keep (below_new _ _) (by with_reducible assumption) | (with_reducible refine cell_set _ ?_ (by simp); (repeat with_reducible refine cell_set _ ?_ (by simp)); with_reducible assumption) | go_keep); (first | with_reducible exact cell_keep (by with_reducible assumption) (by with_reducible assumption) | with_reducible exact cell_keep (below_new _ _) (by with_reducible assumption) | (with_reducible refine cell_set _ ?_ (by simp); (repeat with_reducible refine cell_set _ ?_ (by simp)); with_reducible assumption) | go_keep); (first | with_reducible exact cell_keep (by with_reducible assumption) (by with_reducible assumption) | with_reducible exact cell_keep (below_new _ _) (by with_reducible assumption) | (with_reducible refine cell_set _ ?_ (by simp); (repeat with_reducible refine cell_set _ ?_ (by simp)); with_reducible assumption) | go_keep); (first | with_reducible exact cell_keep (by with_reducible assumption) (by with_reducible assumption) | with_reducible exact cell_keep (below_new _ _) (by with_reducible assumption) | (with_reducible refine cell_set _ ?_ (by simp); (repeat with_reducible refine cell_set _ ?_ (by simp)); with_reducible assumption) | go_keep); (first | with_reducible exact cell_keep (by with_reducible assumption) (by with_reducible assumption) | with_reducible exact cell_keep (below_new _ _) (by with_reducible assumption) | (with_reducible refine cell_set _ ?_ (by simp); (repeat with_reducible refine cell_set _ ?_ (by simp)); with_reducible assumption) | go_keep); (first | with_reducible exact cell_keep (by with_reducible assumption) (by with_reducible assumption) | with_reducible exact cell_keep (below_new _ _) (by with_reducible assumption) | (with_reducible refine cell_set _ ?_ (by simp); (repeat with_reducible refine cell_set _ ?_ (by simp)); with_reducible assumption) | go_keep); (repeat (first | with_reducible assumption | with_reducible refine bnext ?_ (by with_reducible assumption) | with_reducible refine bnew ?_ _ | with_reducible refine below_set _ ?_ (by simp) | with_reducible refine Below.drew ?_ | with_reducible refine Below.drewN ?_ _)); done)) (first | (go_at_call 63; refine (pow_any _ _ _ _ _ HG.out (by assumption) (by omega) _).mono ?_; rintro e9 w9 ⟨rfl, hb9⟩) | (go_at_call 62; refine (mul2_any _ _ _ _ _ HG.out (by first | assumption | exact M.gpw_lt g3) (by first | assumption | exact M.gpw_lt g3) _ _ _ (RI.lit2 _ _ _ _ (by simp))).mono ?_; rintro e9 w9 ⟨rfl, hb9⟩))
  go_wp2
  go_ret2
  exact ⟨rfl, (by first | exact (by assumption : _ ∧ _ ∧ _ ∧ _ ∧ _ ∧ _ ∧ _ ∧  _).2.2.2.2.2.2.2 | assumption)⟩
end Go.Proofs.Ytidcahjkjlmjhaa
