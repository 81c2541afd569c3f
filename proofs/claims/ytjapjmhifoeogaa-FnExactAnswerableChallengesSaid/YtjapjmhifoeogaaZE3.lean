import Derived.Test.YtjapjmhifoeogaaZN1
/- Walks: transcripts, simulations. -/
set_option linter.all false
set_option linter.unusedVariables false
set_option linter.unusedSimpArgs false
namespace Go.Proofs.Ytjapjmhifoeogaa
open Go.RowKit
theorem RI.lit4 (w : World) (a b c d : Int) (t : TypeId) {n : Nat} (hn : n = w.heap.size) : RI (w.alloc (.cells #[.int .i64 a, .int .i64 b, .int .i64 c, .int .i64 d] t)) (w.alloc (.cells #[.int .i64 a, .int .i64 b, .int .i64 c, .int .i64 d] t)).heap.size (some ⟨n, 0, none⟩) [a, b, c, d] := RI.lit w [a, b, c, d] t hn
def simC (p q b y c z : Int) : Int := M.gpw p q b z * M.gpw p q y (-c) % p
def acc (p q b y a c z : Int) : Bool := M.gpw p q b z == a * M.gpw p q y c % p
set_option maxHeartbeats 400000 in
theorem hasEqual_any (p q g g1' y1 g2' y2 : Int) (hG : M.Grp p q g) (w : World) :
    Calls Try.prog 66 #[.agg #[.int .i64 p, .int .i64 q, .int .i64 g], .agg #[.int .i64 g1', .int .i64 y1, .int .i64 g2', .int .i64 y2]] w fun en w' => en = .returned (.bool (elemsB p q [g1', y1, g2', y2])) ∧ Below w.heap.size w w' := by
  have hB0 : Below ((w.alloc (.cells #[.int .i64 p, .int .i64 q, .int .i64 g] 28)).alloc (.cells #[.int .i64 g1', .int .i64 y1, .int .i64 g2', .int .i64 y2] 30)).heap.size ((w.alloc (.cells #[.int .i64 p, .int .i64 q, .int .i64 g] 28)).alloc (.cells #[.int .i64 g1', .int .i64 y1, .int .i64 g2', .int .i64 y2] 30)) ((w.alloc (.cells #[.int .i64 p, .int .i64 q, .int .i64 g] 28)).alloc (.cells #[.int .i64 g1', .int .i64 y1, .int .i64 g2', .int .i64 y2] 30)) := Below.refl _ _
  have hT0 : Below w.heap.size w ((w.alloc (.cells #[.int .i64 p, .int .i64 q, .int .i64 g] 28)).alloc (.cells #[.int .i64 g1', .int .i64 y1, .int .i64 g2', .int .i64 y2] 30)) := by repeat (first | exact Below.refl _ _ | refine bnew ?_ _)
  go_enter Try.func66, Try.ntmps66
  go_wp2_with fail
  refine (hasAll_any p q g hG _ _ [g1', y1, g2', y2] (by simp) _ (RI.lit4 _ _ _ _ _ _ (by simp))).mono ?_
  rintro e1 w1 ⟨rfl, hb1⟩
  have hB1 : Below ((w.alloc (.cells #[.int .i64 p, .int .i64 q, .int .i64 g] 28)).alloc (.cells #[.int .i64 g1', .int .i64 y1, .int .i64 g2', .int .i64 y2] 30)).heap.size ((w.alloc (.cells #[.int .i64 p, .int .i64 q, .int .i64 g] 28)).alloc (.cells #[.int .i64 g1', .int .i64 y1, .int .i64 g2', .int .i64 y2] 30)) w1 := bnext (by repeat (first | exact hB0 | refine bnew ?_ _ | refine Below.drew ?_ | refine Below.drewN ?_ _)) hb1
  have hT1 : Below w.heap.size w w1 := bnext (by repeat (first | exact hT0 | refine bnew ?_ _ | refine Below.drew ?_ | refine Below.drewN ?_ _)) hb1
  obtain ⟨hc1, hf1⟩ := bcell hB1
  go_wp2
  go_ret
  exact ⟨rfl, hT1⟩
set_option maxHeartbeats 400000 in
theorem sElements_any (p q g g1' y1 g2' y2 : Int) (hG : M.Grp p q g) (w : World) :
    Calls Try.prog 61 #[.agg #[.int .i64 p, .int .i64 q, .int .i64 g], .agg #[.int .i64 g1', .int .i64 y1, .int .i64 g2', .int .i64 y2]] w fun en w' => en = .returned (.bool (elemsB p q [g1', y1, g2', y2])) ∧ Below w.heap.size w w' := by
  have hB0 : Below ((w.alloc (.cells #[.int .i64 p, .int .i64 q, .int .i64 g] 28)).alloc (.cells #[.int .i64 g1', .int .i64 y1, .int .i64 g2', .int .i64 y2] 30)).heap.size ((w.alloc (.cells #[.int .i64 p, .int .i64 q, .int .i64 g] 28)).alloc (.cells #[.int .i64 g1', .int .i64 y1, .int .i64 g2', .int .i64 y2] 30)) ((w.alloc (.cells #[.int .i64 p, .int .i64 q, .int .i64 g] 28)).alloc (.cells #[.int .i64 g1', .int .i64 y1, .int .i64 g2', .int .i64 y2] 30)) := Below.refl _ _
  have hT0 : Below w.heap.size w ((w.alloc (.cells #[.int .i64 p, .int .i64 q, .int .i64 g] 28)).alloc (.cells #[.int .i64 g1', .int .i64 y1, .int .i64 g2', .int .i64 y2] 30)) := by repeat (first | exact Below.refl _ _ | refine bnew ?_ _)
  go_enter Try.func61, Try.ntmps61
  go_wp2_with fail
  refine (gIs_any p q g hG _ _ [g1', y1, g2', y2] (by simp) _ (RI.lit4 _ _ _ _ _ _ (by simp))).mono ?_
  rintro e1 w1 ⟨rfl, hb1⟩
  have hB1 : Below ((w.alloc (.cells #[.int .i64 p, .int .i64 q, .int .i64 g] 28)).alloc (.cells #[.int .i64 g1', .int .i64 y1, .int .i64 g2', .int .i64 y2] 30)).heap.size ((w.alloc (.cells #[.int .i64 p, .int .i64 q, .int .i64 g] 28)).alloc (.cells #[.int .i64 g1', .int .i64 y1, .int .i64 g2', .int .i64 y2] 30)) w1 := bnext (by repeat (first | exact hB0 | refine bnew ?_ _ | refine Below.drew ?_ | refine Below.drewN ?_ _)) hb1
  have hT1 : Below w.heap.size w w1 := bnext (by repeat (first | exact hT0 | refine bnew ?_ _ | refine Below.drew ?_ | refine Below.drewN ?_ _)) hb1
  obtain ⟨hc1, hf1⟩ := bcell hB1
  go_wp2
  go_ret
  exact ⟨rfl, hT1⟩
set_option maxHeartbeats 1600000 in
theorem simulated_any (p q g g1' y1 g2' y2 c z : Int) (hG : M.Grp p q g) (he1 : 0 ≤ g1' ∧ g1' < p) (he2 : 0 ≤ y1 ∧ y1 < p) (he3 : 0 ≤ g2' ∧ g2' < p) (he4 : 0 ≤ y2 ∧ y2 < p) (hc : -9000000000000000000 ≤ c ∧ c ≤ 9000000000000000000) (hz : -9000000000000000000 ≤ z ∧ z ≤ 9000000000000000000) (w : World) :
    Calls Try.prog 68 #[.agg #[.int .i64 p, .int .i64 q, .int .i64 g], .agg #[.int .i64 g1', .int .i64 y1, .int .i64 g2', .int .i64 y2], .int .i64 c, .int .i64 z] w fun en w' => en = .returned (.tuple #[.int .i64 (simC p q g1' y1 c z), .int .i64 (simC p q g2' y2 c z)]) ∧ Below w.heap.size w w' := by
  have g1 := hG.q2
  have g2 := hG.qp
  have g3 := hG.p3
  have g4 := hG.pM
  have HG := Lib.hid hG
  clear hG
  have hw : IntKind.i64.wrap (-c) = -c := IntWalk.i64_in _ (by omega)
  have hB0 : Below ((w.alloc (.cells #[.int .i64 p, .int .i64 q, .int .i64 g] 28)).alloc (.cells #[.int .i64 g1', .int .i64 y1, .int .i64 g2', .int .i64 y2] 30)).heap.size ((w.alloc (.cells #[.int .i64 p, .int .i64 q, .int .i64 g] 28)).alloc (.cells #[.int .i64 g1', .int .i64 y1, .int .i64 g2', .int .i64 y2] 30)) ((w.alloc (.cells #[.int .i64 p, .int .i64 q, .int .i64 g] 28)).alloc (.cells #[.int .i64 g1', .int .i64 y1, .int .i64 g2', .int .i64 y2] 30)) := Below.refl _ _
  have hT0 : Below w.heap.size w ((w.alloc (.cells #[.int .i64 p, .int .i64 q, .int .i64 g] 28)).alloc (.cells #[.int .i64 g1', .int .i64 y1, .int .i64 g2', .int .i64 y2] 30)) := by repeat (first | exact Below.refl _ _ | refine bnew ?_ _)
  go_enter Try.func68, Try.ntmps68
  go_wp2_with fail
  go_region_held3 (fun W' => W'.cell? ⟨w.heap.size, 0, none⟩ = some (.int .i64 p) ∧ W'.cell? ⟨w.heap.size, 1, none⟩ = some (.int .i64 q) ∧ W'.cell? ⟨w.heap.size, 2, none⟩ = some (.int .i64 g) ∧ W'.cell? ⟨w.heap.size + 1, 0, none⟩ = some (.int .i64 g1') ∧ W'.cell? ⟨w.heap.size + 1, 1, none⟩ = some (.int .i64 y1) ∧ W'.cell? ⟨w.heap.size + 1, 2, none⟩ = some (.int .i64 g2') ∧ W'.cell? ⟨w.heap.size + 1, 3, none⟩ = some (.int .i64 y2) ∧ Below w.heap.size w W') ((go_split_ands; refine ⟨?_, ?_, ?_, ?_, ?_, ?_, ?_, ?_⟩; (first | with_reducible exact cell_keep (by with_reducible assumption) (by with_reducible assumption) | with_reducible exact cell_keep (below_new _ _) (by with_reducible assumption) | (with_reducible refine cell_set _ ?_ (by simp); (repeat with_reducible refine cell_set _ ?_ (by simp)); with_reducible assumption) | with_reducible exact cell_drew (by with_reducible assumption) | go_keep); (first | with_reducible exact cell_keep (by with_reducible assumption) (by with_reducible assumption) | with_reducible exact cell_keep (below_new _ _) (by with_reducible assumption) | (with_reducible refine cell_set _ ?_ (by simp); (repeat with_reducible refine cell_set _ ?_ (by simp)); with_reducible assumption) | with_reducible exact cell_drew (by with_reducible assumption) | go_keep); (first | with_reducible exact cell_keep (by with_reducible assumption) (by with_reducible assumption) | with_reducible exact cell_keep (below_new _ _) (by with_reducible assumption) | (with_reducible refine cell_set _ ?_ (by simp); (repeat with_reducible refine cell_set _ ?_ (by simp)); with_reducible assumption) | with_reducible exact cell_drew (by with_reducible assumption) | go_keep); (first | with_reducible exact cell_keep (by with_reducible assumption) (by with_reducible assumption) | with_reducible exact cell_keep (below_new _ _) (by with_reducible assumption) | (with_reducible refine cell_set _ ?_ (by simp); (repeat with_reducible refine cell_set _ ?_ (by simp)); with_reducible assumption) | with_reducible exact cell_drew (by with_reducible assumption) | go_keep); (first | with_reducible exact cell_keep (by with_reducible assumption) (by with_reducible assumption) | with_reducible exact cell_keep (below_new _ _) (by with_reducible assumption) | (with_reducible refine cell_set _ ?_ (by simp); (repeat with_reducible refine cell_set _ ?_ (by simp)); with_reducible assumption) | with_reducible exact cell_drew (by with_reducible assumption) | go_keep); (first | with_reducible exact cell_keep (by with_reducible assumption) (by with_reducible assumption) | with_reducible exact cell_keep (below_new _ _) (by with_reducible assumption) | (with_reducible refine cell_set _ ?_ (by simp); (repeat with_reducible refine cell_set _ ?_ (by simp)); with_reducible assumption) | with_reducible exact cell_drew (by with_reducible assumption) | go_keep); (first | with_reducible exact cell_keep (by with_reducible assumption) (by with_reducible assumption) | with_reducible exact cell_keep (below_new _ _) (by with_reducible assumption) | (with_reducible refine cell_set _ ?_ (by simp); (repeat with_reducible refine cell_set _ ?_ (by simp)); with_reducible assumption) | with_reducible exact cell_drew (by with_reducible assumption) | go_keep); (repeat (first | with_reducible assumption | with_reducible refine bnext ?_ (by with_reducible assumption) | with_reducible refine bnew ?_ _ | with_reducible refine below_set _ ?_ (by simp) | with_reducible refine Below.drew ?_ | with_reducible refine Below.drewN ?_ _)); done)) (first | (go_at_call 123; refine (pow_any _ _ _ _ _ HG.out (by assumption) (by omega) _).mono ?_; rintro e9 w9 ⟨rfl, hb9⟩) | (go_at_call 122; refine (mul2_any _ _ _ _ _ HG.out (by first | assumption | exact M.gpw_lt g3) (by first | assumption | exact M.gpw_lt g3) _ _ _ (RI.lit2 _ _ _ _ (by simp))).mono ?_; rintro e9 w9 ⟨rfl, hb9⟩))
  go_wp2
  go_ret2
  exact ⟨rfl, (by first | exact (by assumption : _ ∧ _ ∧ _ ∧ _ ∧ _ ∧ _ ∧ _ ∧  _).2.2.2.2.2.2.2 | assumption)⟩
end Go.Proofs.Ytjapjmhifoeogaa
