/- Walks: transcripts, simulations. -/
import Derived.Test.YtekfeplaphemkaaN5
namespace Go.Proofs.Ytekfeplaphemkaa
open Go.RowKit
theorem RI.lit4 (w : World) (a b c d : Int) (t : TypeId) {n : Nat} (hn : n = w.heap.size) : RI (w.alloc (.cells #[.int .i64 a, .int .i64 b, .int .i64 c, .int .i64 d] t)) (w.alloc (.cells #[.int .i64 a, .int .i64 b, .int .i64 c, .int .i64 d] t)).heap.size (some ⟨n, 0, none⟩) [a, b, c, d] := RI.lit w [a, b, c, d] t hn
def simC (p q b y c z : Int) : Int := M.gpw p q b z * M.gpw p q y (-c) % p
def acc (p q b y a c z : Int) : Bool := M.gpw p q b z == a * M.gpw p q y c % p
set_option maxHeartbeats 400000 in
theorem hasTranscript_any (p q g a c z : Int) (hG : M.Grp p q g) (w : World) :
    Calls Try.prog 37 #[.agg #[.int .i64 p, .int .i64 q, .int .i64 g], .agg #[.int .i64 a, .int .i64 c, .int .i64 z]] w fun en w' => en = .returned (.bool (elemB p q a && expsB q [c, z])) ∧ Below w.heap.size w w' := by
  have g1 := hG.q2
  have g2 := hG.qp
  have g4 := hG.pM
  have hB0 : Below ((w.alloc (.cells #[.int .i64 p, .int .i64 q, .int .i64 g] 28)).alloc (.cells #[.int .i64 a, .int .i64 c, .int .i64 z] 30)).heap.size ((w.alloc (.cells #[.int .i64 p, .int .i64 q, .int .i64 g] 28)).alloc (.cells #[.int .i64 a, .int .i64 c, .int .i64 z] 30)) ((w.alloc (.cells #[.int .i64 p, .int .i64 q, .int .i64 g] 28)).alloc (.cells #[.int .i64 a, .int .i64 c, .int .i64 z] 30)) := Below.refl _ _
  have hT0 : Below w.heap.size w ((w.alloc (.cells #[.int .i64 p, .int .i64 q, .int .i64 g] 28)).alloc (.cells #[.int .i64 a, .int .i64 c, .int .i64 z] 30)) := by repeat (first | exact Below.refl _ _ | refine bnew ?_ _)
  go_enter Try.func37, Try.ntmps37
  go_wp2_with fail
  refine (has_any _ _ _ _ hG _).mono ?_
  rintro e1 w1 ⟨rfl, hb1⟩
  have hB1 : Below ((w.alloc (.cells #[.int .i64 p, .int .i64 q, .int .i64 g] 28)).alloc (.cells #[.int .i64 a, .int .i64 c, .int .i64 z] 30)).heap.size ((w.alloc (.cells #[.int .i64 p, .int .i64 q, .int .i64 g] 28)).alloc (.cells #[.int .i64 a, .int .i64 c, .int .i64 z] 30)) w1 := bnext (by repeat (first | exact hB0 | refine bnew ?_ _ | refine Below.drew ?_ | refine Below.drewN ?_ _)) hb1
  have hT1 : Below w.heap.size w w1 := bnext (by repeat (first | exact hT0 | refine bnew ?_ _ | refine Below.drew ?_ | refine Below.drewN ?_ _)) hb1
  obtain ⟨hc1, hf1⟩ := bcell hB1
  rcases Bool.eq_false_or_eq_true (elemB p q a) with h | h
  rotate_left
  · go_wp2
    go_ret
    exact ⟨ret_bool (by rw [h]; rfl), hT1⟩
  go_wp2_with fail
  refine (areExps_any p q g _ _ [c, z] _ (by omega) (RI.lit2 _ _ _ _ (by simp)) (by simp)).mono ?_
  rintro e2 w2 ⟨rfl, hb2⟩
  have hB2 : Below ((w.alloc (.cells #[.int .i64 p, .int .i64 q, .int .i64 g] 28)).alloc (.cells #[.int .i64 a, .int .i64 c, .int .i64 z] 30)).heap.size ((w.alloc (.cells #[.int .i64 p, .int .i64 q, .int .i64 g] 28)).alloc (.cells #[.int .i64 a, .int .i64 c, .int .i64 z] 30)) w2 := bnext (by repeat (first | exact hB1 | refine bnew ?_ _ | refine Below.drew ?_ | refine Below.drewN ?_ _)) hb2
  have hT2 : Below w.heap.size w w2 := bnext (by repeat (first | exact hT1 | refine bnew ?_ _ | refine Below.drew ?_ | refine Below.drewN ?_ _)) hb2
  clear hc1 hf1
  obtain ⟨hc2, hf2⟩ := bcell hB2
  go_wp2
  go_ret
  exact ⟨ret_bool (by rw [h]; rfl), hT2⟩
set_option maxHeartbeats 400000 in
theorem xTranscript_any (p q g a c z : Int) (hG : M.Grp p q g) (w : World) :
    Calls Try.prog 32 #[.agg #[.int .i64 p, .int .i64 q, .int .i64 g], .agg #[.int .i64 a, .int .i64 c, .int .i64 z]] w fun en w' => en = .returned (.bool (elemB p q a && expsB q [c, z])) ∧ Below w.heap.size w w' := by
  have g1 := hG.q2
  have g2 := hG.qp
  have g4 := hG.pM
  have he1 : elemsB p q [a] = elemB p q a := by simp [elemsB]
  have HE1 := Lib.hid he1
  clear he1
  have hB0 : Below ((w.alloc (.cells #[.int .i64 p, .int .i64 q, .int .i64 g] 28)).alloc (.cells #[.int .i64 a, .int .i64 c, .int .i64 z] 30)).heap.size ((w.alloc (.cells #[.int .i64 p, .int .i64 q, .int .i64 g] 28)).alloc (.cells #[.int .i64 a, .int .i64 c, .int .i64 z] 30)) ((w.alloc (.cells #[.int .i64 p, .int .i64 q, .int .i64 g] 28)).alloc (.cells #[.int .i64 a, .int .i64 c, .int .i64 z] 30)) := Below.refl _ _
  have hT0 : Below w.heap.size w ((w.alloc (.cells #[.int .i64 p, .int .i64 q, .int .i64 g] 28)).alloc (.cells #[.int .i64 a, .int .i64 c, .int .i64 z] 30)) := by repeat (first | exact Below.refl _ _ | refine bnew ?_ _)
  go_enter Try.func32, Try.ntmps32
  go_wp2_with fail
  refine (gIs_any p q g hG _ _ [a] (by simp) _ (RI.lit _ [a] _ (by simp))).mono ?_
  rw [HE1.out]
  rintro e1 w1 ⟨rfl, hb1⟩
  have hB1 : Below ((w.alloc (.cells #[.int .i64 p, .int .i64 q, .int .i64 g] 28)).alloc (.cells #[.int .i64 a, .int .i64 c, .int .i64 z] 30)).heap.size ((w.alloc (.cells #[.int .i64 p, .int .i64 q, .int .i64 g] 28)).alloc (.cells #[.int .i64 a, .int .i64 c, .int .i64 z] 30)) w1 := bnext (by repeat (first | exact hB0 | refine bnew ?_ _ | refine Below.drew ?_ | refine Below.drewN ?_ _)) hb1
  have hT1 : Below w.heap.size w w1 := bnext (by repeat (first | exact hT0 | refine bnew ?_ _ | refine Below.drew ?_ | refine Below.drewN ?_ _)) hb1
  obtain ⟨hc1, hf1⟩ := bcell hB1
  rcases Bool.eq_false_or_eq_true (elemB p q a) with h | h
  rotate_left
  · go_wp2
    go_ret
    exact ⟨ret_bool (by rw [h]; rfl), hT1⟩
  go_wp2_with fail
  refine (gExps_any p q g _ _ [c, z] _ (by omega) (RI.lit2 _ _ _ _ (by simp)) (by simp)).mono ?_
  rintro e2 w2 ⟨rfl, hb2⟩
  have hB2 : Below ((w.alloc (.cells #[.int .i64 p, .int .i64 q, .int .i64 g] 28)).alloc (.cells #[.int .i64 a, .int .i64 c, .int .i64 z] 30)).heap.size ((w.alloc (.cells #[.int .i64 p, .int .i64 q, .int .i64 g] 28)).alloc (.cells #[.int .i64 a, .int .i64 c, .int .i64 z] 30)) w2 := bnext (by repeat (first | exact hB1 | refine bnew ?_ _ | refine Below.drew ?_ | refine Below.drewN ?_ _)) hb2
  have hT2 : Below w.heap.size w w2 := bnext (by repeat (first | exact hT1 | refine bnew ?_ _ | refine Below.drew ?_ | refine Below.drewN ?_ _)) hb2
  clear hc1 hf1
  obtain ⟨hc2, hf2⟩ := bcell hB2
  go_wp2
  go_ret
  exact ⟨ret_bool (by rw [h]; rfl), hT2⟩
set_option maxHeartbeats 800000 in
theorem accepts_any (p q g b y a c z : Int) (hG : M.Grp p q g) (hb : 0 ≤ b ∧ b < p) (hy : 0 ≤ y ∧ y < p) (ha : 0 ≤ a ∧ a < p) (hc : -9000000000000000000 ≤ c ∧ c ≤ 9000000000000000000) (hz : -9000000000000000000 ≤ z ∧ z ≤ 9000000000000000000) (w : World) :
    Calls Try.prog 38 #[.agg #[.int .i64 p, .int .i64 q, .int .i64 g], .int .i64 b, .int .i64 y, .agg #[.int .i64 a, .int .i64 c, .int .i64 z]] w fun en w' => en = .returned (.bool (acc p q b y a c z)) ∧ Below w.heap.size w w' := by
  have g1 := hG.q2
  have g2 := hG.qp
  have g3 := hG.p3
  have g4 := hG.pM
  have HG := Lib.hid hG
  clear hG
  have hB0 : Below ((w.alloc (.cells #[.int .i64 p, .int .i64 q, .int .i64 g] 28)).alloc (.cells #[.int .i64 a, .int .i64 c, .int .i64 z] 30)).heap.size ((w.alloc (.cells #[.int .i64 p, .int .i64 q, .int .i64 g] 28)).alloc (.cells #[.int .i64 a, .int .i64 c, .int .i64 z] 30)) ((w.alloc (.cells #[.int .i64 p, .int .i64 q, .int .i64 g] 28)).alloc (.cells #[.int .i64 a, .int .i64 c, .int .i64 z] 30)) := Below.refl _ _
  have hT0 : Below w.heap.size w ((w.alloc (.cells #[.int .i64 p, .int .i64 q, .int .i64 g] 28)).alloc (.cells #[.int .i64 a, .int .i64 c, .int .i64 z] 30)) := by repeat (first | exact Below.refl _ _ | refine bnew ?_ _)
  go_enter Try.func38, Try.ntmps38
  go_wp2_with fail
  go_region_held3 (fun W' => W'.cell? ⟨w.heap.size, 0, none⟩ = some (.int .i64 p) ∧ W'.cell? ⟨w.heap.size, 1, none⟩ = some (.int .i64 q) ∧ W'.cell? ⟨w.heap.size, 2, none⟩ = some (.int .i64 g) ∧ W'.cell? ⟨w.heap.size + 1, 0, none⟩ = some (.int .i64 a) ∧ W'.cell? ⟨w.heap.size + 1, 1, none⟩ = some (.int .i64 c) ∧ W'.cell? ⟨w.heap.size + 1, 2, none⟩ = some (.int .i64 z) ∧ Below w.heap.size w W') ((go_split_ands; refine ⟨?_, ?_, ?_, ?_, ?_, ?_, ?_⟩; (first | with_reducible exact cell_keep (by with_reducible assumption) (by with_reducible assumption) | with_reducible exact cell_keep (below_new _ _) (by with_reducible assumption) | (with_reducible refine cell_set _ ?_ (by simp); (repeat with_reducible refine cell_set _ ?_ (by simp)); with_reducible assumption) | with_reducible exact cell_drew (by with_reducible assumption) | go_keep); (first | with_reducible exact cell_keep (by with_reducible assumption) (by with_reducible assumption) | with_reducible exact cell_keep (below_new _ _) (by with_reducible assumption) | (with_reducible refine cell_set _ ?_ (by simp); (repeat with_reducible refine cell_set _ ?_ (by simp)); with_reducible assumption) | with_reducible exact cell_drew (by with_reducible assumption) | go_keep); (first | with_reducible exact cell_keep (by with_reducible assumption) (by with_reducible assumption) | with_reducible exact cell_keep (below_new _ _) (by with_reducible assumption) | (with_reducible refine cell_set _ ?_ (by simp); (repeat with_reducible refine cell_set _ ?_ (by simp)); with_reducible assumption) | with_reducible exact cell_drew (by with_reducible assumption) | go_keep); (first | with_reducible exact cell_keep (by with_reducible assumption) (by with_reducible assumption) | with_reducible exact cell_keep (below_new _ _) (by with_reducible assumption) | (with_reducible refine cell_set _ ?_ (by simp); (repeat with_reducible refine cell_set _ ?_ (by simp)); with_reducible assumption) | with_reducible exact cell_drew (by with_reducible assumption) | go_keep); (first | with_reducible exact cell_keep (by with_reducible assumption) (by with_reducible assumption) | with_reducible exact cell_keep (below_new _ _) (by with_reducible assumption) | (with_reducible refine cell_set _ ?_ (by simp); (repeat with_reducible refine cell_set _ ?_ (by simp)); with_reducible assumption) | with_reducible exact cell_drew (by with_reducible assumption) | go_keep); (first | with_reducible exact cell_keep (by with_reducible assumption) (by with_reducible assumption) | with_reducible exact cell_keep (below_new _ _) (by with_reducible assumption) | (with_reducible refine cell_set _ ?_ (by simp); (repeat with_reducible refine cell_set _ ?_ (by simp)); with_reducible assumption) | with_reducible exact cell_drew (by with_reducible assumption) | go_keep); (repeat (first | with_reducible assumption | with_reducible refine bnext ?_ (by with_reducible assumption) | with_reducible refine bnew ?_ _ | with_reducible refine below_set _ ?_ (by simp) | with_reducible refine Below.drew ?_ | with_reducible refine Below.drewN ?_ _)); done)) (first | (go_at_call 67; refine (pow_any _ _ _ _ _ HG.out (by assumption) (by omega) _).mono ?_; rintro e9 w9 ⟨rfl, hb9⟩) | (go_at_call 68; refine (mul2_any _ _ _ _ _ HG.out (by first | assumption | exact M.gpw_lt g3) (by first | assumption | exact M.gpw_lt g3) _ _ _ (RI.lit2 _ _ _ _ (by simp))).mono ?_; rintro e9 w9 ⟨rfl, hb9⟩))
  go_wp2
  go_ret
  exact ⟨rfl, (by first | exact (by assumption : _ ∧ _ ∧ _ ∧ _ ∧ _ ∧ _ ∧  _).2.2.2.2.2.2 | assumption)⟩
set_option maxHeartbeats 800000 in
theorem xAccepts_any (p q g b y a c z : Int) (hG : M.Grp p q g) (hb : 0 ≤ b ∧ b < p) (hy : 0 ≤ y ∧ y < p) (ha : 0 ≤ a ∧ a < p) (hc : -9000000000000000000 ≤ c ∧ c ≤ 9000000000000000000) (hz : -9000000000000000000 ≤ z ∧ z ≤ 9000000000000000000) (w : World) :
    Calls Try.prog 33 #[.agg #[.int .i64 p, .int .i64 q, .int .i64 g], .int .i64 b, .int .i64 y, .agg #[.int .i64 a, .int .i64 c, .int .i64 z]] w fun en w' => en = .returned (.bool (acc p q b y a c z)) ∧ Below w.heap.size w w' := by
  have g1 := hG.q2
  have g2 := hG.qp
  have g3 := hG.p3
  have g4 := hG.pM
  have HG := Lib.hid hG
  clear hG
  have hB0 : Below ((w.alloc (.cells #[.int .i64 p, .int .i64 q, .int .i64 g] 28)).alloc (.cells #[.int .i64 a, .int .i64 c, .int .i64 z] 30)).heap.size ((w.alloc (.cells #[.int .i64 p, .int .i64 q, .int .i64 g] 28)).alloc (.cells #[.int .i64 a, .int .i64 c, .int .i64 z] 30)) ((w.alloc (.cells #[.int .i64 p, .int .i64 q, .int .i64 g] 28)).alloc (.cells #[.int .i64 a, .int .i64 c, .int .i64 z] 30)) := Below.refl _ _
  have hT0 : Below w.heap.size w ((w.alloc (.cells #[.int .i64 p, .int .i64 q, .int .i64 g] 28)).alloc (.cells #[.int .i64 a, .int .i64 c, .int .i64 z] 30)) := by repeat (first | exact Below.refl _ _ | refine bnew ?_ _)
  go_enter Try.func33, Try.ntmps33
  go_wp2_with fail
  go_region_held3 (fun W' => W'.cell? ⟨w.heap.size, 0, none⟩ = some (.int .i64 p) ∧ W'.cell? ⟨w.heap.size, 1, none⟩ = some (.int .i64 q) ∧ W'.cell? ⟨w.heap.size, 2, none⟩ = some (.int .i64 g) ∧ W'.cell? ⟨w.heap.size + 1, 0, none⟩ = some (.int .i64 a) ∧ W'.cell? ⟨w.heap.size + 1, 1, none⟩ = some (.int .i64 c) ∧ W'.cell? ⟨w.heap.size + 1, 2, none⟩ = some (.int .i64 z) ∧ Below w.heap.size w W') ((go_split_ands; refine ⟨?_, ?_, ?_, ?_, ?_, ?_, ?_⟩; (first | with_reducible exact cell_keep (by with_reducible assumption) (by with_reducible assumption) | with_reducible exact cell_keep (below_new _ _) (by with_reducible assumption) | (with_reducible refine cell_set _ ?_ (by simp); (repeat with_reducible refine cell_set _ ?_ (by simp)); with_reducible assumption) | with_reducible exact cell_drew (by with_reducible assumption) | go_keep); (first | with_reducible exact cell_keep (by with_reducible assumption) (by with_reducible assumption) | with_reducible exact cell_keep (below_new _ _) (by with_reducible assumption) | (with_reducible refine cell_set _ ?_ (by simp); (repeat with_reducible refine cell_set _ ?_ (by simp)); with_reducible assumption) | with_reducible exact cell_drew (by with_reducible assumption) | go_keep); (first | with_reducible exact cell_keep (by with_reducible assumption) (by with_reducible assumption) | with_reducible exact cell_keep (below_new _ _) (by with_reducible assumption) | (with_reducible refine cell_set _ ?_ (by simp); (repeat with_reducible refine cell_set _ ?_ (by simp)); with_reducible assumption) | with_reducible exact cell_drew (by with_reducible assumption) | go_keep); (first | with_reducible exact cell_keep (by with_reducible assumption) (by with_reducible assumption) | with_reducible exact cell_keep (below_new _ _) (by with_reducible assumption) | (with_reducible refine cell_set _ ?_ (by simp); (repeat with_reducible refine cell_set _ ?_ (by simp)); with_reducible assumption) | with_reducible exact cell_drew (by with_reducible assumption) | go_keep); (first | with_reducible exact cell_keep (by with_reducible assumption) (by with_reducible assumption) | with_reducible exact cell_keep (below_new _ _) (by with_reducible assumption) | (with_reducible refine cell_set _ ?_ (by simp); (repeat with_reducible refine cell_set _ ?_ (by simp)); with_reducible assumption) | with_reducible exact cell_drew (by with_reducible assumption) | go_keep); (first | with_reducible exact cell_keep (by with_reducible assumption) (by with_reducible assumption) | with_reducible exact cell_keep (below_new _ _) (by with_reducible assumption) | (with_reducible refine cell_set _ ?_ (by simp); (repeat with_reducible refine cell_set _ ?_ (by simp)); with_reducible assumption) | with_reducible exact cell_drew (by with_reducible assumption) | go_keep); (repeat (first | with_reducible assumption | with_reducible refine bnext ?_ (by with_reducible assumption) | with_reducible refine bnew ?_ _ | with_reducible refine below_set _ ?_ (by simp) | with_reducible refine Below.drew ?_ | with_reducible refine Below.drewN ?_ _)); done)) (first | (go_at_call 60; refine (gExp_any _ _ _ _ _ HG.out (by assumption) (by omega) _).mono ?_; rintro e9 w9 ⟨rfl, hb9⟩) | (go_at_call 61; refine (gMul2_any _ _ _ _ _ HG.out (by first | assumption | exact M.gpw_lt g3) (by first | assumption | exact M.gpw_lt g3) _ _ _ (RI.lit2 _ _ _ _ (by simp))).mono ?_; rintro e9 w9 ⟨rfl, hb9⟩))
  go_wp2
  go_ret
  exact ⟨rfl, (by first | exact (by assumption : _ ∧ _ ∧ _ ∧ _ ∧ _ ∧ _ ∧  _).2.2.2.2.2.2 | assumption)⟩
end Go.Proofs.Ytekfeplaphemkaa
