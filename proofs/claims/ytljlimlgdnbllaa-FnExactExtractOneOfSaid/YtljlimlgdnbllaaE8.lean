import Derived.Test.YtljlimlgdnbllaaE3
import Derived.Test.YtljlimlgdnbllaaKit
/- Walks: ExtractKnowledge. -/
set_option linter.all false
set_option linter.unusedVariables false
set_option linter.unusedSimpArgs false
namespace Go.Proofs.Ytljlimlgdnbllaa
open Go.RowKit
noncomputable def slopeV (q z r c o : Int) : Int := (z - r) % q * M.invm ((c - o) % q) q % q
theorem sub_ne {q a b : Int} (ha : 0 ≤ a ∧ a < q) (hb : 0 ≤ b ∧ b < q) (hne : a ≠ b) : (a - b) % q ≠ 0 := by
  intro h
  have h1 : M.cg q a b := by
    have := (show M.cg q (a - b) 0 by unfold M.cg; rw [h]; simp).add (M.cg.rfl' (m := q) (a := b))
    rw [Int.sub_add_cancel, Int.zero_add] at this; exact this
  exact hne (h1.eq ha hb)
noncomputable def extK (p q g b y a c z a2 c2 z2 : Int) : Int × Bool := if M.goodB p q g = true ∧ elemsB p q [b, y] = true ∧ (elemB p q a && expsB q [c, z]) = true ∧ (elemB p q a2 && expsB q [c2, z2]) = true ∧ acc p q b y a c z = true ∧ acc p q b y a2 c2 z2 = true ∧ decide (a = a2) = true ∧ decide (c ≠ c2) = true then (slopeV q z z2 c c2, true) else (0, false)
set_option maxHeartbeats 800000 in
theorem extracted_any (p q g c z o r : Int) (hG : M.Grp p q g) (hz : 0 ≤ z ∧ z < q) (hr : 0 ≤ r ∧ r < q) (hc : 0 ≤ c ∧ c < q) (ho : 0 ≤ o ∧ o < q) (w : World) :
    Calls Try.prog 122 #[.agg #[.int .i64 p, .int .i64 q, .int .i64 g], .int .i64 c, .int .i64 z, .int .i64 o, .int .i64 r] w fun en w' => en = .returned (.int .i64 (slopeV q z r c o)) ∧ Below w.heap.size w w' := by
  have g1 := hG.q2
  have g2 := hG.qp
  have g3 := hG.p3
  have g4 := hG.pM
  have HG := Lib.hid hG
  clear hG
  have b_z := hz
  have b_r := hr
  have b_c := hc
  have b_o := ho
  have w1 : IntKind.i64.wrap (z - r) = z - r := IntWalk.i64_in _ (by omega)
  have w2 : IntKind.i64.wrap (c - o) = c - o := IntWalk.i64_in _ (by omega)
  have v1 := Int.emod_nonneg (z - r) (show q ≠ 0 by omega)
  have v2 := Int.emod_lt_of_pos (z - r) (show 0 < q by omega)
  have v3 := Int.emod_nonneg (c - o) (show q ≠ 0 by omega)
  have v4 := Int.emod_lt_of_pos (c - o) (show 0 < q by omega)
  obtain ⟨i1, i2⟩ := M.invm_lt (a := (c - o) % q) (m := q) (by omega)
  obtain ⟨u1, u2⟩ := M.mul_fit ⟨v1, v2⟩ ⟨i1, i2⟩ (by omega)
  have w3 : IntKind.i64.wrap ((z - r) % q * M.invm ((c - o) % q) q) = (z - r) % q * M.invm ((c - o) % q) q := IntWalk.i64_in _ (by omega)
  have w4 : ((z - r) % q * M.invm ((c - o) % q) q).tmod q = (z - r) % q * M.invm ((c - o) % q) q % q := Int.tmod_eq_emod_of_nonneg u1
  have w5 : (q == 0) = false := by simp; omega
  have w6 : ¬ q = 0 := by omega
  have hT0 : Below w.heap.size w (w.alloc (.cells #[.int .i64 p, .int .i64 q, .int .i64 g] 33)) := by repeat (first | exact Below.refl _ _ | refine bnew ?_ _)
  go_enter Try.func122, Try.ntmps122
  have c0_0 : (w.alloc (.cells #[.int .i64 p, .int .i64 q, .int .i64 g] 33)).cell? ⟨w.heap.size, 0, none⟩ = some (.int .i64 p) := by
    repeat (first | with_reducible assumption | (refine cell_new' ?_ _ _ _ rfl; focus (simp; done)) | with_reducible refine cell_keep (below_new _ _) ?_)
  have c0_1 : (w.alloc (.cells #[.int .i64 p, .int .i64 q, .int .i64 g] 33)).cell? ⟨w.heap.size, 1, none⟩ = some (.int .i64 q) := by
    repeat (first | with_reducible assumption | (refine cell_new' ?_ _ _ _ rfl; focus (simp; done)) | with_reducible refine cell_keep (below_new _ _) ?_)
  have c0_2 : (w.alloc (.cells #[.int .i64 p, .int .i64 q, .int .i64 g] 33)).cell? ⟨w.heap.size, 2, none⟩ = some (.int .i64 g) := by
    repeat (first | with_reducible assumption | (refine cell_new' ?_ _ _ _ rfl; focus (simp; done)) | with_reducible refine cell_keep (below_new _ _) ?_)
  go_wp2_with fail
  go_region_held3 (fun W' => W'.cell? ⟨w.heap.size, 0, none⟩ = some (.int .i64 p) ∧ W'.cell? ⟨w.heap.size, 1, none⟩ = some (.int .i64 q) ∧ W'.cell? ⟨w.heap.size, 2, none⟩ = some (.int .i64 g) ∧ Below w.heap.size w W') ((go_split_ands; refine ⟨?_, ?_, ?_, ?_⟩; (first | with_reducible exact cell_keep (by with_reducible assumption) (by with_reducible assumption) | with_reducible exact cell_keep (below_new _ _) (by with_reducible assumption) | (with_reducible refine cell_set _ ?_ (by simp); (repeat with_reducible refine cell_set _ ?_ (by simp)); with_reducible assumption) | with_reducible exact cell_drew (by with_reducible assumption) | go_keep); (first | with_reducible exact cell_keep (by with_reducible assumption) (by with_reducible assumption) | with_reducible exact cell_keep (below_new _ _) (by with_reducible assumption) | (with_reducible refine cell_set _ ?_ (by simp); (repeat with_reducible refine cell_set _ ?_ (by simp)); with_reducible assumption) | with_reducible exact cell_drew (by with_reducible assumption) | go_keep); (first | with_reducible exact cell_keep (by with_reducible assumption) (by with_reducible assumption) | with_reducible exact cell_keep (below_new _ _) (by with_reducible assumption) | (with_reducible refine cell_set _ ?_ (by simp); (repeat with_reducible refine cell_set _ ?_ (by simp)); with_reducible assumption) | with_reducible exact cell_drew (by with_reducible assumption) | go_keep); (repeat (first | with_reducible assumption | with_reducible refine bnext ?_ (by with_reducible assumption) | with_reducible refine bnew ?_ _ | with_reducible refine below_set _ ?_ (by simp) | with_reducible refine Below.drew ?_ | with_reducible refine Below.drewN ?_ _)); done)) (first | (go_at_call 85; refine (exp_any _ _ _ _ _ (by omega) (by omega)).mono ?_; rintro e1 w1 ⟨rfl, hb1⟩) | (go_at_call 151; refine (inverse_any _ _ _ (by omega) (by omega)).mono ?_; rintro e1 w1 ⟨rfl, rfl⟩))
  obtain ⟨c1_0, c1_1, c1_2, hT1⟩ := (by assumption : _ ∧ _ ∧ _ ∧  _)
  clear c0_0 c0_1 c0_2
  go_wp2
  go_ret
  exact ⟨rfl, hT1⟩
set_option maxHeartbeats 800000 in
theorem xSlope_any (p q g z r c o : Int) (hG : M.Grp p q g) (hz : 0 ≤ z ∧ z < q) (hr : 0 ≤ r ∧ r < q) (hc : 0 ≤ c ∧ c < q) (ho : 0 ≤ o ∧ o < q) (hne : c ≠ o) (w : World) :
    Calls Try.prog 119 #[.agg #[.int .i64 p, .int .i64 q, .int .i64 g], .int .i64 z, .int .i64 r, .int .i64 c, .int .i64 o] w fun en w' => en = .returned (.int .i64 (slopeV q z r c o)) ∧ Below w.heap.size w w' := by
  have HP := Lib.hid hG.pq
  have HN := Lib.hid (sub_ne hc ho hne)
  clear hne
  have g1 := hG.q2
  have g2 := hG.qp
  have g3 := hG.p3
  have g4 := hG.pM
  have HG := Lib.hid hG
  clear hG
  have b_z := hz
  have b_r := hr
  have b_c := hc
  have b_o := ho
  have w1 : IntKind.i64.wrap (z - r) = z - r := IntWalk.i64_in _ (by omega)
  have w2 : IntKind.i64.wrap (c - o) = c - o := IntWalk.i64_in _ (by omega)
  have v1 := Int.emod_nonneg (z - r) (show q ≠ 0 by omega)
  have v2 := Int.emod_lt_of_pos (z - r) (show 0 < q by omega)
  have v3 := Int.emod_nonneg (c - o) (show q ≠ 0 by omega)
  have v4 := Int.emod_lt_of_pos (c - o) (show 0 < q by omega)
  obtain ⟨i1, i2⟩ := M.invm_lt (a := (c - o) % q) (m := q) (by omega)
  obtain ⟨u1, u2⟩ := M.mul_fit ⟨v1, v2⟩ ⟨i1, i2⟩ (by omega)
  have w3 : IntKind.i64.wrap ((z - r) % q * M.invm ((c - o) % q) q) = (z - r) % q * M.invm ((c - o) % q) q := IntWalk.i64_in _ (by omega)
  have w4 : ((z - r) % q * M.invm ((c - o) % q) q).tmod q = (z - r) % q * M.invm ((c - o) % q) q % q := Int.tmod_eq_emod_of_nonneg u1
  have w5 : (q == 0) = false := by simp; omega
  have w6 : ¬ q = 0 := by omega
  have hT0 : Below w.heap.size w (w.alloc (.cells #[.int .i64 p, .int .i64 q, .int .i64 g] 33)) := by repeat (first | exact Below.refl _ _ | refine bnew ?_ _)
  go_enter Try.func119, Try.ntmps119
  go_wp2_with fail
  refine (nInverse_any _ _ _ (by omega) (by omega) HP.out HN.out).mono ?_
  rintro e1 w1 ⟨rfl, rfl⟩
  go_wp2_with fail
  go_region_held3 (fun W' => W'.cell? ⟨w.heap.size, 0, none⟩ = some (.int .i64 p) ∧ W'.cell? ⟨w.heap.size, 1, none⟩ = some (.int .i64 q) ∧ W'.cell? ⟨w.heap.size, 2, none⟩ = some (.int .i64 g) ∧ Below w.heap.size w W') ((go_split_ands; refine ⟨?_, ?_, ?_, ?_⟩; (first | with_reducible exact cell_keep (by with_reducible assumption) (by with_reducible assumption) | with_reducible exact cell_keep (below_new _ _) (by with_reducible assumption) | (with_reducible refine cell_set _ ?_ (by simp); (repeat with_reducible refine cell_set _ ?_ (by simp)); with_reducible assumption) | with_reducible exact cell_drew (by with_reducible assumption) | go_keep); (first | with_reducible exact cell_keep (by with_reducible assumption) (by with_reducible assumption) | with_reducible exact cell_keep (below_new _ _) (by with_reducible assumption) | (with_reducible refine cell_set _ ?_ (by simp); (repeat with_reducible refine cell_set _ ?_ (by simp)); with_reducible assumption) | with_reducible exact cell_drew (by with_reducible assumption) | go_keep); (first | with_reducible exact cell_keep (by with_reducible assumption) (by with_reducible assumption) | with_reducible exact cell_keep (below_new _ _) (by with_reducible assumption) | (with_reducible refine cell_set _ ?_ (by simp); (repeat with_reducible refine cell_set _ ?_ (by simp)); with_reducible assumption) | with_reducible exact cell_drew (by with_reducible assumption) | go_keep); (repeat (first | with_reducible assumption | with_reducible refine bnext ?_ (by with_reducible assumption) | with_reducible refine bnew ?_ _ | with_reducible refine below_set _ ?_ (by simp) | with_reducible refine Below.drew ?_ | with_reducible refine Below.drewN ?_ _)); done)) (first | (go_at_call 84; refine (nMod_any _ _ _ (by omega) (by omega)).mono ?_; rintro e2 w2 ⟨rfl, rfl⟩))
  obtain ⟨c2_0, c2_1, c2_2, hT2⟩ := (by assumption : _ ∧ _ ∧ _ ∧  _)
  go_wp2
  go_ret
  exact ⟨rfl, hT2⟩
end Go.Proofs.Ytljlimlgdnbllaa
