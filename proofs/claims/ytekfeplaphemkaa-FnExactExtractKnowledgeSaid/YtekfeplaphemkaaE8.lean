/- Walks: ExtractKnowledge. -/
import Derived.Test.YtekfeplaphemkaaE3
import Derived.Test.YtekfeplaphemkaaKit3
namespace Go.Proofs.Ytekfeplaphemkaa
open Go.RowKit
noncomputable def slopeV (q z r c o : Int) : Int := (z - r) % q * M.invm ((c - o) % q) q % q
theorem sub_ne {q a b : Int} (ha : 0 ≤ a ∧ a < q) (hb : 0 ≤ b ∧ b < q) (hne : a ≠ b) : (a - b) % q ≠ 0 := by
  intro h
  have h1 : M.cg q a b := by
    have := (show M.cg q (a - b) 0 by unfold M.cg; rw [h]; simp).add (M.cg.rfl' (m := q) (a := b))
    rw [Int.sub_add_cancel, Int.zero_add] at this; exact this
  exact hne (h1.eq ha hb)
noncomputable def extK (p q g b y a c z a2 c2 z2 : Int) : Int × Bool := if M.goodB p q g = true ∧ elemsB p q [b, y] = true ∧ (elemB p q a && expsB q [c, z]) = true ∧ (elemB p q a2 && expsB q [c2, z2]) = true ∧ acc p q b y a c z = true ∧ acc p q b y a2 c2 z2 = true ∧ decide (a = a2) = true ∧ decide (c ≠ c2) = true then (slopeV q z z2 c c2, true) else (0, false)
set_option maxHeartbeats 800000 in
theorem extracted_any (p q g c z o r : Int) (hG : M.Grp p q g) (hz : 0 ≤ z ∧ z < q) (hr : 0 ≤ r ∧ r < q) (hc : 0 ≤ c ∧ c < q) (ho : 0 ≤ o ∧ o < q) (w : World) :
    Calls Try.prog 39 #[.agg #[.int .i64 p, .int .i64 q, .int .i64 g], .int .i64 c, .int .i64 z, .int .i64 o, .int .i64 r] w fun en w' => en = .returned (.int .i64 (slopeV q z r c o)) ∧ Below w.heap.size w w' := by
  have g1 := hG.q2
  have g2 := hG.qp
  have g3 := hG.p3
  have g4 := hG.pM
  have HG := Lib.hid hG
  clear hG
  have b_z := hz
  have b_r := hr
  have b_c := hc
  have b_o := ho
  have w1 : IntKind.i64.wrap (z - r) = z - r := IntWalk.i64_in _ (by omega)
  have w2 : IntKind.i64.wrap (c - o) = c - o := IntWalk.i64_in _ (by omega)
  have v1 := Int.emod_nonneg (z - r) (show q ≠ 0 by omega)
  have v2 := Int.emod_lt_of_pos (z - r) (show 0 < q by omega)
  have v3 := Int.emod_nonneg (c - o) (show q ≠ 0 by omega)
  have v4 := Int.emod_lt_of_pos (c - o) (show 0 < q by omega)
  obtain ⟨i1, i2⟩ := M.invm_lt (a := (c - o) % q) (m := q) (by omega)
  obtain ⟨u1, u2⟩ := M.mul_fit ⟨v1, v2⟩ ⟨i1, i2⟩ (by omega)
  have w3 : IntKind.i64.wrap ((z - r) % q * M.invm ((c - o) % q) q) = (z - r) % q * M.invm ((c - o) % q) q := IntWalk.i64_in _ (by omega)
  have w4 : ((z - r) % q * M.invm ((c - o) % q) q).tmod q = (z - r) % q * M.invm ((c - o) % q) q % q := Int.tmod_eq_emod_of_nonneg u1
  have w5 : (q == 0) = false := by simp; omega
  have w6 : ¬ q = 0 := by omega
  have hT0 : Below w.heap.size w (w.alloc (.cells #[.int .i64 p, .int .i64 q, .int .i64 g] 28)) := by repeat (first | exact Below.refl _ _ | refine bnew ?_ _)
  go_enter Try.func39, Try.ntmps39
  have c0_0 : (w.alloc (.cells #[.int .i64 p, .int .i64 q, .int .i64 g] 28)).cell? ⟨w.heap.size, 0, none⟩ = some (.int .i64 p) := by
    repeat (first | with_reducible assumption | (refine cell_new' ?_ _ _ _ rfl; focus (simp; done)) | with_reducible refine cell_keep (below_new _ _) ?_)
  have c0_1 : (w.alloc (.cells #[.int .i64 p, .int .i64 q, .int .i64 g] 28)).cell? ⟨w.heap.size, 1, none⟩ = some (.int .i64 q) := by
    repeat (first | with_reducible assumption | (refine cell_new' ?_ _ _ _ rfl; focus (simp; done)) | with_reducible refine cell_keep (below_new _ _) ?_)
  have c0_2 : (w.alloc (.cells #[.int .i64 p, .int .i64 q, .int .i64 g] 28)).cell? ⟨w.heap.size, 2, none⟩ = some (.int .i64 g) := by
    repeat (first | with_reducible assumption | (refine cell_new' ?_ _ _ _ rfl; focus (simp; done)) | with_reducible refine cell_keep (below_new _ _) ?_)
  go_wp2_with fail
  go_region_held3 (fun W' => W'.cell? ⟨w.heap.size, 0, none⟩ = some (.int .i64 p) ∧ W'.cell? ⟨w.heap.size, 1, none⟩ = some (.int .i64 q) ∧ W'.cell? ⟨w.heap.size, 2, none⟩ = some (.int .i64 g) ∧ Below w.heap.size w W') ((go_split_ands; refine ⟨?_, ?_, ?_, ?_⟩; (first | with_reducible exact cell_keep (by with_reducible assumption) (by with_reducible assumption) | with_reducible exact cell_keep (below_new _ _) (by with_reducible assumption) | (with_reducible refine cell_set _ ?_ (by simp); (repeat with_reducible refine cell_set _ ?_ (by simp)); with_reducible assumption) | with_reducible exact cell_drew (by with_reducible assumption) | go_keep); (first | with_reducible exact cell_keep (by with_reducible assumption) (by with_reducible assumption) | with_reducible exact cell_keep (below_new _ _) (by with_reducible assumption) | (with_reducible refine cell_set _ ?_ (by simp); (repeat with_reducible refine cell_set _ ?_ (by simp)); with_reducible assumption) | with_reducible exact cell_drew (by with_reducible assumption) | go_keep); (first | with_reducible exact cell_keep (by with_reducible assumption) (by with_reducible assumption) | with_reducible exact cell_keep (below_new _ _) (by with_reducible assumption) | (with_reducible refine cell_set _ ?_ (by simp); (repeat with_reducible refine cell_set _ ?_ (by simp)); with_reducible assumption) | with_reducible exact cell_drew (by with_reducible assumption) | go_keep); (repeat (first | with_reducible assumption | with_reducible refine bnext ?_ (by with_reducible assumption) | with_reducible refine bnew ?_ _ | with_reducible refine below_set _ ?_ (by simp) | with_reducible refine Below.drew ?_ | with_reducible refine Below.drewN ?_ _)); done)) (first | (go_at_call 69; refine (exp_any _ _ _ _ _ (by omega) (by omega)).mono ?_; rintro e1 w1 ⟨rfl, hb1⟩) | (go_at_call 70; refine (inverse_any _ _ _ (by omega) (by omega)).mono ?_; rintro e1 w1 ⟨rfl, rfl⟩))
  obtain ⟨c1_0, c1_1, c1_2, hT1⟩ := (by assumption : _ ∧ _ ∧ _ ∧  _)
  clear c0_0 c0_1 c0_2
  go_wp2
  go_ret
  exact ⟨rfl, hT1⟩
set_option maxHeartbeats 800000 in
theorem xSlope_any (p q g z r c o : Int) (hG : M.Grp p q g) (hz : 0 ≤ z ∧ z < q) (hr : 0 ≤ r ∧ r < q) (hc : 0 ≤ c ∧ c < q) (ho : 0 ≤ o ∧ o < q) (hne : c ≠ o) (w : World) :
    Calls Try.prog 34 #[.agg #[.int .i64 p, .int .i64 q, .int .i64 g], .int .i64 z, .int .i64 r, .int .i64 c, .int .i64 o] w fun en w' => en = .returned (.int .i64 (slopeV q z r c o)) ∧ Below w.heap.size w w' := by
  have HP := Lib.hid hG.pq
  have HN := Lib.hid (sub_ne hc ho hne)
  clear hne
  have g1 := hG.q2
  have g2 := hG.qp
  have g3 := hG.p3
  have g4 := hG.pM
  have HG := Lib.hid hG
  clear hG
  have b_z := hz
  have b_r := hr
  have b_c := hc
  have b_o := ho
  have w1 : IntKind.i64.wrap (z - r) = z - r := IntWalk.i64_in _ (by omega)
  have w2 : IntKind.i64.wrap (c - o) = c - o := IntWalk.i64_in _ (by omega)
  have v1 := Int.emod_nonneg (z - r) (show q ≠ 0 by omega)
  have v2 := Int.emod_lt_of_pos (z - r) (show 0 < q by omega)
  have v3 := Int.emod_nonneg (c - o) (show q ≠ 0 by omega)
  have v4 := Int.emod_lt_of_pos (c - o) (show 0 < q by omega)
  obtain ⟨i1, i2⟩ := M.invm_lt (a := (c - o) % q) (m := q) (by omega)
  obtain ⟨u1, u2⟩ := M.mul_fit ⟨v1, v2⟩ ⟨i1, i2⟩ (by omega)
  have w3 : IntKind.i64.wrap ((z - r) % q * M.invm ((c - o) % q) q) = (z - r) % q * M.invm ((c - o) % q) q := IntWalk.i64_in _ (by omega)
  have w4 : ((z - r) % q * M.invm ((c - o) % q) q).tmod q = (z - r) % q * M.invm ((c - o) % q) q % q := Int.tmod_eq_emod_of_nonneg u1
  have w5 : (q == 0) = false := by simp; omega
  have w6 : ¬ q = 0 := by omega
  have hT0 : Below w.heap.size w (w.alloc (.cells #[.int .i64 p, .int .i64 q, .int .i64 g] 28)) := by repeat (first | exact Below.refl _ _ | refine bnew ?_ _)
  go_enter Try.func34, Try.ntmps34
  go_wp2_with fail
  refine (nInverse_any _ _ _ (by omega) (by omega) HP.out HN.out).mono ?_
  rintro e1 w1 ⟨rfl, rfl⟩
  go_wp2_with fail
  go_region_held3 (fun W' => W'.cell? ⟨w.heap.size, 0, none⟩ = some (.int .i64 p) ∧ W'.cell? ⟨w.heap.size, 1, none⟩ = some (.int .i64 q) ∧ W'.cell? ⟨w.heap.size, 2, none⟩ = some (.int .i64 g) ∧ Below w.heap.size w W') ((go_split_ands; refine ⟨?_, ?_, ?_, ?_⟩; (first | with_reducible exact cell_keep (by with_reducible assumption) (by with_reducible assumption) | with_reducible exact cell_keep (below_new _ _) (by with_reducible assumption) | (with_reducible refine cell_set _ ?_ (by simp); (repeat with_reducible refine cell_set _ ?_ (by simp)); with_reducible assumption) | with_reducible exact cell_drew (by with_reducible assumption) | go_keep); (first | with_reducible exact cell_keep (by with_reducible assumption) (by with_reducible assumption) | with_reducible exact cell_keep (below_new _ _) (by with_reducible assumption) | (with_reducible refine cell_set _ ?_ (by simp); (repeat with_reducible refine cell_set _ ?_ (by simp)); with_reducible assumption) | with_reducible exact cell_drew (by with_reducible assumption) | go_keep); (first | with_reducible exact cell_keep (by with_reducible assumption) (by with_reducible assumption) | with_reducible exact cell_keep (below_new _ _) (by with_reducible assumption) | (with_reducible refine cell_set _ ?_ (by simp); (repeat with_reducible refine cell_set _ ?_ (by simp)); with_reducible assumption) | with_reducible exact cell_drew (by with_reducible assumption) | go_keep); (repeat (first | with_reducible assumption | with_reducible refine bnext ?_ (by with_reducible assumption) | with_reducible refine bnew ?_ _ | with_reducible refine below_set _ ?_ (by simp) | with_reducible refine Below.drew ?_ | with_reducible refine Below.drewN ?_ _)); done)) (first | (go_at_call 63; refine (nMod_any _ _ _ (by omega) (by omega)).mono ?_; rintro e2 w2 ⟨rfl, rfl⟩))
  obtain ⟨c2_0, c2_1, c2_2, hT2⟩ := (by assumption : _ ∧ _ ∧ _ ∧  _)
  go_wp2
  go_ret
  exact ⟨rfl, hT2⟩
set_option maxHeartbeats 1600000 in
theorem extractKnowledgeI (p q g b y a c z a2 c2 z2 : Int) (w : World) :
    Calls Try.prog 12 #[.agg #[.int .i64 p, .int .i64 q, .int .i64 g], .int .i64 b, .int .i64 y, .agg #[.int .i64 a, .int .i64 c, .int .i64 z], .agg #[.int .i64 a2, .int .i64 c2, .int .i64 z2]] w fun en w' => en = .returned (.tuple #[.int .i64 (extK p q g b y a c z a2 c2 z2).1, .bool (extK p q g b y a c z a2 c2 z2).2]) ∧ Below w.heap.size w w' := by
  have hT0 : Below w.heap.size w (((w.alloc (.cells #[.int .i64 p, .int .i64 q, .int .i64 g] 28)).alloc (.cells #[.int .i64 a, .int .i64 c, .int .i64 z] 30)).alloc (.cells #[.int .i64 a2, .int .i64 c2, .int .i64 z2] 30)) := by repeat (first | exact Below.refl _ _ | refine bnew ?_ _)
  go_enter Try.func12, Try.ntmps12
  go_wp2_with fail
  refine (isValidGroup_any p q g _).mono ?_
  rintro e1 w1 ⟨rfl, hb1⟩
  have hT1 : Below w.heap.size w w1 := bnext (by repeat (first | exact hT0 | refine bnew ?_ _ | refine Below.drew ?_ | refine Below.drewN ?_ _)) hb1
  have c1_0 : w1.cell? ⟨w.heap.size, 0, none⟩ = some (.int .i64 p) := by
    refine cell_keep hb1 ?_
    repeat (first | with_reducible assumption | (refine cell_new' ?_ _ _ _ rfl; focus (simp; done)) | with_reducible refine cell_keep (below_new _ _) ?_)
  have c1_1 : w1.cell? ⟨w.heap.size, 1, none⟩ = some (.int .i64 q) := by
    refine cell_keep hb1 ?_
    repeat (first | with_reducible assumption | (refine cell_new' ?_ _ _ _ rfl; focus (simp; done)) | with_reducible refine cell_keep (below_new _ _) ?_)
  have c1_2 : w1.cell? ⟨w.heap.size, 2, none⟩ = some (.int .i64 g) := by
    refine cell_keep hb1 ?_
    repeat (first | with_reducible assumption | (refine cell_new' ?_ _ _ _ rfl; focus (simp; done)) | with_reducible refine cell_keep (below_new _ _) ?_)
  have c1_3 : w1.cell? ⟨w.heap.size + 1, 0, none⟩ = some (.int .i64 a) := by
    refine cell_keep hb1 ?_
    repeat (first | with_reducible assumption | (refine cell_new' ?_ _ _ _ rfl; focus (simp; done)) | with_reducible refine cell_keep (below_new _ _) ?_)
  have c1_4 : w1.cell? ⟨w.heap.size + 1, 1, none⟩ = some (.int .i64 c) := by
    refine cell_keep hb1 ?_
    repeat (first | with_reducible assumption | (refine cell_new' ?_ _ _ _ rfl; focus (simp; done)) | with_reducible refine cell_keep (below_new _ _) ?_)
  have c1_5 : w1.cell? ⟨w.heap.size + 1, 2, none⟩ = some (.int .i64 z) := by
    refine cell_keep hb1 ?_
    repeat (first | with_reducible assumption | (refine cell_new' ?_ _ _ _ rfl; focus (simp; done)) | with_reducible refine cell_keep (below_new _ _) ?_)
  have c1_6 : w1.cell? ⟨w.heap.size + 1 + 1, 0, none⟩ = some (.int .i64 a2) := by
    refine cell_keep hb1 ?_
    repeat (first | with_reducible assumption | (refine cell_new' ?_ _ _ _ rfl; focus (simp; done)) | with_reducible refine cell_keep (below_new _ _) ?_)
  have c1_7 : w1.cell? ⟨w.heap.size + 1 + 1, 1, none⟩ = some (.int .i64 c2) := by
    refine cell_keep hb1 ?_
    repeat (first | with_reducible assumption | (refine cell_new' ?_ _ _ _ rfl; focus (simp; done)) | with_reducible refine cell_keep (below_new _ _) ?_)
  have c1_8 : w1.cell? ⟨w.heap.size + 1 + 1, 2, none⟩ = some (.int .i64 z2) := by
    refine cell_keep hb1 ?_
    repeat (first | with_reducible assumption | (refine cell_new' ?_ _ _ _ rfl; focus (simp; done)) | with_reducible refine cell_keep (below_new _ _) ?_)
  rcases Bool.eq_false_or_eq_true (M.goodB p q g) with hg | hg
  rotate_left
  · have hR := Lib.hid (show extK p q g b y a c z a2 c2 z2 = (0, false) by unfold extK; rw [if_neg fun hh => Bool.false_ne_true (hg.symm.trans hh.1)])
    go_wp2
    go_ret2
    exact ⟨ret_ib (by rw [hR.out]) (by rw [hR.out]), hT1⟩
  have hG := M.goodB_of hg
  have g1 := hG.q2
  have g2 := hG.qp
  have g3 := hG.p3
  have g4 := hG.pM
  have HG := Lib.hid hG
  clear hG
  go_wp2_with fail
  refine (hasAll_any p q g HG.out _ _ [b, y] (by simp) _ (RI.lit2 _ _ _ _ (by simp))).mono ?_
  rintro e2 w2 ⟨rfl, hb2⟩
  have hT2 : Below w.heap.size w w2 := bnext (by repeat (first | exact hT1 | refine bnew ?_ _ | refine Below.drew ?_ | refine Below.drewN ?_ _)) hb2
  have c2_0 : w2.cell? ⟨w.heap.size, 0, none⟩ = some (.int .i64 p) := by
    refine cell_keep hb2 ?_
    repeat (first | with_reducible assumption | (refine cell_new' ?_ _ _ _ rfl; focus (simp; done)) | with_reducible refine cell_keep (below_new _ _) ?_)
  have c2_1 : w2.cell? ⟨w.heap.size, 1, none⟩ = some (.int .i64 q) := by
    refine cell_keep hb2 ?_
    repeat (first | with_reducible assumption | (refine cell_new' ?_ _ _ _ rfl; focus (simp; done)) | with_reducible refine cell_keep (below_new _ _) ?_)
  have c2_2 : w2.cell? ⟨w.heap.size, 2, none⟩ = some (.int .i64 g) := by
    refine cell_keep hb2 ?_
    repeat (first | with_reducible assumption | (refine cell_new' ?_ _ _ _ rfl; focus (simp; done)) | with_reducible refine cell_keep (below_new _ _) ?_)
  have c2_3 : w2.cell? ⟨w.heap.size + 1, 0, none⟩ = some (.int .i64 a) := by
    refine cell_keep hb2 ?_
    repeat (first | with_reducible assumption | (refine cell_new' ?_ _ _ _ rfl; focus (simp; done)) | with_reducible refine cell_keep (below_new _ _) ?_)
  have c2_4 : w2.cell? ⟨w.heap.size + 1, 1, none⟩ = some (.int .i64 c) := by
    refine cell_keep hb2 ?_
    repeat (first | with_reducible assumption | (refine cell_new' ?_ _ _ _ rfl; focus (simp; done)) | with_reducible refine cell_keep (below_new _ _) ?_)
  have c2_5 : w2.cell? ⟨w.heap.size + 1, 2, none⟩ = some (.int .i64 z) := by
    refine cell_keep hb2 ?_
    repeat (first | with_reducible assumption | (refine cell_new' ?_ _ _ _ rfl; focus (simp; done)) | with_reducible refine cell_keep (below_new _ _) ?_)
  have c2_6 : w2.cell? ⟨w.heap.size + 1 + 1, 0, none⟩ = some (.int .i64 a2) := by
    refine cell_keep hb2 ?_
    repeat (first | with_reducible assumption | (refine cell_new' ?_ _ _ _ rfl; focus (simp; done)) | with_reducible refine cell_keep (below_new _ _) ?_)
  have c2_7 : w2.cell? ⟨w.heap.size + 1 + 1, 1, none⟩ = some (.int .i64 c2) := by
    refine cell_keep hb2 ?_
    repeat (first | with_reducible assumption | (refine cell_new' ?_ _ _ _ rfl; focus (simp; done)) | with_reducible refine cell_keep (below_new _ _) ?_)
  have c2_8 : w2.cell? ⟨w.heap.size + 1 + 1, 2, none⟩ = some (.int .i64 z2) := by
    refine cell_keep hb2 ?_
    repeat (first | with_reducible assumption | (refine cell_new' ?_ _ _ _ rfl; focus (simp; done)) | with_reducible refine cell_keep (below_new _ _) ?_)
  clear c1_0 c1_1 c1_2 c1_3 c1_4 c1_5 c1_6 c1_7 c1_8
  rcases Bool.eq_false_or_eq_true (elemsB p q [b, y]) with he | he
  rotate_left
  · have hR := Lib.hid (show extK p q g b y a c z a2 c2 z2 = (0, false) by unfold extK; rw [if_neg fun hh => Bool.false_ne_true (he.symm.trans hh.2.1)])
    go_wp2
    go_ret2
    exact ⟨ret_ib (by rw [hR.out]) (by rw [hR.out]), hT2⟩
  have l_b := elemsB_mem he (x := b) (by simp)
  have d_b := elem_bd l_b
  have l_y := elemsB_mem he (x := y) (by simp)
  have d_y := elem_bd l_y
  go_wp2_with fail
  refine (hasTranscript_any p q g a c z HG.out _).mono ?_
  rintro e3 w3 ⟨rfl, hb3⟩
  have hT3 : Below w.heap.size w w3 := bnext (by repeat (first | exact hT2 | refine bnew ?_ _ | refine Below.drew ?_ | refine Below.drewN ?_ _)) hb3
  have c3_0 : w3.cell? ⟨w.heap.size, 0, none⟩ = some (.int .i64 p) := by
    refine cell_keep hb3 ?_
    repeat (first | with_reducible assumption | (refine cell_new' ?_ _ _ _ rfl; focus (simp; done)) | with_reducible refine cell_keep (below_new _ _) ?_)
  have c3_1 : w3.cell? ⟨w.heap.size, 1, none⟩ = some (.int .i64 q) := by
    refine cell_keep hb3 ?_
    repeat (first | with_reducible assumption | (refine cell_new' ?_ _ _ _ rfl; focus (simp; done)) | with_reducible refine cell_keep (below_new _ _) ?_)
  have c3_2 : w3.cell? ⟨w.heap.size, 2, none⟩ = some (.int .i64 g) := by
    refine cell_keep hb3 ?_
    repeat (first | with_reducible assumption | (refine cell_new' ?_ _ _ _ rfl; focus (simp; done)) | with_reducible refine cell_keep (below_new _ _) ?_)
  have c3_3 : w3.cell? ⟨w.heap.size + 1, 0, none⟩ = some (.int .i64 a) := by
    refine cell_keep hb3 ?_
    repeat (first | with_reducible assumption | (refine cell_new' ?_ _ _ _ rfl; focus (simp; done)) | with_reducible refine cell_keep (below_new _ _) ?_)
  have c3_4 : w3.cell? ⟨w.heap.size + 1, 1, none⟩ = some (.int .i64 c) := by
    refine cell_keep hb3 ?_
    repeat (first | with_reducible assumption | (refine cell_new' ?_ _ _ _ rfl; focus (simp; done)) | with_reducible refine cell_keep (below_new _ _) ?_)
  have c3_5 : w3.cell? ⟨w.heap.size + 1, 2, none⟩ = some (.int .i64 z) := by
    refine cell_keep hb3 ?_
    repeat (first | with_reducible assumption | (refine cell_new' ?_ _ _ _ rfl; focus (simp; done)) | with_reducible refine cell_keep (below_new _ _) ?_)
  have c3_6 : w3.cell? ⟨w.heap.size + 1 + 1, 0, none⟩ = some (.int .i64 a2) := by
    refine cell_keep hb3 ?_
    repeat (first | with_reducible assumption | (refine cell_new' ?_ _ _ _ rfl; focus (simp; done)) | with_reducible refine cell_keep (below_new _ _) ?_)
  have c3_7 : w3.cell? ⟨w.heap.size + 1 + 1, 1, none⟩ = some (.int .i64 c2) := by
    refine cell_keep hb3 ?_
    repeat (first | with_reducible assumption | (refine cell_new' ?_ _ _ _ rfl; focus (simp; done)) | with_reducible refine cell_keep (below_new _ _) ?_)
  have c3_8 : w3.cell? ⟨w.heap.size + 1 + 1, 2, none⟩ = some (.int .i64 z2) := by
    refine cell_keep hb3 ?_
    repeat (first | with_reducible assumption | (refine cell_new' ?_ _ _ _ rfl; focus (simp; done)) | with_reducible refine cell_keep (below_new _ _) ?_)
  clear c2_0 c2_1 c2_2 c2_3 c2_4 c2_5 c2_6 c2_7 c2_8
  rcases Bool.eq_false_or_eq_true (elemB p q a && expsB q [c, z]) with h2 | h2
  rotate_left
  · have hR := Lib.hid (show extK p q g b y a c z a2 c2 z2 = (0, false) by unfold extK; rw [if_neg fun hh => Bool.false_ne_true (h2.symm.trans hh.2.2.1)])
    go_wp2
    go_ret2
    exact ⟨ret_ib (by rw [hR.out]) (by rw [hR.out]), hT3⟩
  have x1h2 : elemB p q a = true := by revert h2; cases elemB p q a <;> simp
  have x2h2 : expsB q [c, z] = true := by revert h2; cases expsB q [c, z] <;> simp
  have d_a := elem_bd (elemB_t x1h2)
  have b_c := expsB_mem x2h2 (e := c) (by simp)
  have b_z := expsB_mem x2h2 (e := z) (by simp)
  clear x1h2 x2h2
  go_wp2_with fail
  refine (hasTranscript_any p q g a2 c2 z2 HG.out _).mono ?_
  rintro e4 w4 ⟨rfl, hb4⟩
  have hT4 : Below w.heap.size w w4 := bnext (by repeat (first | exact hT3 | refine bnew ?_ _ | refine Below.drew ?_ | refine Below.drewN ?_ _)) hb4
  have c4_0 : w4.cell? ⟨w.heap.size, 0, none⟩ = some (.int .i64 p) := by
    refine cell_keep hb4 ?_
    repeat (first | with_reducible assumption | (refine cell_new' ?_ _ _ _ rfl; focus (simp; done)) | with_reducible refine cell_keep (below_new _ _) ?_)
  have c4_1 : w4.cell? ⟨w.heap.size, 1, none⟩ = some (.int .i64 q) := by
    refine cell_keep hb4 ?_
    repeat (first | with_reducible assumption | (refine cell_new' ?_ _ _ _ rfl; focus (simp; done)) | with_reducible refine cell_keep (below_new _ _) ?_)
  have c4_2 : w4.cell? ⟨w.heap.size, 2, none⟩ = some (.int .i64 g) := by
    refine cell_keep hb4 ?_
    repeat (first | with_reducible assumption | (refine cell_new' ?_ _ _ _ rfl; focus (simp; done)) | with_reducible refine cell_keep (below_new _ _) ?_)
  have c4_3 : w4.cell? ⟨w.heap.size + 1, 0, none⟩ = some (.int .i64 a) := by
    refine cell_keep hb4 ?_
    repeat (first | with_reducible assumption | (refine cell_new' ?_ _ _ _ rfl; focus (simp; done)) | with_reducible refine cell_keep (below_new _ _) ?_)
  have c4_4 : w4.cell? ⟨w.heap.size + 1, 1, none⟩ = some (.int .i64 c) := by
    refine cell_keep hb4 ?_
    repeat (first | with_reducible assumption | (refine cell_new' ?_ _ _ _ rfl; focus (simp; done)) | with_reducible refine cell_keep (below_new _ _) ?_)
  have c4_5 : w4.cell? ⟨w.heap.size + 1, 2, none⟩ = some (.int .i64 z) := by
    refine cell_keep hb4 ?_
    repeat (first | with_reducible assumption | (refine cell_new' ?_ _ _ _ rfl; focus (simp; done)) | with_reducible refine cell_keep (below_new _ _) ?_)
  have c4_6 : w4.cell? ⟨w.heap.size + 1 + 1, 0, none⟩ = some (.int .i64 a2) := by
    refine cell_keep hb4 ?_
    repeat (first | with_reducible assumption | (refine cell_new' ?_ _ _ _ rfl; focus (simp; done)) | with_reducible refine cell_keep (below_new _ _) ?_)
  have c4_7 : w4.cell? ⟨w.heap.size + 1 + 1, 1, none⟩ = some (.int .i64 c2) := by
    refine cell_keep hb4 ?_
    repeat (first | with_reducible assumption | (refine cell_new' ?_ _ _ _ rfl; focus (simp; done)) | with_reducible refine cell_keep (below_new _ _) ?_)
  have c4_8 : w4.cell? ⟨w.heap.size + 1 + 1, 2, none⟩ = some (.int .i64 z2) := by
    refine cell_keep hb4 ?_
    repeat (first | with_reducible assumption | (refine cell_new' ?_ _ _ _ rfl; focus (simp; done)) | with_reducible refine cell_keep (below_new _ _) ?_)
  clear c3_0 c3_1 c3_2 c3_3 c3_4 c3_5 c3_6 c3_7 c3_8
  rcases Bool.eq_false_or_eq_true (elemB p q a2 && expsB q [c2, z2]) with h3 | h3
  rotate_left
  · have hR := Lib.hid (show extK p q g b y a c z a2 c2 z2 = (0, false) by unfold extK; rw [if_neg fun hh => Bool.false_ne_true (h3.symm.trans hh.2.2.2.1)])
    go_wp2
    go_ret2
    exact ⟨ret_ib (by rw [hR.out]) (by rw [hR.out]), hT4⟩
  have x1h3 : elemB p q a2 = true := by revert h3; cases elemB p q a2 <;> simp
  have x2h3 : expsB q [c2, z2] = true := by revert h3; cases expsB q [c2, z2] <;> simp
  have d_a2 := elem_bd (elemB_t x1h3)
  have b_c2 := expsB_mem x2h3 (e := c2) (by simp)
  have b_z2 := expsB_mem x2h3 (e := z2) (by simp)
  clear x1h3 x2h3
  go_wp2_with fail
  refine (accepts_any p q g b y a c z HG.out (by assumption) (by assumption) (by assumption) (by omega) (by omega) _).mono ?_
  rintro e5 w5 ⟨rfl, hb5⟩
  have hT5 : Below w.heap.size w w5 := bnext (by repeat (first | exact hT4 | refine bnew ?_ _ | refine Below.drew ?_ | refine Below.drewN ?_ _)) hb5
  have c5_0 : w5.cell? ⟨w.heap.size, 0, none⟩ = some (.int .i64 p) := by
    refine cell_keep hb5 ?_
    repeat (first | with_reducible assumption | (refine cell_new' ?_ _ _ _ rfl; focus (simp; done)) | with_reducible refine cell_keep (below_new _ _) ?_)
  have c5_1 : w5.cell? ⟨w.heap.size, 1, none⟩ = some (.int .i64 q) := by
    refine cell_keep hb5 ?_
    repeat (first | with_reducible assumption | (refine cell_new' ?_ _ _ _ rfl; focus (simp; done)) | with_reducible refine cell_keep (below_new _ _) ?_)
  have c5_2 : w5.cell? ⟨w.heap.size, 2, none⟩ = some (.int .i64 g) := by
    refine cell_keep hb5 ?_
    repeat (first | with_reducible assumption | (refine cell_new' ?_ _ _ _ rfl; focus (simp; done)) | with_reducible refine cell_keep (below_new _ _) ?_)
  have c5_3 : w5.cell? ⟨w.heap.size + 1, 0, none⟩ = some (.int .i64 a) := by
    refine cell_keep hb5 ?_
    repeat (first | with_reducible assumption | (refine cell_new' ?_ _ _ _ rfl; focus (simp; done)) | with_reducible refine cell_keep (below_new _ _) ?_)
  have c5_4 : w5.cell? ⟨w.heap.size + 1, 1, none⟩ = some (.int .i64 c) := by
    refine cell_keep hb5 ?_
    repeat (first | with_reducible assumption | (refine cell_new' ?_ _ _ _ rfl; focus (simp; done)) | with_reducible refine cell_keep (below_new _ _) ?_)
  have c5_5 : w5.cell? ⟨w.heap.size + 1, 2, none⟩ = some (.int .i64 z) := by
    refine cell_keep hb5 ?_
    repeat (first | with_reducible assumption | (refine cell_new' ?_ _ _ _ rfl; focus (simp; done)) | with_reducible refine cell_keep (below_new _ _) ?_)
  have c5_6 : w5.cell? ⟨w.heap.size + 1 + 1, 0, none⟩ = some (.int .i64 a2) := by
    refine cell_keep hb5 ?_
    repeat (first | with_reducible assumption | (refine cell_new' ?_ _ _ _ rfl; focus (simp; done)) | with_reducible refine cell_keep (below_new _ _) ?_)
  have c5_7 : w5.cell? ⟨w.heap.size + 1 + 1, 1, none⟩ = some (.int .i64 c2) := by
    refine cell_keep hb5 ?_
    repeat (first | with_reducible assumption | (refine cell_new' ?_ _ _ _ rfl; focus (simp; done)) | with_reducible refine cell_keep (below_new _ _) ?_)
  have c5_8 : w5.cell? ⟨w.heap.size + 1 + 1, 2, none⟩ = some (.int .i64 z2) := by
    refine cell_keep hb5 ?_
    repeat (first | with_reducible assumption | (refine cell_new' ?_ _ _ _ rfl; focus (simp; done)) | with_reducible refine cell_keep (below_new _ _) ?_)
  clear c4_0 c4_1 c4_2 c4_3 c4_4 c4_5 c4_6 c4_7 c4_8
  rcases Bool.eq_false_or_eq_true (acc p q b y a c z) with h4 | h4
  rotate_left
  · have hR := Lib.hid (show extK p q g b y a c z a2 c2 z2 = (0, false) by unfold extK; rw [if_neg fun hh => Bool.false_ne_true (h4.symm.trans hh.2.2.2.2.1)])
    go_wp2
    go_ret2
    exact ⟨ret_ib (by rw [hR.out]) (by rw [hR.out]), hT5⟩
  go_wp2_with fail
  refine (accepts_any p q g b y a2 c2 z2 HG.out (by assumption) (by assumption) (by assumption) (by omega) (by omega) _).mono ?_
  rintro e6 w6 ⟨rfl, hb6⟩
  have hT6 : Below w.heap.size w w6 := bnext (by repeat (first | exact hT5 | refine bnew ?_ _ | refine Below.drew ?_ | refine Below.drewN ?_ _)) hb6
  have c6_0 : w6.cell? ⟨w.heap.size, 0, none⟩ = some (.int .i64 p) := by
    refine cell_keep hb6 ?_
    repeat (first | with_reducible assumption | (refine cell_new' ?_ _ _ _ rfl; focus (simp; done)) | with_reducible refine cell_keep (below_new _ _) ?_)
  have c6_1 : w6.cell? ⟨w.heap.size, 1, none⟩ = some (.int .i64 q) := by
    refine cell_keep hb6 ?_
    repeat (first | with_reducible assumption | (refine cell_new' ?_ _ _ _ rfl; focus (simp; done)) | with_reducible refine cell_keep (below_new _ _) ?_)
  have c6_2 : w6.cell? ⟨w.heap.size, 2, none⟩ = some (.int .i64 g) := by
    refine cell_keep hb6 ?_
    repeat (first | with_reducible assumption | (refine cell_new' ?_ _ _ _ rfl; focus (simp; done)) | with_reducible refine cell_keep (below_new _ _) ?_)
  have c6_3 : w6.cell? ⟨w.heap.size + 1, 0, none⟩ = some (.int .i64 a) := by
    refine cell_keep hb6 ?_
    repeat (first | with_reducible assumption | (refine cell_new' ?_ _ _ _ rfl; focus (simp; done)) | with_reducible refine cell_keep (below_new _ _) ?_)
  have c6_4 : w6.cell? ⟨w.heap.size + 1, 1, none⟩ = some (.int .i64 c) := by
    refine cell_keep hb6 ?_
    repeat (first | with_reducible assumption | (refine cell_new' ?_ _ _ _ rfl; focus (simp; done)) | with_reducible refine cell_keep (below_new _ _) ?_)
  have c6_5 : w6.cell? ⟨w.heap.size + 1, 2, none⟩ = some (.int .i64 z) := by
    refine cell_keep hb6 ?_
    repeat (first | with_reducible assumption | (refine cell_new' ?_ _ _ _ rfl; focus (simp; done)) | with_reducible refine cell_keep (below_new _ _) ?_)
  have c6_6 : w6.cell? ⟨w.heap.size + 1 + 1, 0, none⟩ = some (.int .i64 a2) := by
    refine cell_keep hb6 ?_
    repeat (first | with_reducible assumption | (refine cell_new' ?_ _ _ _ rfl; focus (simp; done)) | with_reducible refine cell_keep (below_new _ _) ?_)
  have c6_7 : w6.cell? ⟨w.heap.size + 1 + 1, 1, none⟩ = some (.int .i64 c2) := by
    refine cell_keep hb6 ?_
    repeat (first | with_reducible assumption | (refine cell_new' ?_ _ _ _ rfl; focus (simp; done)) | with_reducible refine cell_keep (below_new _ _) ?_)
  have c6_8 : w6.cell? ⟨w.heap.size + 1 + 1, 2, none⟩ = some (.int .i64 z2) := by
    refine cell_keep hb6 ?_
    repeat (first | with_reducible assumption | (refine cell_new' ?_ _ _ _ rfl; focus (simp; done)) | with_reducible refine cell_keep (below_new _ _) ?_)
  clear c5_0 c5_1 c5_2 c5_3 c5_4 c5_5 c5_6 c5_7 c5_8
  rcases Bool.eq_false_or_eq_true (acc p q b y a2 c2 z2) with h5 | h5
  rotate_left
  · have hR := Lib.hid (show extK p q g b y a c z a2 c2 z2 = (0, false) by unfold extK; rw [if_neg fun hh => Bool.false_ne_true (h5.symm.trans hh.2.2.2.2.2.1)])
    go_wp2
    go_ret2
    exact ⟨ret_ib (by rw [hR.out]) (by rw [hR.out]), hT6⟩
  rcases Bool.eq_false_or_eq_true (decide (a = a2)) with h6 | h6
  rotate_left
  · have t6 : (a != a2) = true := by simpa using of_decide_eq_false h6
    have hR := Lib.hid (show extK p q g b y a c z a2 c2 z2 = (0, false) by unfold extK; rw [if_neg fun hh => Bool.false_ne_true (h6.symm.trans hh.2.2.2.2.2.2.1)])
    go_wp2
    go_ret2
    exact ⟨ret_ib (by rw [hR.out]) (by rw [hR.out]), hT6⟩
  have t6 : (a != a2) = false := by simpa using of_decide_eq_true h6
  rcases Bool.eq_false_or_eq_true (decide (c ≠ c2)) with h7 | h7
  rotate_left
  · have t7 : (c == c2) = true := by simpa using of_decide_eq_false h7
    have hR := Lib.hid (show extK p q g b y a c z a2 c2 z2 = (0, false) by unfold extK; rw [if_neg fun hh => Bool.false_ne_true (h7.symm.trans hh.2.2.2.2.2.2.2)])
    go_wp2
    go_ret2
    exact ⟨ret_ib (by rw [hR.out]) (by rw [hR.out]), hT6⟩
  have t7 : (c == c2) = false := by simpa using of_decide_eq_true h7
  have N7 := Lib.hid (of_decide_eq_true h7)
  have hR := Lib.hid (show extK p q g b y a c z a2 c2 z2 = (slopeV q z z2 c c2, true) by unfold extK; rw [if_pos ⟨hg, he, h2, h3, h4, h5, h6, h7⟩])
  go_wp2_with fail
  refine (extracted_any p q g c z c2 z2 HG.out (by assumption) (by assumption) (by assumption) (by assumption) _).mono ?_
  rintro e7 w7 ⟨rfl, hb7⟩
  have hT7 : Below w.heap.size w w7 := bnext (by repeat (first | exact hT6 | refine bnew ?_ _ | refine Below.drew ?_ | refine Below.drewN ?_ _)) hb7
  have c7_0 : w7.cell? ⟨w.heap.size, 0, none⟩ = some (.int .i64 p) := by
    refine cell_keep hb7 ?_
    repeat (first | with_reducible assumption | (refine cell_new' ?_ _ _ _ rfl; focus (simp; done)) | with_reducible refine cell_keep (below_new _ _) ?_)
  have c7_1 : w7.cell? ⟨w.heap.size, 1, none⟩ = some (.int .i64 q) := by
    refine cell_keep hb7 ?_
    repeat (first | with_reducible assumption | (refine cell_new' ?_ _ _ _ rfl; focus (simp; done)) | with_reducible refine cell_keep (below_new _ _) ?_)
  have c7_2 : w7.cell? ⟨w.heap.size, 2, none⟩ = some (.int .i64 g) := by
    refine cell_keep hb7 ?_
    repeat (first | with_reducible assumption | (refine cell_new' ?_ _ _ _ rfl; focus (simp; done)) | with_reducible refine cell_keep (below_new _ _) ?_)
  have c7_3 : w7.cell? ⟨w.heap.size + 1, 0, none⟩ = some (.int .i64 a) := by
    refine cell_keep hb7 ?_
    repeat (first | with_reducible assumption | (refine cell_new' ?_ _ _ _ rfl; focus (simp; done)) | with_reducible refine cell_keep (below_new _ _) ?_)
  have c7_4 : w7.cell? ⟨w.heap.size + 1, 1, none⟩ = some (.int .i64 c) := by
    refine cell_keep hb7 ?_
    repeat (first | with_reducible assumption | (refine cell_new' ?_ _ _ _ rfl; focus (simp; done)) | with_reducible refine cell_keep (below_new _ _) ?_)
  have c7_5 : w7.cell? ⟨w.heap.size + 1, 2, none⟩ = some (.int .i64 z) := by
    refine cell_keep hb7 ?_
    repeat (first | with_reducible assumption | (refine cell_new' ?_ _ _ _ rfl; focus (simp; done)) | with_reducible refine cell_keep (below_new _ _) ?_)
  have c7_6 : w7.cell? ⟨w.heap.size + 1 + 1, 0, none⟩ = some (.int .i64 a2) := by
    refine cell_keep hb7 ?_
    repeat (first | with_reducible assumption | (refine cell_new' ?_ _ _ _ rfl; focus (simp; done)) | with_reducible refine cell_keep (below_new _ _) ?_)
  have c7_7 : w7.cell? ⟨w.heap.size + 1 + 1, 1, none⟩ = some (.int .i64 c2) := by
    refine cell_keep hb7 ?_
    repeat (first | with_reducible assumption | (refine cell_new' ?_ _ _ _ rfl; focus (simp; done)) | with_reducible refine cell_keep (below_new _ _) ?_)
  have c7_8 : w7.cell? ⟨w.heap.size + 1 + 1, 2, none⟩ = some (.int .i64 z2) := by
    refine cell_keep hb7 ?_
    repeat (first | with_reducible assumption | (refine cell_new' ?_ _ _ _ rfl; focus (simp; done)) | with_reducible refine cell_keep (below_new _ _) ?_)
  clear c6_0 c6_1 c6_2 c6_3 c6_4 c6_5 c6_6 c6_7 c6_8
  go_wp2
  go_ret2
  exact ⟨ret_ib (by rw [hR.out]) (by rw [hR.out]), hT7⟩
set_option maxHeartbeats 1600000 in
theorem extractKnowledgeS (p q g b y a c z a2 c2 z2 : Int) (w : World) :
    Calls Try.prog 9 #[.agg #[.int .i64 p, .int .i64 q, .int .i64 g], .int .i64 b, .int .i64 y, .agg #[.int .i64 a, .int .i64 c, .int .i64 z], .agg #[.int .i64 a2, .int .i64 c2, .int .i64 z2]] w fun en w' => en = .returned (.tuple #[.int .i64 (extK p q g b y a c z a2 c2 z2).1, .bool (extK p q g b y a c z a2 c2 z2).2]) ∧ Below w.heap.size w w' := by
  have hT0 : Below w.heap.size w (((w.alloc (.cells #[.int .i64 p, .int .i64 q, .int .i64 g] 28)).alloc (.cells #[.int .i64 a, .int .i64 c, .int .i64 z] 30)).alloc (.cells #[.int .i64 a2, .int .i64 c2, .int .i64 z2] 30)) := by repeat (first | exact Below.refl _ _ | refine bnew ?_ _)
  go_enter Try.func9, Try.ntmps9
  go_wp2_with fail
  refine (l2Good_any p q g _).mono ?_
  rintro e1 w1 ⟨rfl, hb1⟩
  have hT1 : Below w.heap.size w w1 := bnext (by repeat (first | exact hT0 | refine bnew ?_ _ | refine Below.drew ?_ | refine Below.drewN ?_ _)) hb1
  have c1_0 : w1.cell? ⟨w.heap.size, 0, none⟩ = some (.int .i64 p) := by
    refine cell_keep hb1 ?_
    repeat (first | with_reducible assumption | (refine cell_new' ?_ _ _ _ rfl; focus (simp; done)) | with_reducible refine cell_keep (below_new _ _) ?_)
  have c1_1 : w1.cell? ⟨w.heap.size, 1, none⟩ = some (.int .i64 q) := by
    refine cell_keep hb1 ?_
    repeat (first | with_reducible assumption | (refine cell_new' ?_ _ _ _ rfl; focus (simp; done)) | with_reducible refine cell_keep (below_new _ _) ?_)
  have c1_2 : w1.cell? ⟨w.heap.size, 2, none⟩ = some (.int .i64 g) := by
    refine cell_keep hb1 ?_
    repeat (first | with_reducible assumption | (refine cell_new' ?_ _ _ _ rfl; focus (simp; done)) | with_reducible refine cell_keep (below_new _ _) ?_)
  have c1_3 : w1.cell? ⟨w.heap.size + 1, 0, none⟩ = some (.int .i64 a) := by
    refine cell_keep hb1 ?_
    repeat (first | with_reducible assumption | (refine cell_new' ?_ _ _ _ rfl; focus (simp; done)) | with_reducible refine cell_keep (below_new _ _) ?_)
  have c1_4 : w1.cell? ⟨w.heap.size + 1, 1, none⟩ = some (.int .i64 c) := by
    refine cell_keep hb1 ?_
    repeat (first | with_reducible assumption | (refine cell_new' ?_ _ _ _ rfl; focus (simp; done)) | with_reducible refine cell_keep (below_new _ _) ?_)
  have c1_5 : w1.cell? ⟨w.heap.size + 1, 2, none⟩ = some (.int .i64 z) := by
    refine cell_keep hb1 ?_
    repeat (first | with_reducible assumption | (refine cell_new' ?_ _ _ _ rfl; focus (simp; done)) | with_reducible refine cell_keep (below_new _ _) ?_)
  have c1_6 : w1.cell? ⟨w.heap.size + 1 + 1, 0, none⟩ = some (.int .i64 a2) := by
    refine cell_keep hb1 ?_
    repeat (first | with_reducible assumption | (refine cell_new' ?_ _ _ _ rfl; focus (simp; done)) | with_reducible refine cell_keep (below_new _ _) ?_)
  have c1_7 : w1.cell? ⟨w.heap.size + 1 + 1, 1, none⟩ = some (.int .i64 c2) := by
    refine cell_keep hb1 ?_
    repeat (first | with_reducible assumption | (refine cell_new' ?_ _ _ _ rfl; focus (simp; done)) | with_reducible refine cell_keep (below_new _ _) ?_)
  have c1_8 : w1.cell? ⟨w.heap.size + 1 + 1, 2, none⟩ = some (.int .i64 z2) := by
    refine cell_keep hb1 ?_
    repeat (first | with_reducible assumption | (refine cell_new' ?_ _ _ _ rfl; focus (simp; done)) | with_reducible refine cell_keep (below_new _ _) ?_)
  rcases Bool.eq_false_or_eq_true (M.goodB p q g) with hg | hg
  rotate_left
  · have hR := Lib.hid (show extK p q g b y a c z a2 c2 z2 = (0, false) by unfold extK; rw [if_neg fun hh => Bool.false_ne_true (hg.symm.trans hh.1)])
    go_wp2
    go_ret2
    exact ⟨ret_ib (by rw [hR.out]) (by rw [hR.out]), hT1⟩
  have hG := M.goodB_of hg
  have g1 := hG.q2
  have g2 := hG.qp
  have g3 := hG.p3
  have g4 := hG.pM
  have HG := Lib.hid hG
  clear hG
  go_wp2_with fail
  refine (gIs_any p q g HG.out _ _ [b, y] (by simp) _ (RI.lit2 _ _ _ _ (by simp))).mono ?_
  rintro e2 w2 ⟨rfl, hb2⟩
  have hT2 : Below w.heap.size w w2 := bnext (by repeat (first | exact hT1 | refine bnew ?_ _ | refine Below.drew ?_ | refine Below.drewN ?_ _)) hb2
  have c2_0 : w2.cell? ⟨w.heap.size, 0, none⟩ = some (.int .i64 p) := by
    refine cell_keep hb2 ?_
    repeat (first | with_reducible assumption | (refine cell_new' ?_ _ _ _ rfl; focus (simp; done)) | with_reducible refine cell_keep (below_new _ _) ?_)
  have c2_1 : w2.cell? ⟨w.heap.size, 1, none⟩ = some (.int .i64 q) := by
    refine cell_keep hb2 ?_
    repeat (first | with_reducible assumption | (refine cell_new' ?_ _ _ _ rfl; focus (simp; done)) | with_reducible refine cell_keep (below_new _ _) ?_)
  have c2_2 : w2.cell? ⟨w.heap.size, 2, none⟩ = some (.int .i64 g) := by
    refine cell_keep hb2 ?_
    repeat (first | with_reducible assumption | (refine cell_new' ?_ _ _ _ rfl; focus (simp; done)) | with_reducible refine cell_keep (below_new _ _) ?_)
  have c2_3 : w2.cell? ⟨w.heap.size + 1, 0, none⟩ = some (.int .i64 a) := by
    refine cell_keep hb2 ?_
    repeat (first | with_reducible assumption | (refine cell_new' ?_ _ _ _ rfl; focus (simp; done)) | with_reducible refine cell_keep (below_new _ _) ?_)
  have c2_4 : w2.cell? ⟨w.heap.size + 1, 1, none⟩ = some (.int .i64 c) := by
    refine cell_keep hb2 ?_
    repeat (first | with_reducible assumption | (refine cell_new' ?_ _ _ _ rfl; focus (simp; done)) | with_reducible refine cell_keep (below_new _ _) ?_)
  have c2_5 : w2.cell? ⟨w.heap.size + 1, 2, none⟩ = some (.int .i64 z) := by
    refine cell_keep hb2 ?_
    repeat (first | with_reducible assumption | (refine cell_new' ?_ _ _ _ rfl; focus (simp; done)) | with_reducible refine cell_keep (below_new _ _) ?_)
  have c2_6 : w2.cell? ⟨w.heap.size + 1 + 1, 0, none⟩ = some (.int .i64 a2) := by
    refine cell_keep hb2 ?_
    repeat (first | with_reducible assumption | (refine cell_new' ?_ _ _ _ rfl; focus (simp; done)) | with_reducible refine cell_keep (below_new _ _) ?_)
  have c2_7 : w2.cell? ⟨w.heap.size + 1 + 1, 1, none⟩ = some (.int .i64 c2) := by
    refine cell_keep hb2 ?_
    repeat (first | with_reducible assumption | (refine cell_new' ?_ _ _ _ rfl; focus (simp; done)) | with_reducible refine cell_keep (below_new _ _) ?_)
  have c2_8 : w2.cell? ⟨w.heap.size + 1 + 1, 2, none⟩ = some (.int .i64 z2) := by
    refine cell_keep hb2 ?_
    repeat (first | with_reducible assumption | (refine cell_new' ?_ _ _ _ rfl; focus (simp; done)) | with_reducible refine cell_keep (below_new _ _) ?_)
  clear c1_0 c1_1 c1_2 c1_3 c1_4 c1_5 c1_6 c1_7 c1_8
  rcases Bool.eq_false_or_eq_true (elemsB p q [b, y]) with he | he
  rotate_left
  · have hR := Lib.hid (show extK p q g b y a c z a2 c2 z2 = (0, false) by unfold extK; rw [if_neg fun hh => Bool.false_ne_true (he.symm.trans hh.2.1)])
    go_wp2
    go_ret2
    exact ⟨ret_ib (by rw [hR.out]) (by rw [hR.out]), hT2⟩
  have l_b := elemsB_mem he (x := b) (by simp)
  have d_b := elem_bd l_b
  have l_y := elemsB_mem he (x := y) (by simp)
  have d_y := elem_bd l_y
  go_wp2_with fail
  refine (xTranscript_any p q g a c z HG.out _).mono ?_
  rintro e3 w3 ⟨rfl, hb3⟩
  have hT3 : Below w.heap.size w w3 := bnext (by repeat (first | exact hT2 | refine bnew ?_ _ | refine Below.drew ?_ | refine Below.drewN ?_ _)) hb3
  have c3_0 : w3.cell? ⟨w.heap.size, 0, none⟩ = some (.int .i64 p) := by
    refine cell_keep hb3 ?_
    repeat (first | with_reducible assumption | (refine cell_new' ?_ _ _ _ rfl; focus (simp; done)) | with_reducible refine cell_keep (below_new _ _) ?_)
  have c3_1 : w3.cell? ⟨w.heap.size, 1, none⟩ = some (.int .i64 q) := by
    refine cell_keep hb3 ?_
    repeat (first | with_reducible assumption | (refine cell_new' ?_ _ _ _ rfl; focus (simp; done)) | with_reducible refine cell_keep (below_new _ _) ?_)
  have c3_2 : w3.cell? ⟨w.heap.size, 2, none⟩ = some (.int .i64 g) := by
    refine cell_keep hb3 ?_
    repeat (first | with_reducible assumption | (refine cell_new' ?_ _ _ _ rfl; focus (simp; done)) | with_reducible refine cell_keep (below_new _ _) ?_)
  have c3_3 : w3.cell? ⟨w.heap.size + 1, 0, none⟩ = some (.int .i64 a) := by
    refine cell_keep hb3 ?_
    repeat (first | with_reducible assumption | (refine cell_new' ?_ _ _ _ rfl; focus (simp; done)) | with_reducible refine cell_keep (below_new _ _) ?_)
  have c3_4 : w3.cell? ⟨w.heap.size + 1, 1, none⟩ = some (.int .i64 c) := by
    refine cell_keep hb3 ?_
    repeat (first | with_reducible assumption | (refine cell_new' ?_ _ _ _ rfl; focus (simp; done)) | with_reducible refine cell_keep (below_new _ _) ?_)
  have c3_5 : w3.cell? ⟨w.heap.size + 1, 2, none⟩ = some (.int .i64 z) := by
    refine cell_keep hb3 ?_
    repeat (first | with_reducible assumption | (refine cell_new' ?_ _ _ _ rfl; focus (simp; done)) | with_reducible refine cell_keep (below_new _ _) ?_)
  have c3_6 : w3.cell? ⟨w.heap.size + 1 + 1, 0, none⟩ = some (.int .i64 a2) := by
    refine cell_keep hb3 ?_
    repeat (first | with_reducible assumption | (refine cell_new' ?_ _ _ _ rfl; focus (simp; done)) | with_reducible refine cell_keep (below_new _ _) ?_)
  have c3_7 : w3.cell? ⟨w.heap.size + 1 + 1, 1, none⟩ = some (.int .i64 c2) := by
    refine cell_keep hb3 ?_
    repeat (first | with_reducible assumption | (refine cell_new' ?_ _ _ _ rfl; focus (simp; done)) | with_reducible refine cell_keep (below_new _ _) ?_)
  have c3_8 : w3.cell? ⟨w.heap.size + 1 + 1, 2, none⟩ = some (.int .i64 z2) := by
    refine cell_keep hb3 ?_
    repeat (first | with_reducible assumption | (refine cell_new' ?_ _ _ _ rfl; focus (simp; done)) | with_reducible refine cell_keep (below_new _ _) ?_)
  clear c2_0 c2_1 c2_2 c2_3 c2_4 c2_5 c2_6 c2_7 c2_8
  rcases Bool.eq_false_or_eq_true (elemB p q a && expsB q [c, z]) with h2 | h2
  rotate_left
  · have hR := Lib.hid (show extK p q g b y a c z a2 c2 z2 = (0, false) by unfold extK; rw [if_neg fun hh => Bool.false_ne_true (h2.symm.trans hh.2.2.1)])
    go_wp2
    go_ret2
    exact ⟨ret_ib (by rw [hR.out]) (by rw [hR.out]), hT3⟩
  have x1h2 : elemB p q a = true := by revert h2; cases elemB p q a <;> simp
  have x2h2 : expsB q [c, z] = true := by revert h2; cases expsB q [c, z] <;> simp
  have d_a := elem_bd (elemB_t x1h2)
  have b_c := expsB_mem x2h2 (e := c) (by simp)
  have b_z := expsB_mem x2h2 (e := z) (by simp)
  clear x1h2 x2h2
  go_wp2_with fail
  refine (xTranscript_any p q g a2 c2 z2 HG.out _).mono ?_
  rintro e4 w4 ⟨rfl, hb4⟩
  have hT4 : Below w.heap.size w w4 := bnext (by repeat (first | exact hT3 | refine bnew ?_ _ | refine Below.drew ?_ | refine Below.drewN ?_ _)) hb4
  have c4_0 : w4.cell? ⟨w.heap.size, 0, none⟩ = some (.int .i64 p) := by
    refine cell_keep hb4 ?_
    repeat (first | with_reducible assumption | (refine cell_new' ?_ _ _ _ rfl; focus (simp; done)) | with_reducible refine cell_keep (below_new _ _) ?_)
  have c4_1 : w4.cell? ⟨w.heap.size, 1, none⟩ = some (.int .i64 q) := by
    refine cell_keep hb4 ?_
    repeat (first | with_reducible assumption | (refine cell_new' ?_ _ _ _ rfl; focus (simp; done)) | with_reducible refine cell_keep (below_new _ _) ?_)
  have c4_2 : w4.cell? ⟨w.heap.size, 2, none⟩ = some (.int .i64 g) := by
    refine cell_keep hb4 ?_
    repeat (first | with_reducible assumption | (refine cell_new' ?_ _ _ _ rfl; focus (simp; done)) | with_reducible refine cell_keep (below_new _ _) ?_)
  have c4_3 : w4.cell? ⟨w.heap.size + 1, 0, none⟩ = some (.int .i64 a) := by
    refine cell_keep hb4 ?_
    repeat (first | with_reducible assumption | (refine cell_new' ?_ _ _ _ rfl; focus (simp; done)) | with_reducible refine cell_keep (below_new _ _) ?_)
  have c4_4 : w4.cell? ⟨w.heap.size + 1, 1, none⟩ = some (.int .i64 c) := by
    refine cell_keep hb4 ?_
    repeat (first | with_reducible assumption | (refine cell_new' ?_ _ _ _ rfl; focus (simp; done)) | with_reducible refine cell_keep (below_new _ _) ?_)
  have c4_5 : w4.cell? ⟨w.heap.size + 1, 2, none⟩ = some (.int .i64 z) := by
    refine cell_keep hb4 ?_
    repeat (first | with_reducible assumption | (refine cell_new' ?_ _ _ _ rfl; focus (simp; done)) | with_reducible refine cell_keep (below_new _ _) ?_)
  have c4_6 : w4.cell? ⟨w.heap.size + 1 + 1, 0, none⟩ = some (.int .i64 a2) := by
    refine cell_keep hb4 ?_
    repeat (first | with_reducible assumption | (refine cell_new' ?_ _ _ _ rfl; focus (simp; done)) | with_reducible refine cell_keep (below_new _ _) ?_)
  have c4_7 : w4.cell? ⟨w.heap.size + 1 + 1, 1, none⟩ = some (.int .i64 c2) := by
    refine cell_keep hb4 ?_
    repeat (first | with_reducible assumption | (refine cell_new' ?_ _ _ _ rfl; focus (simp; done)) | with_reducible refine cell_keep (below_new _ _) ?_)
  have c4_8 : w4.cell? ⟨w.heap.size + 1 + 1, 2, none⟩ = some (.int .i64 z2) := by
    refine cell_keep hb4 ?_
    repeat (first | with_reducible assumption | (refine cell_new' ?_ _ _ _ rfl; focus (simp; done)) | with_reducible refine cell_keep (below_new _ _) ?_)
  clear c3_0 c3_1 c3_2 c3_3 c3_4 c3_5 c3_6 c3_7 c3_8
  rcases Bool.eq_false_or_eq_true (elemB p q a2 && expsB q [c2, z2]) with h3 | h3
  rotate_left
  · have hR := Lib.hid (show extK p q g b y a c z a2 c2 z2 = (0, false) by unfold extK; rw [if_neg fun hh => Bool.false_ne_true (h3.symm.trans hh.2.2.2.1)])
    go_wp2
    go_ret2
    exact ⟨ret_ib (by rw [hR.out]) (by rw [hR.out]), hT4⟩
  have x1h3 : elemB p q a2 = true := by revert h3; cases elemB p q a2 <;> simp
  have x2h3 : expsB q [c2, z2] = true := by revert h3; cases expsB q [c2, z2] <;> simp
  have d_a2 := elem_bd (elemB_t x1h3)
  have b_c2 := expsB_mem x2h3 (e := c2) (by simp)
  have b_z2 := expsB_mem x2h3 (e := z2) (by simp)
  clear x1h3 x2h3
  rcases Bool.eq_false_or_eq_true (decide (a = a2)) with h6 | h6
  rotate_left
  · have t6 : (a != a2) = true := by simpa using of_decide_eq_false h6
    have hR := Lib.hid (show extK p q g b y a c z a2 c2 z2 = (0, false) by unfold extK; rw [if_neg fun hh => Bool.false_ne_true (h6.symm.trans hh.2.2.2.2.2.2.1)])
    go_wp2
    go_ret2
    exact ⟨ret_ib (by rw [hR.out]) (by rw [hR.out]), hT4⟩
  have t6 : (a != a2) = false := by simpa using of_decide_eq_true h6
  rcases Bool.eq_false_or_eq_true (decide (c ≠ c2)) with h7 | h7
  rotate_left
  · have t7 : (c == c2) = true := by simpa using of_decide_eq_false h7
    have hR := Lib.hid (show extK p q g b y a c z a2 c2 z2 = (0, false) by unfold extK; rw [if_neg fun hh => Bool.false_ne_true (h7.symm.trans hh.2.2.2.2.2.2.2)])
    go_wp2
    go_ret2
    exact ⟨ret_ib (by rw [hR.out]) (by rw [hR.out]), hT4⟩
  have t7 : (c == c2) = false := by simpa using of_decide_eq_true h7
  have N7 := Lib.hid (of_decide_eq_true h7)
  go_wp2_with fail
  refine (xAccepts_any p q g b y a c z HG.out (by assumption) (by assumption) (by assumption) (by omega) (by omega) _).mono ?_
  rintro e5 w5 ⟨rfl, hb5⟩
  have hT5 : Below w.heap.size w w5 := bnext (by repeat (first | exact hT4 | refine bnew ?_ _ | refine Below.drew ?_ | refine Below.drewN ?_ _)) hb5
  have c5_0 : w5.cell? ⟨w.heap.size, 0, none⟩ = some (.int .i64 p) := by
    refine cell_keep hb5 ?_
    repeat (first | with_reducible assumption | (refine cell_new' ?_ _ _ _ rfl; focus (simp; done)) | with_reducible refine cell_keep (below_new _ _) ?_)
  have c5_1 : w5.cell? ⟨w.heap.size, 1, none⟩ = some (.int .i64 q) := by
    refine cell_keep hb5 ?_
    repeat (first | with_reducible assumption | (refine cell_new' ?_ _ _ _ rfl; focus (simp; done)) | with_reducible refine cell_keep (below_new _ _) ?_)
  have c5_2 : w5.cell? ⟨w.heap.size, 2, none⟩ = some (.int .i64 g) := by
    refine cell_keep hb5 ?_
    repeat (first | with_reducible assumption | (refine cell_new' ?_ _ _ _ rfl; focus (simp; done)) | with_reducible refine cell_keep (below_new _ _) ?_)
  have c5_3 : w5.cell? ⟨w.heap.size + 1, 0, none⟩ = some (.int .i64 a) := by
    refine cell_keep hb5 ?_
    repeat (first | with_reducible assumption | (refine cell_new' ?_ _ _ _ rfl; focus (simp; done)) | with_reducible refine cell_keep (below_new _ _) ?_)
  have c5_4 : w5.cell? ⟨w.heap.size + 1, 1, none⟩ = some (.int .i64 c) := by
    refine cell_keep hb5 ?_
    repeat (first | with_reducible assumption | (refine cell_new' ?_ _ _ _ rfl; focus (simp; done)) | with_reducible refine cell_keep (below_new _ _) ?_)
  have c5_5 : w5.cell? ⟨w.heap.size + 1, 2, none⟩ = some (.int .i64 z) := by
    refine cell_keep hb5 ?_
    repeat (first | with_reducible assumption | (refine cell_new' ?_ _ _ _ rfl; focus (simp; done)) | with_reducible refine cell_keep (below_new _ _) ?_)
  have c5_6 : w5.cell? ⟨w.heap.size + 1 + 1, 0, none⟩ = some (.int .i64 a2) := by
    refine cell_keep hb5 ?_
    repeat (first | with_reducible assumption | (refine cell_new' ?_ _ _ _ rfl; focus (simp; done)) | with_reducible refine cell_keep (below_new _ _) ?_)
  have c5_7 : w5.cell? ⟨w.heap.size + 1 + 1, 1, none⟩ = some (.int .i64 c2) := by
    refine cell_keep hb5 ?_
    repeat (first | with_reducible assumption | (refine cell_new' ?_ _ _ _ rfl; focus (simp; done)) | with_reducible refine cell_keep (below_new _ _) ?_)
  have c5_8 : w5.cell? ⟨w.heap.size + 1 + 1, 2, none⟩ = some (.int .i64 z2) := by
    refine cell_keep hb5 ?_
    repeat (first | with_reducible assumption | (refine cell_new' ?_ _ _ _ rfl; focus (simp; done)) | with_reducible refine cell_keep (below_new _ _) ?_)
  clear c4_0 c4_1 c4_2 c4_3 c4_4 c4_5 c4_6 c4_7 c4_8
  rcases Bool.eq_false_or_eq_true (acc p q b y a c z) with h4 | h4
  rotate_left
  · have hR := Lib.hid (show extK p q g b y a c z a2 c2 z2 = (0, false) by unfold extK; rw [if_neg fun hh => Bool.false_ne_true (h4.symm.trans hh.2.2.2.2.1)])
    go_wp2
    go_ret2
    exact ⟨ret_ib (by rw [hR.out]) (by rw [hR.out]), hT5⟩
  go_wp2_with fail
  refine (xAccepts_any p q g b y a2 c2 z2 HG.out (by assumption) (by assumption) (by assumption) (by omega) (by omega) _).mono ?_
  rintro e6 w6 ⟨rfl, hb6⟩
  have hT6 : Below w.heap.size w w6 := bnext (by repeat (first | exact hT5 | refine bnew ?_ _ | refine Below.drew ?_ | refine Below.drewN ?_ _)) hb6
  have c6_0 : w6.cell? ⟨w.heap.size, 0, none⟩ = some (.int .i64 p) := by
    refine cell_keep hb6 ?_
    repeat (first | with_reducible assumption | (refine cell_new' ?_ _ _ _ rfl; focus (simp; done)) | with_reducible refine cell_keep (below_new _ _) ?_)
  have c6_1 : w6.cell? ⟨w.heap.size, 1, none⟩ = some (.int .i64 q) := by
    refine cell_keep hb6 ?_
    repeat (first | with_reducible assumption | (refine cell_new' ?_ _ _ _ rfl; focus (simp; done)) | with_reducible refine cell_keep (below_new _ _) ?_)
  have c6_2 : w6.cell? ⟨w.heap.size, 2, none⟩ = some (.int .i64 g) := by
    refine cell_keep hb6 ?_
    repeat (first | with_reducible assumption | (refine cell_new' ?_ _ _ _ rfl; focus (simp; done)) | with_reducible refine cell_keep (below_new _ _) ?_)
  have c6_3 : w6.cell? ⟨w.heap.size + 1, 0, none⟩ = some (.int .i64 a) := by
    refine cell_keep hb6 ?_
    repeat (first | with_reducible assumption | (refine cell_new' ?_ _ _ _ rfl; focus (simp; done)) | with_reducible refine cell_keep (below_new _ _) ?_)
  have c6_4 : w6.cell? ⟨w.heap.size + 1, 1, none⟩ = some (.int .i64 c) := by
    refine cell_keep hb6 ?_
    repeat (first | with_reducible assumption | (refine cell_new' ?_ _ _ _ rfl; focus (simp; done)) | with_reducible refine cell_keep (below_new _ _) ?_)
  have c6_5 : w6.cell? ⟨w.heap.size + 1, 2, none⟩ = some (.int .i64 z) := by
    refine cell_keep hb6 ?_
    repeat (first | with_reducible assumption | (refine cell_new' ?_ _ _ _ rfl; focus (simp; done)) | with_reducible refine cell_keep (below_new _ _) ?_)
  have c6_6 : w6.cell? ⟨w.heap.size + 1 + 1, 0, none⟩ = some (.int .i64 a2) := by
    refine cell_keep hb6 ?_
    repeat (first | with_reducible assumption | (refine cell_new' ?_ _ _ _ rfl; focus (simp; done)) | with_reducible refine cell_keep (below_new _ _) ?_)
  have c6_7 : w6.cell? ⟨w.heap.size + 1 + 1, 1, none⟩ = some (.int .i64 c2) := by
    refine cell_keep hb6 ?_
    repeat (first | with_reducible assumption | (refine cell_new' ?_ _ _ _ rfl; focus (simp; done)) | with_reducible refine cell_keep (below_new _ _) ?_)
  have c6_8 : w6.cell? ⟨w.heap.size + 1 + 1, 2, none⟩ = some (.int .i64 z2) := by
    refine cell_keep hb6 ?_
    repeat (first | with_reducible assumption | (refine cell_new' ?_ _ _ _ rfl; focus (simp; done)) | with_reducible refine cell_keep (below_new _ _) ?_)
  clear c5_0 c5_1 c5_2 c5_3 c5_4 c5_5 c5_6 c5_7 c5_8
  rcases Bool.eq_false_or_eq_true (acc p q b y a2 c2 z2) with h5 | h5
  rotate_left
  · have hR := Lib.hid (show extK p q g b y a c z a2 c2 z2 = (0, false) by unfold extK; rw [if_neg fun hh => Bool.false_ne_true (h5.symm.trans hh.2.2.2.2.2.1)])
    go_wp2
    go_ret2
    exact ⟨ret_ib (by rw [hR.out]) (by rw [hR.out]), hT6⟩
  have hR := Lib.hid (show extK p q g b y a c z a2 c2 z2 = (slopeV q z z2 c c2, true) by unfold extK; rw [if_pos ⟨hg, he, h2, h3, h4, h5, h6, h7⟩])
  go_wp2_with fail
  refine (xSlope_any p q g z z2 c c2 HG.out (by assumption) (by assumption) (by assumption) (by assumption) N7.out _).mono ?_
  rintro e7 w7 ⟨rfl, hb7⟩
  have hT7 : Below w.heap.size w w7 := bnext (by repeat (first | exact hT6 | refine bnew ?_ _ | refine Below.drew ?_ | refine Below.drewN ?_ _)) hb7
  have c7_0 : w7.cell? ⟨w.heap.size, 0, none⟩ = some (.int .i64 p) := by
    refine cell_keep hb7 ?_
    repeat (first | with_reducible assumption | (refine cell_new' ?_ _ _ _ rfl; focus (simp; done)) | with_reducible refine cell_keep (below_new _ _) ?_)
  have c7_1 : w7.cell? ⟨w.heap.size, 1, none⟩ = some (.int .i64 q) := by
    refine cell_keep hb7 ?_
    repeat (first | with_reducible assumption | (refine cell_new' ?_ _ _ _ rfl; focus (simp; done)) | with_reducible refine cell_keep (below_new _ _) ?_)
  have c7_2 : w7.cell? ⟨w.heap.size, 2, none⟩ = some (.int .i64 g) := by
    refine cell_keep hb7 ?_
    repeat (first | with_reducible assumption | (refine cell_new' ?_ _ _ _ rfl; focus (simp; done)) | with_reducible refine cell_keep (below_new _ _) ?_)
  have c7_3 : w7.cell? ⟨w.heap.size + 1, 0, none⟩ = some (.int .i64 a) := by
    refine cell_keep hb7 ?_
    repeat (first | with_reducible assumption | (refine cell_new' ?_ _ _ _ rfl; focus (simp; done)) | with_reducible refine cell_keep (below_new _ _) ?_)
  have c7_4 : w7.cell? ⟨w.heap.size + 1, 1, none⟩ = some (.int .i64 c) := by
    refine cell_keep hb7 ?_
    repeat (first | with_reducible assumption | (refine cell_new' ?_ _ _ _ rfl; focus (simp; done)) | with_reducible refine cell_keep (below_new _ _) ?_)
  have c7_5 : w7.cell? ⟨w.heap.size + 1, 2, none⟩ = some (.int .i64 z) := by
    refine cell_keep hb7 ?_
    repeat (first | with_reducible assumption | (refine cell_new' ?_ _ _ _ rfl; focus (simp; done)) | with_reducible refine cell_keep (below_new _ _) ?_)
  have c7_6 : w7.cell? ⟨w.heap.size + 1 + 1, 0, none⟩ = some (.int .i64 a2) := by
    refine cell_keep hb7 ?_
    repeat (first | with_reducible assumption | (refine cell_new' ?_ _ _ _ rfl; focus (simp; done)) | with_reducible refine cell_keep (below_new _ _) ?_)
  have c7_7 : w7.cell? ⟨w.heap.size + 1 + 1, 1, none⟩ = some (.int .i64 c2) := by
    refine cell_keep hb7 ?_
    repeat (first | with_reducible assumption | (refine cell_new' ?_ _ _ _ rfl; focus (simp; done)) | with_reducible refine cell_keep (below_new _ _) ?_)
  have c7_8 : w7.cell? ⟨w.heap.size + 1 + 1, 2, none⟩ = some (.int .i64 z2) := by
    refine cell_keep hb7 ?_
    repeat (first | with_reducible assumption | (refine cell_new' ?_ _ _ _ rfl; focus (simp; done)) | with_reducible refine cell_keep (below_new _ _) ?_)
  clear c6_0 c6_1 c6_2 c6_3 c6_4 c6_5 c6_6 c6_7 c6_8
  go_wp2
  go_ret2
  exact ⟨ret_ib (by rw [hR.out]) (by rw [hR.out]), hT7⟩
end Go.Proofs.Ytekfeplaphemkaa
