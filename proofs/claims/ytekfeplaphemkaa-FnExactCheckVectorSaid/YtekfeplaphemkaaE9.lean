/- Walks: Commit, CheckOpening. -/
import Derived.Test.YtekfeplaphemkaaE7
namespace Go.Proofs.Ytekfeplaphemkaa
open Go.RowKit
def cmt (p q g bh m r : Int) : Int := M.gpw p q g m * M.gpw p q bh r % p
theorem l9B_of {p q g bh : Int} {bs : List Int} (h : l9B p q g bh bs = true) : M.goodB p q g = true ∧ basesB p q bh bs = true := by
  unfold l9B at h; simpa using h
theorem basesB_of {p q bh : Int} {bs : List Int} (h : basesB p q bh bs = true) : M.elem p q bh ∧ bs.length ≤ 24 ∧ elemsB p q bs = true := by
  unfold basesB at h
  simp only [Bool.and_eq_true, decide_eq_true_eq] at h
  exact ⟨elemB_t h.1.1.1.2, h.1.1.2, h.2⟩
noncomputable def comV (p q g bh : Int) (bs : List Int) (m r : Int) : Int × Bool := if l9B p q g bh bs = true ∧ expsB q [m, r] = true then (cmt p q g bh m r, true) else (0, false)
noncomputable def chkO (p q g bh : Int) (bs : List Int) (c m r : Int) : Bool × Bool := if l9B p q g bh bs = true ∧ expsB q [m, r] = true ∧ elemB p q c = true then (cmt p q g bh m r == c, true) else (false, false)
set_option maxHeartbeats 800000 in
theorem commit_any (p q g bh m r : Int) (A : Option Addr) (n d : Nat) (hG : M.Grp p q g) (hb : 0 ≤ bh ∧ bh < p) (hm : 0 ≤ m ∧ m < q) (hr : 0 ≤ r ∧ r < q) (w : World) :
    Calls Try.prog 46 #[.agg #[.int .i64 p, .int .i64 q, .int .i64 g], .agg #[.int .i64 bh, .slice A n d], .int .i64 m, .int .i64 r] w fun en w' => en = .returned (.int .i64 (cmt p q g bh m r)) ∧ Below w.heap.size w w' := by
  have hgb : 0 ≤ g ∧ g < p := elem_bd hG.gen
  have g1 := hG.q2
  have g2 := hG.qp
  have g3 := hG.p3
  have g4 := hG.pM
  have HG := Lib.hid hG
  clear hG
  have hT0 : Below w.heap.size w ((w.alloc (.cells #[.int .i64 p, .int .i64 q, .int .i64 g] 28)).alloc (.cells #[.int .i64 bh, .slice A n d] 38)) := by repeat (first | exact Below.refl _ _ | refine bnew ?_ _)
  go_enter Try.func46, Try.ntmps46
  have c0_0 : ((w.alloc (.cells #[.int .i64 p, .int .i64 q, .int .i64 g] 28)).alloc (.cells #[.int .i64 bh, .slice A n d] 38)).cell? ⟨w.heap.size, 0, none⟩ = some (.int .i64 p) := by
    repeat (first | with_reducible assumption | (refine cell_new' ?_ _ _ _ rfl; focus (simp; done)) | with_reducible refine cell_keep (below_new _ _) ?_)
  have c0_1 : ((w.alloc (.cells #[.int .i64 p, .int .i64 q, .int .i64 g] 28)).alloc (.cells #[.int .i64 bh, .slice A n d] 38)).cell? ⟨w.heap.size, 1, none⟩ = some (.int .i64 q) := by
    repeat (first | with_reducible assumption | (refine cell_new' ?_ _ _ _ rfl; focus (simp; done)) | with_reducible refine cell_keep (below_new _ _) ?_)
  have c0_2 : ((w.alloc (.cells #[.int .i64 p, .int .i64 q, .int .i64 g] 28)).alloc (.cells #[.int .i64 bh, .slice A n d] 38)).cell? ⟨w.heap.size, 2, none⟩ = some (.int .i64 g) := by
    repeat (first | with_reducible assumption | (refine cell_new' ?_ _ _ _ rfl; focus (simp; done)) | with_reducible refine cell_keep (below_new _ _) ?_)
  have c0_3 : ((w.alloc (.cells #[.int .i64 p, .int .i64 q, .int .i64 g] 28)).alloc (.cells #[.int .i64 bh, .slice A n d] 38)).cell? ⟨w.heap.size + 1, 0, none⟩ = some (.int .i64 bh) := by
    repeat (first | with_reducible assumption | (refine cell_new' ?_ _ _ _ rfl; focus (simp; done)) | with_reducible refine cell_keep (below_new _ _) ?_)
  have c0_4 : ((w.alloc (.cells #[.int .i64 p, .int .i64 q, .int .i64 g] 28)).alloc (.cells #[.int .i64 bh, .slice A n d] 38)).cell? ⟨w.heap.size + 1, 1, none⟩ = some (.slice A n d) := by
    repeat (first | with_reducible assumption | (refine cell_new' ?_ _ _ _ rfl; focus (simp; done)) | with_reducible refine cell_keep (below_new _ _) ?_)
  go_wp2_with fail
  go_region_held3 (fun W' => W'.cell? ⟨w.heap.size, 0, none⟩ = some (.int .i64 p) ∧ W'.cell? ⟨w.heap.size, 1, none⟩ = some (.int .i64 q) ∧ W'.cell? ⟨w.heap.size, 2, none⟩ = some (.int .i64 g) ∧ W'.cell? ⟨w.heap.size + 1, 0, none⟩ = some (.int .i64 bh) ∧ W'.cell? ⟨w.heap.size + 1, 1, none⟩ = some (.slice A n d) ∧ Below w.heap.size w W') ((go_split_ands; refine ⟨?_, ?_, ?_, ?_, ?_, ?_⟩; (first | with_reducible exact cell_keep (by with_reducible assumption) (by with_reducible assumption) | with_reducible exact cell_keep (below_new _ _) (by with_reducible assumption) | (with_reducible refine cell_set _ ?_ (by simp); (repeat with_reducible refine cell_set _ ?_ (by simp)); with_reducible assumption) | with_reducible exact cell_drew (by with_reducible assumption) | go_keep); (first | with_reducible exact cell_keep (by with_reducible assumption) (by with_reducible assumption) | with_reducible exact cell_keep (below_new _ _) (by with_reducible assumption) | (with_reducible refine cell_set _ ?_ (by simp); (repeat with_reducible refine cell_set _ ?_ (by simp)); with_reducible assumption) | with_reducible exact cell_drew (by with_reducible assumption) | go_keep); (first | with_reducible exact cell_keep (by with_reducible assumption) (by with_reducible assumption) | with_reducible exact cell_keep (below_new _ _) (by with_reducible assumption) | (with_reducible refine cell_set _ ?_ (by simp); (repeat with_reducible refine cell_set _ ?_ (by simp)); with_reducible assumption) | with_reducible exact cell_drew (by with_reducible assumption) | go_keep); (first | with_reducible exact cell_keep (by with_reducible assumption) (by with_reducible assumption) | with_reducible exact cell_keep (below_new _ _) (by with_reducible assumption) | (with_reducible refine cell_set _ ?_ (by simp); (repeat with_reducible refine cell_set _ ?_ (by simp)); with_reducible assumption) | with_reducible exact cell_drew (by with_reducible assumption) | go_keep); (first | with_reducible exact cell_keep (by with_reducible assumption) (by with_reducible assumption) | with_reducible exact cell_keep (below_new _ _) (by with_reducible assumption) | (with_reducible refine cell_set _ ?_ (by simp); (repeat with_reducible refine cell_set _ ?_ (by simp)); with_reducible assumption) | with_reducible exact cell_drew (by with_reducible assumption) | go_keep); (repeat (first | with_reducible assumption | with_reducible refine bnext ?_ (by with_reducible assumption) | with_reducible refine bnew ?_ _ | with_reducible refine below_set _ ?_ (by simp) | with_reducible refine Below.drew ?_ | with_reducible refine Below.drewN ?_ _)); done)) (first | (go_at_call 67; refine (pow_any _ _ _ _ _ HG.out (by assumption) (by omega) _).mono ?_; rintro e1 w1 ⟨rfl, hb1⟩) | (go_at_call 68; refine (mul2_any _ _ _ _ _ HG.out (by first | assumption | exact M.gpw_lt g3) (by first | assumption | exact M.gpw_lt g3) _ _ _ (RI.lit2 _ _ _ _ (by simp))).mono ?_; rintro e1 w1 ⟨rfl, hb1⟩))
  obtain ⟨c1_0, c1_1, c1_2, c1_3, c1_4, hT1⟩ := (by assumption : _ ∧ _ ∧ _ ∧ _ ∧ _ ∧  _)
  clear c0_0 c0_1 c0_2 c0_3 c0_4
  go_wp2
  go_ret
  exact ⟨rfl, hT1⟩
set_option maxHeartbeats 800000 in
theorem pCommit_any (p q g bh m r : Int) (A : Option Addr) (n d : Nat) (hG : M.Grp p q g) (hb : 0 ≤ bh ∧ bh < p) (hm : 0 ≤ m ∧ m < q) (hr : 0 ≤ r ∧ r < q) (w : World) :
    Calls Try.prog 43 #[.agg #[.int .i64 p, .int .i64 q, .int .i64 g], .agg #[.int .i64 bh, .slice A n d], .int .i64 m, .int .i64 r] w fun en w' => en = .returned (.int .i64 (cmt p q g bh m r)) ∧ Below w.heap.size w w' := by
  have hgb : 0 ≤ g ∧ g < p := elem_bd hG.gen
  have g1 := hG.q2
  have g2 := hG.qp
  have g3 := hG.p3
  have g4 := hG.pM
  have HG := Lib.hid hG
  clear hG
  have hT0 : Below w.heap.size w ((w.alloc (.cells #[.int .i64 p, .int .i64 q, .int .i64 g] 28)).alloc (.cells #[.int .i64 bh, .slice A n d] 38)) := by repeat (first | exact Below.refl _ _ | refine bnew ?_ _)
  go_enter Try.func43, Try.ntmps43
  have c0_0 : ((w.alloc (.cells #[.int .i64 p, .int .i64 q, .int .i64 g] 28)).alloc (.cells #[.int .i64 bh, .slice A n d] 38)).cell? ⟨w.heap.size, 0, none⟩ = some (.int .i64 p) := by
    repeat (first | with_reducible assumption | (refine cell_new' ?_ _ _ _ rfl; focus (simp; done)) | with_reducible refine cell_keep (below_new _ _) ?_)
  have c0_1 : ((w.alloc (.cells #[.int .i64 p, .int .i64 q, .int .i64 g] 28)).alloc (.cells #[.int .i64 bh, .slice A n d] 38)).cell? ⟨w.heap.size, 1, none⟩ = some (.int .i64 q) := by
    repeat (first | with_reducible assumption | (refine cell_new' ?_ _ _ _ rfl; focus (simp; done)) | with_reducible refine cell_keep (below_new _ _) ?_)
  have c0_2 : ((w.alloc (.cells #[.int .i64 p, .int .i64 q, .int .i64 g] 28)).alloc (.cells #[.int .i64 bh, .slice A n d] 38)).cell? ⟨w.heap.size, 2, none⟩ = some (.int .i64 g) := by
    repeat (first | with_reducible assumption | (refine cell_new' ?_ _ _ _ rfl; focus (simp; done)) | with_reducible refine cell_keep (below_new _ _) ?_)
  have c0_3 : ((w.alloc (.cells #[.int .i64 p, .int .i64 q, .int .i64 g] 28)).alloc (.cells #[.int .i64 bh, .slice A n d] 38)).cell? ⟨w.heap.size + 1, 0, none⟩ = some (.int .i64 bh) := by
    repeat (first | with_reducible assumption | (refine cell_new' ?_ _ _ _ rfl; focus (simp; done)) | with_reducible refine cell_keep (below_new _ _) ?_)
  have c0_4 : ((w.alloc (.cells #[.int .i64 p, .int .i64 q, .int .i64 g] 28)).alloc (.cells #[.int .i64 bh, .slice A n d] 38)).cell? ⟨w.heap.size + 1, 1, none⟩ = some (.slice A n d) := by
    repeat (first | with_reducible assumption | (refine cell_new' ?_ _ _ _ rfl; focus (simp; done)) | with_reducible refine cell_keep (below_new _ _) ?_)
  go_wp2_with fail
  go_region_held3 (fun W' => W'.cell? ⟨w.heap.size, 0, none⟩ = some (.int .i64 p) ∧ W'.cell? ⟨w.heap.size, 1, none⟩ = some (.int .i64 q) ∧ W'.cell? ⟨w.heap.size, 2, none⟩ = some (.int .i64 g) ∧ W'.cell? ⟨w.heap.size + 1, 0, none⟩ = some (.int .i64 bh) ∧ W'.cell? ⟨w.heap.size + 1, 1, none⟩ = some (.slice A n d) ∧ Below w.heap.size w W') ((go_split_ands; refine ⟨?_, ?_, ?_, ?_, ?_, ?_⟩; (first | with_reducible exact cell_keep (by with_reducible assumption) (by with_reducible assumption) | with_reducible exact cell_keep (below_new _ _) (by with_reducible assumption) | (with_reducible refine cell_set _ ?_ (by simp); (repeat with_reducible refine cell_set _ ?_ (by simp)); with_reducible assumption) | with_reducible exact cell_drew (by with_reducible assumption) | go_keep); (first | with_reducible exact cell_keep (by with_reducible assumption) (by with_reducible assumption) | with_reducible exact cell_keep (below_new _ _) (by with_reducible assumption) | (with_reducible refine cell_set _ ?_ (by simp); (repeat with_reducible refine cell_set _ ?_ (by simp)); with_reducible assumption) | with_reducible exact cell_drew (by with_reducible assumption) | go_keep); (first | with_reducible exact cell_keep (by with_reducible assumption) (by with_reducible assumption) | with_reducible exact cell_keep (below_new _ _) (by with_reducible assumption) | (with_reducible refine cell_set _ ?_ (by simp); (repeat with_reducible refine cell_set _ ?_ (by simp)); with_reducible assumption) | with_reducible exact cell_drew (by with_reducible assumption) | go_keep); (first | with_reducible exact cell_keep (by with_reducible assumption) (by with_reducible assumption) | with_reducible exact cell_keep (below_new _ _) (by with_reducible assumption) | (with_reducible refine cell_set _ ?_ (by simp); (repeat with_reducible refine cell_set _ ?_ (by simp)); with_reducible assumption) | with_reducible exact cell_drew (by with_reducible assumption) | go_keep); (first | with_reducible exact cell_keep (by with_reducible assumption) (by with_reducible assumption) | with_reducible exact cell_keep (below_new _ _) (by with_reducible assumption) | (with_reducible refine cell_set _ ?_ (by simp); (repeat with_reducible refine cell_set _ ?_ (by simp)); with_reducible assumption) | with_reducible exact cell_drew (by with_reducible assumption) | go_keep); (repeat (first | with_reducible assumption | with_reducible refine bnext ?_ (by with_reducible assumption) | with_reducible refine bnew ?_ _ | with_reducible refine below_set _ ?_ (by simp) | with_reducible refine Below.drew ?_ | with_reducible refine Below.drewN ?_ _)); done)) (first | (go_at_call 60; refine (gExp_any _ _ _ _ _ HG.out (by assumption) (by omega) _).mono ?_; rintro e1 w1 ⟨rfl, hb1⟩) | (go_at_call 61; refine (gMul2_any _ _ _ _ _ HG.out (by first | assumption | exact M.gpw_lt g3) (by first | assumption | exact M.gpw_lt g3) _ _ _ (RI.lit2 _ _ _ _ (by simp))).mono ?_; rintro e1 w1 ⟨rfl, hb1⟩))
  obtain ⟨c1_0, c1_1, c1_2, c1_3, c1_4, hT1⟩ := (by assumption : _ ∧ _ ∧ _ ∧ _ ∧ _ ∧  _)
  clear c0_0 c0_1 c0_2 c0_3 c0_4
  go_wp2
  go_ret
  exact ⟨rfl, hT1⟩
set_option maxHeartbeats 800000 in
theorem commitI (p q g bh m r : Int) (A : Option Addr) (d : Nat) (bs : List Int) (hl : bs.length ≤ 9223372036854775807) (w : World) (hx : RI w w.heap.size A bs) :
    Calls Try.prog 16 #[.agg #[.int .i64 p, .int .i64 q, .int .i64 g], .agg #[.int .i64 bh, .slice A bs.length d], .int .i64 m, .int .i64 r] w fun en w' => en = .returned (.tuple #[.int .i64 (comV p q g bh bs m r).1, .bool (comV p q g bh bs m r).2]) ∧ Below w.heap.size w w' := by
  have hT0 : Below w.heap.size w ((w.alloc (.cells #[.int .i64 p, .int .i64 q, .int .i64 g] 28)).alloc (.cells #[.int .i64 bh, .slice A bs.length d] 38)) := by repeat (first | exact Below.refl _ _ | refine bnew ?_ _)
  go_enter Try.func16, Try.ntmps16
  go_wp2_with fail
  refine (isValidBasesI_any p q g bh A d bs hl _ (hx.next (by repeat (first | with_reducible assumption | exact Below.refl _ _ | refine bnew ?_ _)))).mono ?_
  rintro e1 w1 ⟨rfl, hb1⟩
  have hT1 : Below w.heap.size w w1 := bnext (by repeat (first | exact hT0 | refine bnew ?_ _ | refine Below.drew ?_ | refine Below.drewN ?_ _)) hb1
  have c1_0 : w1.cell? ⟨w.heap.size, 0, none⟩ = some (.int .i64 p) := by
    refine cell_keep hb1 ?_
    repeat (first | with_reducible assumption | (refine cell_new' ?_ _ _ _ rfl; focus (simp; done)) | with_reducible refine cell_keep (below_new _ _) ?_)
  have c1_1 : w1.cell? ⟨w.heap.size, 1, none⟩ = some (.int .i64 q) := by
    refine cell_keep hb1 ?_
    repeat (first | with_reducible assumption | (refine cell_new' ?_ _ _ _ rfl; focus (simp; done)) | with_reducible refine cell_keep (below_new _ _) ?_)
  have c1_2 : w1.cell? ⟨w.heap.size, 2, none⟩ = some (.int .i64 g) := by
    refine cell_keep hb1 ?_
    repeat (first | with_reducible assumption | (refine cell_new' ?_ _ _ _ rfl; focus (simp; done)) | with_reducible refine cell_keep (below_new _ _) ?_)
  have c1_3 : w1.cell? ⟨w.heap.size + 1, 0, none⟩ = some (.int .i64 bh) := by
    refine cell_keep hb1 ?_
    repeat (first | with_reducible assumption | (refine cell_new' ?_ _ _ _ rfl; focus (simp; done)) | with_reducible refine cell_keep (below_new _ _) ?_)
  have c1_4 : w1.cell? ⟨w.heap.size + 1, 1, none⟩ = some (.slice A bs.length d) := by
    refine cell_keep hb1 ?_
    repeat (first | with_reducible assumption | (refine cell_new' ?_ _ _ _ rfl; focus (simp; done)) | with_reducible refine cell_keep (below_new _ _) ?_)
  rcases Bool.eq_false_or_eq_true (l9B p q g bh bs) with h9 | h9
  rotate_left
  · have hR := Lib.hid (show comV p q g bh bs m r = (0, false) by unfold comV; rw [if_neg fun hh => Bool.false_ne_true (h9.symm.trans hh.1)])
    go_wp2
    go_ret2
    exact ⟨ret_ib (by rw [hR.out]) (by rw [hR.out]), hT1⟩
  obtain ⟨hg, hbb⟩ := l9B_of h9
  obtain ⟨l_bh, hb24, hbe⟩ := basesB_of hbb
  have d_bh := elem_bd l_bh
  have hG := M.goodB_of hg
  have g1 := hG.q2
  have g2 := hG.qp
  have g3 := hG.p3
  have g4 := hG.pM
  have HG := Lib.hid hG
  clear hG
  go_wp2_with fail
  refine (areExps_any p q g _ _ [m, r] _ (by omega) (RI.lit2 _ _ _ _ (by simp)) (by simp)).mono ?_
  rintro e2 w2 ⟨rfl, hb2⟩
  have hT2 : Below w.heap.size w w2 := bnext (by repeat (first | exact hT1 | refine bnew ?_ _ | refine Below.drew ?_ | refine Below.drewN ?_ _)) hb2
  have c2_0 : w2.cell? ⟨w.heap.size, 0, none⟩ = some (.int .i64 p) := by
    refine cell_keep hb2 ?_
    repeat (first | with_reducible assumption | (refine cell_new' ?_ _ _ _ rfl; focus (simp; done)) | with_reducible refine cell_keep (below_new _ _) ?_)
  have c2_1 : w2.cell? ⟨w.heap.size, 1, none⟩ = some (.int .i64 q) := by
    refine cell_keep hb2 ?_
    repeat (first | with_reducible assumption | (refine cell_new' ?_ _ _ _ rfl; focus (simp; done)) | with_reducible refine cell_keep (below_new _ _) ?_)
  have c2_2 : w2.cell? ⟨w.heap.size, 2, none⟩ = some (.int .i64 g) := by
    refine cell_keep hb2 ?_
    repeat (first | with_reducible assumption | (refine cell_new' ?_ _ _ _ rfl; focus (simp; done)) | with_reducible refine cell_keep (below_new _ _) ?_)
  have c2_3 : w2.cell? ⟨w.heap.size + 1, 0, none⟩ = some (.int .i64 bh) := by
    refine cell_keep hb2 ?_
    repeat (first | with_reducible assumption | (refine cell_new' ?_ _ _ _ rfl; focus (simp; done)) | with_reducible refine cell_keep (below_new _ _) ?_)
  have c2_4 : w2.cell? ⟨w.heap.size + 1, 1, none⟩ = some (.slice A bs.length d) := by
    refine cell_keep hb2 ?_
    repeat (first | with_reducible assumption | (refine cell_new' ?_ _ _ _ rfl; focus (simp; done)) | with_reducible refine cell_keep (below_new _ _) ?_)
  clear c1_0 c1_1 c1_2 c1_3 c1_4
  rcases Bool.eq_false_or_eq_true (expsB q [m, r]) with hs | hs
  rotate_left
  · have hR := Lib.hid (show comV p q g bh bs m r = (0, false) by unfold comV; rw [if_neg fun hh => Bool.false_ne_true (hs.symm.trans hh.2)])
    go_wp2
    go_ret2
    exact ⟨ret_ib (by rw [hR.out]) (by rw [hR.out]), hT2⟩
  have b_m := expsB_mem hs (e := m) (by simp)
  have b_r := expsB_mem hs (e := r) (by simp)
  have hR := Lib.hid (show comV p q g bh bs m r = (cmt p q g bh m r, true) by unfold comV; rw [if_pos ⟨h9, hs⟩])
  go_wp2_with fail
  refine (commit_any p q g bh m r _ _ _ HG.out d_bh b_m b_r _).mono ?_
  rintro e3 w3 ⟨rfl, hb3⟩
  have hT3 : Below w.heap.size w w3 := bnext (by repeat (first | exact hT2 | refine bnew ?_ _ | refine Below.drew ?_ | refine Below.drewN ?_ _)) hb3
  have c3_0 : w3.cell? ⟨w.heap.size, 0, none⟩ = some (.int .i64 p) := by
    refine cell_keep hb3 ?_
    repeat (first | with_reducible assumption | (refine cell_new' ?_ _ _ _ rfl; focus (simp; done)) | with_reducible refine cell_keep (below_new _ _) ?_)
  have c3_1 : w3.cell? ⟨w.heap.size, 1, none⟩ = some (.int .i64 q) := by
    refine cell_keep hb3 ?_
    repeat (first | with_reducible assumption | (refine cell_new' ?_ _ _ _ rfl; focus (simp; done)) | with_reducible refine cell_keep (below_new _ _) ?_)
  have c3_2 : w3.cell? ⟨w.heap.size, 2, none⟩ = some (.int .i64 g) := by
    refine cell_keep hb3 ?_
    repeat (first | with_reducible assumption | (refine cell_new' ?_ _ _ _ rfl; focus (simp; done)) | with_reducible refine cell_keep (below_new _ _) ?_)
  have c3_3 : w3.cell? ⟨w.heap.size + 1, 0, none⟩ = some (.int .i64 bh) := by
    refine cell_keep hb3 ?_
    repeat (first | with_reducible assumption | (refine cell_new' ?_ _ _ _ rfl; focus (simp; done)) | with_reducible refine cell_keep (below_new _ _) ?_)
  have c3_4 : w3.cell? ⟨w.heap.size + 1, 1, none⟩ = some (.slice A bs.length d) := by
    refine cell_keep hb3 ?_
    repeat (first | with_reducible assumption | (refine cell_new' ?_ _ _ _ rfl; focus (simp; done)) | with_reducible refine cell_keep (below_new _ _) ?_)
  clear c2_0 c2_1 c2_2 c2_3 c2_4
  go_wp2
  go_ret2
  exact ⟨ret_ib (by rw [hR.out]) (by rw [hR.out]), hT3⟩
set_option maxHeartbeats 800000 in
theorem commitS (p q g bh m r : Int) (A : Option Addr) (d : Nat) (bs : List Int) (hl : bs.length ≤ 9223372036854775807) (w : World) (hx : RI w w.heap.size A bs) :
    Calls Try.prog 14 #[.agg #[.int .i64 p, .int .i64 q, .int .i64 g], .agg #[.int .i64 bh, .slice A bs.length d], .int .i64 m, .int .i64 r] w fun en w' => en = .returned (.tuple #[.int .i64 (comV p q g bh bs m r).1, .bool (comV p q g bh bs m r).2]) ∧ Below w.heap.size w w' := by
  have hT0 : Below w.heap.size w ((w.alloc (.cells #[.int .i64 p, .int .i64 q, .int .i64 g] 28)).alloc (.cells #[.int .i64 bh, .slice A bs.length d] 38)) := by repeat (first | exact Below.refl _ _ | refine bnew ?_ _)
  go_enter Try.func14, Try.ntmps14
  go_wp2_with fail
  refine (l9Good_any p q g bh A d bs hl _ (hx.next (by repeat (first | with_reducible assumption | exact Below.refl _ _ | refine bnew ?_ _)))).mono ?_
  rintro e1 w1 ⟨rfl, hb1⟩
  have hT1 : Below w.heap.size w w1 := bnext (by repeat (first | exact hT0 | refine bnew ?_ _ | refine Below.drew ?_ | refine Below.drewN ?_ _)) hb1
  have c1_0 : w1.cell? ⟨w.heap.size, 0, none⟩ = some (.int .i64 p) := by
    refine cell_keep hb1 ?_
    repeat (first | with_reducible assumption | (refine cell_new' ?_ _ _ _ rfl; focus (simp; done)) | with_reducible refine cell_keep (below_new _ _) ?_)
  have c1_1 : w1.cell? ⟨w.heap.size, 1, none⟩ = some (.int .i64 q) := by
    refine cell_keep hb1 ?_
    repeat (first | with_reducible assumption | (refine cell_new' ?_ _ _ _ rfl; focus (simp; done)) | with_reducible refine cell_keep (below_new _ _) ?_)
  have c1_2 : w1.cell? ⟨w.heap.size, 2, none⟩ = some (.int .i64 g) := by
    refine cell_keep hb1 ?_
    repeat (first | with_reducible assumption | (refine cell_new' ?_ _ _ _ rfl; focus (simp; done)) | with_reducible refine cell_keep (below_new _ _) ?_)
  have c1_3 : w1.cell? ⟨w.heap.size + 1, 0, none⟩ = some (.int .i64 bh) := by
    refine cell_keep hb1 ?_
    repeat (first | with_reducible assumption | (refine cell_new' ?_ _ _ _ rfl; focus (simp; done)) | with_reducible refine cell_keep (below_new _ _) ?_)
  have c1_4 : w1.cell? ⟨w.heap.size + 1, 1, none⟩ = some (.slice A bs.length d) := by
    refine cell_keep hb1 ?_
    repeat (first | with_reducible assumption | (refine cell_new' ?_ _ _ _ rfl; focus (simp; done)) | with_reducible refine cell_keep (below_new _ _) ?_)
  rcases Bool.eq_false_or_eq_true (l9B p q g bh bs) with h9 | h9
  rotate_left
  · have hR := Lib.hid (show comV p q g bh bs m r = (0, false) by unfold comV; rw [if_neg fun hh => Bool.false_ne_true (h9.symm.trans hh.1)])
    go_wp2
    go_ret2
    exact ⟨ret_ib (by rw [hR.out]) (by rw [hR.out]), hT1⟩
  obtain ⟨hg, hbb⟩ := l9B_of h9
  obtain ⟨l_bh, hb24, hbe⟩ := basesB_of hbb
  have d_bh := elem_bd l_bh
  have hG := M.goodB_of hg
  have g1 := hG.q2
  have g2 := hG.qp
  have g3 := hG.p3
  have g4 := hG.pM
  have HG := Lib.hid hG
  clear hG
  go_wp2_with fail
  refine (gExps_any p q g _ _ [m, r] _ (by omega) (RI.lit2 _ _ _ _ (by simp)) (by simp)).mono ?_
  rintro e2 w2 ⟨rfl, hb2⟩
  have hT2 : Below w.heap.size w w2 := bnext (by repeat (first | exact hT1 | refine bnew ?_ _ | refine Below.drew ?_ | refine Below.drewN ?_ _)) hb2
  have c2_0 : w2.cell? ⟨w.heap.size, 0, none⟩ = some (.int .i64 p) := by
    refine cell_keep hb2 ?_
    repeat (first | with_reducible assumption | (refine cell_new' ?_ _ _ _ rfl; focus (simp; done)) | with_reducible refine cell_keep (below_new _ _) ?_)
  have c2_1 : w2.cell? ⟨w.heap.size, 1, none⟩ = some (.int .i64 q) := by
    refine cell_keep hb2 ?_
    repeat (first | with_reducible assumption | (refine cell_new' ?_ _ _ _ rfl; focus (simp; done)) | with_reducible refine cell_keep (below_new _ _) ?_)
  have c2_2 : w2.cell? ⟨w.heap.size, 2, none⟩ = some (.int .i64 g) := by
    refine cell_keep hb2 ?_
    repeat (first | with_reducible assumption | (refine cell_new' ?_ _ _ _ rfl; focus (simp; done)) | with_reducible refine cell_keep (below_new _ _) ?_)
  have c2_3 : w2.cell? ⟨w.heap.size + 1, 0, none⟩ = some (.int .i64 bh) := by
    refine cell_keep hb2 ?_
    repeat (first | with_reducible assumption | (refine cell_new' ?_ _ _ _ rfl; focus (simp; done)) | with_reducible refine cell_keep (below_new _ _) ?_)
  have c2_4 : w2.cell? ⟨w.heap.size + 1, 1, none⟩ = some (.slice A bs.length d) := by
    refine cell_keep hb2 ?_
    repeat (first | with_reducible assumption | (refine cell_new' ?_ _ _ _ rfl; focus (simp; done)) | with_reducible refine cell_keep (below_new _ _) ?_)
  clear c1_0 c1_1 c1_2 c1_3 c1_4
  rcases Bool.eq_false_or_eq_true (expsB q [m, r]) with hs | hs
  rotate_left
  · have hR := Lib.hid (show comV p q g bh bs m r = (0, false) by unfold comV; rw [if_neg fun hh => Bool.false_ne_true (hs.symm.trans hh.2)])
    go_wp2
    go_ret2
    exact ⟨ret_ib (by rw [hR.out]) (by rw [hR.out]), hT2⟩
  have b_m := expsB_mem hs (e := m) (by simp)
  have b_r := expsB_mem hs (e := r) (by simp)
  have hR := Lib.hid (show comV p q g bh bs m r = (cmt p q g bh m r, true) by unfold comV; rw [if_pos ⟨h9, hs⟩])
  go_wp2_with fail
  refine (pCommit_any p q g bh m r _ _ _ HG.out d_bh b_m b_r _).mono ?_
  rintro e3 w3 ⟨rfl, hb3⟩
  have hT3 : Below w.heap.size w w3 := bnext (by repeat (first | exact hT2 | refine bnew ?_ _ | refine Below.drew ?_ | refine Below.drewN ?_ _)) hb3
  have c3_0 : w3.cell? ⟨w.heap.size, 0, none⟩ = some (.int .i64 p) := by
    refine cell_keep hb3 ?_
    repeat (first | with_reducible assumption | (refine cell_new' ?_ _ _ _ rfl; focus (simp; done)) | with_reducible refine cell_keep (below_new _ _) ?_)
  have c3_1 : w3.cell? ⟨w.heap.size, 1, none⟩ = some (.int .i64 q) := by
    refine cell_keep hb3 ?_
    repeat (first | with_reducible assumption | (refine cell_new' ?_ _ _ _ rfl; focus (simp; done)) | with_reducible refine cell_keep (below_new _ _) ?_)
  have c3_2 : w3.cell? ⟨w.heap.size, 2, none⟩ = some (.int .i64 g) := by
    refine cell_keep hb3 ?_
    repeat (first | with_reducible assumption | (refine cell_new' ?_ _ _ _ rfl; focus (simp; done)) | with_reducible refine cell_keep (below_new _ _) ?_)
  have c3_3 : w3.cell? ⟨w.heap.size + 1, 0, none⟩ = some (.int .i64 bh) := by
    refine cell_keep hb3 ?_
    repeat (first | with_reducible assumption | (refine cell_new' ?_ _ _ _ rfl; focus (simp; done)) | with_reducible refine cell_keep (below_new _ _) ?_)
  have c3_4 : w3.cell? ⟨w.heap.size + 1, 1, none⟩ = some (.slice A bs.length d) := by
    refine cell_keep hb3 ?_
    repeat (first | with_reducible assumption | (refine cell_new' ?_ _ _ _ rfl; focus (simp; done)) | with_reducible refine cell_keep (below_new _ _) ?_)
  clear c2_0 c2_1 c2_2 c2_3 c2_4
  go_wp2
  go_ret2
  exact ⟨ret_ib (by rw [hR.out]) (by rw [hR.out]), hT3⟩
set_option maxHeartbeats 800000 in
theorem checkOpeningS (p q g bh c m r : Int) (A : Option Addr) (d : Nat) (bs : List Int) (hl : bs.length ≤ 9223372036854775807) (w : World) (hx : RI w w.heap.size A bs) :
    Calls Try.prog 18 #[.agg #[.int .i64 p, .int .i64 q, .int .i64 g], .agg #[.int .i64 bh, .slice A bs.length d], .int .i64 c, .int .i64 m, .int .i64 r] w fun en w' => en = .returned (.tuple #[.bool (chkO p q g bh bs c m r).1, .bool (chkO p q g bh bs c m r).2]) ∧ Below w.heap.size w w' := by
  have hT0 : Below w.heap.size w ((w.alloc (.cells #[.int .i64 p, .int .i64 q, .int .i64 g] 28)).alloc (.cells #[.int .i64 bh, .slice A bs.length d] 38)) := by repeat (first | exact Below.refl _ _ | refine bnew ?_ _)
  go_enter Try.func18, Try.ntmps18
  go_wp2_with fail
  refine (l9Good_any p q g bh A d bs hl _ (hx.next (by repeat (first | with_reducible assumption | exact Below.refl _ _ | refine bnew ?_ _)))).mono ?_
  rintro e1 w1 ⟨rfl, hb1⟩
  have hT1 : Below w.heap.size w w1 := bnext (by repeat (first | exact hT0 | refine bnew ?_ _ | refine Below.drew ?_ | refine Below.drewN ?_ _)) hb1
  have c1_0 : w1.cell? ⟨w.heap.size, 0, none⟩ = some (.int .i64 p) := by
    refine cell_keep hb1 ?_
    repeat (first | with_reducible assumption | (refine cell_new' ?_ _ _ _ rfl; focus (simp; done)) | with_reducible refine cell_keep (below_new _ _) ?_)
  have c1_1 : w1.cell? ⟨w.heap.size, 1, none⟩ = some (.int .i64 q) := by
    refine cell_keep hb1 ?_
    repeat (first | with_reducible assumption | (refine cell_new' ?_ _ _ _ rfl; focus (simp; done)) | with_reducible refine cell_keep (below_new _ _) ?_)
  have c1_2 : w1.cell? ⟨w.heap.size, 2, none⟩ = some (.int .i64 g) := by
    refine cell_keep hb1 ?_
    repeat (first | with_reducible assumption | (refine cell_new' ?_ _ _ _ rfl; focus (simp; done)) | with_reducible refine cell_keep (below_new _ _) ?_)
  have c1_3 : w1.cell? ⟨w.heap.size + 1, 0, none⟩ = some (.int .i64 bh) := by
    refine cell_keep hb1 ?_
    repeat (first | with_reducible assumption | (refine cell_new' ?_ _ _ _ rfl; focus (simp; done)) | with_reducible refine cell_keep (below_new _ _) ?_)
  have c1_4 : w1.cell? ⟨w.heap.size + 1, 1, none⟩ = some (.slice A bs.length d) := by
    refine cell_keep hb1 ?_
    repeat (first | with_reducible assumption | (refine cell_new' ?_ _ _ _ rfl; focus (simp; done)) | with_reducible refine cell_keep (below_new _ _) ?_)
  rcases Bool.eq_false_or_eq_true (l9B p q g bh bs) with h9 | h9
  rotate_left
  · have hR := Lib.hid (show chkO p q g bh bs c m r = (false, false) by unfold chkO; rw [if_neg fun hh => Bool.false_ne_true (h9.symm.trans hh.1)])
    go_wp2
    go_ret2
    exact ⟨ret_bb (by rw [hR.out]) (by rw [hR.out]), hT1⟩
  obtain ⟨hg, hbb⟩ := l9B_of h9
  obtain ⟨l_bh, hb24, hbe⟩ := basesB_of hbb
  have d_bh := elem_bd l_bh
  have hG := M.goodB_of hg
  have g1 := hG.q2
  have g2 := hG.qp
  have g3 := hG.p3
  have g4 := hG.pM
  have HG := Lib.hid hG
  clear hG
  go_wp2_with fail
  refine (gExps_any p q g _ _ [m, r] _ (by omega) (RI.lit2 _ _ _ _ (by simp)) (by simp)).mono ?_
  rintro e2 w2 ⟨rfl, hb2⟩
  have hT2 : Below w.heap.size w w2 := bnext (by repeat (first | exact hT1 | refine bnew ?_ _ | refine Below.drew ?_ | refine Below.drewN ?_ _)) hb2
  have c2_0 : w2.cell? ⟨w.heap.size, 0, none⟩ = some (.int .i64 p) := by
    refine cell_keep hb2 ?_
    repeat (first | with_reducible assumption | (refine cell_new' ?_ _ _ _ rfl; focus (simp; done)) | with_reducible refine cell_keep (below_new _ _) ?_)
  have c2_1 : w2.cell? ⟨w.heap.size, 1, none⟩ = some (.int .i64 q) := by
    refine cell_keep hb2 ?_
    repeat (first | with_reducible assumption | (refine cell_new' ?_ _ _ _ rfl; focus (simp; done)) | with_reducible refine cell_keep (below_new _ _) ?_)
  have c2_2 : w2.cell? ⟨w.heap.size, 2, none⟩ = some (.int .i64 g) := by
    refine cell_keep hb2 ?_
    repeat (first | with_reducible assumption | (refine cell_new' ?_ _ _ _ rfl; focus (simp; done)) | with_reducible refine cell_keep (below_new _ _) ?_)
  have c2_3 : w2.cell? ⟨w.heap.size + 1, 0, none⟩ = some (.int .i64 bh) := by
    refine cell_keep hb2 ?_
    repeat (first | with_reducible assumption | (refine cell_new' ?_ _ _ _ rfl; focus (simp; done)) | with_reducible refine cell_keep (below_new _ _) ?_)
  have c2_4 : w2.cell? ⟨w.heap.size + 1, 1, none⟩ = some (.slice A bs.length d) := by
    refine cell_keep hb2 ?_
    repeat (first | with_reducible assumption | (refine cell_new' ?_ _ _ _ rfl; focus (simp; done)) | with_reducible refine cell_keep (below_new _ _) ?_)
  clear c1_0 c1_1 c1_2 c1_3 c1_4
  rcases Bool.eq_false_or_eq_true (expsB q [m, r]) with hs | hs
  rotate_left
  · have hR := Lib.hid (show chkO p q g bh bs c m r = (false, false) by unfold chkO; rw [if_neg fun hh => Bool.false_ne_true (hs.symm.trans hh.2.1)])
    go_wp2
    go_ret2
    exact ⟨ret_bb (by rw [hR.out]) (by rw [hR.out]), hT2⟩
  have b_m := expsB_mem hs (e := m) (by simp)
  have b_r := expsB_mem hs (e := r) (by simp)
  go_wp2_with fail
  refine (gIs_any p q g HG.out _ _ [c] (by simp) _ (RI.lit _ [c] _ (by simp))).mono ?_
  rw [show elemsB p q [c] = elemB p q c from by simp [elemsB]]
  rintro e3 w3 ⟨rfl, hb3⟩
  have hT3 : Below w.heap.size w w3 := bnext (by repeat (first | exact hT2 | refine bnew ?_ _ | refine Below.drew ?_ | refine Below.drewN ?_ _)) hb3
  have c3_0 : w3.cell? ⟨w.heap.size, 0, none⟩ = some (.int .i64 p) := by
    refine cell_keep hb3 ?_
    repeat (first | with_reducible assumption | (refine cell_new' ?_ _ _ _ rfl; focus (simp; done)) | with_reducible refine cell_keep (below_new _ _) ?_)
  have c3_1 : w3.cell? ⟨w.heap.size, 1, none⟩ = some (.int .i64 q) := by
    refine cell_keep hb3 ?_
    repeat (first | with_reducible assumption | (refine cell_new' ?_ _ _ _ rfl; focus (simp; done)) | with_reducible refine cell_keep (below_new _ _) ?_)
  have c3_2 : w3.cell? ⟨w.heap.size, 2, none⟩ = some (.int .i64 g) := by
    refine cell_keep hb3 ?_
    repeat (first | with_reducible assumption | (refine cell_new' ?_ _ _ _ rfl; focus (simp; done)) | with_reducible refine cell_keep (below_new _ _) ?_)
  have c3_3 : w3.cell? ⟨w.heap.size + 1, 0, none⟩ = some (.int .i64 bh) := by
    refine cell_keep hb3 ?_
    repeat (first | with_reducible assumption | (refine cell_new' ?_ _ _ _ rfl; focus (simp; done)) | with_reducible refine cell_keep (below_new _ _) ?_)
  have c3_4 : w3.cell? ⟨w.heap.size + 1, 1, none⟩ = some (.slice A bs.length d) := by
    refine cell_keep hb3 ?_
    repeat (first | with_reducible assumption | (refine cell_new' ?_ _ _ _ rfl; focus (simp; done)) | with_reducible refine cell_keep (below_new _ _) ?_)
  clear c2_0 c2_1 c2_2 c2_3 c2_4
  rcases Bool.eq_false_or_eq_true (elemB p q c) with h3 | h3
  rotate_left
  · have hR := Lib.hid (show chkO p q g bh bs c m r = (false, false) by unfold chkO; rw [if_neg fun hh => Bool.false_ne_true (h3.symm.trans hh.2.2)])
    go_wp2
    go_ret2
    exact ⟨ret_bb (by rw [hR.out]) (by rw [hR.out]), hT3⟩
  have l_c := elemB_t h3
  have d_c := elem_bd l_c
  have hR := Lib.hid (show chkO p q g bh bs c m r = (cmt p q g bh m r == c, true) by unfold chkO; rw [if_pos ⟨h9, hs, h3⟩])
  go_wp2_with fail
  refine (pCommit_any p q g bh m r _ _ _ HG.out d_bh b_m b_r _).mono ?_
  rintro e4 w4 ⟨rfl, hb4⟩
  have hT4 : Below w.heap.size w w4 := bnext (by repeat (first | exact hT3 | refine bnew ?_ _ | refine Below.drew ?_ | refine Below.drewN ?_ _)) hb4
  have c4_0 : w4.cell? ⟨w.heap.size, 0, none⟩ = some (.int .i64 p) := by
    refine cell_keep hb4 ?_
    repeat (first | with_reducible assumption | (refine cell_new' ?_ _ _ _ rfl; focus (simp; done)) | with_reducible refine cell_keep (below_new _ _) ?_)
  have c4_1 : w4.cell? ⟨w.heap.size, 1, none⟩ = some (.int .i64 q) := by
    refine cell_keep hb4 ?_
    repeat (first | with_reducible assumption | (refine cell_new' ?_ _ _ _ rfl; focus (simp; done)) | with_reducible refine cell_keep (below_new _ _) ?_)
  have c4_2 : w4.cell? ⟨w.heap.size, 2, none⟩ = some (.int .i64 g) := by
    refine cell_keep hb4 ?_
    repeat (first | with_reducible assumption | (refine cell_new' ?_ _ _ _ rfl; focus (simp; done)) | with_reducible refine cell_keep (below_new _ _) ?_)
  have c4_3 : w4.cell? ⟨w.heap.size + 1, 0, none⟩ = some (.int .i64 bh) := by
    refine cell_keep hb4 ?_
    repeat (first | with_reducible assumption | (refine cell_new' ?_ _ _ _ rfl; focus (simp; done)) | with_reducible refine cell_keep (below_new _ _) ?_)
  have c4_4 : w4.cell? ⟨w.heap.size + 1, 1, none⟩ = some (.slice A bs.length d) := by
    refine cell_keep hb4 ?_
    repeat (first | with_reducible assumption | (refine cell_new' ?_ _ _ _ rfl; focus (simp; done)) | with_reducible refine cell_keep (below_new _ _) ?_)
  clear c3_0 c3_1 c3_2 c3_3 c3_4
  go_wp2
  go_ret2
  exact ⟨ret_bb (by rw [hR.out]) (by rw [hR.out]), hT4⟩
set_option maxHeartbeats 800000 in
theorem checkOpeningI (p q g bh c m r : Int) (A : Option Addr) (d : Nat) (bs : List Int) (hl : bs.length ≤ 9223372036854775807) (w : World) (hx : RI w w.heap.size A bs) :
    Calls Try.prog 19 #[.agg #[.int .i64 p, .int .i64 q, .int .i64 g], .agg #[.int .i64 bh, .slice A bs.length d], .int .i64 c, .int .i64 m, .int .i64 r] w fun en w' => en = .returned (.tuple #[.bool (chkO p q g bh bs c m r).1, .bool (chkO p q g bh bs c m r).2]) ∧ Below w.heap.size w w' := by
  have hT0 : Below w.heap.size w ((w.alloc (.cells #[.int .i64 p, .int .i64 q, .int .i64 g] 28)).alloc (.cells #[.int .i64 bh, .slice A bs.length d] 38)) := by repeat (first | exact Below.refl _ _ | refine bnew ?_ _)
  go_enter Try.func19, Try.ntmps19
  go_wp2_with fail
  refine (commitI p q g bh m r A d bs hl _ (hx.next (by repeat (first | exact hT0 | refine bnew ?_ _ | refine Below.drew ?_ | refine Below.drewN ?_ _)))).mono ?_
  rintro e1 w1 ⟨rfl, hb1⟩
  have hT1 : Below w.heap.size w w1 := bnext (by repeat (first | exact hT0 | refine bnew ?_ _ | refine Below.drew ?_ | refine Below.drewN ?_ _)) hb1
  have c1_0 : w1.cell? ⟨w.heap.size, 0, none⟩ = some (.int .i64 p) := by
    refine cell_keep hb1 ?_
    repeat (first | with_reducible assumption | (refine cell_new' ?_ _ _ _ rfl; focus (simp; done)) | with_reducible refine cell_keep (below_new _ _) ?_)
  have c1_1 : w1.cell? ⟨w.heap.size, 1, none⟩ = some (.int .i64 q) := by
    refine cell_keep hb1 ?_
    repeat (first | with_reducible assumption | (refine cell_new' ?_ _ _ _ rfl; focus (simp; done)) | with_reducible refine cell_keep (below_new _ _) ?_)
  have c1_2 : w1.cell? ⟨w.heap.size, 2, none⟩ = some (.int .i64 g) := by
    refine cell_keep hb1 ?_
    repeat (first | with_reducible assumption | (refine cell_new' ?_ _ _ _ rfl; focus (simp; done)) | with_reducible refine cell_keep (below_new _ _) ?_)
  have c1_3 : w1.cell? ⟨w.heap.size + 1, 0, none⟩ = some (.int .i64 bh) := by
    refine cell_keep hb1 ?_
    repeat (first | with_reducible assumption | (refine cell_new' ?_ _ _ _ rfl; focus (simp; done)) | with_reducible refine cell_keep (below_new _ _) ?_)
  have c1_4 : w1.cell? ⟨w.heap.size + 1, 1, none⟩ = some (.slice A bs.length d) := by
    refine cell_keep hb1 ?_
    repeat (first | with_reducible assumption | (refine cell_new' ?_ _ _ _ rfl; focus (simp; done)) | with_reducible refine cell_keep (below_new _ _) ?_)
  rcases Bool.eq_false_or_eq_true (l9B p q g bh bs) with h9 | h9
  rotate_left
  · have hR := Lib.hid (show chkO p q g bh bs c m r = (false, false) by unfold chkO; rw [if_neg fun hh => Bool.false_ne_true (h9.symm.trans hh.1)])
    have hE : comV p q g bh bs m r = (0, false) := by unfold comV; rw [if_neg fun hh => Bool.false_ne_true (h9.symm.trans hh.1)]
    go_wp2
    go_ret2
    exact ⟨ret_bb (by rw [hR.out]) (by rw [hR.out]), hT1⟩
  obtain ⟨hg, hbb⟩ := l9B_of h9
  obtain ⟨l_bh, hb24, hbe⟩ := basesB_of hbb
  have d_bh := elem_bd l_bh
  have hG := M.goodB_of hg
  have g1 := hG.q2
  have g2 := hG.qp
  have g3 := hG.p3
  have g4 := hG.pM
  have HG := Lib.hid hG
  clear hG
  rcases Bool.eq_false_or_eq_true (expsB q [m, r]) with hs | hs
  rotate_left
  · have hR := Lib.hid (show chkO p q g bh bs c m r = (false, false) by unfold chkO; rw [if_neg fun hh => Bool.false_ne_true (hs.symm.trans hh.2.1)])
    have hE : comV p q g bh bs m r = (0, false) := by unfold comV; rw [if_neg fun hh => Bool.false_ne_true (hs.symm.trans hh.2)]
    go_wp2
    go_ret2
    exact ⟨ret_bb (by rw [hR.out]) (by rw [hR.out]), hT1⟩
  have hE : comV p q g bh bs m r = (cmt p q g bh m r, true) := by unfold comV; rw [if_pos ⟨h9, hs⟩]
  go_wp2_with fail
  refine (has_any p q g c HG.out _).mono ?_
  rintro e2 w2 ⟨rfl, hb2⟩
  have hT2 : Below w.heap.size w w2 := bnext (by repeat (first | exact hT1 | refine bnew ?_ _ | refine Below.drew ?_ | refine Below.drewN ?_ _)) hb2
  have c2_0 : w2.cell? ⟨w.heap.size, 0, none⟩ = some (.int .i64 p) := by
    refine cell_keep hb2 ?_
    repeat (first | with_reducible assumption | (refine cell_new' ?_ _ _ _ rfl; focus (simp; done)) | with_reducible refine cell_keep (below_new _ _) ?_)
  have c2_1 : w2.cell? ⟨w.heap.size, 1, none⟩ = some (.int .i64 q) := by
    refine cell_keep hb2 ?_
    repeat (first | with_reducible assumption | (refine cell_new' ?_ _ _ _ rfl; focus (simp; done)) | with_reducible refine cell_keep (below_new _ _) ?_)
  have c2_2 : w2.cell? ⟨w.heap.size, 2, none⟩ = some (.int .i64 g) := by
    refine cell_keep hb2 ?_
    repeat (first | with_reducible assumption | (refine cell_new' ?_ _ _ _ rfl; focus (simp; done)) | with_reducible refine cell_keep (below_new _ _) ?_)
  have c2_3 : w2.cell? ⟨w.heap.size + 1, 0, none⟩ = some (.int .i64 bh) := by
    refine cell_keep hb2 ?_
    repeat (first | with_reducible assumption | (refine cell_new' ?_ _ _ _ rfl; focus (simp; done)) | with_reducible refine cell_keep (below_new _ _) ?_)
  have c2_4 : w2.cell? ⟨w.heap.size + 1, 1, none⟩ = some (.slice A bs.length d) := by
    refine cell_keep hb2 ?_
    repeat (first | with_reducible assumption | (refine cell_new' ?_ _ _ _ rfl; focus (simp; done)) | with_reducible refine cell_keep (below_new _ _) ?_)
  clear c1_0 c1_1 c1_2 c1_3 c1_4
  rcases Bool.eq_false_or_eq_true (elemB p q c) with h3 | h3
  rotate_left
  · have hR := Lib.hid (show chkO p q g bh bs c m r = (false, false) by unfold chkO; rw [if_neg fun hh => Bool.false_ne_true (h3.symm.trans hh.2.2)])
    go_wp2
    go_ret2
    exact ⟨ret_bb (by rw [hR.out]) (by rw [hR.out]), hT2⟩
  have hR := Lib.hid (show chkO p q g bh bs c m r = (cmt p q g bh m r == c, true) by unfold chkO; rw [if_pos ⟨h9, hs, h3⟩])
  go_wp2
  go_ret2
  exact ⟨ret_bb (by rw [hR.out]) (by rw [hR.out]), hT2⟩
end Go.Proofs.Ytekfeplaphemkaa
