import Derived.Test.YtgnnmifpfgpllaaZE7
/- Walks: Commit, CheckOpening. -/
set_option linter.all false
set_option linter.unusedVariables false
set_option linter.unusedSimpArgs false
namespace Go.Proofs.Ytgnnmifpfgpllaa
open Go.RowKit
def cmt (p q g bh m r : Int) : Int := M.gpw p q g m * M.gpw p q bh r % p
theorem l9B_of {p q g bh : Int} {bs : List Int} (h : l9B p q g bh bs = true) : M.goodB p q g = true ∧ basesB p q bh bs = true := by
  unfold l9B at h; simpa using h
theorem basesB_of {p q bh : Int} {bs : List Int} (h : basesB p q bh bs = true) : M.elem p q bh ∧ bs.length ≤ 24 ∧ elemsB p q bs = true := by
  unfold basesB at h
  simp only [Bool.and_eq_true, decide_eq_true_eq] at h
  exact ⟨elemB_t h.1.1.1.2, h.1.1.2, h.2⟩
set_option maxHeartbeats 800000 in
theorem commit_any (p q g bh m r : Int) (A : Option Addr) (n d : Nat) (hG : M.Grp p q g) (hb : 0 ≤ bh ∧ bh < p) (hm : 0 ≤ m ∧ m < q) (hr : 0 ≤ r ∧ r < q) (w : World) :
    Calls Try.prog 92 #[.agg #[.int .i64 p, .int .i64 q, .int .i64 g], .agg #[.int .i64 bh, .slice A n d], .int .i64 m, .int .i64 r] w fun en w' => en = .returned (.int .i64 (cmt p q g bh m r)) ∧ Below w.heap.size w w' := by
  have hgb : 0 ≤ g ∧ g < p := elem_bd hG.gen
  have g1 := hG.q2
  have g2 := hG.qp
  have g3 := hG.p3
  have g4 := hG.pM
  have HG := Lib.hid hG
  clear hG
  have hT0 : Below w.heap.size w ((w.alloc (.cells #[.int .i64 p, .int .i64 q, .int .i64 g] 34)).alloc (.cells #[.int .i64 bh, .slice A n d] 36)) := by repeat (first | exact Below.refl _ _ | refine bnew ?_ _)
  go_enter Try.func92, Try.ntmps92
  have c0_0 : ((w.alloc (.cells #[.int .i64 p, .int .i64 q, .int .i64 g] 34)).alloc (.cells #[.int .i64 bh, .slice A n d] 36)).cell? ⟨w.heap.size, 0, none⟩ = some (.int .i64 p) := by
    repeat (first | with_reducible assumption | (refine cell_new' ?_ _ _ _ rfl; focus (simp; done)) | with_reducible refine cell_keep (below_new _ _) ?_)
  have c0_1 : ((w.alloc (.cells #[.int .i64 p, .int .i64 q, .int .i64 g] 34)).alloc (.cells #[.int .i64 bh, .slice A n d] 36)).cell? ⟨w.heap.size, 1, none⟩ = some (.int .i64 q) := by
    repeat (first | with_reducible assumption | (refine cell_new' ?_ _ _ _ rfl; focus (simp; done)) | with_reducible refine cell_keep (below_new _ _) ?_)
  have c0_2 : ((w.alloc (.cells #[.int .i64 p, .int .i64 q, .int .i64 g] 34)).alloc (.cells #[.int .i64 bh, .slice A n d] 36)).cell? ⟨w.heap.size, 2, none⟩ = some (.int .i64 g) := by
    repeat (first | with_reducible assumption | (refine cell_new' ?_ _ _ _ rfl; focus (simp; done)) | with_reducible refine cell_keep (below_new _ _) ?_)
  have c0_3 : ((w.alloc (.cells #[.int .i64 p, .int .i64 q, .int .i64 g] 34)).alloc (.cells #[.int .i64 bh, .slice A n d] 36)).cell? ⟨w.heap.size + 1, 0, none⟩ = some (.int .i64 bh) := by
    repeat (first | with_reducible assumption | (refine cell_new' ?_ _ _ _ rfl; focus (simp; done)) | with_reducible refine cell_keep (below_new _ _) ?_)
  have c0_4 : ((w.alloc (.cells #[.int .i64 p, .int .i64 q, .int .i64 g] 34)).alloc (.cells #[.int .i64 bh, .slice A n d] 36)).cell? ⟨w.heap.size + 1, 1, none⟩ = some (.slice A n d) := by
    repeat (first | with_reducible assumption | (refine cell_new' ?_ _ _ _ rfl; focus (simp; done)) | with_reducible refine cell_keep (below_new _ _) ?_)
  go_wp2_with fail
  go_region_held3 (fun W' => W'.cell? ⟨w.heap.size, 0, none⟩ = some (.int .i64 p) ∧ W'.cell? ⟨w.heap.size, 1, none⟩ = some (.int .i64 q) ∧ W'.cell? ⟨w.heap.size, 2, none⟩ = some (.int .i64 g) ∧ W'.cell? ⟨w.heap.size + 1, 0, none⟩ = some (.int .i64 bh) ∧ W'.cell? ⟨w.heap.size + 1, 1, none⟩ = some (.slice A n d) ∧ Below w.heap.size w W') ((go_split_ands; refine ⟨?_, ?_, ?_, ?_, ?_, ?_⟩; (first | with_reducible exact cell_keep (by with_reducible assumption) (by with_reducible assumption) | with_reducible exact cell_keep (below_new _ _) (by with_reducible assumption) | (with_reducible refine cell_set _ ?_ (by simp); (repeat with_reducible refine cell_set _ ?_ (by simp)); with_reducible assumption) | with_reducible exact cell_drew (by with_reducible assumption) | go_keep); (first | with_reducible exact cell_keep (by with_reducible assumption) (by with_reducible assumption) | with_reducible exact cell_keep (below_new _ _) (by with_reducible assumption) | (with_reducible refine cell_set _ ?_ (by simp); (repeat with_reducible refine cell_set _ ?_ (by simp)); with_reducible assumption) | with_reducible exact cell_drew (by with_reducible assumption) | go_keep); (first | with_reducible exact cell_keep (by with_reducible assumption) (by with_reducible assumption) | with_reducible exact cell_keep (below_new _ _) (by with_reducible assumption) | (with_reducible refine cell_set _ ?_ (by simp); (repeat with_reducible refine cell_set _ ?_ (by simp)); with_reducible assumption) | with_reducible exact cell_drew (by with_reducible assumption) | go_keep); (first | with_reducible exact cell_keep (by with_reducible assumption) (by with_reducible assumption) | with_reducible exact cell_keep (below_new _ _) (by with_reducible assumption) | (with_reducible refine cell_set _ ?_ (by simp); (repeat with_reducible refine cell_set _ ?_ (by simp)); with_reducible assumption) | with_reducible exact cell_drew (by with_reducible assumption) | go_keep); (first | with_reducible exact cell_keep (by with_reducible assumption) (by with_reducible assumption) | with_reducible exact cell_keep (below_new _ _) (by with_reducible assumption) | (with_reducible refine cell_set _ ?_ (by simp); (repeat with_reducible refine cell_set _ ?_ (by simp)); with_reducible assumption) | with_reducible exact cell_drew (by with_reducible assumption) | go_keep); (repeat (first | with_reducible assumption | with_reducible refine bnext ?_ (by with_reducible assumption) | with_reducible refine bnew ?_ _ | with_reducible refine below_set _ ?_ (by simp) | with_reducible refine Below.drew ?_ | with_reducible refine Below.drewN ?_ _)); done)) (first | (go_at_call 55; refine (pow_any _ _ _ _ _ HG.out (by assumption) (by omega) _).mono ?_; rintro e1 w1 ⟨rfl, hb1⟩) | (go_at_call 54; refine (mul2_any _ _ _ _ _ HG.out (by first | assumption | exact M.gpw_lt g3) (by first | assumption | exact M.gpw_lt g3) _ _ _ (RI.lit2 _ _ _ _ (by simp))).mono ?_; rintro e1 w1 ⟨rfl, hb1⟩))
  obtain ⟨c1_0, c1_1, c1_2, c1_3, c1_4, hT1⟩ := (by assumption : _ ∧ _ ∧ _ ∧ _ ∧ _ ∧  _)
  clear c0_0 c0_1 c0_2 c0_3 c0_4
  go_wp2
  go_ret
  exact ⟨rfl, hT1⟩
set_option maxHeartbeats 800000 in
theorem pCommit_any (p q g bh m r : Int) (A : Option Addr) (n d : Nat) (hG : M.Grp p q g) (hb : 0 ≤ bh ∧ bh < p) (hm : 0 ≤ m ∧ m < q) (hr : 0 ≤ r ∧ r < q) (w : World) :
    Calls Try.prog 90 #[.agg #[.int .i64 p, .int .i64 q, .int .i64 g], .agg #[.int .i64 bh, .slice A n d], .int .i64 m, .int .i64 r] w fun en w' => en = .returned (.int .i64 (cmt p q g bh m r)) ∧ Below w.heap.size w w' := by
  have hgb : 0 ≤ g ∧ g < p := elem_bd hG.gen
  have g1 := hG.q2
  have g2 := hG.qp
  have g3 := hG.p3
  have g4 := hG.pM
  have HG := Lib.hid hG
  clear hG
  have hT0 : Below w.heap.size w ((w.alloc (.cells #[.int .i64 p, .int .i64 q, .int .i64 g] 34)).alloc (.cells #[.int .i64 bh, .slice A n d] 36)) := by repeat (first | exact Below.refl _ _ | refine bnew ?_ _)
  go_enter Try.func90, Try.ntmps90
  have c0_0 : ((w.alloc (.cells #[.int .i64 p, .int .i64 q, .int .i64 g] 34)).alloc (.cells #[.int .i64 bh, .slice A n d] 36)).cell? ⟨w.heap.size, 0, none⟩ = some (.int .i64 p) := by
    repeat (first | with_reducible assumption | (refine cell_new' ?_ _ _ _ rfl; focus (simp; done)) | with_reducible refine cell_keep (below_new _ _) ?_)
  have c0_1 : ((w.alloc (.cells #[.int .i64 p, .int .i64 q, .int .i64 g] 34)).alloc (.cells #[.int .i64 bh, .slice A n d] 36)).cell? ⟨w.heap.size, 1, none⟩ = some (.int .i64 q) := by
    repeat (first | with_reducible assumption | (refine cell_new' ?_ _ _ _ rfl; focus (simp; done)) | with_reducible refine cell_keep (below_new _ _) ?_)
  have c0_2 : ((w.alloc (.cells #[.int .i64 p, .int .i64 q, .int .i64 g] 34)).alloc (.cells #[.int .i64 bh, .slice A n d] 36)).cell? ⟨w.heap.size, 2, none⟩ = some (.int .i64 g) := by
    repeat (first | with_reducible assumption | (refine cell_new' ?_ _ _ _ rfl; focus (simp; done)) | with_reducible refine cell_keep (below_new _ _) ?_)
  have c0_3 : ((w.alloc (.cells #[.int .i64 p, .int .i64 q, .int .i64 g] 34)).alloc (.cells #[.int .i64 bh, .slice A n d] 36)).cell? ⟨w.heap.size + 1, 0, none⟩ = some (.int .i64 bh) := by
    repeat (first | with_reducible assumption | (refine cell_new' ?_ _ _ _ rfl; focus (simp; done)) | with_reducible refine cell_keep (below_new _ _) ?_)
  have c0_4 : ((w.alloc (.cells #[.int .i64 p, .int .i64 q, .int .i64 g] 34)).alloc (.cells #[.int .i64 bh, .slice A n d] 36)).cell? ⟨w.heap.size + 1, 1, none⟩ = some (.slice A n d) := by
    repeat (first | with_reducible assumption | (refine cell_new' ?_ _ _ _ rfl; focus (simp; done)) | with_reducible refine cell_keep (below_new _ _) ?_)
  go_wp2_with fail
  go_region_held3 (fun W' => W'.cell? ⟨w.heap.size, 0, none⟩ = some (.int .i64 p) ∧ W'.cell? ⟨w.heap.size, 1, none⟩ = some (.int .i64 q) ∧ W'.cell? ⟨w.heap.size, 2, none⟩ = some (.int .i64 g) ∧ W'.cell? ⟨w.heap.size + 1, 0, none⟩ = some (.int .i64 bh) ∧ W'.cell? ⟨w.heap.size + 1, 1, none⟩ = some (.slice A n d) ∧ Below w.heap.size w W') ((go_split_ands; refine ⟨?_, ?_, ?_, ?_, ?_, ?_⟩; (first | with_reducible exact cell_keep (by with_reducible assumption) (by with_reducible assumption) | with_reducible exact cell_keep (below_new _ _) (by with_reducible assumption) | (with_reducible refine cell_set _ ?_ (by simp); (repeat with_reducible refine cell_set _ ?_ (by simp)); with_reducible assumption) | with_reducible exact cell_drew (by with_reducible assumption) | go_keep); (first | with_reducible exact cell_keep (by with_reducible assumption) (by with_reducible assumption) | with_reducible exact cell_keep (below_new _ _) (by with_reducible assumption) | (with_reducible refine cell_set _ ?_ (by simp); (repeat with_reducible refine cell_set _ ?_ (by simp)); with_reducible assumption) | with_reducible exact cell_drew (by with_reducible assumption) | go_keep); (first | with_reducible exact cell_keep (by with_reducible assumption) (by with_reducible assumption) | with_reducible exact cell_keep (below_new _ _) (by with_reducible assumption) | (with_reducible refine cell_set _ ?_ (by simp); (repeat with_reducible refine cell_set _ ?_ (by simp)); with_reducible assumption) | with_reducible exact cell_drew (by with_reducible assumption) | go_keep); (first | with_reducible exact cell_keep (by with_reducible assumption) (by with_reducible assumption) | with_reducible exact cell_keep (below_new _ _) (by with_reducible assumption) | (with_reducible refine cell_set _ ?_ (by simp); (repeat with_reducible refine cell_set _ ?_ (by simp)); with_reducible assumption) | with_reducible exact cell_drew (by with_reducible assumption) | go_keep); (first | with_reducible exact cell_keep (by with_reducible assumption) (by with_reducible assumption) | with_reducible exact cell_keep (below_new _ _) (by with_reducible assumption) | (with_reducible refine cell_set _ ?_ (by simp); (repeat with_reducible refine cell_set _ ?_ (by simp)); with_reducible assumption) | with_reducible exact cell_drew (by with_reducible assumption) | go_keep); (repeat (first | with_reducible assumption | with_reducible refine bnext ?_ (by with_reducible assumption) | with_reducible refine bnew ?_ _ | with_reducible refine below_set _ ?_ (by simp) | with_reducible refine Below.drew ?_ | with_reducible refine Below.drewN ?_ _)); done)) (first | (go_at_call 51; refine (gExp_any _ _ _ _ _ HG.out (by assumption) (by omega) _).mono ?_; rintro e1 w1 ⟨rfl, hb1⟩) | (go_at_call 50; refine (gMul2_any _ _ _ _ _ HG.out (by first | assumption | exact M.gpw_lt g3) (by first | assumption | exact M.gpw_lt g3) _ _ _ (RI.lit2 _ _ _ _ (by simp))).mono ?_; rintro e1 w1 ⟨rfl, hb1⟩))
  obtain ⟨c1_0, c1_1, c1_2, c1_3, c1_4, hT1⟩ := (by assumption : _ ∧ _ ∧ _ ∧ _ ∧ _ ∧  _)
  clear c0_0 c0_1 c0_2 c0_3 c0_4
  go_wp2
  go_ret
  exact ⟨rfl, hT1⟩
end Go.Proofs.Ytgnnmifpfgpllaa
