/- Walks: RespondTo, Equivocate, CoinsForRange. -/
import Derived.Test.YtobomnnobndebaaN3
namespace Go.Proofs.Ytobomnnobndebaa
open Go.RowKit
theorem toGroup_any (p q g : Int) (w : World) :
    Calls Try.prog 9 #[.agg #[.int .i64 p, .int .i64 q, .int .i64 g]] w fun en w' => en = .returned (.agg #[.int .i64 p, .int .i64 q, .int .i64 g]) ∧ Below w.heap.size w w' := by
  go_enter Try.func9, Try.ntmps9
  go_wp2
  exact bodyPost_ret (v := .agg #[.int .i64 p, .int .i64 q, .int .i64 g]) (by simp [results, Try.results9, go_sem]) rfl ⟨rfl, bnew (bnew (below_new w _) _) _⟩
noncomputable def respondTo (p q g s c e : Int) : Int × Bool := if M.goodB p q g = true ∧ expsB q [s, c, e] = true then ((c + e * s) % q, true) else (0, false)
theorem respondToI_any (p q g s c e : Int) (w : World) :
    Calls Try.prog 10 #[.agg #[.int .i64 p, .int .i64 q, .int .i64 g], .int .i64 s, .int .i64 c, .int .i64 e] w fun en w' => en = .returned (.tuple #[.int .i64 (respondTo p q g s c e).1, .bool (respondTo p q g s c e).2]) ∧ Below w.heap.size w w' := by
  by_cases hg : M.goodB p q g = true
  · have hG := M.goodB_of hg
    have g1 := hG.q2
    have g2 := hG.qp
    have g3 := hG.pM
    clear hG
    by_cases hs : expsB q [s, c, e] = true
    · have hR := Lib.hid (show respondTo p q g s c e = ((c + e * s) % q, true) by unfold respondTo; rw [if_pos ⟨hg, hs⟩])
      obtain ⟨s1, s2⟩ := expsB_mem hs (e := s) (by simp)
      obtain ⟨s3, s4⟩ := expsB_mem hs (e := c) (by simp)
      obtain ⟨s5, s6⟩ := expsB_mem hs (e := e) (by simp)
      obtain ⟨q1, q2⟩ := M.mul_fit ⟨s5, s6⟩ ⟨s1, s2⟩ (by omega)
      go_enter Try.func10, Try.ntmps10
      go_wp2_with fail
      refine (isValidGroup_any p q g _).mono ?_
      rintro e1 w1 ⟨rfl, hb1⟩
      obtain ⟨hc1, hf1⟩ := bcell hb1
      go_wp2_with fail
      refine (areExps_any p q g _ _ [s, c, e] _ (by omega) (RI.lit w1 [s, c, e] 3) (by simp)).mono ?_
      rintro e2 w2 ⟨rfl, hb2⟩
      have hB2 := bnext (bnew hb1 _) hb2
      obtain ⟨hc2, hf2⟩ := bcell hB2
      clear hc1 hf1
      go_wp2_with (go_at_call 19; refine (exp_any _ _ _ _ _ (by omega) (by omega)).mono ?_; rintro e3 w3 ⟨rfl, hb3⟩)
      go_ret2
      exact ⟨ret_ib (by rw [hR.out]) (by rw [hR.out]), bnext (bnext (below_new w _) hB2) (by assumption)⟩
    · have hs' : expsB q [s, c, e] = false := by simpa using hs
      have hR := Lib.hid (show respondTo p q g s c e = (0, false) by unfold respondTo; rw [if_neg fun h => hs h.2])
      clear hs
      go_enter Try.func10, Try.ntmps10
      go_wp2_with fail
      refine (isValidGroup_any p q g _).mono ?_
      rintro e1 w1 ⟨rfl, hb1⟩
      obtain ⟨hc1, hf1⟩ := bcell hb1
      go_wp2_with fail
      refine (areExps_any p q g _ _ [s, c, e] _ (by omega) (RI.lit w1 [s, c, e] 3) (by simp)).mono ?_
      rintro e2 w2 ⟨rfl, hb2⟩
      go_wp2
      go_ret2
      exact ⟨ret_ib (by rw [hR.out]) (by rw [hR.out]), bnext (bnew (bnext (below_new w _) hb1) _) hb2⟩
  · have hg' : M.goodB p q g = false := by simpa using hg
    have hR := Lib.hid (show respondTo p q g s c e = (0, false) by unfold respondTo; rw [if_neg fun h => hg h.1])
    clear hg
    go_enter Try.func10, Try.ntmps10
    go_wp2_with fail
    refine (isValidGroup_any p q g _).mono ?_
    rintro e1 w1 ⟨rfl, hb1⟩
    go_wp2
    go_ret2
    exact ⟨ret_ib (by rw [hR.out]) (by rw [hR.out]), bnext (below_new w _) hb1⟩
theorem respondToS_any (p q g s c e : Int) (w : World) :
    Calls Try.prog 8 #[.agg #[.int .i64 p, .int .i64 q, .int .i64 g], .int .i64 s, .int .i64 c, .int .i64 e] w fun en w' => en = .returned (.tuple #[.int .i64 (respondTo p q g s c e).1, .bool (respondTo p q g s c e).2]) ∧ Below w.heap.size w w' := by
  by_cases hg : M.goodB p q g = true
  · have hG := M.goodB_of hg
    have g1 := hG.q2
    have g2 := hG.qp
    have g3 := hG.pM
    clear hG
    by_cases hs : expsB q [s, c, e] = true
    · have hR := Lib.hid (show respondTo p q g s c e = ((c + e * s) % q, true) by unfold respondTo; rw [if_pos ⟨hg, hs⟩])
      obtain ⟨s1, s2⟩ := expsB_mem hs (e := s) (by simp)
      obtain ⟨s3, s4⟩ := expsB_mem hs (e := c) (by simp)
      obtain ⟨s5, s6⟩ := expsB_mem hs (e := e) (by simp)
      obtain ⟨q1, q2⟩ := M.mul_fit ⟨s5, s6⟩ ⟨s1, s2⟩ (by omega)
      go_enter Try.func8, Try.ntmps8
      go_wp2_with fail
      refine (l2Good_any p q g _).mono ?_
      rintro e1 w1 ⟨rfl, hb1⟩
      obtain ⟨hc1, hf1⟩ := bcell hb1
      go_wp2_with fail
      refine (gExps_any p q g _ _ [s, c, e] _ (by omega) (RI.lit w1 [s, c, e] 3) (by simp)).mono ?_
      rintro e2 w2 ⟨rfl, hb2⟩
      have hB2 := bnext (bnew hb1 _) hb2
      obtain ⟨hc2, hf2⟩ := bcell hB2
      clear hc1 hf1
      go_wp2
      go_ret2
      exact ⟨ret_ib (by rw [hR.out]) (by rw [hR.out]), bnext (below_new w _) hB2⟩
    · have hs' : expsB q [s, c, e] = false := by simpa using hs
      have hR := Lib.hid (show respondTo p q g s c e = (0, false) by unfold respondTo; rw [if_neg fun h => hs h.2])
      clear hs
      go_enter Try.func8, Try.ntmps8
      go_wp2_with fail
      refine (l2Good_any p q g _).mono ?_
      rintro e1 w1 ⟨rfl, hb1⟩
      obtain ⟨hc1, hf1⟩ := bcell hb1
      go_wp2_with fail
      refine (gExps_any p q g _ _ [s, c, e] _ (by omega) (RI.lit w1 [s, c, e] 3) (by simp)).mono ?_
      rintro e2 w2 ⟨rfl, hb2⟩
      go_wp2
      go_ret2
      exact ⟨ret_ib (by rw [hR.out]) (by rw [hR.out]), bnext (bnew (bnext (below_new w _) hb1) _) hb2⟩
  · have hg' : M.goodB p q g = false := by simpa using hg
    have hR := Lib.hid (show respondTo p q g s c e = (0, false) by unfold respondTo; rw [if_neg fun h => hg h.1])
    clear hg
    go_enter Try.func8, Try.ntmps8
    go_wp2_with fail
    refine (l2Good_any p q g _).mono ?_
    rintro e1 w1 ⟨rfl, hb1⟩
    go_wp2
    go_ret2
    exact ⟨ret_ib (by rw [hR.out]) (by rw [hR.out]), bnext (below_new w _) hb1⟩
end Go.Proofs.Ytobomnnobndebaa
