/- Walks of the group layer: valid groups. -/
import Derived.Test.YtljlimlgdnbllaaN2
set_option linter.all false
set_option linter.unusedVariables false
set_option linter.unusedSimpArgs false
namespace Go.Proofs.Ytljlimlgdnbllaa
open Go.RowKit
theorem good_lemma {p q g : Int} (g1 : 3 ≤ p) (g2 : p ≤ 2000000000) (g3 : 2 ≤ q) (g4 : q ≤ p - 1) (g5 : 2 ≤ g) (g6 : g ≤ p - 1) {b : Bool}
    (h : b = true ↔ ((p - 1) % q = 0 ∧ M.primeB p = true ∧ M.primeB q = true ∧ M.pw g q p = 1)) : M.goodB p q g = b :=
  M.goodB_iff (h.trans ⟨fun ⟨a, b, c, d⟩ => ⟨g1, g2, g3, by omega, a, g5, by omega, M.primeB_of b, M.primeB_of c, d⟩, fun hg => ⟨hg.dv, M.primeB_t hg.pp, M.primeB_t hg.pq, hg.go⟩⟩)
theorem way1 {D A B : Prop} {x q : Int} (h : D) (hA : A) (hB : q ≤ 2000000000 ∧ B) : (x == 1) = true ↔ D ∧ A ∧ B ∧ x = 1 := by simp [h, hA, hB.2]
theorem way2 {D A B : Prop} {x q : Int} (h : q ≤ 2000000000) (hB : ¬ (q ≤ 2000000000 ∧ B)) : false = true ↔ D ∧ A ∧ B ∧ x = 1 := by
  have : ¬ B := fun hb => hB ⟨h, hb⟩
  simp [this]
theorem way3 {D A B : Prop} {x : Int} (h : ¬ A) : false = true ↔ D ∧ A ∧ B ∧ x = 1 := by simp [h]
theorem way4 {D A B : Prop} {x : Int} (h : ¬ D) : false = true ↔ D ∧ A ∧ B ∧ x = 1 := by simp [h]
theorem way5 {D B : Prop} {a : Bool} {x : Int} (h : D) (hx : x = 1) (hB : B) : a = true ↔ D ∧ a = true ∧ B ∧ x = 1 := by simp [h, hx, hB]
theorem way6 {D A B : Prop} {x : Int} (h : ¬ B) : false = true ↔ D ∧ A ∧ B ∧ x = 1 := by simp [h]
theorem way7 {D A B : Prop} {x : Int} (h : ¬ x = 1) : false = true ↔ D ∧ A ∧ B ∧ x = 1 := by simp [h]
theorem bad1 {p q g : Int} (h : inr p 3 2000000000 = false) : M.goodB p q g = false := M.goodB_not fun hg => inr_f h ⟨hg.p3, hg.pM⟩
theorem bad2 {p q g : Int} (h : inr q 2 (p - 1) = false) : M.goodB p q g = false := M.goodB_not fun hg => inr_f h ⟨hg.q2, by have := hg.qp; omega⟩
theorem bad3 {p q g : Int} (h : inr g 2 (p - 1) = false) : M.goodB p q g = false := M.goodB_not fun hg => inr_f h ⟨hg.g2, by have := hg.gp; omega⟩
set_option maxHeartbeats 800000 in
theorem isValidGroup_any (p q g : Int) (w : World) :
    Calls Try.prog 101 #[.agg #[.int .i64 p, .int .i64 q, .int .i64 g]] w fun en w' => en = .returned (.bool (M.goodB p q g)) ∧ Below w.heap.size w w' := by
  by_cases h1 : inr p 3 2000000000 = true
  · obtain ⟨g1, g2⟩ := inr_t h1
    by_cases h2 : inr q 2 (p - 1) = true
    · obtain ⟨g3, g4⟩ := inr_t h2
      by_cases h4 : inr g 2 (p - 1) = true
      · obtain ⟨g5, g6⟩ := inr_t h4
        go_enter Try.func101, Try.ntmps101
        go_wp2_with (first | (go_at_call 71; refine (within_any _ _ _ _).mono ?_; rintro e w' ⟨rfl, rfl⟩) | (go_at_call 141; refine (isPrime_any _ _).mono ?_; rintro e w' ⟨rfl, rfl⟩) | (go_at_call 129; refine (power_any _ _ _ _ (by omega) (by omega) (by omega)).mono ?_; rintro e w' ⟨rfl, rfl⟩))
        all_goals go_ret
        all_goals refine ⟨ret_bool (good_lemma g1 g2 g3 g4 g5 g6 ?_).symm, below_new w _⟩
        all_goals first
          | exact way1 (by assumption) (by assumption) (by assumption)
          | exact way2 (q := q) (by omega) (by assumption)
          | exact way3 (by assumption)
          | exact way4 (by assumption)
          | exact way5 (by assumption) (by assumption) (by assumption)
          | exact way6 (by assumption)
          | exact way7 (by assumption)
      · have h4' : inr g 2 (p - 1) = false := by simpa using h4
        have hB := Lib.hid (bad3 (q := q) h4')
        clear h4
        go_enter Try.func101, Try.ntmps101
        go_wp2_with (first | (go_at_call 71; refine (within_any _ _ _ _).mono ?_; rintro e w' ⟨rfl, rfl⟩) | (go_at_call 141; refine (isPrime_any _ _).mono ?_; rintro e w' ⟨rfl, rfl⟩) | (go_at_call 129; refine (power_any _ _ _ _ (by omega) (by omega) (by omega)).mono ?_; rintro e w' ⟨rfl, rfl⟩))
        all_goals go_ret
        all_goals exact ⟨ret_bool hB.out.symm, below_new w _⟩
    · have h2' : inr q 2 (p - 1) = false := by simpa using h2
      have hB := Lib.hid (bad2 (g := g) h2')
      clear h2
      go_enter Try.func101, Try.ntmps101
      go_wp2_with (first | (go_at_call 71; refine (within_any _ _ _ _).mono ?_; rintro e w' ⟨rfl, rfl⟩) | (go_at_call 141; refine (isPrime_any _ _).mono ?_; rintro e w' ⟨rfl, rfl⟩) | (go_at_call 129; refine (power_any _ _ _ _ (by omega) (by omega) (by omega)).mono ?_; rintro e w' ⟨rfl, rfl⟩))
      all_goals go_ret
      all_goals exact ⟨ret_bool hB.out.symm, below_new w _⟩
  · have h1' : inr p 3 2000000000 = false := by simpa using h1
    have hB := Lib.hid (bad1 (q := q) (g := g) h1')
    clear h1
    go_enter Try.func101, Try.ntmps101
    go_wp2_with (first | (go_at_call 71; refine (within_any _ _ _ _).mono ?_; rintro e w' ⟨rfl, rfl⟩) | (go_at_call 141; refine (isPrime_any _ _).mono ?_; rintro e w' ⟨rfl, rfl⟩) | (go_at_call 129; refine (power_any _ _ _ _ (by omega) (by omega) (by omega)).mono ?_; rintro e w' ⟨rfl, rfl⟩))
    all_goals go_ret
    all_goals exact ⟨ret_bool hB.out.symm, below_new w _⟩
set_option maxHeartbeats 800000 in
theorem l2Good_any (p q g : Int) (w : World) :
    Calls Try.prog 116 #[.agg #[.int .i64 p, .int .i64 q, .int .i64 g]] w fun en w' => en = .returned (.bool (M.goodB p q g)) ∧ Below w.heap.size w w' := by
  by_cases h1 : inr p 3 2000000000 = true
  · obtain ⟨g1, g2⟩ := inr_t h1
    by_cases h2 : inr q 2 (p - 1) = true
    · obtain ⟨g3, g4⟩ := inr_t h2
      by_cases h4 : inr g 2 (p - 1) = true
      · obtain ⟨g5, g6⟩ := inr_t h4
        go_enter Try.func116, Try.ntmps116
        go_wp2_with (first | (go_at_call 63; refine (l1In_any _ _ _ _).mono ?_; rintro e w' ⟨rfl, rfl⟩) | (go_at_call 148; refine (nPrime_any _ _ (by omega)).mono ?_; rintro e w' ⟨rfl, rfl⟩) | (go_at_call 124; refine (nPower_any _ _ _ _ (by omega) (by omega) (by omega)).mono ?_; rintro e w' ⟨rfl, rfl⟩))
        all_goals go_ret
        all_goals refine ⟨ret_bool (good_lemma g1 g2 g3 g4 g5 g6 ?_).symm, below_new w _⟩
        all_goals first
          | exact way1 (by assumption) (by assumption) (by assumption)
          | exact way2 (q := q) (by omega) (by assumption)
          | exact way3 (by assumption)
          | exact way4 (by assumption)
          | exact way5 (by assumption) (by assumption) (by assumption)
          | exact way6 (by assumption)
          | exact way7 (by assumption)
      · have h4' : inr g 2 (p - 1) = false := by simpa using h4
        have hB := Lib.hid (bad3 (q := q) h4')
        clear h4
        go_enter Try.func116, Try.ntmps116
        go_wp2_with (first | (go_at_call 63; refine (l1In_any _ _ _ _).mono ?_; rintro e w' ⟨rfl, rfl⟩) | (go_at_call 148; refine (nPrime_any _ _ (by omega)).mono ?_; rintro e w' ⟨rfl, rfl⟩) | (go_at_call 124; refine (nPower_any _ _ _ _ (by omega) (by omega) (by omega)).mono ?_; rintro e w' ⟨rfl, rfl⟩))
        all_goals go_ret
        all_goals exact ⟨ret_bool hB.out.symm, below_new w _⟩
    · have h2' : inr q 2 (p - 1) = false := by simpa using h2
      have hB := Lib.hid (bad2 (g := g) h2')
      clear h2
      go_enter Try.func116, Try.ntmps116
      go_wp2_with (first | (go_at_call 63; refine (l1In_any _ _ _ _).mono ?_; rintro e w' ⟨rfl, rfl⟩) | (go_at_call 148; refine (nPrime_any _ _ (by omega)).mono ?_; rintro e w' ⟨rfl, rfl⟩) | (go_at_call 124; refine (nPower_any _ _ _ _ (by omega) (by omega) (by omega)).mono ?_; rintro e w' ⟨rfl, rfl⟩))
      all_goals go_ret
      all_goals exact ⟨ret_bool hB.out.symm, below_new w _⟩
  · have h1' : inr p 3 2000000000 = false := by simpa using h1
    have hB := Lib.hid (bad1 (q := q) (g := g) h1')
    clear h1
    go_enter Try.func116, Try.ntmps116
    go_wp2_with (first | (go_at_call 63; refine (l1In_any _ _ _ _).mono ?_; rintro e w' ⟨rfl, rfl⟩) | (go_at_call 148; refine (nPrime_any _ _ (by omega)).mono ?_; rintro e w' ⟨rfl, rfl⟩) | (go_at_call 124; refine (nPower_any _ _ _ _ (by omega) (by omega) (by omega)).mono ?_; rintro e w' ⟨rfl, rfl⟩))
    all_goals go_ret
    all_goals exact ⟨ret_bool hB.out.symm, below_new w _⟩
end Go.Proofs.Ytljlimlgdnbllaa
