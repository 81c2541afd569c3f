/- FnExactCoinsForRange returns true for every input. No condition. -/
import Derived.Test.YtobomnnobndebaaN1
import Derived.Test.YtobomnnobndebaaLift
namespace Go.Proofs.Ytobomnnobndebaa.pCoinsForRange
open Go.ChangeShapes Go.WideShapes Go.ChangeAt Go.RowKit Go.Joins
theorem own : ownKnob Try.prog.godebug = none := by kernel_rfl
def coinsFor (n : Int) : Int × Bool := if inr n 1 16 = true then (4 * n - 1, true) else (0, false)
theorem spec_any (n : Int) (w : World) : Calls Try.prog 6 #[.int .i64 n] w fun en w' => en = .returned (.tuple #[.int .i64 (coinsFor n).1, .bool (coinsFor n).2]) ∧ w = w' := by
  go_enter Try.func6, Try.ntmps6
  go_wp2_with fail
  refine (l1In_any _ _ _ _).mono ?_
  rintro e w' ⟨rfl, rfl⟩
  rcases Bool.eq_false_or_eq_true (inr n 1 16) with h | h
  · obtain ⟨h1, h2⟩ := inr_t h
    go_wp2
    go_ret2
    exact ⟨ret_ib (by unfold coinsFor; rw [if_pos h]) (by unfold coinsFor; rw [if_pos h]), rfl⟩
  · go_wp2
    go_ret2
    exact ⟨ret_ib (by unfold coinsFor; rw [if_neg (by simp [h])]) (by unfold coinsFor; rw [if_neg (by simp [h])]), rfl⟩
theorem impl_any (n : Int) (w : World) : Calls Try.prog 7 #[.int .i64 n] w fun en w' => en = .returned (.tuple #[.int .i64 (coinsFor n).1, .bool (coinsFor n).2]) ∧ w = w' := by
  go_enter Try.func7, Try.ntmps7
  go_wp2_with fail
  refine (within_any _ _ _ _).mono ?_
  rintro e w' ⟨rfl, rfl⟩
  rcases Bool.eq_false_or_eq_true (inr n 1 16) with h | h
  · obtain ⟨h1, h2⟩ := inr_t h
    go_wp2
    go_ret2
    exact ⟨ret_ib (by unfold coinsFor; rw [if_pos h]) (by unfold coinsFor; rw [if_pos h]), rfl⟩
  · go_wp2
    go_ret2
    exact ⟨ret_ib (by unfold coinsFor; rw [if_neg (by simp [h])]) (by unfold coinsFor; rw [if_neg (by simp [h])]), rfl⟩
theorem walk (n : Int) (w : World) : Calls Try.prog 3 #[.int .i64 n] w fun e w' => e = .returned (.bool true) ∧ Below w.heap.size w w' := by
  go_enter Try.func3, Try.ntmps3
  go_wp2_with fail
  refine (spec_any _ _).mono ?_
  rintro e1 w1 ⟨rfl, rfl⟩
  go_wp2_with fail
  refine (impl_any _ _).mono ?_
  rintro e2 w2 ⟨rfl, rfl⟩
  go_wp2
  go_ret
  exact ⟨rfl, Below.refl _ _⟩
set_option maxRecDepth 100000 in
theorem lifted (os : Os) (started : os.Started) (H : Type) (enc : TypeId × Value → H) :
    ReturnsInHanded {} Try.checked os 3 .any (Rows.fnExactCoinsForRangeSpec.pre6 enc Try.prog Try.f3 Rows.fnExactCoinsForRangeRow.domain false) (Rows.fnExactCoinsForRangeSpec.post enc Try.prog Try.f3 false true false false) := by
  refine law_lift (C := Try.checked) own started (by kernel_rfl) Try.func3
    (ChangeSpec.witness6 (enc := enc) (C := Try.checked) false ⟨#[], #[.int .i64 0], []⟩ 8 (by kernel_rfl) (by kernel_rfl) (by kernel_rfl) (by kernel_rfl))
    (by kernel_rfl) [3] rfl (by kernel_rfl) 4 rfl Try.underlying4 rfl (fun ds h => by
      match ds, h with
      | [_], _ => rfl) ?_
  intro W base args ds p hval hA hlt
  obtain ⟨v0, vs0, d0, ds0, p0, q0, hargs, rfl, rfl, h0, r0⟩ := trodAll_cons hA
  obtain ⟨rfl, rfl, rfl⟩ := trodAll_nil r0
  rw [hargs] at hval
  obtain rfl : args = #[v0] := by cases args; simp_all
  obtain ⟨n, rfl, rfl, rfl, ww0⟩ := open_int Try.underlying3 (hval 0 3 v0 rfl rfl) h0
  exact walk n W
theorem proved : Rows.FnExactCoinsForRangeSaid :=
  OpenClaim.holds_of_wide 3 Try.f3 rfl rfl rfl rfl rfl rfl rfl ⟨rfl, rfl, rfl, rfl, rfl⟩ rfl rfl rfl rfl rfl (by kernel_rfl) Try.func3 (by kernel_rfl)
    (of_decide_eq_true (by kernel_rfl)) (by unfold Func.isWrapper; rw [if_neg (of_decide_eq_false (by kernel_rfl))]; exact ⟨rfl, rfl⟩)
    (fun os started H enc _ => lifted os started H enc)
#print axioms proved
end Go.Proofs.Ytobomnnobndebaa.pCoinsForRange
