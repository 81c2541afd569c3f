import Derived.Test.YtjapjmhifoeogaaZB3
import Derived.Test.YtjapjmhifoeogaaZE3
/- Contracts of the lower layers. -/
set_option linter.all false
set_option linter.unusedVariables false
set_option linter.unusedSimpArgs false
namespace Go.Proofs.Ytjapjmhifoeogaa
open Go.RowKit
noncomputable def c_hasEqual : Con0 := fun args => match args with
  | [a0, a1] => match asG a0, asE4 a1 with
    | some (p, q, g), some (f1, f2, f3, f4) => some (M.Grp p q g, .lit (.bool (elemsB p q [f1, f2, f3, f4])), [])
    | _, _ => none
  | _ => none
set_option linter.unusedVariables false in
theorem ok_hasEqual : (mk c_hasEqual).ok Try.prog 66 := Con0.okLit (enter_of Try.func66 (by kernel_rfl) (by kernel_rfl)) fun args c x obs h => by
  unfold c_hasEqual at h
  split at h
  · split at h
    · rename_i p q g f1 f2 f3 f4 e0 e1
      cases h
      refine ⟨rfl, _, rfl, fun hc w vs hv => ?_⟩
      obtain ⟨u0, vs, rfl, r0, h0⟩ := hv.cons_of
      obtain ⟨u1, vs, rfl, r1, h1⟩ := h0.cons_of
      rw [h1.nil_of]
      obtain rfl := asG_sound e0 r0
      obtain rfl := asE4_sound e1 r1
      exact hasEqual_any p q g f1 f2 f3 f4 hc _
    · cases h
  · cases h
noncomputable def c_sElements : Con0 := fun args => match args with
  | [a0, a1] => match asG a0, asE4 a1 with
    | some (p, q, g), some (f1, f2, f3, f4) => some (M.Grp p q g, .lit (.bool (elemsB p q [f1, f2, f3, f4])), [])
    | _, _ => none
  | _ => none
set_option linter.unusedVariables false in
theorem ok_sElements : (mk c_sElements).ok Try.prog 61 := Con0.okLit (enter_of Try.func61 (by kernel_rfl) (by kernel_rfl)) fun args c x obs h => by
  unfold c_sElements at h
  split at h
  · split at h
    · rename_i p q g f1 f2 f3 f4 e0 e1
      cases h
      refine ⟨rfl, _, rfl, fun hc w vs hv => ?_⟩
      obtain ⟨u0, vs, rfl, r0, h0⟩ := hv.cons_of
      obtain ⟨u1, vs, rfl, r1, h1⟩ := h0.cons_of
      rw [h1.nil_of]
      obtain rfl := asG_sound e0 r0
      obtain rfl := asE4_sound e1 r1
      exact sElements_any p q g f1 f2 f3 f4 hc _
    · cases h
  · cases h
noncomputable def c_simulated : Con0 := fun args => match args with
  | [a0, a1, a2, a3] => match asG a0, asE4 a1, asI a2, asI a3 with
    | some (p, q, g), some (f1, f2, f3, f4), some c, some z => some (M.Grp p q g ∧ (0 ≤ f1 ∧ f1 < p) ∧ (0 ≤ f2 ∧ f2 < p) ∧ (0 ≤ f3 ∧ f3 < p) ∧ (0 ≤ f4 ∧ f4 < p) ∧ (-9000000000000000000 ≤ c ∧ c ≤ 9000000000000000000) ∧ (-9000000000000000000 ≤ z ∧ z ≤ 9000000000000000000), .tup [.lit (.int .i64 (simC p q f1 f2 c z)), .lit (.int .i64 (simC p q f3 f4 c z))], [])
    | _, _, _, _ => none
  | _ => none
set_option linter.unusedVariables false in
theorem ok_simulated : (mk c_simulated).ok Try.prog 68 := Con0.okLit (enter_of Try.func68 (by kernel_rfl) (by kernel_rfl)) fun args c x obs h => by
  unfold c_simulated at h
  split at h
  · split at h
    · rename_i p q g f1 f2 f3 f4 c z e0 e1 e2 e3
      cases h
      refine ⟨rfl, _, rfl, fun hc w vs hv => ?_⟩
      obtain ⟨u0, vs, rfl, r0, h0⟩ := hv.cons_of
      obtain ⟨u1, vs, rfl, r1, h1⟩ := h0.cons_of
      obtain ⟨u2, vs, rfl, r2, h2⟩ := h1.cons_of
      obtain ⟨u3, vs, rfl, r3, h3⟩ := h2.cons_of
      rw [h3.nil_of]
      obtain rfl := asG_sound e0 r0
      obtain rfl := asE4_sound e1 r1
      obtain rfl := asI_sound e2 r2
      obtain rfl := asI_sound e3 r3
      exact simulated_any p q g f1 f2 f3 f4 c z hc.1 hc.2.1 hc.2.2.1 hc.2.2.2.1 hc.2.2.2.2.1 hc.2.2.2.2.2.1 hc.2.2.2.2.2.2 _
    · cases h
  · cases h
end Go.Proofs.Ytjapjmhifoeogaa
