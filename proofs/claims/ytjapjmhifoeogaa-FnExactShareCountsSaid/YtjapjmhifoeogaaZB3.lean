import Derived.Test.YtjapjmhifoeogaaZB2
import Derived.Test.YtjapjmhifoeogaaZO1
/- Contracts of the lower layers. -/
set_option linter.all false
set_option linter.unusedVariables false
set_option linter.unusedSimpArgs false
namespace Go.Proofs.Ytjapjmhifoeogaa
open Go.RowKit
noncomputable def c_within : Con0 := fun args => match args with
  | [a0, a1, a2] => match asI a0, asI a1, asI a2 with
    | some n, some lo, some hi => some (True, .lit (.bool (inr n lo hi)), [])
    | _, _, _ => none
  | _ => none
set_option linter.unusedVariables false in
theorem ok_within : (mk c_within).ok Try.prog 73 := Con0.okLit (enter_of Try.func73 (by kernel_rfl) (by kernel_rfl)) fun args c x obs h => by
  unfold c_within at h
  split at h
  · split at h
    · rename_i n lo hi e0 e1 e2
      cases h
      refine ⟨rfl, _, rfl, fun hc w vs hv => ?_⟩
      obtain ⟨u0, vs, rfl, r0, h0⟩ := hv.cons_of
      obtain ⟨u1, vs, rfl, r1, h1⟩ := h0.cons_of
      obtain ⟨u2, vs, rfl, r2, h2⟩ := h1.cons_of
      rw [h2.nil_of]
      obtain rfl := asI_sound e0 r0
      obtain rfl := asI_sound e1 r1
      obtain rfl := asI_sound e2 r2
      exact Calls.keep (within_any n lo hi _)
    · cases h
  · cases h
noncomputable def c_l1In : Con0 := fun args => match args with
  | [a0, a1, a2] => match asI a0, asI a1, asI a2 with
    | some n, some lo, some hi => some (True, .lit (.bool (inr n lo hi)), [])
    | _, _, _ => none
  | _ => none
set_option linter.unusedVariables false in
theorem ok_l1In : (mk c_l1In).ok Try.prog 69 := Con0.okLit (enter_of Try.func69 (by kernel_rfl) (by kernel_rfl)) fun args c x obs h => by
  unfold c_l1In at h
  split at h
  · split at h
    · rename_i n lo hi e0 e1 e2
      cases h
      refine ⟨rfl, _, rfl, fun hc w vs hv => ?_⟩
      obtain ⟨u0, vs, rfl, r0, h0⟩ := hv.cons_of
      obtain ⟨u1, vs, rfl, r1, h1⟩ := h0.cons_of
      obtain ⟨u2, vs, rfl, r2, h2⟩ := h1.cons_of
      rw [h2.nil_of]
      obtain rfl := asI_sound e0 r0
      obtain rfl := asI_sound e1 r1
      obtain rfl := asI_sound e2 r2
      exact Calls.keep (l1In_any n lo hi _)
    · cases h
  · cases h
noncomputable def c_areExps : Con0 := fun args => match args with
  | [a0, a1] => match asG a0, asIs a1 with
    | some (p, q, g), some xs => some ((-9000000000000000000 ≤ q ∧ q ≤ 9000000000000000000), .lit (.bool (expsB q xs)), [])
    | _, _ => none
  | _ => none
set_option linter.unusedVariables false in
theorem ok_areExps : (mk c_areExps).ok Try.prog 80 := Con0.okLit (enter_of Try.func80 (by kernel_rfl) (by kernel_rfl)) fun args c x obs h => by
  unfold c_areExps at h
  split at h
  · split at h
    · rename_i p q g xs e0 e1
      cases h
      refine ⟨rfl, _, rfl, fun hc w vs hv => ?_⟩
      obtain ⟨u0, vs, rfl, r0, h0⟩ := hv.cons_of
      obtain ⟨u1, vs, rfl, r1, h1⟩ := h0.cons_of
      rw [h1.nil_of]
      obtain rfl := asG_sound e0 r0
      obtain ⟨A_xs, c_xs, rfl, hx_xs, hl_xs, hc_xs⟩ := asIs_sound e1 r1
      exact areExps_any p q g A_xs c_xs xs _ hc hx_xs hl_xs
    · cases h
  · cases h
noncomputable def c_gExps : Con0 := fun args => match args with
  | [a0, a1] => match asG a0, asIs a1 with
    | some (p, q, g), some xs => some ((-9000000000000000000 ≤ q ∧ q ≤ 9000000000000000000), .lit (.bool (expsB q xs)), [])
    | _, _ => none
  | _ => none
set_option linter.unusedVariables false in
theorem ok_gExps : (mk c_gExps).ok Try.prog 76 := Con0.okLit (enter_of Try.func76 (by kernel_rfl) (by kernel_rfl)) fun args c x obs h => by
  unfold c_gExps at h
  split at h
  · split at h
    · rename_i p q g xs e0 e1
      cases h
      refine ⟨rfl, _, rfl, fun hc w vs hv => ?_⟩
      obtain ⟨u0, vs, rfl, r0, h0⟩ := hv.cons_of
      obtain ⟨u1, vs, rfl, r1, h1⟩ := h0.cons_of
      rw [h1.nil_of]
      obtain rfl := asG_sound e0 r0
      obtain ⟨A_xs, c_xs, rfl, hx_xs, hl_xs, hc_xs⟩ := asIs_sound e1 r1
      exact gExps_any p q g A_xs c_xs xs _ hc hx_xs hl_xs
    · cases h
  · cases h
end Go.Proofs.Ytjapjmhifoeogaa
