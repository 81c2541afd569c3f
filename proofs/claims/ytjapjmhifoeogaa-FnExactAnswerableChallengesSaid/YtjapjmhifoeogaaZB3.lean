import Derived.Test.YtjapjmhifoeogaaZB2
import Derived.Test.YtjapjmhifoeogaaZO1
/- Contracts of the lower layers. -/
set_option linter.all false
set_option linter.unusedVariables false
set_option linter.unusedSimpArgs false
namespace Go.Proofs.Ytjapjmhifoeogaa
open Go.RowKit
noncomputable def c_gExp : Con0 := fun args => match args with
  | [a0, a1, a2] => match asG a0, asI a1, asI a2 with
    | some (p, q, g), some x, some e => some (M.Grp p q g ∧ (0 ≤ x ∧ x < p) ∧ (-9000000000000000000 ≤ e ∧ e ≤ 9000000000000000000), .lit (.int .i64 (M.gpw p q x e)), [])
    | _, _, _ => none
  | _ => none
set_option linter.unusedVariables false in
theorem ok_gExp : (mk c_gExp).ok Try.prog 63 := Con0.okLit (enter_of Try.func63 (by kernel_rfl) (by kernel_rfl)) fun args c x obs h => by
  unfold c_gExp at h
  split at h
  · split at h
    · rename_i p q g x e e0 e1 e2
      cases h
      refine ⟨rfl, _, rfl, fun hc w vs hv => ?_⟩
      obtain ⟨u0, vs, rfl, r0, h0⟩ := hv.cons_of
      obtain ⟨u1, vs, rfl, r1, h1⟩ := h0.cons_of
      obtain ⟨u2, vs, rfl, r2, h2⟩ := h1.cons_of
      rw [h2.nil_of]
      obtain rfl := asG_sound e0 r0
      obtain rfl := asI_sound e1 r1
      obtain rfl := asI_sound e2 r2
      exact gExp_any p q g x e hc.1 hc.2.1 hc.2.2 _
    · cases h
  · cases h
noncomputable def c_gMul : Con0 := fun args => match args with
  | [a0, a1] => match asG a0, asIs a1 with
    | some (p, q, g), some xs => some (M.Grp p q g ∧ ∀ x ∈ xs, 0 ≤ x ∧ x < p, .lit (.int .i64 (M.mulL p xs)), [])
    | _, _ => none
  | _ => none
set_option linter.unusedVariables false in
theorem ok_gMul : (mk c_gMul).ok Try.prog 64 := Con0.okLit (enter_of Try.func64 (by kernel_rfl) (by kernel_rfl)) fun args c x obs h => by
  unfold c_gMul at h
  split at h
  · split at h
    · rename_i p q g xs e0 e1
      cases h
      refine ⟨rfl, _, rfl, fun hc w vs hv => ?_⟩
      obtain ⟨u0, vs, rfl, r0, h0⟩ := hv.cons_of
      obtain ⟨u1, vs, rfl, r1, h1⟩ := h0.cons_of
      rw [h1.nil_of]
      obtain rfl := asG_sound e0 r0
      obtain ⟨A_xs, c_xs, rfl, hx_xs, hl_xs, hc_xs⟩ := asIs_sound e1 r1
      exact gMul_any p q g hc.1 A_xs c_xs xs hl_xs _ hx_xs hc.2
    · cases h
  · cases h
noncomputable def c_hasAll : Con0 := fun args => match args with
  | [a0, a1] => match asG a0, asIs a1 with
    | some (p, q, g), some xs => some (M.Grp p q g, .lit (.bool (elemsB p q xs)), [])
    | _, _ => none
  | _ => none
set_option linter.unusedVariables false in
theorem ok_hasAll : (mk c_hasAll).ok Try.prog 67 := Con0.okLit (enter_of Try.func67 (by kernel_rfl) (by kernel_rfl)) fun args c x obs h => by
  unfold c_hasAll at h
  split at h
  · split at h
    · rename_i p q g xs e0 e1
      cases h
      refine ⟨rfl, _, rfl, fun hc w vs hv => ?_⟩
      obtain ⟨u0, vs, rfl, r0, h0⟩ := hv.cons_of
      obtain ⟨u1, vs, rfl, r1, h1⟩ := h0.cons_of
      rw [h1.nil_of]
      obtain rfl := asG_sound e0 r0
      obtain ⟨A_xs, c_xs, rfl, hx_xs, hl_xs, hc_xs⟩ := asIs_sound e1 r1
      exact hasAll_any p q g hc A_xs c_xs xs hl_xs _ hx_xs
    · cases h
  · cases h
noncomputable def c_gIs : Con0 := fun args => match args with
  | [a0, a1] => match asG a0, asIs a1 with
    | some (p, q, g), some xs => some (M.Grp p q g, .lit (.bool (elemsB p q xs)), [])
    | _, _ => none
  | _ => none
set_option linter.unusedVariables false in
theorem ok_gIs : (mk c_gIs).ok Try.prog 62 := Con0.okLit (enter_of Try.func62 (by kernel_rfl) (by kernel_rfl)) fun args c x obs h => by
  unfold c_gIs at h
  split at h
  · split at h
    · rename_i p q g xs e0 e1
      cases h
      refine ⟨rfl, _, rfl, fun hc w vs hv => ?_⟩
      obtain ⟨u0, vs, rfl, r0, h0⟩ := hv.cons_of
      obtain ⟨u1, vs, rfl, r1, h1⟩ := h0.cons_of
      rw [h1.nil_of]
      obtain rfl := asG_sound e0 r0
      obtain ⟨A_xs, c_xs, rfl, hx_xs, hl_xs, hc_xs⟩ := asIs_sound e1 r1
      exact gIs_any p q g hc A_xs c_xs xs hl_xs _ hx_xs
    · cases h
  · cases h
noncomputable def c_isValidGroup : Con0 := fun args => match args with
  | [a0] => match asG a0 with
    | some (p, q, g) => some (True, .lit (.bool (M.goodB p q g)), [])
    | _ => none
  | _ => none
set_option linter.unusedVariables false in
theorem ok_isValidGroup : (mk c_isValidGroup).ok Try.prog 72 := Con0.okLit (enter_of Try.func72 (by kernel_rfl) (by kernel_rfl)) fun args c x obs h => by
  unfold c_isValidGroup at h
  split at h
  · split at h
    · rename_i p q g e0
      cases h
      refine ⟨rfl, _, rfl, fun hc w vs hv => ?_⟩
      obtain ⟨u0, vs, rfl, r0, h0⟩ := hv.cons_of
      rw [h0.nil_of]
      obtain rfl := asG_sound e0 r0
      exact isValidGroup_any p q g _
    · cases h
  · cases h
noncomputable def c_l2Good : Con0 := fun args => match args with
  | [a0] => match asG a0 with
    | some (p, q, g) => some (True, .lit (.bool (M.goodB p q g)), [])
    | _ => none
  | _ => none
set_option linter.unusedVariables false in
theorem ok_l2Good : (mk c_l2Good).ok Try.prog 60 := Con0.okLit (enter_of Try.func60 (by kernel_rfl) (by kernel_rfl)) fun args c x obs h => by
  unfold c_l2Good at h
  split at h
  · split at h
    · rename_i p q g e0
      cases h
      refine ⟨rfl, _, rfl, fun hc w vs hv => ?_⟩
      obtain ⟨u0, vs, rfl, r0, h0⟩ := hv.cons_of
      rw [h0.nil_of]
      obtain rfl := asG_sound e0 r0
      exact l2Good_any p q g _
    · cases h
  · cases h
end Go.Proofs.Ytjapjmhifoeogaa
