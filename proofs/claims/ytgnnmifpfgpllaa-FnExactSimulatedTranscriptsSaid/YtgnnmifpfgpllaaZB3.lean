import Derived.Test.YtgnnmifpfgpllaaZB2
import Derived.Test.YtgnnmifpfgpllaaZO1
/- Contracts of the lower layers. -/
set_option linter.all false
set_option linter.unusedVariables false
set_option linter.unusedSimpArgs false
namespace Go.Proofs.Ytgnnmifpfgpllaa
open Go.RowKit
noncomputable def c_pow : Con0 := fun args => match args with
  | [a0, a1, a2] => match asG a0, asI a1, asI a2 with
    | some (p, q, g), some x, some e => some (M.Grp p q g ∧ (0 ≤ x ∧ x < p) ∧ (-9000000000000000000 ≤ e ∧ e ≤ 9000000000000000000), .lit (.int .i64 (M.gpw p q x e)), [])
    | _, _, _ => none
  | _ => none
set_option linter.unusedVariables false in
theorem ok_pow : (mk c_pow).ok Try.prog 55 := Con0.okLit (enter_of Try.func55 (by kernel_rfl) (by kernel_rfl)) fun args c x obs h => by
  unfold c_pow at h
  split at h
  · split at h
    · rename_i p q g x e e0 e1 e2
      cases h
      refine ⟨rfl, _, rfl, fun hc w vs hv => ?_⟩
      obtain ⟨u0, vs, rfl, r0, h0⟩ := hv.cons_of
      obtain ⟨u1, vs, rfl, r1, h1⟩ := h0.cons_of
      obtain ⟨u2, vs, rfl, r2, h2⟩ := h1.cons_of
      rw [h2.nil_of]
      obtain rfl := asG_sound e0 r0
      obtain rfl := asI_sound e1 r1
      obtain rfl := asI_sound e2 r2
      exact pow_any p q g x e hc.1 hc.2.1 hc.2.2 _
    · cases h
  · cases h
noncomputable def c_gExp : Con0 := fun args => match args with
  | [a0, a1, a2] => match asG a0, asI a1, asI a2 with
    | some (p, q, g), some x, some e => some (M.Grp p q g ∧ (0 ≤ x ∧ x < p) ∧ (-9000000000000000000 ≤ e ∧ e ≤ 9000000000000000000), .lit (.int .i64 (M.gpw p q x e)), [])
    | _, _, _ => none
  | _ => none
set_option linter.unusedVariables false in
theorem ok_gExp : (mk c_gExp).ok Try.prog 51 := Con0.okLit (enter_of Try.func51 (by kernel_rfl) (by kernel_rfl)) fun args c x obs h => by
  unfold c_gExp at h
  split at h
  · split at h
    · rename_i p q g x e e0 e1 e2
      cases h
      refine ⟨rfl, _, rfl, fun hc w vs hv => ?_⟩
      obtain ⟨u0, vs, rfl, r0, h0⟩ := hv.cons_of
      obtain ⟨u1, vs, rfl, r1, h1⟩ := h0.cons_of
      obtain ⟨u2, vs, rfl, r2, h2⟩ := h1.cons_of
      rw [h2.nil_of]
      obtain rfl := asG_sound e0 r0
      obtain rfl := asI_sound e1 r1
      obtain rfl := asI_sound e2 r2
      exact gExp_any p q g x e hc.1 hc.2.1 hc.2.2 _
    · cases h
  · cases h
noncomputable def c_mul : Con0 := fun args => match args with
  | [a0, a1] => match asG a0, asIs a1 with
    | some (p, q, g), some xs => some (M.Grp p q g ∧ ∀ x ∈ xs, 0 ≤ x ∧ x < p, .lit (.int .i64 (M.mulL p xs)), [])
    | _, _ => none
  | _ => none
set_option linter.unusedVariables false in
theorem ok_mul : (mk c_mul).ok Try.prog 54 := Con0.okLit (enter_of Try.func54 (by kernel_rfl) (by kernel_rfl)) fun args c x obs h => by
  unfold c_mul at h
  split at h
  · split at h
    · rename_i p q g xs e0 e1
      cases h
      refine ⟨rfl, _, rfl, fun hc w vs hv => ?_⟩
      obtain ⟨u0, vs, rfl, r0, h0⟩ := hv.cons_of
      obtain ⟨u1, vs, rfl, r1, h1⟩ := h0.cons_of
      rw [h1.nil_of]
      obtain rfl := asG_sound e0 r0
      obtain ⟨A_xs, c_xs, rfl, hx_xs, hl_xs, hc_xs⟩ := asIs_sound e1 r1
      exact mul_any p q g hc.1 A_xs c_xs xs hl_xs _ hx_xs hc.2
    · cases h
  · cases h
noncomputable def c_exp : Con0 := fun args => match args with
  | [a0, a1] => match asG a0, asI a1 with
    | some (p, q, g), some n => some ((1 ≤ q ∧ q ≤ 2000000000) ∧ (-9000000000000000000 ≤ n ∧ n ≤ 9000000000000000000), .lit (.int .i64 (n % q)), [])
    | _, _ => none
  | _ => none
set_option linter.unusedVariables false in
theorem ok_exp : (mk c_exp).ok Try.prog 66 := Con0.okLit (enter_of Try.func66 (by kernel_rfl) (by kernel_rfl)) fun args c x obs h => by
  unfold c_exp at h
  split at h
  · split at h
    · rename_i p q g n e0 e1
      cases h
      refine ⟨rfl, _, rfl, fun hc w vs hv => ?_⟩
      obtain ⟨u0, vs, rfl, r0, h0⟩ := hv.cons_of
      obtain ⟨u1, vs, rfl, r1, h1⟩ := h0.cons_of
      rw [h1.nil_of]
      obtain rfl := asG_sound e0 r0
      obtain rfl := asI_sound e1 r1
      exact exp_any p q g n _ hc.1 hc.2
    · cases h
  · cases h
noncomputable def c_isExp : Con0 := fun args => match args with
  | [a0, a1] => match asG a0, asI a1 with
    | some (p, q, g), some e => some ((-9000000000000000000 ≤ q ∧ q ≤ 9000000000000000000), .lit (.bool (inr e 0 (q - 1))), [])
    | _, _ => none
  | _ => none
set_option linter.unusedVariables false in
theorem ok_isExp : (mk c_isExp).ok Try.prog 60 := Con0.okLit (enter_of Try.func60 (by kernel_rfl) (by kernel_rfl)) fun args c x obs h => by
  unfold c_isExp at h
  split at h
  · split at h
    · rename_i p q g e e0 e1
      cases h
      refine ⟨rfl, _, rfl, fun hc w vs hv => ?_⟩
      obtain ⟨u0, vs, rfl, r0, h0⟩ := hv.cons_of
      obtain ⟨u1, vs, rfl, r1, h1⟩ := h0.cons_of
      rw [h1.nil_of]
      obtain rfl := asG_sound e0 r0
      obtain rfl := asI_sound e1 r1
      exact isExp_any p q g e _ hc
    · cases h
  · cases h
noncomputable def c_gExps : Con0 := fun args => match args with
  | [a0, a1] => match asG a0, asIs a1 with
    | some (p, q, g), some xs => some ((-9000000000000000000 ≤ q ∧ q ≤ 9000000000000000000), .lit (.bool (expsB q xs)), [])
    | _, _ => none
  | _ => none
set_option linter.unusedVariables false in
theorem ok_gExps : (mk c_gExps).ok Try.prog 49 := Con0.okLit (enter_of Try.func49 (by kernel_rfl) (by kernel_rfl)) fun args c x obs h => by
  unfold c_gExps at h
  split at h
  · split at h
    · rename_i p q g xs e0 e1
      cases h
      refine ⟨rfl, _, rfl, fun hc w vs hv => ?_⟩
      obtain ⟨u0, vs, rfl, r0, h0⟩ := hv.cons_of
      obtain ⟨u1, vs, rfl, r1, h1⟩ := h0.cons_of
      rw [h1.nil_of]
      obtain rfl := asG_sound e0 r0
      obtain ⟨A_xs, c_xs, rfl, hx_xs, hl_xs, hc_xs⟩ := asIs_sound e1 r1
      exact gExps_any p q g A_xs c_xs xs _ hc hx_xs hl_xs
    · cases h
  · cases h
noncomputable def c_has : Con0 := fun args => match args with
  | [a0, a1] => match asG a0, asI a1 with
    | some (p, q, g), some x => some (M.Grp p q g, .lit (.bool (elemB p q x)), [])
    | _, _ => none
  | _ => none
set_option linter.unusedVariables false in
theorem ok_has : (mk c_has).ok Try.prog 45 := Con0.okLit (enter_of Try.func45 (by kernel_rfl) (by kernel_rfl)) fun args c x obs h => by
  unfold c_has at h
  split at h
  · split at h
    · rename_i p q g x e0 e1
      cases h
      refine ⟨rfl, _, rfl, fun hc w vs hv => ?_⟩
      obtain ⟨u0, vs, rfl, r0, h0⟩ := hv.cons_of
      obtain ⟨u1, vs, rfl, r1, h1⟩ := h0.cons_of
      rw [h1.nil_of]
      obtain rfl := asG_sound e0 r0
      obtain rfl := asI_sound e1 r1
      exact has_any p q g x hc _
    · cases h
  · cases h
noncomputable def c_hasAll : Con0 := fun args => match args with
  | [a0, a1] => match asG a0, asIs a1 with
    | some (p, q, g), some xs => some (M.Grp p q g, .lit (.bool (elemsB p q xs)), [])
    | _, _ => none
  | _ => none
set_option linter.unusedVariables false in
theorem ok_hasAll : (mk c_hasAll).ok Try.prog 74 := Con0.okLit (enter_of Try.func74 (by kernel_rfl) (by kernel_rfl)) fun args c x obs h => by
  unfold c_hasAll at h
  split at h
  · split at h
    · rename_i p q g xs e0 e1
      cases h
      refine ⟨rfl, _, rfl, fun hc w vs hv => ?_⟩
      obtain ⟨u0, vs, rfl, r0, h0⟩ := hv.cons_of
      obtain ⟨u1, vs, rfl, r1, h1⟩ := h0.cons_of
      rw [h1.nil_of]
      obtain rfl := asG_sound e0 r0
      obtain ⟨A_xs, c_xs, rfl, hx_xs, hl_xs, hc_xs⟩ := asIs_sound e1 r1
      exact hasAll_any p q g hc A_xs c_xs xs hl_xs _ hx_xs
    · cases h
  · cases h
noncomputable def c_gIs : Con0 := fun args => match args with
  | [a0, a1] => match asG a0, asIs a1 with
    | some (p, q, g), some xs => some (M.Grp p q g, .lit (.bool (elemsB p q xs)), [])
    | _, _ => none
  | _ => none
set_option linter.unusedVariables false in
theorem ok_gIs : (mk c_gIs).ok Try.prog 41 := Con0.okLit (enter_of Try.func41 (by kernel_rfl) (by kernel_rfl)) fun args c x obs h => by
  unfold c_gIs at h
  split at h
  · split at h
    · rename_i p q g xs e0 e1
      cases h
      refine ⟨rfl, _, rfl, fun hc w vs hv => ?_⟩
      obtain ⟨u0, vs, rfl, r0, h0⟩ := hv.cons_of
      obtain ⟨u1, vs, rfl, r1, h1⟩ := h0.cons_of
      rw [h1.nil_of]
      obtain rfl := asG_sound e0 r0
      obtain ⟨A_xs, c_xs, rfl, hx_xs, hl_xs, hc_xs⟩ := asIs_sound e1 r1
      exact gIs_any p q g hc A_xs c_xs xs hl_xs _ hx_xs
    · cases h
  · cases h
noncomputable def c_isValidGroup : Con0 := fun args => match args with
  | [a0] => match asG a0 with
    | some (p, q, g) => some (True, .lit (.bool (M.goodB p q g)), [])
    | _ => none
  | _ => none
set_option linter.unusedVariables false in
theorem ok_isValidGroup : (mk c_isValidGroup).ok Try.prog 82 := Con0.okLit (enter_of Try.func82 (by kernel_rfl) (by kernel_rfl)) fun args c x obs h => by
  unfold c_isValidGroup at h
  split at h
  · split at h
    · rename_i p q g e0
      cases h
      refine ⟨rfl, _, rfl, fun hc w vs hv => ?_⟩
      obtain ⟨u0, vs, rfl, r0, h0⟩ := hv.cons_of
      rw [h0.nil_of]
      obtain rfl := asG_sound e0 r0
      exact isValidGroup_any p q g _
    · cases h
  · cases h
noncomputable def c_l2Good : Con0 := fun args => match args with
  | [a0] => match asG a0 with
    | some (p, q, g) => some (True, .lit (.bool (M.goodB p q g)), [])
    | _ => none
  | _ => none
set_option linter.unusedVariables false in
theorem ok_l2Good : (mk c_l2Good).ok Try.prog 67 := Con0.okLit (enter_of Try.func67 (by kernel_rfl) (by kernel_rfl)) fun args c x obs h => by
  unfold c_l2Good at h
  split at h
  · split at h
    · rename_i p q g e0
      cases h
      refine ⟨rfl, _, rfl, fun hc w vs hv => ?_⟩
      obtain ⟨u0, vs, rfl, r0, h0⟩ := hv.cons_of
      rw [h0.nil_of]
      obtain rfl := asG_sound e0 r0
      exact l2Good_any p q g _
    · cases h
  · cases h
end Go.Proofs.Ytgnnmifpfgpllaa
