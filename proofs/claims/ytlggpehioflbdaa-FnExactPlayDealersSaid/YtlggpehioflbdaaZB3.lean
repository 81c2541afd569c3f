import Derived.Test.YtlggpehioflbdaaZB2
import Derived.Test.YtlggpehioflbdaaZO1
/- Contracts of the lower layers. -/
set_option linter.all false
set_option linter.unusedVariables false
set_option linter.unusedSimpArgs false
namespace Go.Proofs.Ytlggpehioflbdaa
open Go.RowKit
noncomputable def c_pow : Con0 := fun args => match args with
  | [a0, a1, a2] => match asG a0, asI a1, asI a2 with
    | some (p, q, g), some x, some e => some (M.Grp p q g ∧ (0 ≤ x ∧ x < p) ∧ (-9000000000000000000 ≤ e ∧ e ≤ 9000000000000000000), .lit (.int .i64 (M.gpw p q x e)), [])
    | _, _, _ => none
  | _ => none
set_option linter.unusedVariables false in
theorem ok_pow : (mk c_pow).ok Try.prog 153 := Con0.okLit (enter_of Try.func153 (by kernel_rfl) (by kernel_rfl)) fun args c x obs h => by
  unfold c_pow at h
  split at h
  · split at h
    · rename_i p q g x e e0 e1 e2
      cases h
      refine ⟨rfl, _, rfl, fun hc w vs hv => ?_⟩
      obtain ⟨u0, vs, rfl, r0, h0⟩ := hv.cons_of
      obtain ⟨u1, vs, rfl, r1, h1⟩ := h0.cons_of
      obtain ⟨u2, vs, rfl, r2, h2⟩ := h1.cons_of
      rw [h2.nil_of]
      obtain rfl := asG_sound e0 r0
      obtain rfl := asI_sound e1 r1
      obtain rfl := asI_sound e2 r2
      exact pow_any p q g x e hc.1 hc.2.1 hc.2.2 _
    · cases h
  · cases h
noncomputable def c_gExp : Con0 := fun args => match args with
  | [a0, a1, a2] => match asG a0, asI a1, asI a2 with
    | some (p, q, g), some x, some e => some (M.Grp p q g ∧ (0 ≤ x ∧ x < p) ∧ (-9000000000000000000 ≤ e ∧ e ≤ 9000000000000000000), .lit (.int .i64 (M.gpw p q x e)), [])
    | _, _, _ => none
  | _ => none
set_option linter.unusedVariables false in
theorem ok_gExp : (mk c_gExp).ok Try.prog 147 := Con0.okLit (enter_of Try.func147 (by kernel_rfl) (by kernel_rfl)) fun args c x obs h => by
  unfold c_gExp at h
  split at h
  · split at h
    · rename_i p q g x e e0 e1 e2
      cases h
      refine ⟨rfl, _, rfl, fun hc w vs hv => ?_⟩
      obtain ⟨u0, vs, rfl, r0, h0⟩ := hv.cons_of
      obtain ⟨u1, vs, rfl, r1, h1⟩ := h0.cons_of
      obtain ⟨u2, vs, rfl, r2, h2⟩ := h1.cons_of
      rw [h2.nil_of]
      obtain rfl := asG_sound e0 r0
      obtain rfl := asI_sound e1 r1
      obtain rfl := asI_sound e2 r2
      exact gExp_any p q g x e hc.1 hc.2.1 hc.2.2 _
    · cases h
  · cases h
noncomputable def c_exp : Con0 := fun args => match args with
  | [a0, a1] => match asG a0, asI a1 with
    | some (p, q, g), some n => some ((1 ≤ q ∧ q ≤ 2000000000) ∧ (-9000000000000000000 ≤ n ∧ n ≤ 9000000000000000000), .lit (.int .i64 (n % q)), [])
    | _, _ => none
  | _ => none
set_option linter.unusedVariables false in
theorem ok_exp : (mk c_exp).ok Try.prog 100 := Con0.okLit (enter_of Try.func100 (by kernel_rfl) (by kernel_rfl)) fun args c x obs h => by
  unfold c_exp at h
  split at h
  · split at h
    · rename_i p q g n e0 e1
      cases h
      refine ⟨rfl, _, rfl, fun hc w vs hv => ?_⟩
      obtain ⟨u0, vs, rfl, r0, h0⟩ := hv.cons_of
      obtain ⟨u1, vs, rfl, r1, h1⟩ := h0.cons_of
      rw [h1.nil_of]
      obtain rfl := asG_sound e0 r0
      obtain rfl := asI_sound e1 r1
      exact exp_any p q g n _ hc.1 hc.2
    · cases h
  · cases h
noncomputable def c_within : Con0 := fun args => match args with
  | [a0, a1, a2] => match asI a0, asI a1, asI a2 with
    | some n, some lo, some hi => some (True, .lit (.bool (inr n lo hi)), [])
    | _, _, _ => none
  | _ => none
set_option linter.unusedVariables false in
theorem ok_within : (mk c_within).ok Try.prog 109 := Con0.okLit (enter_of Try.func109 (by kernel_rfl) (by kernel_rfl)) fun args c x obs h => by
  unfold c_within at h
  split at h
  · split at h
    · rename_i n lo hi e0 e1 e2
      cases h
      refine ⟨rfl, _, rfl, fun hc w vs hv => ?_⟩
      obtain ⟨u0, vs, rfl, r0, h0⟩ := hv.cons_of
      obtain ⟨u1, vs, rfl, r1, h1⟩ := h0.cons_of
      obtain ⟨u2, vs, rfl, r2, h2⟩ := h1.cons_of
      rw [h2.nil_of]
      obtain rfl := asI_sound e0 r0
      obtain rfl := asI_sound e1 r1
      obtain rfl := asI_sound e2 r2
      exact Calls.keep (within_any n lo hi _)
    · cases h
  · cases h
noncomputable def c_l1In : Con0 := fun args => match args with
  | [a0, a1, a2] => match asI a0, asI a1, asI a2 with
    | some n, some lo, some hi => some (True, .lit (.bool (inr n lo hi)), [])
    | _, _, _ => none
  | _ => none
set_option linter.unusedVariables false in
theorem ok_l1In : (mk c_l1In).ok Try.prog 92 := Con0.okLit (enter_of Try.func92 (by kernel_rfl) (by kernel_rfl)) fun args c x obs h => by
  unfold c_l1In at h
  split at h
  · split at h
    · rename_i n lo hi e0 e1 e2
      cases h
      refine ⟨rfl, _, rfl, fun hc w vs hv => ?_⟩
      obtain ⟨u0, vs, rfl, r0, h0⟩ := hv.cons_of
      obtain ⟨u1, vs, rfl, r1, h1⟩ := h0.cons_of
      obtain ⟨u2, vs, rfl, r2, h2⟩ := h1.cons_of
      rw [h2.nil_of]
      obtain rfl := asI_sound e0 r0
      obtain rfl := asI_sound e1 r1
      obtain rfl := asI_sound e2 r2
      exact Calls.keep (l1In_any n lo hi _)
    · cases h
  · cases h
noncomputable def c_isExp : Con0 := fun args => match args with
  | [a0, a1] => match asG a0, asI a1 with
    | some (p, q, g), some e => some ((-9000000000000000000 ≤ q ∧ q ≤ 9000000000000000000), .lit (.bool (inr e 0 (q - 1))), [])
    | _, _ => none
  | _ => none
set_option linter.unusedVariables false in
theorem ok_isExp : (mk c_isExp).ok Try.prog 152 := Con0.okLit (enter_of Try.func152 (by kernel_rfl) (by kernel_rfl)) fun args c x obs h => by
  unfold c_isExp at h
  split at h
  · split at h
    · rename_i p q g e e0 e1
      cases h
      refine ⟨rfl, _, rfl, fun hc w vs hv => ?_⟩
      obtain ⟨u0, vs, rfl, r0, h0⟩ := hv.cons_of
      obtain ⟨u1, vs, rfl, r1, h1⟩ := h0.cons_of
      rw [h1.nil_of]
      obtain rfl := asG_sound e0 r0
      obtain rfl := asI_sound e1 r1
      exact isExp_any p q g e _ hc
    · cases h
  · cases h
noncomputable def c_areExps : Con0 := fun args => match args with
  | [a0, a1] => match asG a0, asIs a1 with
    | some (p, q, g), some xs => some ((-9000000000000000000 ≤ q ∧ q ≤ 9000000000000000000), .lit (.bool (expsB q xs)), [])
    | _, _ => none
  | _ => none
set_option linter.unusedVariables false in
theorem ok_areExps : (mk c_areExps).ok Try.prog 110 := Con0.okLit (enter_of Try.func110 (by kernel_rfl) (by kernel_rfl)) fun args c x obs h => by
  unfold c_areExps at h
  split at h
  · split at h
    · rename_i p q g xs e0 e1
      cases h
      refine ⟨rfl, _, rfl, fun hc w vs hv => ?_⟩
      obtain ⟨u0, vs, rfl, r0, h0⟩ := hv.cons_of
      obtain ⟨u1, vs, rfl, r1, h1⟩ := h0.cons_of
      rw [h1.nil_of]
      obtain rfl := asG_sound e0 r0
      obtain ⟨A_xs, c_xs, rfl, hx_xs, hl_xs, hc_xs⟩ := asIs_sound e1 r1
      exact areExps_any p q g A_xs c_xs xs _ hc hx_xs hl_xs
    · cases h
  · cases h
noncomputable def c_gExps : Con0 := fun args => match args with
  | [a0, a1] => match asG a0, asIs a1 with
    | some (p, q, g), some xs => some ((-9000000000000000000 ≤ q ∧ q ≤ 9000000000000000000), .lit (.bool (expsB q xs)), [])
    | _, _ => none
  | _ => none
set_option linter.unusedVariables false in
theorem ok_gExps : (mk c_gExps).ok Try.prog 93 := Con0.okLit (enter_of Try.func93 (by kernel_rfl) (by kernel_rfl)) fun args c x obs h => by
  unfold c_gExps at h
  split at h
  · split at h
    · rename_i p q g xs e0 e1
      cases h
      refine ⟨rfl, _, rfl, fun hc w vs hv => ?_⟩
      obtain ⟨u0, vs, rfl, r0, h0⟩ := hv.cons_of
      obtain ⟨u1, vs, rfl, r1, h1⟩ := h0.cons_of
      rw [h1.nil_of]
      obtain rfl := asG_sound e0 r0
      obtain ⟨A_xs, c_xs, rfl, hx_xs, hl_xs, hc_xs⟩ := asIs_sound e1 r1
      exact gExps_any p q g A_xs c_xs xs _ hc hx_xs hl_xs
    · cases h
  · cases h
end Go.Proofs.Ytlggpehioflbdaa
