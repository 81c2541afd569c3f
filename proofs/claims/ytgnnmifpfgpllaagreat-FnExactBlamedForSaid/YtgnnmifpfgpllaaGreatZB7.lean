import Derived.Test.YtgnnmifpfgpllaaGreatZB3
/- Contracts of the lower layers. -/
set_option linter.all false
set_option linter.unusedVariables false
set_option linter.unusedSimpArgs false
namespace Go.Proofs.YtgnnmifpfgpllaaGreat
open Go.RowKit
noncomputable def c_powers : Con0 := fun args => match args with
  | [a0, a1, a2] => match asG a0, asIs a1, asIs a2 with
    | some (p, q, g), some xs, some es => some (M.Grp p q g ∧ xs.length ≤ es.length ∧ (∀ x ∈ xs, 0 ≤ x ∧ x < p) ∧ ∀ e ∈ es, 0 ≤ e ∧ e < q, .lit (.int .i64 (M.powL p q 1 xs es)), [])
    | _, _, _ => none
  | _ => none
set_option linter.unusedVariables false in
theorem ok_powers : (mk c_powers).ok Tryz.prog 70 := Con0.okLit (enter_of Tryz.func70 (by kernel_rfl) (by kernel_rfl)) fun args c x obs h => by
  unfold c_powers at h
  split at h
  · split at h
    · rename_i p q g xs es e0 e1 e2
      cases h
      refine ⟨rfl, _, rfl, fun hc w vs hv => ?_⟩
      obtain ⟨u0, vs, rfl, r0, h0⟩ := hv.cons_of
      obtain ⟨u1, vs, rfl, r1, h1⟩ := h0.cons_of
      obtain ⟨u2, vs, rfl, r2, h2⟩ := h1.cons_of
      rw [h2.nil_of]
      obtain rfl := asG_sound e0 r0
      obtain ⟨A_xs, c_xs, rfl, hx_xs, hl_xs, hc_xs⟩ := asIs_sound e1 r1
      obtain ⟨A_es, c_es, rfl, hx_es, hl_es, hc_es⟩ := asIs_sound e2 r2
      exact powers_any p q g hc.1 A_xs A_es c_xs c_es xs es hl_xs hc.2.1 _ hx_xs hx_es hc.2.2.1 hc.2.2.2
    · cases h
  · cases h
noncomputable def c_gProd : Con0 := fun args => match args with
  | [a0, a1, a2] => match asG a0, asIs a1, asIs a2 with
    | some (p, q, g), some xs, some es => some (M.Grp p q g ∧ xs.length ≤ es.length ∧ (∀ x ∈ xs, 0 ≤ x ∧ x < p) ∧ ∀ e ∈ es, 0 ≤ e ∧ e < q, .lit (.int .i64 (M.powL p q 1 xs es)), [])
    | _, _, _ => none
  | _ => none
set_option linter.unusedVariables false in
theorem ok_gProd : (mk c_gProd).ok Tryz.prog 103 := Con0.okLit (enter_of Tryz.func103 (by kernel_rfl) (by kernel_rfl)) fun args c x obs h => by
  unfold c_gProd at h
  split at h
  · split at h
    · rename_i p q g xs es e0 e1 e2
      cases h
      refine ⟨rfl, _, rfl, fun hc w vs hv => ?_⟩
      obtain ⟨u0, vs, rfl, r0, h0⟩ := hv.cons_of
      obtain ⟨u1, vs, rfl, r1, h1⟩ := h0.cons_of
      obtain ⟨u2, vs, rfl, r2, h2⟩ := h1.cons_of
      rw [h2.nil_of]
      obtain rfl := asG_sound e0 r0
      obtain ⟨A_xs, c_xs, rfl, hx_xs, hl_xs, hc_xs⟩ := asIs_sound e1 r1
      obtain ⟨A_es, c_es, rfl, hx_es, hl_es, hc_es⟩ := asIs_sound e2 r2
      exact gProd_any p q g hc.1 A_xs A_es c_xs c_es xs es hl_xs hc.2.1 _ hx_xs hx_es hc.2.2.1 hc.2.2.2
    · cases h
  · cases h
end Go.Proofs.YtgnnmifpfgpllaaGreat
