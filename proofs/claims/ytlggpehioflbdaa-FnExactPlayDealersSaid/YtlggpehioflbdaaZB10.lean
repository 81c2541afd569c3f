import Derived.Test.YtlggpehioflbdaaZB3
import Derived.Test.YtlggpehioflbdaaZS3
import Derived.Test.YtlggpehioflbdaaZN1
import Derived.Test.YtlggpehioflbdaaZE3
import Derived.Test.YtlggpehioflbdaaZKit
/- Contracts of the lower layers. -/
set_option linter.all false
set_option linter.unusedVariables false
set_option linter.unusedSimpArgs false
namespace Go.Proofs.Ytlggpehioflbdaa
open Go.RowKit
def shrB (p q g : Int) (xs : List Int) (i s : Int) : Bool := M.gpw p q g s == atV p q i xs
noncomputable def c_isShare : Con0 := fun args => match args with
  | [a0, a1, a2, a3] => match asG a0, asIs a1, asI a2, asI a3 with
    | some (p, q, g), some xs, some i, some s => some (M.Grp p q g ∧ (0 ≤ i ∧ i ≤ 7) ∧ (0 ≤ s ∧ s < q) ∧ ∀ x ∈ xs, 0 ≤ x ∧ x < p, .lit (.bool (shrB p q g xs i s)), [])
    | _, _, _, _ => none
  | _ => none
set_option linter.unusedVariables false in
theorem ok_isShare : (mk c_isShare).ok Try.prog 141 := Con0.okLit (enter_of Try.func141 (by kernel_rfl) (by kernel_rfl)) fun args c x obs h => by
  unfold c_isShare at h
  split at h
  · split at h
    · rename_i p q g xs i s e0 e1 e2 e3
      cases h
      refine ⟨rfl, _, rfl, fun hc w vs hv => ?_⟩
      obtain ⟨u0, vs, rfl, r0, h0⟩ := hv.cons_of
      obtain ⟨u1, vs, rfl, r1, h1⟩ := h0.cons_of
      obtain ⟨u2, vs, rfl, r2, h2⟩ := h1.cons_of
      obtain ⟨u3, vs, rfl, r3, h3⟩ := h2.cons_of
      rw [h3.nil_of]
      obtain rfl := asG_sound e0 r0
      obtain ⟨A_xs, c_xs, rfl, hx_xs, hl_xs, hc_xs⟩ := asIs_sound e1 r1
      obtain rfl := asI_sound e2 r2
      obtain rfl := asI_sound e3 r3
      exact isShare_any p q g i s hc.1 A_xs c_xs xs hl_xs hc.2.1 hc.2.2.1 hc.2.2.2 _ hx_xs
    · cases h
  · cases h
noncomputable def c_sFits : Con0 := fun args => match args with
  | [a0, a1, a2, a3] => match asG a0, asIs a1, asI a2, asI a3 with
    | some (p, q, g), some xs, some i, some s => some (M.Grp p q g ∧ (0 ≤ i ∧ i ≤ 7) ∧ (0 ≤ s ∧ s < q) ∧ ∀ x ∈ xs, 0 ≤ x ∧ x < p, .lit (.bool (shrB p q g xs i s)), [])
    | _, _, _, _ => none
  | _ => none
set_option linter.unusedVariables false in
theorem ok_sFits : (mk c_sFits).ok Try.prog 136 := Con0.okLit (enter_of Try.func136 (by kernel_rfl) (by kernel_rfl)) fun args c x obs h => by
  unfold c_sFits at h
  split at h
  · split at h
    · rename_i p q g xs i s e0 e1 e2 e3
      cases h
      refine ⟨rfl, _, rfl, fun hc w vs hv => ?_⟩
      obtain ⟨u0, vs, rfl, r0, h0⟩ := hv.cons_of
      obtain ⟨u1, vs, rfl, r1, h1⟩ := h0.cons_of
      obtain ⟨u2, vs, rfl, r2, h2⟩ := h1.cons_of
      obtain ⟨u3, vs, rfl, r3, h3⟩ := h2.cons_of
      rw [h3.nil_of]
      obtain rfl := asG_sound e0 r0
      obtain ⟨A_xs, c_xs, rfl, hx_xs, hl_xs, hc_xs⟩ := asIs_sound e1 r1
      obtain rfl := asI_sound e2 r2
      obtain rfl := asI_sound e3 r3
      exact sFits_any p q g i s hc.1 A_xs c_xs xs hl_xs hc.2.1 hc.2.2.1 hc.2.2.2 _ hx_xs
    · cases h
  · cases h
noncomputable def c_isSharing : Con0 := fun args => match args with
  | [a0] => match asG a0 with
    | some (p, q, g) => some (True, .lit (.bool (shB p q g)), [])
    | _ => none
  | _ => none
set_option linter.unusedVariables false in
theorem ok_isSharing : (mk c_isSharing).ok Try.prog 97 := Con0.okLit (enter_of Try.func97 (by kernel_rfl) (by kernel_rfl)) fun args c x obs h => by
  unfold c_isSharing at h
  split at h
  · split at h
    · rename_i p q g e0
      cases h
      refine ⟨rfl, _, rfl, fun hc w vs hv => ?_⟩
      obtain ⟨u0, vs, rfl, r0, h0⟩ := hv.cons_of
      rw [h0.nil_of]
      obtain rfl := asG_sound e0 r0
      exact isSharing_any p q g _
    · cases h
  · cases h
noncomputable def c_sGroup : Con0 := fun args => match args with
  | [a0] => match asG a0 with
    | some (p, q, g) => some (True, .lit (.bool (shB p q g)), [])
    | _ => none
  | _ => none
set_option linter.unusedVariables false in
theorem ok_sGroup : (mk c_sGroup).ok Try.prog 91 := Con0.okLit (enter_of Try.func91 (by kernel_rfl) (by kernel_rfl)) fun args c x obs h => by
  unfold c_sGroup at h
  split at h
  · split at h
    · rename_i p q g e0
      cases h
      refine ⟨rfl, _, rfl, fun hc w vs hv => ?_⟩
      obtain ⟨u0, vs, rfl, r0, h0⟩ := hv.cons_of
      rw [h0.nil_of]
      obtain rfl := asG_sound e0 r0
      exact sGroup_any p q g _
    · cases h
  · cases h
end Go.Proofs.Ytlggpehioflbdaa
