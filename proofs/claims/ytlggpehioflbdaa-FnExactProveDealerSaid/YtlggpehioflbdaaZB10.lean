import Derived.Test.YtlggpehioflbdaaZB3
import Derived.Test.YtlggpehioflbdaaZS3
import Derived.Test.YtlggpehioflbdaaZN1
import Derived.Test.YtlggpehioflbdaaZE3
import Derived.Test.YtlggpehioflbdaaZKit
/- Contracts of the lower layers. -/
set_option linter.all false
set_option linter.unusedVariables false
set_option linter.unusedSimpArgs false
namespace Go.Proofs.Ytlggpehioflbdaa
open Go.RowKit
noncomputable def c_isSharing : Con0 := fun args => match args with
  | [a0] => match asG a0 with
    | some (p, q, g) => some (True, .lit (.bool (shB p q g)), [])
    | _ => none
  | _ => none
set_option linter.unusedVariables false in
theorem ok_isSharing : (mk c_isSharing).ok Try.prog 97 := Con0.okLit (enter_of Try.func97 (by kernel_rfl) (by kernel_rfl)) fun args c x obs h => by
  unfold c_isSharing at h
  split at h
  · split at h
    · rename_i p q g e0
      cases h
      refine ⟨rfl, _, rfl, fun hc w vs hv => ?_⟩
      obtain ⟨u0, vs, rfl, r0, h0⟩ := hv.cons_of
      rw [h0.nil_of]
      obtain rfl := asG_sound e0 r0
      exact isSharing_any p q g _
    · cases h
  · cases h
noncomputable def c_sGroup : Con0 := fun args => match args with
  | [a0] => match asG a0 with
    | some (p, q, g) => some (True, .lit (.bool (shB p q g)), [])
    | _ => none
  | _ => none
set_option linter.unusedVariables false in
theorem ok_sGroup : (mk c_sGroup).ok Try.prog 91 := Con0.okLit (enter_of Try.func91 (by kernel_rfl) (by kernel_rfl)) fun args c x obs h => by
  unfold c_sGroup at h
  split at h
  · split at h
    · rename_i p q g e0
      cases h
      refine ⟨rfl, _, rfl, fun hc w vs hv => ?_⟩
      obtain ⟨u0, vs, rfl, r0, h0⟩ := hv.cons_of
      rw [h0.nil_of]
      obtain rfl := asG_sound e0 r0
      exact sGroup_any p q g _
    · cases h
  · cases h
noncomputable def c_sDealing : Con0 := fun args => match args with
  | [a0, a1] => match asG a0, asLL a1 with
    | some (p, q, g), some (cs, ss) => some (M.Grp p q g, .lit (.bool (dlB p q cs ss)), [])
    | _, _ => none
  | _ => none
set_option linter.unusedVariables false in
theorem ok_sDealing : (mk c_sDealing).ok Try.prog 112 := Con0.okLit (enter_of Try.func112 (by kernel_rfl) (by kernel_rfl)) fun args c x obs h => by
  unfold c_sDealing at h
  split at h
  · split at h
    · rename_i p q g cs ss e0 e1
      cases h
      refine ⟨rfl, _, rfl, fun hc w vs hv => ?_⟩
      obtain ⟨u0, vs, rfl, r0, h0⟩ := hv.cons_of
      obtain ⟨u1, vs, rfl, r1, h1⟩ := h0.cons_of
      rw [h1.nil_of]
      obtain rfl := asG_sound e0 r0
      obtain ⟨z1_0, z1_1, rfl, y1_0, y1_1⟩ := asLL_sound e1 r1
      obtain ⟨A_cs, c_cs, rfl, hx_cs, hl_cs, hc_cs⟩ := y1_0
      obtain ⟨A_ss, c_ss, rfl, hx_ss, hl_ss, hc_ss⟩ := y1_1
      exact sDealing_any p q g A_cs A_ss c_cs c_ss cs ss hl_cs hl_ss hc _ hx_cs hx_ss
    · cases h
  · cases h
noncomputable def c_isValidDealingI : Con0 := fun args => match args with
  | [a0, a1] => match asG a0, asLL a1 with
    | some (p, q, g), some (cs, ss) => some (True, .lit (.bool (vdl p q g cs ss)), [])
    | _, _ => none
  | _ => none
set_option linter.unusedVariables false in
theorem ok_isValidDealingI : (mk c_isValidDealingI).ok Try.prog 114 := Con0.okLit (enter_of Try.func114 (by kernel_rfl) (by kernel_rfl)) fun args c x obs h => by
  unfold c_isValidDealingI at h
  split at h
  · split at h
    · rename_i p q g cs ss e0 e1
      cases h
      refine ⟨rfl, _, rfl, fun hc w vs hv => ?_⟩
      obtain ⟨u0, vs, rfl, r0, h0⟩ := hv.cons_of
      obtain ⟨u1, vs, rfl, r1, h1⟩ := h0.cons_of
      rw [h1.nil_of]
      obtain rfl := asG_sound e0 r0
      obtain ⟨z1_0, z1_1, rfl, y1_0, y1_1⟩ := asLL_sound e1 r1
      obtain ⟨A_cs, c_cs, rfl, hx_cs, hl_cs, hc_cs⟩ := y1_0
      obtain ⟨A_ss, c_ss, rfl, hx_ss, hl_ss, hc_ss⟩ := y1_1
      exact isValidDealingI p q g A_cs A_ss c_cs c_ss cs ss hl_cs hl_ss _ hx_cs hx_ss
    · cases h
  · cases h
end Go.Proofs.Ytlggpehioflbdaa
