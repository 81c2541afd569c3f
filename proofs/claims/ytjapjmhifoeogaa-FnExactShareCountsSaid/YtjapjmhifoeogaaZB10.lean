import Derived.Test.YtjapjmhifoeogaaZB3
import Derived.Test.YtjapjmhifoeogaaZS3
import Derived.Test.YtjapjmhifoeogaaZN1
import Derived.Test.YtjapjmhifoeogaaZE3
import Derived.Test.YtjapjmhifoeogaaZKit
/- Contracts of the lower layers. -/
set_option linter.all false
set_option linter.unusedVariables false
set_option linter.unusedSimpArgs false
namespace Go.Proofs.Ytjapjmhifoeogaa
open Go.RowKit
noncomputable def c_isSharing : Con0 := fun args => match args with
  | [a0] => match asG a0 with
    | some (p, q, g) => some (True, .lit (.bool (shB p q g)), [])
    | _ => none
  | _ => none
set_option linter.unusedVariables false in
theorem ok_isSharing : (mk c_isSharing).ok Try.prog 79 := Con0.okLit (enter_of Try.func79 (by kernel_rfl) (by kernel_rfl)) fun args c x obs h => by
  unfold c_isSharing at h
  split at h
  · split at h
    · rename_i p q g e0
      cases h
      refine ⟨rfl, _, rfl, fun hc w vs hv => ?_⟩
      obtain ⟨u0, vs, rfl, r0, h0⟩ := hv.cons_of
      rw [h0.nil_of]
      obtain rfl := asG_sound e0 r0
      exact isSharing_any p q g _
    · cases h
  · cases h
noncomputable def c_sGroup : Con0 := fun args => match args with
  | [a0] => match asG a0 with
    | some (p, q, g) => some (True, .lit (.bool (shB p q g)), [])
    | _ => none
  | _ => none
set_option linter.unusedVariables false in
theorem ok_sGroup : (mk c_sGroup).ok Try.prog 75 := Con0.okLit (enter_of Try.func75 (by kernel_rfl) (by kernel_rfl)) fun args c x obs h => by
  unfold c_sGroup at h
  split at h
  · split at h
    · rename_i p q g e0
      cases h
      refine ⟨rfl, _, rfl, fun hc w vs hv => ?_⟩
      obtain ⟨u0, vs, rfl, r0, h0⟩ := hv.cons_of
      rw [h0.nil_of]
      obtain rfl := asG_sound e0 r0
      exact sGroup_any p q g _
    · cases h
  · cases h
end Go.Proofs.Ytjapjmhifoeogaa
