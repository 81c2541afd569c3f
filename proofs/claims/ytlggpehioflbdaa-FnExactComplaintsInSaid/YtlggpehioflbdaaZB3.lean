import Derived.Test.YtlggpehioflbdaaZB2
import Derived.Test.YtlggpehioflbdaaZO1
/- Contracts of the lower layers. -/
set_option linter.all false
set_option linter.unusedVariables false
set_option linter.unusedSimpArgs false
namespace Go.Proofs.Ytlggpehioflbdaa
open Go.RowKit
noncomputable def c_l1In : Con0 := fun args => match args with
  | [a0, a1, a2] => match asI a0, asI a1, asI a2 with
    | some n, some lo, some hi => some (True, .lit (.bool (inr n lo hi)), [])
    | _, _, _ => none
  | _ => none
set_option linter.unusedVariables false in
theorem ok_l1In : (mk c_l1In).ok Try.prog 92 := Con0.okLit (enter_of Try.func92 (by kernel_rfl) (by kernel_rfl)) fun args c x obs h => by
  unfold c_l1In at h
  split at h
  · split at h
    · rename_i n lo hi e0 e1 e2
      cases h
      refine ⟨rfl, _, rfl, fun hc w vs hv => ?_⟩
      obtain ⟨u0, vs, rfl, r0, h0⟩ := hv.cons_of
      obtain ⟨u1, vs, rfl, r1, h1⟩ := h0.cons_of
      obtain ⟨u2, vs, rfl, r2, h2⟩ := h1.cons_of
      rw [h2.nil_of]
      obtain rfl := asI_sound e0 r0
      obtain rfl := asI_sound e1 r1
      obtain rfl := asI_sound e2 r2
      exact Calls.keep (l1In_any n lo hi _)
    · cases h
  · cases h
end Go.Proofs.Ytlggpehioflbdaa
