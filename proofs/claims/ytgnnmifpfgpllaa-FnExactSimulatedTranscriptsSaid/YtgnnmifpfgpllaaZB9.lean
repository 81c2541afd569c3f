import Derived.Test.YtgnnmifpfgpllaaZB3
import Derived.Test.YtgnnmifpfgpllaaZE3
import Derived.Test.YtgnnmifpfgpllaaZKit
/- Contracts of the lower layers. -/
set_option linter.all false
set_option linter.unusedVariables false
set_option linter.unusedSimpArgs false
namespace Go.Proofs.Ytgnnmifpfgpllaa
open Go.RowKit
noncomputable def c_xSimulate : Con0 := fun args => match args with
  | [a0, a1, a2, a3, a4] => match asG a0, asI a1, asI a2, asI a3, asI a4 with
    | some (p, q, g), some b, some y, some c, some z => some (M.Grp p q g ∧ (0 ≤ b ∧ b < p) ∧ (0 ≤ y ∧ y < p) ∧ (-9000000000000000000 ≤ c ∧ c ≤ 9000000000000000000) ∧ (-9000000000000000000 ≤ z ∧ z ≤ 9000000000000000000), .agg [.lit (.int .i64 (simC p q b y c z)), .lit (.int .i64 (c)), .lit (.int .i64 (z))], [])
    | _, _, _, _, _ => none
  | _ => none
set_option linter.unusedVariables false in
theorem ok_xSimulate : (mk c_xSimulate).ok Try.prog 73 := Con0.okLit (enter_of Try.func73 (by kernel_rfl) (by kernel_rfl)) fun args c x obs h => by
  unfold c_xSimulate at h
  split at h
  · split at h
    · rename_i p q g b y c z e0 e1 e2 e3 e4
      cases h
      refine ⟨rfl, _, rfl, fun hc w vs hv => ?_⟩
      obtain ⟨u0, vs, rfl, r0, h0⟩ := hv.cons_of
      obtain ⟨u1, vs, rfl, r1, h1⟩ := h0.cons_of
      obtain ⟨u2, vs, rfl, r2, h2⟩ := h1.cons_of
      obtain ⟨u3, vs, rfl, r3, h3⟩ := h2.cons_of
      obtain ⟨u4, vs, rfl, r4, h4⟩ := h3.cons_of
      rw [h4.nil_of]
      obtain rfl := asG_sound e0 r0
      obtain rfl := asI_sound e1 r1
      obtain rfl := asI_sound e2 r2
      obtain rfl := asI_sound e3 r3
      obtain rfl := asI_sound e4 r4
      exact xSimulate_any p q g b y c z hc.1 hc.2.1 hc.2.2.1 hc.2.2.2.1 hc.2.2.2.2 _
    · cases h
  · cases h
end Go.Proofs.Ytgnnmifpfgpllaa
