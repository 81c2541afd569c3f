import Derived.Test.YtgnnmifpfgpllaaGreatZB3
import Derived.Test.YtgnnmifpfgpllaaGreatZS3
import Derived.Test.YtgnnmifpfgpllaaGreatZN1
import Derived.Test.YtgnnmifpfgpllaaGreatZE9
import Derived.Test.YtgnnmifpfgpllaaGreatZKit
/- Contracts of the lower layers. -/
set_option linter.all false
set_option linter.unusedVariables false
set_option linter.unusedSimpArgs false
namespace Go.Proofs.YtgnnmifpfgpllaaGreat
open Go.RowKit
def hasN (n : Int) (xs : List Int) : Bool := xs.any fun x => x == n
noncomputable def c_commitAt : Con0 := fun args => match args with
  | [a0, a1, a2] => match asG a0, asIs a1, asI a2 with
    | some (p, q, g), some xs, some i => some (M.Grp p q g ∧ (0 ≤ i ∧ i ≤ 7) ∧ ∀ x ∈ xs, 0 ≤ x ∧ x < p, .lit (.int .i64 (atV p q i xs)), [])
    | _, _, _ => none
  | _ => none
set_option linter.unusedVariables false in
theorem ok_commitAt : (mk c_commitAt).ok Tryz.prog 62 := Con0.okLit (enter_of Tryz.func62 (by kernel_rfl) (by kernel_rfl)) fun args c x obs h => by
  unfold c_commitAt at h
  split at h
  · split at h
    · rename_i p q g xs i e0 e1 e2
      cases h
      refine ⟨rfl, _, rfl, fun hc w vs hv => ?_⟩
      obtain ⟨u0, vs, rfl, r0, h0⟩ := hv.cons_of
      obtain ⟨u1, vs, rfl, r1, h1⟩ := h0.cons_of
      obtain ⟨u2, vs, rfl, r2, h2⟩ := h1.cons_of
      rw [h2.nil_of]
      obtain rfl := asG_sound e0 r0
      obtain ⟨A_xs, c_xs, rfl, hx_xs, hl_xs, hc_xs⟩ := asIs_sound e1 r1
      obtain rfl := asI_sound e2 r2
      exact commitAt_any p q g i hc.1 A_xs c_xs xs hl_xs hc.2.1 _ hx_xs hc.2.2
    · cases h
  · cases h
noncomputable def c_sAt : Con0 := fun args => match args with
  | [a0, a1, a2] => match asG a0, asIs a1, asI a2 with
    | some (p, q, g), some xs, some i => some (M.Grp p q g ∧ (0 ≤ i ∧ i ≤ 7) ∧ ∀ x ∈ xs, 0 ≤ x ∧ x < p, .lit (.int .i64 (atV p q i xs)), [])
    | _, _, _ => none
  | _ => none
set_option linter.unusedVariables false in
theorem ok_sAt : (mk c_sAt).ok Tryz.prog 56 := Con0.okLit (enter_of Tryz.func56 (by kernel_rfl) (by kernel_rfl)) fun args c x obs h => by
  unfold c_sAt at h
  split at h
  · split at h
    · rename_i p q g xs i e0 e1 e2
      cases h
      refine ⟨rfl, _, rfl, fun hc w vs hv => ?_⟩
      obtain ⟨u0, vs, rfl, r0, h0⟩ := hv.cons_of
      obtain ⟨u1, vs, rfl, r1, h1⟩ := h0.cons_of
      obtain ⟨u2, vs, rfl, r2, h2⟩ := h1.cons_of
      rw [h2.nil_of]
      obtain rfl := asG_sound e0 r0
      obtain ⟨A_xs, c_xs, rfl, hx_xs, hl_xs, hc_xs⟩ := asIs_sound e1 r1
      obtain rfl := asI_sound e2 r2
      exact sAt_any p q g i hc.1 A_xs c_xs xs hl_xs hc.2.1 _ hx_xs hc.2.2
    · cases h
  · cases h
noncomputable def c_isSharing : Con0 := fun args => match args with
  | [a0] => match asG a0 with
    | some (p, q, g) => some (True, .lit (.bool (shB p q g)), [])
    | _ => none
  | _ => none
set_option linter.unusedVariables false in
theorem ok_isSharing : (mk c_isSharing).ok Tryz.prog 49 := Con0.okLit (enter_of Tryz.func49 (by kernel_rfl) (by kernel_rfl)) fun args c x obs h => by
  unfold c_isSharing at h
  split at h
  · split at h
    · rename_i p q g e0
      cases h
      refine ⟨rfl, _, rfl, fun hc w vs hv => ?_⟩
      obtain ⟨u0, vs, rfl, r0, h0⟩ := hv.cons_of
      rw [h0.nil_of]
      obtain rfl := asG_sound e0 r0
      exact isSharing_any p q g _
    · cases h
  · cases h
noncomputable def c_sGroup : Con0 := fun args => match args with
  | [a0] => match asG a0 with
    | some (p, q, g) => some (True, .lit (.bool (shB p q g)), [])
    | _ => none
  | _ => none
set_option linter.unusedVariables false in
theorem ok_sGroup : (mk c_sGroup).ok Tryz.prog 46 := Con0.okLit (enter_of Tryz.func46 (by kernel_rfl) (by kernel_rfl)) fun args c x obs h => by
  unfold c_sGroup at h
  split at h
  · split at h
    · rename_i p q g e0
      cases h
      refine ⟨rfl, _, rfl, fun hc w vs hv => ?_⟩
      obtain ⟨u0, vs, rfl, r0, h0⟩ := hv.cons_of
      rw [h0.nil_of]
      obtain rfl := asG_sound e0 r0
      exact sGroup_any p q g _
    · cases h
  · cases h
noncomputable def c_areCommits : Con0 := fun args => match args with
  | [a0, a1] => match asG a0, asIs a1 with
    | some (p, q, g), some xs => some (M.Grp p q g, .lit (.bool (comB p q xs)), [])
    | _, _ => none
  | _ => none
set_option linter.unusedVariables false in
theorem ok_areCommits : (mk c_areCommits).ok Tryz.prog 50 := Con0.okLit (enter_of Tryz.func50 (by kernel_rfl) (by kernel_rfl)) fun args c x obs h => by
  unfold c_areCommits at h
  split at h
  · split at h
    · rename_i p q g xs e0 e1
      cases h
      refine ⟨rfl, _, rfl, fun hc w vs hv => ?_⟩
      obtain ⟨u0, vs, rfl, r0, h0⟩ := hv.cons_of
      obtain ⟨u1, vs, rfl, r1, h1⟩ := h0.cons_of
      rw [h1.nil_of]
      obtain rfl := asG_sound e0 r0
      obtain ⟨A_xs, c_xs, rfl, hx_xs, hl_xs, hc_xs⟩ := asIs_sound e1 r1
      exact areCommits_any p q g A_xs c_xs xs hl_xs hc _ hx_xs
    · cases h
  · cases h
noncomputable def c_sCommits : Con0 := fun args => match args with
  | [a0, a1] => match asG a0, asIs a1 with
    | some (p, q, g), some xs => some (M.Grp p q g, .lit (.bool (comB p q xs)), [])
    | _, _ => none
  | _ => none
set_option linter.unusedVariables false in
theorem ok_sCommits : (mk c_sCommits).ok Tryz.prog 47 := Con0.okLit (enter_of Tryz.func47 (by kernel_rfl) (by kernel_rfl)) fun args c x obs h => by
  unfold c_sCommits at h
  split at h
  · split at h
    · rename_i p q g xs e0 e1
      cases h
      refine ⟨rfl, _, rfl, fun hc w vs hv => ?_⟩
      obtain ⟨u0, vs, rfl, r0, h0⟩ := hv.cons_of
      obtain ⟨u1, vs, rfl, r1, h1⟩ := h0.cons_of
      rw [h1.nil_of]
      obtain rfl := asG_sound e0 r0
      obtain ⟨A_xs, c_xs, rfl, hx_xs, hl_xs, hc_xs⟩ := asIs_sound e1 r1
      exact sCommits_any p q g A_xs c_xs xs hl_xs hc _ hx_xs
    · cases h
  · cases h
noncomputable def c_isTrustee : Con0 := fun args => match args with
  | [a0] => match asI a0 with
    | some i => some (True, .lit (.bool (inr i 1 7)), [])
    | _ => none
  | _ => none
set_option linter.unusedVariables false in
theorem ok_isTrustee : (mk c_isTrustee).ok Tryz.prog 37 := Con0.okLit (enter_of Tryz.func37 (by kernel_rfl) (by kernel_rfl)) fun args c x obs h => by
  unfold c_isTrustee at h
  split at h
  · split at h
    · rename_i i e0
      cases h
      refine ⟨rfl, _, rfl, fun hc w vs hv => ?_⟩
      obtain ⟨u0, vs, rfl, r0, h0⟩ := hv.cons_of
      rw [h0.nil_of]
      obtain rfl := asI_sound e0 r0
      exact Calls.keep (isTrustee_any i _)
    · cases h
  · cases h
end Go.Proofs.YtgnnmifpfgpllaaGreat
