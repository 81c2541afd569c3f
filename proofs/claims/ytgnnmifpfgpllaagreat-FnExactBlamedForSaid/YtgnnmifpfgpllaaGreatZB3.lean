import Derived.Test.YtgnnmifpfgpllaaGreatZB2
import Derived.Test.YtgnnmifpfgpllaaGreatZO1
/- Contracts of the lower layers. -/
set_option linter.all false
set_option linter.unusedVariables false
set_option linter.unusedSimpArgs false
namespace Go.Proofs.YtgnnmifpfgpllaaGreat
open Go.RowKit
noncomputable def c_pow : Con0 := fun args => match args with
  | [a0, a1, a2] => match asG a0, asI a1, asI a2 with
    | some (p, q, g), some x, some e => some (M.Grp p q g ∧ (0 ≤ x ∧ x < p) ∧ (-9000000000000000000 ≤ e ∧ e ≤ 9000000000000000000), .lit (.int .i64 (M.gpw p q x e)), [])
    | _, _, _ => none
  | _ => none
set_option linter.unusedVariables false in
theorem ok_pow : (mk c_pow).ok Tryz.prog 88 := Con0.okLit (enter_of Tryz.func88 (by kernel_rfl) (by kernel_rfl)) fun args c x obs h => by
  unfold c_pow at h
  split at h
  · split at h
    · rename_i p q g x e e0 e1 e2
      cases h
      refine ⟨rfl, _, rfl, fun hc w vs hv => ?_⟩
      obtain ⟨u0, vs, rfl, r0, h0⟩ := hv.cons_of
      obtain ⟨u1, vs, rfl, r1, h1⟩ := h0.cons_of
      obtain ⟨u2, vs, rfl, r2, h2⟩ := h1.cons_of
      rw [h2.nil_of]
      obtain rfl := asG_sound e0 r0
      obtain rfl := asI_sound e1 r1
      obtain rfl := asI_sound e2 r2
      exact pow_any p q g x e hc.1 hc.2.1 hc.2.2 _
    · cases h
  · cases h
noncomputable def c_gExp : Con0 := fun args => match args with
  | [a0, a1, a2] => match asG a0, asI a1, asI a2 with
    | some (p, q, g), some x, some e => some (M.Grp p q g ∧ (0 ≤ x ∧ x < p) ∧ (-9000000000000000000 ≤ e ∧ e ≤ 9000000000000000000), .lit (.int .i64 (M.gpw p q x e)), [])
    | _, _, _ => none
  | _ => none
set_option linter.unusedVariables false in
theorem ok_gExp : (mk c_gExp).ok Tryz.prog 82 := Con0.okLit (enter_of Tryz.func82 (by kernel_rfl) (by kernel_rfl)) fun args c x obs h => by
  unfold c_gExp at h
  split at h
  · split at h
    · rename_i p q g x e e0 e1 e2
      cases h
      refine ⟨rfl, _, rfl, fun hc w vs hv => ?_⟩
      obtain ⟨u0, vs, rfl, r0, h0⟩ := hv.cons_of
      obtain ⟨u1, vs, rfl, r1, h1⟩ := h0.cons_of
      obtain ⟨u2, vs, rfl, r2, h2⟩ := h1.cons_of
      rw [h2.nil_of]
      obtain rfl := asG_sound e0 r0
      obtain rfl := asI_sound e1 r1
      obtain rfl := asI_sound e2 r2
      exact gExp_any p q g x e hc.1 hc.2.1 hc.2.2 _
    · cases h
  · cases h
noncomputable def c_mul : Con0 := fun args => match args with
  | [a0, a1] => match asG a0, asIs a1 with
    | some (p, q, g), some xs => some (M.Grp p q g ∧ ∀ x ∈ xs, 0 ≤ x ∧ x < p, .lit (.int .i64 (M.mulL p xs)), [])
    | _, _ => none
  | _ => none
set_option linter.unusedVariables false in
theorem ok_mul : (mk c_mul).ok Tryz.prog 68 := Con0.okLit (enter_of Tryz.func68 (by kernel_rfl) (by kernel_rfl)) fun args c x obs h => by
  unfold c_mul at h
  split at h
  · split at h
    · rename_i p q g xs e0 e1
      cases h
      refine ⟨rfl, _, rfl, fun hc w vs hv => ?_⟩
      obtain ⟨u0, vs, rfl, r0, h0⟩ := hv.cons_of
      obtain ⟨u1, vs, rfl, r1, h1⟩ := h0.cons_of
      rw [h1.nil_of]
      obtain rfl := asG_sound e0 r0
      obtain ⟨A_xs, c_xs, rfl, hx_xs, hl_xs, hc_xs⟩ := asIs_sound e1 r1
      exact mul_any p q g hc.1 A_xs c_xs xs hl_xs _ hx_xs hc.2
    · cases h
  · cases h
noncomputable def c_gMul : Con0 := fun args => match args with
  | [a0, a1] => match asG a0, asIs a1 with
    | some (p, q, g), some xs => some (M.Grp p q g ∧ ∀ x ∈ xs, 0 ≤ x ∧ x < p, .lit (.int .i64 (M.mulL p xs)), [])
    | _, _ => none
  | _ => none
set_option linter.unusedVariables false in
theorem ok_gMul : (mk c_gMul).ok Tryz.prog 81 := Con0.okLit (enter_of Tryz.func81 (by kernel_rfl) (by kernel_rfl)) fun args c x obs h => by
  unfold c_gMul at h
  split at h
  · split at h
    · rename_i p q g xs e0 e1
      cases h
      refine ⟨rfl, _, rfl, fun hc w vs hv => ?_⟩
      obtain ⟨u0, vs, rfl, r0, h0⟩ := hv.cons_of
      obtain ⟨u1, vs, rfl, r1, h1⟩ := h0.cons_of
      rw [h1.nil_of]
      obtain rfl := asG_sound e0 r0
      obtain ⟨A_xs, c_xs, rfl, hx_xs, hl_xs, hc_xs⟩ := asIs_sound e1 r1
      exact gMul_any p q g hc.1 A_xs c_xs xs hl_xs _ hx_xs hc.2
    · cases h
  · cases h
noncomputable def c_l1In : Con0 := fun args => match args with
  | [a0, a1, a2] => match asI a0, asI a1, asI a2 with
    | some n, some lo, some hi => some (True, .lit (.bool (inr n lo hi)), [])
    | _, _, _ => none
  | _ => none
set_option linter.unusedVariables false in
theorem ok_l1In : (mk c_l1In).ok Tryz.prog 32 := Con0.okLit (enter_of Tryz.func32 (by kernel_rfl) (by kernel_rfl)) fun args c x obs h => by
  unfold c_l1In at h
  split at h
  · split at h
    · rename_i n lo hi e0 e1 e2
      cases h
      refine ⟨rfl, _, rfl, fun hc w vs hv => ?_⟩
      obtain ⟨u0, vs, rfl, r0, h0⟩ := hv.cons_of
      obtain ⟨u1, vs, rfl, r1, h1⟩ := h0.cons_of
      obtain ⟨u2, vs, rfl, r2, h2⟩ := h1.cons_of
      rw [h2.nil_of]
      obtain rfl := asI_sound e0 r0
      obtain rfl := asI_sound e1 r1
      obtain rfl := asI_sound e2 r2
      exact Calls.keep (l1In_any n lo hi _)
    · cases h
  · cases h
noncomputable def c_areExps : Con0 := fun args => match args with
  | [a0, a1] => match asG a0, asIs a1 with
    | some (p, q, g), some xs => some ((-9000000000000000000 ≤ q ∧ q ≤ 9000000000000000000), .lit (.bool (expsB q xs)), [])
    | _, _ => none
  | _ => none
set_option linter.unusedVariables false in
theorem ok_areExps : (mk c_areExps).ok Tryz.prog 84 := Con0.okLit (enter_of Tryz.func84 (by kernel_rfl) (by kernel_rfl)) fun args c x obs h => by
  unfold c_areExps at h
  split at h
  · split at h
    · rename_i p q g xs e0 e1
      cases h
      refine ⟨rfl, _, rfl, fun hc w vs hv => ?_⟩
      obtain ⟨u0, vs, rfl, r0, h0⟩ := hv.cons_of
      obtain ⟨u1, vs, rfl, r1, h1⟩ := h0.cons_of
      rw [h1.nil_of]
      obtain rfl := asG_sound e0 r0
      obtain ⟨A_xs, c_xs, rfl, hx_xs, hl_xs, hc_xs⟩ := asIs_sound e1 r1
      exact areExps_any p q g A_xs c_xs xs _ hc hx_xs hl_xs
    · cases h
  · cases h
noncomputable def c_gExps : Con0 := fun args => match args with
  | [a0, a1] => match asG a0, asIs a1 with
    | some (p, q, g), some xs => some ((-9000000000000000000 ≤ q ∧ q ≤ 9000000000000000000), .lit (.bool (expsB q xs)), [])
    | _, _ => none
  | _ => none
set_option linter.unusedVariables false in
theorem ok_gExps : (mk c_gExps).ok Tryz.prog 112 := Con0.okLit (enter_of Tryz.func112 (by kernel_rfl) (by kernel_rfl)) fun args c x obs h => by
  unfold c_gExps at h
  split at h
  · split at h
    · rename_i p q g xs e0 e1
      cases h
      refine ⟨rfl, _, rfl, fun hc w vs hv => ?_⟩
      obtain ⟨u0, vs, rfl, r0, h0⟩ := hv.cons_of
      obtain ⟨u1, vs, rfl, r1, h1⟩ := h0.cons_of
      rw [h1.nil_of]
      obtain rfl := asG_sound e0 r0
      obtain ⟨A_xs, c_xs, rfl, hx_xs, hl_xs, hc_xs⟩ := asIs_sound e1 r1
      exact gExps_any p q g A_xs c_xs xs _ hc hx_xs hl_xs
    · cases h
  · cases h
noncomputable def c_has : Con0 := fun args => match args with
  | [a0, a1] => match asG a0, asI a1 with
    | some (p, q, g), some x => some (M.Grp p q g, .lit (.bool (elemB p q x)), [])
    | _, _ => none
  | _ => none
set_option linter.unusedVariables false in
theorem ok_has : (mk c_has).ok Tryz.prog 60 := Con0.okLit (enter_of Tryz.func60 (by kernel_rfl) (by kernel_rfl)) fun args c x obs h => by
  unfold c_has at h
  split at h
  · split at h
    · rename_i p q g x e0 e1
      cases h
      refine ⟨rfl, _, rfl, fun hc w vs hv => ?_⟩
      obtain ⟨u0, vs, rfl, r0, h0⟩ := hv.cons_of
      obtain ⟨u1, vs, rfl, r1, h1⟩ := h0.cons_of
      rw [h1.nil_of]
      obtain rfl := asG_sound e0 r0
      obtain rfl := asI_sound e1 r1
      exact has_any p q g x hc _
    · cases h
  · cases h
noncomputable def c_hasAll : Con0 := fun args => match args with
  | [a0, a1] => match asG a0, asIs a1 with
    | some (p, q, g), some xs => some (M.Grp p q g, .lit (.bool (elemsB p q xs)), [])
    | _, _ => none
  | _ => none
set_option linter.unusedVariables false in
theorem ok_hasAll : (mk c_hasAll).ok Tryz.prog 73 := Con0.okLit (enter_of Tryz.func73 (by kernel_rfl) (by kernel_rfl)) fun args c x obs h => by
  unfold c_hasAll at h
  split at h
  · split at h
    · rename_i p q g xs e0 e1
      cases h
      refine ⟨rfl, _, rfl, fun hc w vs hv => ?_⟩
      obtain ⟨u0, vs, rfl, r0, h0⟩ := hv.cons_of
      obtain ⟨u1, vs, rfl, r1, h1⟩ := h0.cons_of
      rw [h1.nil_of]
      obtain rfl := asG_sound e0 r0
      obtain ⟨A_xs, c_xs, rfl, hx_xs, hl_xs, hc_xs⟩ := asIs_sound e1 r1
      exact hasAll_any p q g hc A_xs c_xs xs hl_xs _ hx_xs
    · cases h
  · cases h
noncomputable def c_gIs : Con0 := fun args => match args with
  | [a0, a1] => match asG a0, asIs a1 with
    | some (p, q, g), some xs => some (M.Grp p q g, .lit (.bool (elemsB p q xs)), [])
    | _, _ => none
  | _ => none
set_option linter.unusedVariables false in
theorem ok_gIs : (mk c_gIs).ok Tryz.prog 54 := Con0.okLit (enter_of Tryz.func54 (by kernel_rfl) (by kernel_rfl)) fun args c x obs h => by
  unfold c_gIs at h
  split at h
  · split at h
    · rename_i p q g xs e0 e1
      cases h
      refine ⟨rfl, _, rfl, fun hc w vs hv => ?_⟩
      obtain ⟨u0, vs, rfl, r0, h0⟩ := hv.cons_of
      obtain ⟨u1, vs, rfl, r1, h1⟩ := h0.cons_of
      rw [h1.nil_of]
      obtain rfl := asG_sound e0 r0
      obtain ⟨A_xs, c_xs, rfl, hx_xs, hl_xs, hc_xs⟩ := asIs_sound e1 r1
      exact gIs_any p q g hc A_xs c_xs xs hl_xs _ hx_xs
    · cases h
  · cases h
noncomputable def c_challenge : Con0 := fun args => match args with
  | [a0, a1, a2] => match asG a0, asStr a1, asIs a2 with
    | some (p, q, g), some s, some xs => some (M.Grp p q g ∧ s.size ≤ 40 ∧ 0 < xs.length ∧ xs.length ≤ 356 ∧ ∀ x ∈ xs, 0 ≤ x ∧ x ≤ 4611686018427387903, .tup [.lit (.int .i64 (M.chal p q g s.data.toList xs)), .lit (.bool true)], [])
    | _, _, _ => none
  | _ => none
set_option linter.unusedVariables false in
theorem ok_challenge : (mk c_challenge).ok Tryz.prog 85 := Con0.okLit (enter_of Tryz.func85 (by kernel_rfl) (by kernel_rfl)) fun args c x obs h => by
  unfold c_challenge at h
  split at h
  · split at h
    · rename_i p q g s xs e0 e1 e2
      cases h
      refine ⟨rfl, _, rfl, fun hc w vs hv => ?_⟩
      obtain ⟨u0, vs, rfl, r0, h0⟩ := hv.cons_of
      obtain ⟨u1, vs, rfl, r1, h1⟩ := h0.cons_of
      obtain ⟨u2, vs, rfl, r2, h2⟩ := h1.cons_of
      rw [h2.nil_of]
      obtain rfl := asG_sound e0 r0
      obtain rfl := asStr_sound e1 r1
      obtain ⟨A_xs, c_xs, rfl, hx_xs, hl_xs, hc_xs⟩ := asIs_sound e2 r2
      exact challenge_any p q g hc.1 s hc.2.1 A_xs c_xs xs hc.2.2.1 hc.2.2.2.1 hc.2.2.2.2 _ hx_xs
    · cases h
  · cases h
noncomputable def c_hChallenge : Con0 := fun args => match args with
  | [a0, a1, a2] => match asG a0, asStr a1, asIs a2 with
    | some (p, q, g), some s, some xs => some (M.Grp p q g ∧ s.size ≤ 40 ∧ 0 < xs.length ∧ xs.length ≤ 356 ∧ ∀ x ∈ xs, 0 ≤ x ∧ x ≤ 4611686018427387903, .lit (.int .i64 (M.chal p q g s.data.toList xs)), [])
    | _, _, _ => none
  | _ => none
set_option linter.unusedVariables false in
theorem ok_hChallenge : (mk c_hChallenge).ok Tryz.prog 113 := Con0.okLit (enter_of Tryz.func113 (by kernel_rfl) (by kernel_rfl)) fun args c x obs h => by
  unfold c_hChallenge at h
  split at h
  · split at h
    · rename_i p q g s xs e0 e1 e2
      cases h
      refine ⟨rfl, _, rfl, fun hc w vs hv => ?_⟩
      obtain ⟨u0, vs, rfl, r0, h0⟩ := hv.cons_of
      obtain ⟨u1, vs, rfl, r1, h1⟩ := h0.cons_of
      obtain ⟨u2, vs, rfl, r2, h2⟩ := h1.cons_of
      rw [h2.nil_of]
      obtain rfl := asG_sound e0 r0
      obtain rfl := asStr_sound e1 r1
      obtain ⟨A_xs, c_xs, rfl, hx_xs, hl_xs, hc_xs⟩ := asIs_sound e2 r2
      exact hChallenge_any p q g hc.1 s hc.2.1 A_xs c_xs xs hc.2.2.1 hc.2.2.2.1 hc.2.2.2.2 _ hx_xs
    · cases h
  · cases h
end Go.Proofs.YtgnnmifpfgpllaaGreat
