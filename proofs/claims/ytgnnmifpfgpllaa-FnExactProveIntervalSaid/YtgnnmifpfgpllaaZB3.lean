import Derived.Test.YtgnnmifpfgpllaaZB2
import Derived.Test.YtgnnmifpfgpllaaZO5
/- Contracts of the lower layers. -/
set_option linter.all false
set_option linter.unusedVariables false
set_option linter.unusedSimpArgs false
namespace Go.Proofs.Ytgnnmifpfgpllaa
open Go.RowKit
noncomputable def c_pow : Con0 := fun args => match args with
  | [a0, a1, a2] => match asG a0, asI a1, asI a2 with
    | some (p, q, g), some x, some e => some (M.Grp p q g ∧ (0 ≤ x ∧ x < p) ∧ (-9000000000000000000 ≤ e ∧ e ≤ 9000000000000000000), .lit (.int .i64 (M.gpw p q x e)), [])
    | _, _, _ => none
  | _ => none
set_option linter.unusedVariables false in
theorem ok_pow : (mk c_pow).ok Try.prog 55 := Con0.okLit (enter_of Try.func55 (by kernel_rfl) (by kernel_rfl)) fun args c x obs h => by
  unfold c_pow at h
  split at h
  · split at h
    · rename_i p q g x e e0 e1 e2
      cases h
      refine ⟨rfl, _, rfl, fun hc w vs hv => ?_⟩
      obtain ⟨u0, vs, rfl, r0, h0⟩ := hv.cons_of
      obtain ⟨u1, vs, rfl, r1, h1⟩ := h0.cons_of
      obtain ⟨u2, vs, rfl, r2, h2⟩ := h1.cons_of
      rw [h2.nil_of]
      obtain rfl := asG_sound e0 r0
      obtain rfl := asI_sound e1 r1
      obtain rfl := asI_sound e2 r2
      exact pow_any p q g x e hc.1 hc.2.1 hc.2.2 _
    · cases h
  · cases h
noncomputable def c_gExp : Con0 := fun args => match args with
  | [a0, a1, a2] => match asG a0, asI a1, asI a2 with
    | some (p, q, g), some x, some e => some (M.Grp p q g ∧ (0 ≤ x ∧ x < p) ∧ (-9000000000000000000 ≤ e ∧ e ≤ 9000000000000000000), .lit (.int .i64 (M.gpw p q x e)), [])
    | _, _, _ => none
  | _ => none
set_option linter.unusedVariables false in
theorem ok_gExp : (mk c_gExp).ok Try.prog 51 := Con0.okLit (enter_of Try.func51 (by kernel_rfl) (by kernel_rfl)) fun args c x obs h => by
  unfold c_gExp at h
  split at h
  · split at h
    · rename_i p q g x e e0 e1 e2
      cases h
      refine ⟨rfl, _, rfl, fun hc w vs hv => ?_⟩
      obtain ⟨u0, vs, rfl, r0, h0⟩ := hv.cons_of
      obtain ⟨u1, vs, rfl, r1, h1⟩ := h0.cons_of
      obtain ⟨u2, vs, rfl, r2, h2⟩ := h1.cons_of
      rw [h2.nil_of]
      obtain rfl := asG_sound e0 r0
      obtain rfl := asI_sound e1 r1
      obtain rfl := asI_sound e2 r2
      exact gExp_any p q g x e hc.1 hc.2.1 hc.2.2 _
    · cases h
  · cases h
noncomputable def c_mul : Con0 := fun args => match args with
  | [a0, a1] => match asG a0, asIs a1 with
    | some (p, q, g), some xs => some (M.Grp p q g ∧ ∀ x ∈ xs, 0 ≤ x ∧ x < p, .lit (.int .i64 (M.mulL p xs)), [])
    | _, _ => none
  | _ => none
set_option linter.unusedVariables false in
theorem ok_mul : (mk c_mul).ok Try.prog 54 := Con0.okLit (enter_of Try.func54 (by kernel_rfl) (by kernel_rfl)) fun args c x obs h => by
  unfold c_mul at h
  split at h
  · split at h
    · rename_i p q g xs e0 e1
      cases h
      refine ⟨rfl, _, rfl, fun hc w vs hv => ?_⟩
      obtain ⟨u0, vs, rfl, r0, h0⟩ := hv.cons_of
      obtain ⟨u1, vs, rfl, r1, h1⟩ := h0.cons_of
      rw [h1.nil_of]
      obtain rfl := asG_sound e0 r0
      obtain ⟨A_xs, c_xs, rfl, hx_xs, hl_xs, hc_xs⟩ := asIs_sound e1 r1
      exact mul_any p q g hc.1 A_xs c_xs xs hl_xs _ hx_xs hc.2
    · cases h
  · cases h
noncomputable def c_gMul : Con0 := fun args => match args with
  | [a0, a1] => match asG a0, asIs a1 with
    | some (p, q, g), some xs => some (M.Grp p q g ∧ ∀ x ∈ xs, 0 ≤ x ∧ x < p, .lit (.int .i64 (M.mulL p xs)), [])
    | _, _ => none
  | _ => none
set_option linter.unusedVariables false in
theorem ok_gMul : (mk c_gMul).ok Try.prog 50 := Con0.okLit (enter_of Try.func50 (by kernel_rfl) (by kernel_rfl)) fun args c x obs h => by
  unfold c_gMul at h
  split at h
  · split at h
    · rename_i p q g xs e0 e1
      cases h
      refine ⟨rfl, _, rfl, fun hc w vs hv => ?_⟩
      obtain ⟨u0, vs, rfl, r0, h0⟩ := hv.cons_of
      obtain ⟨u1, vs, rfl, r1, h1⟩ := h0.cons_of
      rw [h1.nil_of]
      obtain rfl := asG_sound e0 r0
      obtain ⟨A_xs, c_xs, rfl, hx_xs, hl_xs, hc_xs⟩ := asIs_sound e1 r1
      exact gMul_any p q g hc.1 A_xs c_xs xs hl_xs _ hx_xs hc.2
    · cases h
  · cases h
noncomputable def c_inv : Con0 := fun args => match args with
  | [a0, a1] => match asG a0, asI a1 with
    | some (p, q, g), some x => some (M.Grp p q g ∧ (0 ≤ x ∧ x < p), .lit (.int .i64 (M.gpw p q x (-1))), [])
    | _, _ => none
  | _ => none
set_option linter.unusedVariables false in
theorem ok_inv : (mk c_inv).ok Try.prog 56 := Con0.okLit (enter_of Try.func56 (by kernel_rfl) (by kernel_rfl)) fun args c x obs h => by
  unfold c_inv at h
  split at h
  · split at h
    · rename_i p q g x e0 e1
      cases h
      refine ⟨rfl, _, rfl, fun hc w vs hv => ?_⟩
      obtain ⟨u0, vs, rfl, r0, h0⟩ := hv.cons_of
      obtain ⟨u1, vs, rfl, r1, h1⟩ := h0.cons_of
      rw [h1.nil_of]
      obtain rfl := asG_sound e0 r0
      obtain rfl := asI_sound e1 r1
      exact inv_any p q g x hc.1 hc.2 _
    · cases h
  · cases h
noncomputable def c_gInv : Con0 := fun args => match args with
  | [a0, a1] => match asG a0, asI a1 with
    | some (p, q, g), some x => some (M.Grp p q g ∧ (0 ≤ x ∧ x < p), .lit (.int .i64 (M.gpw p q x (-1))), [])
    | _, _ => none
  | _ => none
set_option linter.unusedVariables false in
theorem ok_gInv : (mk c_gInv).ok Try.prog 52 := Con0.okLit (enter_of Try.func52 (by kernel_rfl) (by kernel_rfl)) fun args c x obs h => by
  unfold c_gInv at h
  split at h
  · split at h
    · rename_i p q g x e0 e1
      cases h
      refine ⟨rfl, _, rfl, fun hc w vs hv => ?_⟩
      obtain ⟨u0, vs, rfl, r0, h0⟩ := hv.cons_of
      obtain ⟨u1, vs, rfl, r1, h1⟩ := h0.cons_of
      rw [h1.nil_of]
      obtain rfl := asG_sound e0 r0
      obtain rfl := asI_sound e1 r1
      exact gInv_any p q g x hc.1 hc.2 _
    · cases h
  · cases h
noncomputable def c_exp : Con0 := fun args => match args with
  | [a0, a1] => match asG a0, asI a1 with
    | some (p, q, g), some n => some ((1 ≤ q ∧ q ≤ 2000000000) ∧ (-9000000000000000000 ≤ n ∧ n ≤ 9000000000000000000), .lit (.int .i64 (n % q)), [])
    | _, _ => none
  | _ => none
set_option linter.unusedVariables false in
theorem ok_exp : (mk c_exp).ok Try.prog 66 := Con0.okLit (enter_of Try.func66 (by kernel_rfl) (by kernel_rfl)) fun args c x obs h => by
  unfold c_exp at h
  split at h
  · split at h
    · rename_i p q g n e0 e1
      cases h
      refine ⟨rfl, _, rfl, fun hc w vs hv => ?_⟩
      obtain ⟨u0, vs, rfl, r0, h0⟩ := hv.cons_of
      obtain ⟨u1, vs, rfl, r1, h1⟩ := h0.cons_of
      rw [h1.nil_of]
      obtain rfl := asG_sound e0 r0
      obtain rfl := asI_sound e1 r1
      exact exp_any p q g n _ hc.1 hc.2
    · cases h
  · cases h
noncomputable def c_nMod : Con0 := fun args => match args with
  | [a0, a1] => match asI a0, asI a1 with
    | some n, some m => some ((1 ≤ m ∧ m ≤ 2000000000) ∧ (-9000000000000000000 ≤ n ∧ n ≤ 9000000000000000000), .lit (.int .i64 (n % m)), [])
    | _, _ => none
  | _ => none
set_option linter.unusedVariables false in
theorem ok_nMod : (mk c_nMod).ok Try.prog 65 := Con0.okLit (enter_of Try.func65 (by kernel_rfl) (by kernel_rfl)) fun args c x obs h => by
  unfold c_nMod at h
  split at h
  · split at h
    · rename_i n m e0 e1
      cases h
      refine ⟨rfl, _, rfl, fun hc w vs hv => ?_⟩
      obtain ⟨u0, vs, rfl, r0, h0⟩ := hv.cons_of
      obtain ⟨u1, vs, rfl, r1, h1⟩ := h0.cons_of
      rw [h1.nil_of]
      obtain rfl := asI_sound e0 r0
      obtain rfl := asI_sound e1 r1
      exact Calls.keep (nMod_any n m _ hc.1 hc.2)
    · cases h
  · cases h
noncomputable def c_within : Con0 := fun args => match args with
  | [a0, a1, a2] => match asI a0, asI a1, asI a2 with
    | some n, some lo, some hi => some (True, .lit (.bool (inr n lo hi)), [])
    | _, _, _ => none
  | _ => none
set_option linter.unusedVariables false in
theorem ok_within : (mk c_within).ok Try.prog 59 := Con0.okLit (enter_of Try.func59 (by kernel_rfl) (by kernel_rfl)) fun args c x obs h => by
  unfold c_within at h
  split at h
  · split at h
    · rename_i n lo hi e0 e1 e2
      cases h
      refine ⟨rfl, _, rfl, fun hc w vs hv => ?_⟩
      obtain ⟨u0, vs, rfl, r0, h0⟩ := hv.cons_of
      obtain ⟨u1, vs, rfl, r1, h1⟩ := h0.cons_of
      obtain ⟨u2, vs, rfl, r2, h2⟩ := h1.cons_of
      rw [h2.nil_of]
      obtain rfl := asI_sound e0 r0
      obtain rfl := asI_sound e1 r1
      obtain rfl := asI_sound e2 r2
      exact Calls.keep (within_any n lo hi _)
    · cases h
  · cases h
noncomputable def c_l1In : Con0 := fun args => match args with
  | [a0, a1, a2] => match asI a0, asI a1, asI a2 with
    | some n, some lo, some hi => some (True, .lit (.bool (inr n lo hi)), [])
    | _, _, _ => none
  | _ => none
set_option linter.unusedVariables false in
theorem ok_l1In : (mk c_l1In).ok Try.prog 57 := Con0.okLit (enter_of Try.func57 (by kernel_rfl) (by kernel_rfl)) fun args c x obs h => by
  unfold c_l1In at h
  split at h
  · split at h
    · rename_i n lo hi e0 e1 e2
      cases h
      refine ⟨rfl, _, rfl, fun hc w vs hv => ?_⟩
      obtain ⟨u0, vs, rfl, r0, h0⟩ := hv.cons_of
      obtain ⟨u1, vs, rfl, r1, h1⟩ := h0.cons_of
      obtain ⟨u2, vs, rfl, r2, h2⟩ := h1.cons_of
      rw [h2.nil_of]
      obtain rfl := asI_sound e0 r0
      obtain rfl := asI_sound e1 r1
      obtain rfl := asI_sound e2 r2
      exact Calls.keep (l1In_any n lo hi _)
    · cases h
  · cases h
noncomputable def c_isExp : Con0 := fun args => match args with
  | [a0, a1] => match asG a0, asI a1 with
    | some (p, q, g), some e => some ((-9000000000000000000 ≤ q ∧ q ≤ 9000000000000000000), .lit (.bool (inr e 0 (q - 1))), [])
    | _, _ => none
  | _ => none
set_option linter.unusedVariables false in
theorem ok_isExp : (mk c_isExp).ok Try.prog 60 := Con0.okLit (enter_of Try.func60 (by kernel_rfl) (by kernel_rfl)) fun args c x obs h => by
  unfold c_isExp at h
  split at h
  · split at h
    · rename_i p q g e e0 e1
      cases h
      refine ⟨rfl, _, rfl, fun hc w vs hv => ?_⟩
      obtain ⟨u0, vs, rfl, r0, h0⟩ := hv.cons_of
      obtain ⟨u1, vs, rfl, r1, h1⟩ := h0.cons_of
      rw [h1.nil_of]
      obtain rfl := asG_sound e0 r0
      obtain rfl := asI_sound e1 r1
      exact isExp_any p q g e _ hc
    · cases h
  · cases h
noncomputable def c_areExps : Con0 := fun args => match args with
  | [a0, a1] => match asG a0, asIs a1 with
    | some (p, q, g), some xs => some ((-9000000000000000000 ≤ q ∧ q ≤ 9000000000000000000), .lit (.bool (expsB q xs)), [])
    | _, _ => none
  | _ => none
set_option linter.unusedVariables false in
theorem ok_areExps : (mk c_areExps).ok Try.prog 53 := Con0.okLit (enter_of Try.func53 (by kernel_rfl) (by kernel_rfl)) fun args c x obs h => by
  unfold c_areExps at h
  split at h
  · split at h
    · rename_i p q g xs e0 e1
      cases h
      refine ⟨rfl, _, rfl, fun hc w vs hv => ?_⟩
      obtain ⟨u0, vs, rfl, r0, h0⟩ := hv.cons_of
      obtain ⟨u1, vs, rfl, r1, h1⟩ := h0.cons_of
      rw [h1.nil_of]
      obtain rfl := asG_sound e0 r0
      obtain ⟨A_xs, c_xs, rfl, hx_xs, hl_xs, hc_xs⟩ := asIs_sound e1 r1
      exact areExps_any p q g A_xs c_xs xs _ hc hx_xs hl_xs
    · cases h
  · cases h
noncomputable def c_gExps : Con0 := fun args => match args with
  | [a0, a1] => match asG a0, asIs a1 with
    | some (p, q, g), some xs => some ((-9000000000000000000 ≤ q ∧ q ≤ 9000000000000000000), .lit (.bool (expsB q xs)), [])
    | _, _ => none
  | _ => none
set_option linter.unusedVariables false in
theorem ok_gExps : (mk c_gExps).ok Try.prog 49 := Con0.okLit (enter_of Try.func49 (by kernel_rfl) (by kernel_rfl)) fun args c x obs h => by
  unfold c_gExps at h
  split at h
  · split at h
    · rename_i p q g xs e0 e1
      cases h
      refine ⟨rfl, _, rfl, fun hc w vs hv => ?_⟩
      obtain ⟨u0, vs, rfl, r0, h0⟩ := hv.cons_of
      obtain ⟨u1, vs, rfl, r1, h1⟩ := h0.cons_of
      rw [h1.nil_of]
      obtain rfl := asG_sound e0 r0
      obtain ⟨A_xs, c_xs, rfl, hx_xs, hl_xs, hc_xs⟩ := asIs_sound e1 r1
      exact gExps_any p q g A_xs c_xs xs _ hc hx_xs hl_xs
    · cases h
  · cases h
noncomputable def c_has : Con0 := fun args => match args with
  | [a0, a1] => match asG a0, asI a1 with
    | some (p, q, g), some x => some (M.Grp p q g, .lit (.bool (elemB p q x)), [])
    | _, _ => none
  | _ => none
set_option linter.unusedVariables false in
theorem ok_has : (mk c_has).ok Try.prog 45 := Con0.okLit (enter_of Try.func45 (by kernel_rfl) (by kernel_rfl)) fun args c x obs h => by
  unfold c_has at h
  split at h
  · split at h
    · rename_i p q g x e0 e1
      cases h
      refine ⟨rfl, _, rfl, fun hc w vs hv => ?_⟩
      obtain ⟨u0, vs, rfl, r0, h0⟩ := hv.cons_of
      obtain ⟨u1, vs, rfl, r1, h1⟩ := h0.cons_of
      rw [h1.nil_of]
      obtain rfl := asG_sound e0 r0
      obtain rfl := asI_sound e1 r1
      exact has_any p q g x hc _
    · cases h
  · cases h
noncomputable def c_hasAll : Con0 := fun args => match args with
  | [a0, a1] => match asG a0, asIs a1 with
    | some (p, q, g), some xs => some (M.Grp p q g, .lit (.bool (elemsB p q xs)), [])
    | _, _ => none
  | _ => none
set_option linter.unusedVariables false in
theorem ok_hasAll : (mk c_hasAll).ok Try.prog 74 := Con0.okLit (enter_of Try.func74 (by kernel_rfl) (by kernel_rfl)) fun args c x obs h => by
  unfold c_hasAll at h
  split at h
  · split at h
    · rename_i p q g xs e0 e1
      cases h
      refine ⟨rfl, _, rfl, fun hc w vs hv => ?_⟩
      obtain ⟨u0, vs, rfl, r0, h0⟩ := hv.cons_of
      obtain ⟨u1, vs, rfl, r1, h1⟩ := h0.cons_of
      rw [h1.nil_of]
      obtain rfl := asG_sound e0 r0
      obtain ⟨A_xs, c_xs, rfl, hx_xs, hl_xs, hc_xs⟩ := asIs_sound e1 r1
      exact hasAll_any p q g hc A_xs c_xs xs hl_xs _ hx_xs
    · cases h
  · cases h
noncomputable def c_gIs : Con0 := fun args => match args with
  | [a0, a1] => match asG a0, asIs a1 with
    | some (p, q, g), some xs => some (M.Grp p q g, .lit (.bool (elemsB p q xs)), [])
    | _, _ => none
  | _ => none
set_option linter.unusedVariables false in
theorem ok_gIs : (mk c_gIs).ok Try.prog 41 := Con0.okLit (enter_of Try.func41 (by kernel_rfl) (by kernel_rfl)) fun args c x obs h => by
  unfold c_gIs at h
  split at h
  · split at h
    · rename_i p q g xs e0 e1
      cases h
      refine ⟨rfl, _, rfl, fun hc w vs hv => ?_⟩
      obtain ⟨u0, vs, rfl, r0, h0⟩ := hv.cons_of
      obtain ⟨u1, vs, rfl, r1, h1⟩ := h0.cons_of
      rw [h1.nil_of]
      obtain rfl := asG_sound e0 r0
      obtain ⟨A_xs, c_xs, rfl, hx_xs, hl_xs, hc_xs⟩ := asIs_sound e1 r1
      exact gIs_any p q g hc A_xs c_xs xs hl_xs _ hx_xs
    · cases h
  · cases h
noncomputable def c_isValidBases : Con0 := fun args => match args with
  | [a0, a1] => match asG a0, asBs a1 with
    | some (p, q, g), some (bh, bs) => some (True, .lit (.bool (l9B p q g bh bs)), [])
    | _, _ => none
  | _ => none
set_option linter.unusedVariables false in
theorem ok_isValidBases : (mk c_isValidBases).ok Try.prog 44 := Con0.okLit (enter_of Try.func44 (by kernel_rfl) (by kernel_rfl)) fun args c x obs h => by
  unfold c_isValidBases at h
  split at h
  · split at h
    · rename_i p q g bh bs e0 e1
      cases h
      refine ⟨rfl, _, rfl, fun hc w vs hv => ?_⟩
      obtain ⟨u0, vs, rfl, r0, h0⟩ := hv.cons_of
      obtain ⟨u1, vs, rfl, r1, h1⟩ := h0.cons_of
      rw [h1.nil_of]
      obtain rfl := asG_sound e0 r0
      obtain ⟨z1, rfl, A_bs, c_bs, rfl, hx_bs, hl_bs, hc_bs⟩ := asBs_sound e1 r1
      exact isValidBasesI_any p q g bh A_bs c_bs bs hl_bs _ hx_bs
    · cases h
  · cases h
noncomputable def c_l9Good : Con0 := fun args => match args with
  | [a0, a1] => match asG a0, asBs a1 with
    | some (p, q, g), some (bh, bs) => some (True, .lit (.bool (l9B p q g bh bs)), [])
    | _, _ => none
  | _ => none
set_option linter.unusedVariables false in
theorem ok_l9Good : (mk c_l9Good).ok Try.prog 39 := Con0.okLit (enter_of Try.func39 (by kernel_rfl) (by kernel_rfl)) fun args c x obs h => by
  unfold c_l9Good at h
  split at h
  · split at h
    · rename_i p q g bh bs e0 e1
      cases h
      refine ⟨rfl, _, rfl, fun hc w vs hv => ?_⟩
      obtain ⟨u0, vs, rfl, r0, h0⟩ := hv.cons_of
      obtain ⟨u1, vs, rfl, r1, h1⟩ := h0.cons_of
      rw [h1.nil_of]
      obtain rfl := asG_sound e0 r0
      obtain ⟨z1, rfl, A_bs, c_bs, rfl, hx_bs, hl_bs, hc_bs⟩ := asBs_sound e1 r1
      exact l9Good_any p q g bh A_bs c_bs bs hl_bs _ hx_bs
    · cases h
  · cases h
noncomputable def c_commit : Con0 := fun args => match args with
  | [a0, a1, a2, a3] => match asG a0, asBs a1, asI a2, asI a3 with
    | some (p, q, g), some (bh, bs), some m, some r => some (M.Grp p q g ∧ (0 ≤ bh ∧ bh < p) ∧ (0 ≤ m ∧ m < q) ∧ (0 ≤ r ∧ r < q), .lit (.int .i64 (cmt p q g bh m r)), [])
    | _, _, _, _ => none
  | _ => none
set_option linter.unusedVariables false in
theorem ok_commit : (mk c_commit).ok Try.prog 92 := Con0.okLit (enter_of Try.func92 (by kernel_rfl) (by kernel_rfl)) fun args c x obs h => by
  unfold c_commit at h
  split at h
  · split at h
    · rename_i p q g bh bs m r e0 e1 e2 e3
      cases h
      refine ⟨rfl, _, rfl, fun hc w vs hv => ?_⟩
      obtain ⟨u0, vs, rfl, r0, h0⟩ := hv.cons_of
      obtain ⟨u1, vs, rfl, r1, h1⟩ := h0.cons_of
      obtain ⟨u2, vs, rfl, r2, h2⟩ := h1.cons_of
      obtain ⟨u3, vs, rfl, r3, h3⟩ := h2.cons_of
      rw [h3.nil_of]
      obtain rfl := asG_sound e0 r0
      obtain ⟨z1, rfl, A_bs, c_bs, rfl, hx_bs, hl_bs, hc_bs⟩ := asBs_sound e1 r1
      obtain rfl := asI_sound e2 r2
      obtain rfl := asI_sound e3 r3
      exact commit_any p q g bh m r A_bs bs.length c_bs hc.1 hc.2.1 hc.2.2.1 hc.2.2.2 _
    · cases h
  · cases h
noncomputable def c_pCommit : Con0 := fun args => match args with
  | [a0, a1, a2, a3] => match asG a0, asBs a1, asI a2, asI a3 with
    | some (p, q, g), some (bh, bs), some m, some r => some (M.Grp p q g ∧ (0 ≤ bh ∧ bh < p) ∧ (0 ≤ m ∧ m < q) ∧ (0 ≤ r ∧ r < q), .lit (.int .i64 (cmt p q g bh m r)), [])
    | _, _, _, _ => none
  | _ => none
set_option linter.unusedVariables false in
theorem ok_pCommit : (mk c_pCommit).ok Try.prog 90 := Con0.okLit (enter_of Try.func90 (by kernel_rfl) (by kernel_rfl)) fun args c x obs h => by
  unfold c_pCommit at h
  split at h
  · split at h
    · rename_i p q g bh bs m r e0 e1 e2 e3
      cases h
      refine ⟨rfl, _, rfl, fun hc w vs hv => ?_⟩
      obtain ⟨u0, vs, rfl, r0, h0⟩ := hv.cons_of
      obtain ⟨u1, vs, rfl, r1, h1⟩ := h0.cons_of
      obtain ⟨u2, vs, rfl, r2, h2⟩ := h1.cons_of
      obtain ⟨u3, vs, rfl, r3, h3⟩ := h2.cons_of
      rw [h3.nil_of]
      obtain rfl := asG_sound e0 r0
      obtain ⟨z1, rfl, A_bs, c_bs, rfl, hx_bs, hl_bs, hc_bs⟩ := asBs_sound e1 r1
      obtain rfl := asI_sound e2 r2
      obtain rfl := asI_sound e3 r3
      exact pCommit_any p q g bh m r A_bs bs.length c_bs hc.1 hc.2.1 hc.2.2.1 hc.2.2.2 _
    · cases h
  · cases h
noncomputable def c_challenge : Con0 := fun args => match args with
  | [a0, a1, a2] => match asG a0, asStr a1, asIs a2 with
    | some (p, q, g), some s, some xs => some (M.Grp p q g ∧ s.size ≤ 40 ∧ 0 < xs.length ∧ xs.length ≤ 356 ∧ ∀ x ∈ xs, 0 ≤ x ∧ x ≤ 4611686018427387903, .tup [.lit (.int .i64 (M.chal p q g s.data.toList xs)), .lit (.bool true)], [])
    | _, _, _ => none
  | _ => none
set_option linter.unusedVariables false in
theorem ok_challenge : (mk c_challenge).ok Try.prog 106 := Con0.okLit (enter_of Try.func106 (by kernel_rfl) (by kernel_rfl)) fun args c x obs h => by
  unfold c_challenge at h
  split at h
  · split at h
    · rename_i p q g s xs e0 e1 e2
      cases h
      refine ⟨rfl, _, rfl, fun hc w vs hv => ?_⟩
      obtain ⟨u0, vs, rfl, r0, h0⟩ := hv.cons_of
      obtain ⟨u1, vs, rfl, r1, h1⟩ := h0.cons_of
      obtain ⟨u2, vs, rfl, r2, h2⟩ := h1.cons_of
      rw [h2.nil_of]
      obtain rfl := asG_sound e0 r0
      obtain rfl := asStr_sound e1 r1
      obtain ⟨A_xs, c_xs, rfl, hx_xs, hl_xs, hc_xs⟩ := asIs_sound e2 r2
      exact challenge_any p q g hc.1 s hc.2.1 A_xs c_xs xs hc.2.2.1 hc.2.2.2.1 hc.2.2.2.2 _ hx_xs
    · cases h
  · cases h
noncomputable def c_hChallenge : Con0 := fun args => match args with
  | [a0, a1, a2] => match asG a0, asStr a1, asIs a2 with
    | some (p, q, g), some s, some xs => some (M.Grp p q g ∧ s.size ≤ 40 ∧ 0 < xs.length ∧ xs.length ≤ 356 ∧ ∀ x ∈ xs, 0 ≤ x ∧ x ≤ 4611686018427387903, .lit (.int .i64 (M.chal p q g s.data.toList xs)), [])
    | _, _, _ => none
  | _ => none
set_option linter.unusedVariables false in
theorem ok_hChallenge : (mk c_hChallenge).ok Try.prog 113 := Con0.okLit (enter_of Try.func113 (by kernel_rfl) (by kernel_rfl)) fun args c x obs h => by
  unfold c_hChallenge at h
  split at h
  · split at h
    · rename_i p q g s xs e0 e1 e2
      cases h
      refine ⟨rfl, _, rfl, fun hc w vs hv => ?_⟩
      obtain ⟨u0, vs, rfl, r0, h0⟩ := hv.cons_of
      obtain ⟨u1, vs, rfl, r1, h1⟩ := h0.cons_of
      obtain ⟨u2, vs, rfl, r2, h2⟩ := h1.cons_of
      rw [h2.nil_of]
      obtain rfl := asG_sound e0 r0
      obtain rfl := asStr_sound e1 r1
      obtain ⟨A_xs, c_xs, rfl, hx_xs, hl_xs, hc_xs⟩ := asIs_sound e2 r2
      exact hChallenge_any p q g hc.1 s hc.2.1 A_xs c_xs xs hc.2.2.1 hc.2.2.2.1 hc.2.2.2.2 _ hx_xs
    · cases h
  · cases h
noncomputable def c_bitCase : Con0 := fun args => match args with
  | [a0, a1, a2] => match asG a0, asI a1, asI a2 with
    | some (p, q, g), some c', some k => some (M.Grp p q g ∧ (0 ≤ c' ∧ c' < p), .lit (.int .i64 (bcs p q g c' k)), [])
    | _, _, _ => none
  | _ => none
set_option linter.unusedVariables false in
theorem ok_bitCase : (mk c_bitCase).ok Try.prog 105 := Con0.okLit (enter_of Try.func105 (by kernel_rfl) (by kernel_rfl)) fun args c x obs h => by
  unfold c_bitCase at h
  split at h
  · split at h
    · rename_i p q g c' k e0 e1 e2
      cases h
      refine ⟨rfl, _, rfl, fun hc w vs hv => ?_⟩
      obtain ⟨u0, vs, rfl, r0, h0⟩ := hv.cons_of
      obtain ⟨u1, vs, rfl, r1, h1⟩ := h0.cons_of
      obtain ⟨u2, vs, rfl, r2, h2⟩ := h1.cons_of
      rw [h2.nil_of]
      obtain rfl := asG_sound e0 r0
      obtain rfl := asI_sound e1 r1
      obtain rfl := asI_sound e2 r2
      exact bitCase_any p q g c' k hc.1 hc.2 _
    · cases h
  · cases h
noncomputable def c_rCase : Con0 := fun args => match args with
  | [a0, a1, a2] => match asG a0, asI a1, asI a2 with
    | some (p, q, g), some c', some k => some (M.Grp p q g ∧ (0 ≤ c' ∧ c' < p), .lit (.int .i64 (bcs p q g c' k)), [])
    | _, _, _ => none
  | _ => none
set_option linter.unusedVariables false in
theorem ok_rCase : (mk c_rCase).ok Try.prog 101 := Con0.okLit (enter_of Try.func101 (by kernel_rfl) (by kernel_rfl)) fun args c x obs h => by
  unfold c_rCase at h
  split at h
  · split at h
    · rename_i p q g c' k e0 e1 e2
      cases h
      refine ⟨rfl, _, rfl, fun hc w vs hv => ?_⟩
      obtain ⟨u0, vs, rfl, r0, h0⟩ := hv.cons_of
      obtain ⟨u1, vs, rfl, r1, h1⟩ := h0.cons_of
      obtain ⟨u2, vs, rfl, r2, h2⟩ := h1.cons_of
      rw [h2.nil_of]
      obtain rfl := asG_sound e0 r0
      obtain rfl := asI_sound e1 r1
      obtain rfl := asI_sound e2 r2
      exact rCase_any p q g c' k hc.1 hc.2 _
    · cases h
  · cases h
end Go.Proofs.Ytgnnmifpfgpllaa
