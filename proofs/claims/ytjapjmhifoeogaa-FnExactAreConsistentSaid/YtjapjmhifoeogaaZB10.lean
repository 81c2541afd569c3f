import Derived.Test.YtjapjmhifoeogaaZB3
import Derived.Test.YtjapjmhifoeogaaZS3
import Derived.Test.YtjapjmhifoeogaaZE7
/- Contracts of the lower layers. -/
set_option linter.all false
set_option linter.unusedVariables false
set_option linter.unusedSimpArgs false
namespace Go.Proofs.Ytjapjmhifoeogaa
open Go.RowKit
def shrB (p q g : Int) (xs : List Int) (i s : Int) : Bool := M.gpw p q g s == atV p q i xs
def allIn (lo hi : Int) (xs : List Int) : Bool := xs.all fun x => inr x lo hi
def hasN (n : Int) (xs : List Int) : Bool := xs.any fun x => x == n
noncomputable def c_isShare : Con0 := fun args => match args with
  | [a0, a1, a2, a3] => match asG a0, asIs a1, asI a2, asI a3 with
    | some (p, q, g), some xs, some i, some s => some (M.Grp p q g ∧ (0 ≤ i ∧ i ≤ 7) ∧ (0 ≤ s ∧ s < q) ∧ ∀ x ∈ xs, 0 ≤ x ∧ x < p, .lit (.bool (shrB p q g xs i s)), [])
    | _, _, _, _ => none
  | _ => none
set_option linter.unusedVariables false in
theorem ok_isShare : (mk c_isShare).ok Try.prog 131 := Con0.okLit (enter_of Try.func131 (by kernel_rfl) (by kernel_rfl)) fun args c x obs h => by
  unfold c_isShare at h
  split at h
  · split at h
    · rename_i p q g xs i s e0 e1 e2 e3
      cases h
      refine ⟨rfl, _, rfl, fun hc w vs hv => ?_⟩
      obtain ⟨u0, vs, rfl, r0, h0⟩ := hv.cons_of
      obtain ⟨u1, vs, rfl, r1, h1⟩ := h0.cons_of
      obtain ⟨u2, vs, rfl, r2, h2⟩ := h1.cons_of
      obtain ⟨u3, vs, rfl, r3, h3⟩ := h2.cons_of
      rw [h3.nil_of]
      obtain rfl := asG_sound e0 r0
      obtain ⟨A_xs, c_xs, rfl, hx_xs, hl_xs, hc_xs⟩ := asIs_sound e1 r1
      obtain rfl := asI_sound e2 r2
      obtain rfl := asI_sound e3 r3
      exact isShare_any p q g i s hc.1 A_xs c_xs xs hl_xs hc.2.1 hc.2.2.1 hc.2.2.2 _ hx_xs
    · cases h
  · cases h
noncomputable def c_sFits : Con0 := fun args => match args with
  | [a0, a1, a2, a3] => match asG a0, asIs a1, asI a2, asI a3 with
    | some (p, q, g), some xs, some i, some s => some (M.Grp p q g ∧ (0 ≤ i ∧ i ≤ 7) ∧ (0 ≤ s ∧ s < q) ∧ ∀ x ∈ xs, 0 ≤ x ∧ x < p, .lit (.bool (shrB p q g xs i s)), [])
    | _, _, _, _ => none
  | _ => none
set_option linter.unusedVariables false in
theorem ok_sFits : (mk c_sFits).ok Try.prog 104 := Con0.okLit (enter_of Try.func104 (by kernel_rfl) (by kernel_rfl)) fun args c x obs h => by
  unfold c_sFits at h
  split at h
  · split at h
    · rename_i p q g xs i s e0 e1 e2 e3
      cases h
      refine ⟨rfl, _, rfl, fun hc w vs hv => ?_⟩
      obtain ⟨u0, vs, rfl, r0, h0⟩ := hv.cons_of
      obtain ⟨u1, vs, rfl, r1, h1⟩ := h0.cons_of
      obtain ⟨u2, vs, rfl, r2, h2⟩ := h1.cons_of
      obtain ⟨u3, vs, rfl, r3, h3⟩ := h2.cons_of
      rw [h3.nil_of]
      obtain rfl := asG_sound e0 r0
      obtain ⟨A_xs, c_xs, rfl, hx_xs, hl_xs, hc_xs⟩ := asIs_sound e1 r1
      obtain rfl := asI_sound e2 r2
      obtain rfl := asI_sound e3 r3
      exact sFits_any p q g i s hc.1 A_xs c_xs xs hl_xs hc.2.1 hc.2.2.1 hc.2.2.2 _ hx_xs
    · cases h
  · cases h
noncomputable def c_isSharing : Con0 := fun args => match args with
  | [a0] => match asG a0 with
    | some (p, q, g) => some (True, .lit (.bool (shB p q g)), [])
    | _ => none
  | _ => none
set_option linter.unusedVariables false in
theorem ok_isSharing : (mk c_isSharing).ok Try.prog 79 := Con0.okLit (enter_of Try.func79 (by kernel_rfl) (by kernel_rfl)) fun args c x obs h => by
  unfold c_isSharing at h
  split at h
  · split at h
    · rename_i p q g e0
      cases h
      refine ⟨rfl, _, rfl, fun hc w vs hv => ?_⟩
      obtain ⟨u0, vs, rfl, r0, h0⟩ := hv.cons_of
      rw [h0.nil_of]
      obtain rfl := asG_sound e0 r0
      exact isSharing_any p q g _
    · cases h
  · cases h
noncomputable def c_sGroup : Con0 := fun args => match args with
  | [a0] => match asG a0 with
    | some (p, q, g) => some (True, .lit (.bool (shB p q g)), [])
    | _ => none
  | _ => none
set_option linter.unusedVariables false in
theorem ok_sGroup : (mk c_sGroup).ok Try.prog 75 := Con0.okLit (enter_of Try.func75 (by kernel_rfl) (by kernel_rfl)) fun args c x obs h => by
  unfold c_sGroup at h
  split at h
  · split at h
    · rename_i p q g e0
      cases h
      refine ⟨rfl, _, rfl, fun hc w vs hv => ?_⟩
      obtain ⟨u0, vs, rfl, r0, h0⟩ := hv.cons_of
      rw [h0.nil_of]
      obtain rfl := asG_sound e0 r0
      exact sGroup_any p q g _
    · cases h
  · cases h
noncomputable def c_areCommits : Con0 := fun args => match args with
  | [a0, a1] => match asG a0, asIs a1 with
    | some (p, q, g), some xs => some (M.Grp p q g, .lit (.bool (comB p q xs)), [])
    | _, _ => none
  | _ => none
set_option linter.unusedVariables false in
theorem ok_areCommits : (mk c_areCommits).ok Try.prog 140 := Con0.okLit (enter_of Try.func140 (by kernel_rfl) (by kernel_rfl)) fun args c x obs h => by
  unfold c_areCommits at h
  split at h
  · split at h
    · rename_i p q g xs e0 e1
      cases h
      refine ⟨rfl, _, rfl, fun hc w vs hv => ?_⟩
      obtain ⟨u0, vs, rfl, r0, h0⟩ := hv.cons_of
      obtain ⟨u1, vs, rfl, r1, h1⟩ := h0.cons_of
      rw [h1.nil_of]
      obtain rfl := asG_sound e0 r0
      obtain ⟨A_xs, c_xs, rfl, hx_xs, hl_xs, hc_xs⟩ := asIs_sound e1 r1
      exact areCommits_any p q g A_xs c_xs xs hl_xs hc _ hx_xs
    · cases h
  · cases h
noncomputable def c_sCommits : Con0 := fun args => match args with
  | [a0, a1] => match asG a0, asIs a1 with
    | some (p, q, g), some xs => some (M.Grp p q g, .lit (.bool (comB p q xs)), [])
    | _, _ => none
  | _ => none
set_option linter.unusedVariables false in
theorem ok_sCommits : (mk c_sCommits).ok Try.prog 101 := Con0.okLit (enter_of Try.func101 (by kernel_rfl) (by kernel_rfl)) fun args c x obs h => by
  unfold c_sCommits at h
  split at h
  · split at h
    · rename_i p q g xs e0 e1
      cases h
      refine ⟨rfl, _, rfl, fun hc w vs hv => ?_⟩
      obtain ⟨u0, vs, rfl, r0, h0⟩ := hv.cons_of
      obtain ⟨u1, vs, rfl, r1, h1⟩ := h0.cons_of
      rw [h1.nil_of]
      obtain rfl := asG_sound e0 r0
      obtain ⟨A_xs, c_xs, rfl, hx_xs, hl_xs, hc_xs⟩ := asIs_sound e1 r1
      exact sCommits_any p q g A_xs c_xs xs hl_xs hc _ hx_xs
    · cases h
  · cases h
noncomputable def c_isTrustee : Con0 := fun args => match args with
  | [a0] => match asI a0 with
    | some i => some (True, .lit (.bool (inr i 1 7)), [])
    | _ => none
  | _ => none
set_option linter.unusedVariables false in
theorem ok_isTrustee : (mk c_isTrustee).ok Try.prog 91 := Con0.okLit (enter_of Try.func91 (by kernel_rfl) (by kernel_rfl)) fun args c x obs h => by
  unfold c_isTrustee at h
  split at h
  · split at h
    · rename_i i e0
      cases h
      refine ⟨rfl, _, rfl, fun hc w vs hv => ?_⟩
      obtain ⟨u0, vs, rfl, r0, h0⟩ := hv.cons_of
      rw [h0.nil_of]
      obtain rfl := asI_sound e0 r0
      exact Calls.keep (isTrustee_any i _)
    · cases h
  · cases h
noncomputable def c_inverse : Con0 := fun args => match args with
  | [a0, a1] => match asI a0, asI a1 with
    | some a, some m => some ((2 ≤ m ∧ m ≤ 2000000000) ∧ 0 ≤ a ∧ a < m, .lit (.int .i64 (M.invm a m)), [])
    | _, _ => none
  | _ => none
set_option linter.unusedVariables false in
theorem ok_inverse : (mk c_inverse).ok Try.prog 151 := Con0.okLit (enter_of Try.func151 (by kernel_rfl) (by kernel_rfl)) fun args c x obs h => by
  unfold c_inverse at h
  split at h
  · split at h
    · rename_i a m e0 e1
      cases h
      refine ⟨rfl, _, rfl, fun hc w vs hv => ?_⟩
      obtain ⟨u0, vs, rfl, r0, h0⟩ := hv.cons_of
      obtain ⟨u1, vs, rfl, r1, h1⟩ := h0.cons_of
      rw [h1.nil_of]
      obtain rfl := asI_sound e0 r0
      obtain rfl := asI_sound e1 r1
      exact Calls.keep (inverse_any a m _ hc.1 hc.2)
    · cases h
  · cases h
noncomputable def c_nInverse : Con0 := fun args => match args with
  | [a0, a1] => match asI a0, asI a1 with
    | some a, some m => some ((2 ≤ m ∧ m ≤ 2000000000) ∧ (-9000000000000000000 ≤ a ∧ a ≤ 9000000000000000000) ∧ M.Prime m ∧ a % m ≠ 0, .tup [.lit (.int .i64 (M.invm (a % m) m)), .lit (.bool true)], [])
    | _, _ => none
  | _ => none
set_option linter.unusedVariables false in
theorem ok_nInverse : (mk c_nInverse).ok Try.prog 132 := Con0.okLit (enter_of Try.func132 (by kernel_rfl) (by kernel_rfl)) fun args c x obs h => by
  unfold c_nInverse at h
  split at h
  · split at h
    · rename_i a m e0 e1
      cases h
      refine ⟨rfl, _, rfl, fun hc w vs hv => ?_⟩
      obtain ⟨u0, vs, rfl, r0, h0⟩ := hv.cons_of
      obtain ⟨u1, vs, rfl, r1, h1⟩ := h0.cons_of
      rw [h1.nil_of]
      obtain rfl := asI_sound e0 r0
      obtain rfl := asI_sound e1 r1
      exact Calls.keep (nInverse_any a m _ hc.1 hc.2.1 hc.2.2.1 hc.2.2.2)
    · cases h
  · cases h
noncomputable def c_l1All : Con0 := fun args => match args with
  | [a0, a1, a2] => match asIs a0, asI a1, asI a2 with
    | some xs, some lo, some hi => some (True, .lit (.bool (allIn lo hi xs)), [])
    | _, _, _ => none
  | _ => none
set_option linter.unusedVariables false in
theorem ok_l1All : (mk c_l1All).ok Try.prog 102 := Con0.okLit (enter_of Try.func102 (by kernel_rfl) (by kernel_rfl)) fun args c x obs h => by
  unfold c_l1All at h
  split at h
  · split at h
    · rename_i xs lo hi e0 e1 e2
      cases h
      refine ⟨rfl, _, rfl, fun hc w vs hv => ?_⟩
      obtain ⟨u0, vs, rfl, r0, h0⟩ := hv.cons_of
      obtain ⟨u1, vs, rfl, r1, h1⟩ := h0.cons_of
      obtain ⟨u2, vs, rfl, r2, h2⟩ := h1.cons_of
      rw [h2.nil_of]
      obtain ⟨A_xs, c_xs, rfl, hx_xs, hl_xs, hc_xs⟩ := asIs_sound e0 r0
      obtain rfl := asI_sound e1 r1
      obtain rfl := asI_sound e2 r2
      exact Calls.keep (l1All_any A_xs c_xs xs lo hi _ hx_xs hl_xs)
    · cases h
  · cases h
noncomputable def c_l1Has : Con0 := fun args => match args with
  | [a0, a1] => match asIs a0, asI a1 with
    | some xs, some n => some (True, .lit (.bool (hasN n xs)), [])
    | _, _ => none
  | _ => none
set_option linter.unusedVariables false in
theorem ok_l1Has : (mk c_l1Has).ok Try.prog 138 := Con0.okLit (enter_of Try.func138 (by kernel_rfl) (by kernel_rfl)) fun args c x obs h => by
  unfold c_l1Has at h
  split at h
  · split at h
    · rename_i xs n e0 e1
      cases h
      refine ⟨rfl, _, rfl, fun hc w vs hv => ?_⟩
      obtain ⟨u0, vs, rfl, r0, h0⟩ := hv.cons_of
      obtain ⟨u1, vs, rfl, r1, h1⟩ := h0.cons_of
      rw [h1.nil_of]
      obtain ⟨A_xs, c_xs, rfl, hx_xs, hl_xs, hc_xs⟩ := asIs_sound e0 r0
      obtain rfl := asI_sound e1 r1
      exact Calls.keep (l1Has_any A_xs c_xs xs n hl_xs _ hx_xs)
    · cases h
  · cases h
end Go.Proofs.Ytjapjmhifoeogaa
