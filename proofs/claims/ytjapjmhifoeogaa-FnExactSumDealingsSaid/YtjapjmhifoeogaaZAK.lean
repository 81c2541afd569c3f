import Derived.Test.YtjapjmhifoeogaaZAJ
/- Contracts of functions that hand their argument on. -/
set_option linter.all false
set_option linter.unusedVariables false
set_option linter.unusedSimpArgs false
namespace Go.Proofs.Ytjapjmhifoeogaa
open Go.RowKit
def AV.isSl : AV → Bool
  | .own _ _ => true
  | .sl _ _ => true
  | .lit (.slice _ _ _) => true
  | _ => false
theorem isSl_val {C : Cx} {x : AV} {u : Value} (h : x.isSl = true) (hr : Rep C x u) : ∃ A n c, u = .slice A n c := by
  cases hr with
  | own _ _ hs _ => obtain ⟨A, c, rfl, _⟩ := hs; exact ⟨_, _, _, rfl⟩
  | sl h1 => obtain ⟨A, c, e, _⟩ := h1; simp at e; exact ⟨_, _, _, e⟩
  | lit => cases u <;> first | exact ⟨_, _, _, rfl⟩ | (simp [AV.isSl] at h)
  | _ => simp [AV.isSl] at h
theorem isSl_all {C : Cx} {cs : List AV} {us : List Value} (h : cs.all AV.isSl = true) (hr : Reps C cs us) : ∀ u ∈ us, ∃ A n c, u = .slice A n c := by
  intro u hu
  obtain ⟨j, hj⟩ := List.mem_iff_getElem?.1 hu
  have hlt : j < cs.length := by rw [← hr.1]; exact (List.getElem?_eq_some_iff.1 hj).1
  exact isSl_val (List.all_eq_true.1 h _ (List.getElem_mem hlt)) (hr.2 j _ u (List.getElem?_eq_getElem hlt) hj)
/-- the result is the argument's cells -/
def Con.same (n : Nat) : Con where
  run _ _ args := match args with
    | [.agg cs] => if cs.length = n ∧ cs.all AV.isSl = true then some (True, .agg cs, [], []) else none
    | _ => none
  congr _ _ _ _ _ hs _ := hs
theorem lits_inj {C : Cx} : ∀ {us us' : List Value}, Reps C (us.map .lit) us' → us' = us
  | [], us', h => h.nil_of
  | u :: us, us', h => by
    obtain ⟨v, vs, rfl, h1, h2⟩ := Reps.cons_of h
    rw [h1.lit_eq, lits_inj h2]
theorem Con.same_ok {P : Program} {f : FuncId} {C : Con} (h : C.ok P f) {n : Nat} (hs : ∀ us : List Value, us.length = n → (∀ u ∈ us, ∃ A n c, u = .slice A n c) → ∀ nid obj, ∃ c tch, c ∧ C.run nid obj [.agg (us.map .lit)] = some (c, .agg (us.map .lit), [], tch)) : (Con.same n).ok P f := by
  refine ⟨h.enter, fun w0 get obj a W ρ β hR nid args c x eff tch hm hc vs hv => ?_⟩
  simp only [Con.same] at hm
  split at hm
  rotate_left
  · cases hm
  rename_i cs
  split at hm
  rotate_left
  · cases hm
  rename_i hn
  cases hm
  obtain ⟨v, vs', rfl, r0, h0⟩ := hv.cons_of
  obtain rfl := h0.nil_of
  obtain ⟨us, rfl, hr⟩ := r0.agg_of
  obtain ⟨c', tch', hc', hrun⟩ := hs us (by rw [hr.1, hn.1]) (isSl_all hn.2 hr) nid obj
  have hR' : RelW w0 (fun t => if t = a.tmps.size then some (.agg cs) else if t < a.tmps.size then get t else none) obj { tmps := a.tmps.push (.agg us.toArray), defers := [] } W ρ β := by
    refine ⟨hR.below, hR.objs, hR.lt, hR.apart, hR.nodup, fun t x hx => ?_, rfl⟩
    split at hx
    · rename_i ht; subst ht
      cases hx
      exact ⟨_, by simp, .agg hr.1 hr.2⟩
    · split at hx
      · rename_i h1 h2
        obtain ⟨v, e1, e2⟩ := hR.slots t x hx
        exact ⟨v, by rw [Array.getElem?_push_lt h2]; rw [Array.getElem?_eq_getElem h2] at e1; exact e1, e2⟩
      · cases hx
  refine (h.calls w0 _ obj _ W ρ β hR' nid _ c' _ [] tch' hrun hc' [.agg us.toArray] (.cons (.agg (by simp) fun j c u h1 h2 => (Reps.lits us).2 j c u h1 h2) .nil)).mono ?_
  rintro en w' ⟨u, ρ', β', rfl, hu, hR2⟩
  obtain ⟨us', rfl, hu'⟩ := hu.agg_of
  obtain rfl := lits_inj hu'
  obtain ⟨v2, e1, e2⟩ := hR2.slots a.tmps.size (.agg cs) (if_pos rfl)
  have e3 : v2 = .agg us'.toArray := by simpa using e1.symm
  subst e3
  refine ⟨_, ρ', β', rfl, e2, hR2.below, hR2.objs, hR2.lt, hR2.apart, hR2.nodup, fun t x hx => ?_, hR.defers⟩
  obtain ⟨v, f1, f2⟩ := hR.slots t x hx
  have ht : t < a.tmps.size := (Array.getElem?_eq_some_iff.1 f1).1
  obtain ⟨v', g1, g2⟩ := hR2.slots t x (by rw [if_neg (by omega), if_pos ht]; exact hx)
  refine ⟨v', ?_, g2⟩
  dsimp only at g1
  rwa [Array.getElem?_push_lt ht, ← Array.getElem?_eq_getElem ht] at g1
end Go.Proofs.Ytjapjmhifoeogaa
