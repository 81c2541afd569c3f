import Derived.Test.YtgnnmifpfgpllaaZAK
/- Own rows that get another number. -/
set_option linter.all false
set_option linter.unusedVariables false
set_option linter.unusedSimpArgs false
namespace Go.Proofs.Ytgnnmifpfgpllaa
open Go.RowKit
section
variable {w0 : World} {get : Nat → Option AV} {obj : Nat → AO} {a : Act} {W : World} {ρ : Nat → Value} {β : Nat → List Nat}
/-- an own row is cut at its end: a new object stands for what is left -/
theorem RelW.cut (h : RelW w0 get obj a W ρ β) {oo n : Nat} {e : TypeId} {t : Ty} {xs : List t.den} (hob : obj oo = .row e t xs) (hf : t.flat = true) (hn : n = xs.length) {k0 : Nat} (h1 : k0 ≤ n) {nid : Nat} (hd : obj nid = .dead) :
    ∃ A c ρ' β', ρ oo = .slice A n c ∧ RelW w0 get (setE obj [(nid, .row e t (xs.take k0)), (oo, .gone n)]) a W ρ' β' ∧ Rep (cxOf (setE obj [(nid, .row e t (xs.take k0)), (oo, .gone n)]) W ρ' β') (.own nid k0) (.slice A k0 c) := by
  obtain ⟨_, hown⟩ := h.wholeRow hob hn (by rw [hn]; exact h.self hob)
  obtain ⟨g1, g2⟩ := (ownL_flat hf).1 hown
  obtain ⟨A, c, hA, hc, hA2⟩ := own_hs g1
  have hne : oo ≠ nid := fun e => by rw [e, hd] at hob; cases hob
  have hle : k0 ≤ xs.length := by omega
  have hvals := take_vals hf xs k0 hle
  have hrow : W.ownsRow w0.heap.size e t.sz (.slice A k0 c) k0 ((xs.take k0).map t.vals).flatten := by
    rw [hvals]
    rw [hA] at g1
    obtain ⟨k1, k2⟩ := g1
    have hlen2 : (((xs.map t.vals).flatten).take (k0 * t.sz)).length = k0 * t.sz := by
      rw [List.length_take, k1]
      exact Nat.min_eq_left (Nat.mul_le_mul_right _ hle)
    refine ⟨hlen2, ?_⟩
    rcases k2 with ⟨k2, k3⟩ | ⟨g, cap, cur, k2, k3, k4, k5, k6, k7, k8⟩
    · simp only [Value.slice.injEq] at k2
      obtain ⟨rfl, hxl, rfl⟩ := k2
      have : k0 = 0 := by omega
      rw [this]; exact .inl ⟨rfl, rfl⟩
    · simp only [Value.slice.injEq] at k2
      obtain ⟨rfl, _, rfl⟩ := k2
      refine .inr ⟨g, c, cur, rfl, k3, k4, by omega, k6, k7, ?_⟩
      have : (cur.toList.take (k0 * t.sz)) = (cur.toList.take (xs.length * t.sz)).take (k0 * t.sz) := by
        rw [List.take_take, Nat.min_eq_left (Nat.mul_le_mul_right _ hle)]
      rw [this, k8]
  let obj' := setE obj [(nid, .row e t (xs.take k0)), (oo, .gone n)]
  let ρ' : Nat → Value := fun k => if k = nid then .slice A k0 c else ρ k
  let β' : Nat → List Nat := fun k => if k = nid then β oo else if k = oo then [] else β k
  have o1 : obj' nid = .row e t (xs.take k0) := by simp [obj', setE, setO]
  have o2 : obj' oo = .gone n := by simp [obj', setE, setO, hne]
  have o3 : ∀ k, k ≠ nid → k ≠ oo → obj' k = obj k := fun k h1 h2 => by simp [obj', setE, setO, h1, h2]
  have hlo : (obj oo).len = some n := by rw [hob, hn]; rfl
  have hlo' : (obj oo).len ≠ none := by rw [hlo]; simp
  have hsrc : ∀ k b, (obj' k).len ≠ none → b ∈ β' k → ∃ k', (obj k').len ≠ none ∧ b ∈ β k' ∧ ((k = nid ∧ k' = oo) ∨ (k ≠ nid ∧ k ≠ oo ∧ k' = k)) := by
    intro k b hk hb
    by_cases e1 : k = nid
    · subst e1; simp only [β', if_true] at hb; exact ⟨oo, hlo', hb, .inl ⟨rfl, rfl⟩⟩
    · by_cases e2 : k = oo
      · subst e2; simp only [β', if_neg e1, if_true] at hb; simp at hb
      · simp only [β', if_neg e1, if_neg e2] at hb
        rw [o3 k e1 e2] at hk
        exact ⟨k, hk, hb, .inr ⟨e1, e2, rfl⟩⟩
  have hnew := h.relabel (obj' := obj') (ρ' := ρ') (β' := β') (fun k m hk => ?_) (fun k b hk hb => by obtain ⟨k', g1, g2, _⟩ := hsrc k b hk hb; exact ⟨k', g1, g2⟩) (fun hrep k => ?_) (fun k k' b hk hk' hb hb' => ?_) (fun k hk => ?_)
  · refine ⟨A, c, ρ', β', by rw [hA, hn], hnew.2, ?_⟩
    refine .own (m := k0) ?_ (Nat.le_refl _) ⟨A, c, rfl, by omega, fun h => hA2 (by omega)⟩ (fun _ => by simp [ρ'])
    show (obj' nid).len = _
    rw [o1]; simp [AO.len]; omega
  · have e1 : k ≠ nid := fun e => by subst e; rw [hd] at hk; cases hk
    by_cases e2 : k = oo
    · subst e2; rw [o2]; rw [hlo] at hk; exact ⟨hk, by simp [ρ', e1]⟩
    · rw [o3 k e1 e2]; exact ⟨hk, by simp [ρ', e1]⟩
  · by_cases e1 : k = nid
    · subst e1
      rw [o1]
      have hb : β' k = (ρ' k).ownBlock.toList := by
        simp only [β', ρ', if_true, g2, hA]; cases A <;> rfl
      have hr' : ρ' k = .slice A k0 c := by simp [ρ']
      rw [hb, hr']
      refine (ownL_flat hf).2 ⟨?_, rfl⟩
      have e3 : (xs.take k0).length = k0 := by simp; omega
      rw [e3]; exact hrow
    · by_cases e2 : k = oo
      · subst e2
        rw [o2]
        show β' k = []
        simp [β', e1]
      · have hb : β' k = β k := by simp [β', e1, e2]
        have hr' : ρ' k = ρ k := by simp [ρ', e1]
        rw [o3 k e1 e2, hb, hr']
        exact AO.own_other (C := cxOf obj W ρ β) rfl hrep (h.objs k)
  · obtain ⟨j, g1, g2, g3⟩ := hsrc k b hk hb
    obtain ⟨j', g1', g2', g3'⟩ := hsrc k' b hk' hb'
    have := h.apart j j' b g1 g1' g2 g2'
    subst this
    rcases g3 with ⟨rfl, rfl⟩ | ⟨e1, e2, rfl⟩ <;> rcases g3' with ⟨rfl, e3⟩ | ⟨e3, e4, rfl⟩
    · rfl
    · exact absurd rfl e4
    · exact absurd e3 e2
    · rfl
  · by_cases e1 : k = nid
    · subst e1; simp only [β', if_true]; exact h.nodup oo hlo'
    · by_cases e2 : k = oo
      · subst e2; simp [β', e1]
      · simp only [β', if_neg e1, if_neg e2]
        rw [o3 k e1 e2] at hk
        exact h.nodup k hk
end
section
variable {w0 : World} {N : Nat}
theorem Sub.move {σ : AS} (t k m n : Nat) {e : TypeId} {ty : Ty} {xs : List ty.den} (ht : σ.get t = some (.own k n)) (hk : σ.obj k = .row e ty xs) (hf : ty.flat = true) (hn : n = xs.length) (hd : σ.obj m = .dead) : Sub w0 N σ ⟨(t, .own m n) :: σ.sl, [(m, .row e ty xs), (k, .gone n)] ++ σ.hp, σ.nx, σ.fr⟩ := by
  rintro a W ⟨hN, ρ, β, h⟩
  obtain ⟨v, hv1, hv2⟩ := h.slots t _ ht
  obtain ⟨hu, _⟩ := h.whole hk hn hv2
  obtain ⟨A, c, ρ', β', f1, f2, f3⟩ := h.cut hk hf hn (k0 := n) (Nat.le_refl _) hd
  have e1 : xs.take n = xs := by rw [hn]; exact List.take_length
  rw [e1] at f2 f3
  refine ⟨hN, ρ', β', ?_⟩
  rw [AS.app_obj ⟨(t, .own m n) :: σ.sl, σ.hp, σ.nx, σ.fr⟩]
  refine ⟨f2.below, f2.objs, f2.lt, f2.apart, f2.nodup, fun t' x hx => ?_, f2.defers⟩
  simp only [AS.get, look] at hx
  split at hx
  · rename_i et
    subst et
    cases hx
    exact ⟨v, hv1, by rw [hu, f1]; exact f3⟩
  · exact f2.slots t' x hx
theorem Sub.moved {σ : AS} (t k m n : Nat) {e : TypeId} {ty : Ty} {xs : List ty.den} (ht : σ.get t = some (.own k n)) (hk : σ.obj k = .row e ty xs) (hf : ty.flat = true) (hn : n = xs.length) (hd : σ.obj m = .dead)
    (h : Sub w0 N ⟨(t, .own m n) :: σ.sl, [(m, .row e ty xs), (k, .gone n)] ++ σ.hp, σ.nx, σ.fr⟩ ⟨(t, .own m n) :: without σ.sl [t], (m, .row e ty xs) :: without σ.hp [k], σ.nx, σ.fr⟩) : Sub w0 N σ ⟨(t, .own m n) :: without σ.sl [t], (m, .row e ty xs) :: without σ.hp [k], σ.nx, σ.fr⟩ := (Sub.move t k m n ht hk hf hn hd).trans h
/-- a loop's head holds an own row under one number, whatever number it came with -/
theorem Sub.into {σ τ : AS} (t k m n : Nat) {e : TypeId} {ty : Ty} {xs : List ty.den} (hf : ty.flat = true) (hn : n = xs.length) (h1 : Sub w0 N σ ⟨(t, .own k n) :: without τ.sl [t], (k, .row e ty xs) :: without τ.hp [m], τ.nx, τ.fr⟩)
    (hd : AS.obj ⟨(t, .own k n) :: without τ.sl [t], (k, .row e ty xs) :: without τ.hp [m], τ.nx, τ.fr⟩ m = .dead) (h2 : Sub w0 N ⟨(t, .own m n) :: (t, .own k n) :: without τ.sl [t], (m, .row e ty xs) :: (k, .gone n) :: (k, .row e ty xs) :: without τ.hp [m], τ.nx, τ.fr⟩ τ) : Sub w0 N σ τ :=
  h1.trans ((Sub.move t k m n (by simp [AS.get, look]) (by simp [AS.obj, look]) hf hn hd).trans h2)
end
end Go.Proofs.Ytgnnmifpfgpllaa
