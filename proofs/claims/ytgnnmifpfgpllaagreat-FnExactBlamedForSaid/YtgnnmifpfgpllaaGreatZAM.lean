import Derived.Test.YtgnnmifpfgpllaaGreatZAL
/- Abstract walks: own rows that nobody writes any more, unknown cells. -/
set_option linter.all false
set_option linter.unusedVariables false
set_option linter.unusedSimpArgs false
namespace Go.Proofs.YtgnnmifpfgpllaaGreat
open Go.RowKit
theorem Ty.own_rep2 {W : World} {lo : Nat} : ∀ (t : Ty) (x : t.den) (us : List Value) (bs : List Nat), t.own W lo x us bs → ∀ Q : Nat → Prop, (∀ b ∈ bs, Q b) → t.rep W Q x us
  | .int, _, _, _, h, _, _ => h.1
  | .bool, _, _, _, h, _, _ => h.1
  | .str, _, _, _, h, _, _ => h.1
  | .pair a b, x, us, bs, ⟨u1, u2, b1, b2, e1, e2, h1, h2⟩, Q, hQ => ⟨u1, u2, e1, Ty.own_rep2 a x.1 u1 b1 h1 Q (fun b hb => hQ b (by rw [e2]; simp [hb])), Ty.own_rep2 b x.2 u2 b2 h2 Q (fun b hb => hQ b (by rw [e2]; simp [hb]))⟩
  | .list t, xs, us, bs, ⟨v, e, e1, cells, bss, h1, h2, h3, h4, h5⟩, Q, hQ => by
    obtain ⟨A, c, g1, g2, g3⟩ := own_hs h4
    refine ⟨A, c, by rw [e1, g1], g2, ?_, fun hn => ?_⟩
    · rcases h4.2 with ⟨_, hz⟩ | ⟨g, cap, cur, _, _, _, k1, k2, _⟩
      · omega
      · unfold maxLen at k2; omega
    · obtain ⟨g, rfl⟩ := g3 hn
      subst g1
      have hcell := h4.cells (g := g) rfl
      refine ⟨_, rfl, hQ _ (by rw [h5]; simp [Value.ownBlock]), fun k x hx => ?_⟩
      have hk : k < xs.length := (List.getElem?_eq_some_iff.1 hx).1
      have hown := h3 k x (cells[k]'(by omega)) (bss[k]'(by omega)) hx (List.getElem?_eq_getElem _) (List.getElem?_eq_getElem _)
      have hrep := Ty.own_rep2 t x _ _ hown Q (fun b hb => hQ b (by rw [h5]; exact List.mem_append.2 (.inr (List.mem_flatten.2 ⟨_, List.getElem_mem _, hb⟩))))
      refine ⟨_, hrep, fun j u hu => hcell _ u ?_⟩
      have hj : j < t.sz := by
        have := (List.getElem?_eq_some_iff.1 hu).1
        rwa [Ty.rep_len t _ _ hrep] at this
      have hall : ∀ r ∈ cells, r.length = t.sz := by
        intro r hr
        obtain ⟨k', hk', rfl⟩ := List.getElem_of_mem hr
        have := h3 k' (xs[k']'(by omega)) cells[k'] (bss[k']'(by omega)) (List.getElem?_eq_getElem _) (List.getElem?_eq_getElem hk') (List.getElem?_eq_getElem _)
        exact Ty.rep_len t _ _ (Ty.own_rep t (.inr trivial) _ _ _ this)
      rw [flatten_get cells hall k j (by omega) hj]; exact hu
section
variable {w0 : World} {get : Nat → Option AV} {obj : Nat → AO} {a : Act} {W : World} {ρ : Nat → Value} {β : Nat → List Nat}
/-- an own row given up: it reads as data -/
theorem RelW.freeze (h : RelW w0 get obj a W ρ β) {o : Nat} {e : TypeId} {t : Ty} {xs : List t.den} (hob : obj o = .row e t xs) :
    Rep (cxOf (setO obj o (.gone xs.length)) W ρ (fun k => if k = o then [] else β k)) (.sl t xs) (ρ o) ∧ RelW w0 get (setO obj o (.gone xs.length)) a W ρ (fun k => if k = o then [] else β k) := by
  have hlo : (obj o).len = some xs.length := by rw [hob]; rfl
  have hln : (obj o).len ≠ none := by rw [hlo]; simp
  have hobj := h.objs o
  rw [hob] at hobj
  have hl : ∀ k m, (obj k).len = some m → (setO obj o (.gone xs.length) k).len = some m ∧ ρ k = ρ k := by
    intro k m hk
    refine ⟨?_, rfl⟩
    by_cases e1 : k = o
    · subst e1; rw [setO_same, ← hk, hlo]; rfl
    · rw [setO_other e1]; exact hk
  have hl2 : ∀ k, k ≠ o → (setO obj o (.gone xs.length) k).len ≠ none → (obj k).len ≠ none := fun k hk h1 => by rwa [setO_other hk] at h1
  obtain ⟨hle, h2⟩ := h.relabel (obj' := setO obj o (.gone xs.length)) (ρ' := ρ) (β' := fun k => if k = o then [] else β k) hl
    (fun k b hk hb => by
      (try dsimp only at hb)
      by_cases e1 : k = o
      · rw [if_pos e1] at hb; cases hb
      · rw [if_neg e1] at hb; exact ⟨k, hl2 k e1 hk, hb⟩)
    (fun hr k => by
      by_cases e1 : k = o
      · subst e1; rw [setO_same]; exact if_pos rfl
      · rw [setO_other e1]; (try dsimp only); rw [if_neg e1]; exact AO.own_other (C := cxOf obj W ρ β) rfl (fun c u => hr c u) (h.objs k))
    (fun k k' b hk hk' hb hb' => by
      (try dsimp only at hb hb')
      by_cases e1 : k = o
      · rw [if_pos e1] at hb; cases hb
      · by_cases e2 : k' = o
        · rw [if_pos e2] at hb'; cases hb'
        · rw [if_neg e1] at hb; rw [if_neg e2] at hb'
          exact h.apart k k' b (hl2 k e1 hk) (hl2 k' e2 hk') hb hb')
    (fun k hk => by
      by_cases e1 : k = o
      · (try dsimp only); rw [if_pos e1]; exact List.nodup_nil
      · (try dsimp only); rw [if_neg e1]; exact h.nodup k (hl2 k e1 hk))
  refine ⟨.sl ?_, h2⟩
  obtain ⟨cells, bss, p1, p2, p3, p4, p5⟩ := hobj
  refine Ty.own_rep2 (.list t) xs [ρ o] (β o) ⟨ρ o, e, rfl, cells, bss, p1, p2, p3, p4, p5⟩ _ fun b hb => ⟨(h.lt o b hln hb).2, fun k hk hbk => ?_⟩
  (try dsimp only at hbk)
  by_cases e1 : k = o
  · rw [if_pos e1] at hbk; cases hbk
  · rw [if_neg e1] at hbk
    exact e1 (h.apart k o b (hl2 k e1 hk) hln hbk hb)
end
section
variable {w0 : World} {N : Nat}
theorem AS.obj_cons {σ : AS} (sl : List (Nat × AV)) (k : Nat) (x : AO) : (⟨sl, (k, x) :: σ.hp, σ.nx, σ.fr⟩ : AS).obj = setO σ.obj k x := by
  funext o
  simp only [AS.obj, look, setO]
  by_cases e : o = k
  · subst e; simp
  · rw [if_neg e, if_neg (fun h => e h.symm)]
theorem Sub.freeze {σ : AS} (t k n : Nat) {e : TypeId} {ty : Ty} {xs : List ty.den} (ht : σ.get t = some (.own k n)) (hk : σ.obj k = .row e ty xs) (hn : n = xs.length) : Sub w0 N σ ⟨(t, .sl ty xs) :: σ.sl, (k, .gone n) :: σ.hp, σ.nx, σ.fr⟩ := by
  rintro a W ⟨hN, ρ, β, h⟩
  obtain ⟨v, hv1, hv2⟩ := h.slots t _ ht
  obtain ⟨hu, _⟩ := h.whole hk hn hv2
  obtain ⟨h1, h2⟩ := h.freeze hk
  subst hn
  refine ⟨hN, ρ, (fun j => if j = k then [] else β j), ?_⟩
  rw [AS.obj_cons]
  refine ⟨h2.below, h2.objs, h2.lt, h2.apart, h2.nodup, fun t' x hx => ?_, h2.defers⟩
  simp only [AS.get, look] at hx
  split at hx
  · rename_i et
    subst et
    cases hx
    exact ⟨v, hv1, by rw [hu]; exact h1⟩
  · exact h2.slots t' x hx
end
end Go.Proofs.YtgnnmifpfgpllaaGreat
