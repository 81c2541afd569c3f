import Derived.Test.YtgnnmifpfgpllaaZAI
/- Focus: an element of an own deep row is opened into own objects. -/
set_option linter.all false
set_option linter.unusedVariables false
set_option linter.unusedSimpArgs false
namespace Go.Proofs.Ytgnnmifpfgpllaa
open Go.RowKit
def Ty.nl : Ty → Nat
  | .pair a b => a.nl + b.nl
  | .list _ => 1
  | _ => 0
/-- a datum's cells over own slices that are numbered from n -/
def spC : (t : Ty) → t.den → Nat → List AV
  | .int, x, _ => [.lit (.int .i64 x)]
  | .bool, x, _ => [.lit (.bool x)]
  | .str, x, _ => [.lit (.string x)]
  | .pair a b, x, n => spC a x.1 n ++ spC b x.2 (n + a.nl)
  | .list _, xs, n => [.own n xs.length]
def spO (es : Nat → TypeId) : (t : Ty) → t.den → Nat → List (Nat × AO)
  | .int, _, _ => []
  | .bool, _, _ => []
  | .str, _, _ => []
  | .pair a b, x, n => spO es a x.1 n ++ spO es b x.2 (n + a.nl)
  | .list t, xs, n => [(n, .row (es n) t xs)]
theorem spO_range {es : Nat → TypeId} : ∀ (t : Ty) (x : t.den) (n : Nat) {o : Nat} {ob : AO}, (o, ob) ∈ spO es t x n → n ≤ o ∧ o < n + t.nl ∧ ∃ t' ys, ob = .row (es o) t' ys
  | .int, _, _, _, _, h => by simp [spO] at h
  | .bool, _, _, _, _, h => by simp [spO] at h
  | .str, _, _, _, _, h => by simp [spO] at h
  | .list t, xs, n, o, ob, h => by
    simp only [spO, List.mem_singleton, Prod.mk.injEq] at h
    obtain ⟨rfl, rfl⟩ := h
    exact ⟨Nat.le_refl _, by simp [Ty.nl], _, _, rfl⟩
  | .pair a b, x, n, o, ob, h => by
    simp only [spO, List.mem_append] at h
    rcases h with h | h
    · obtain ⟨h1, h2, h3⟩ := spO_range a x.1 n h
      exact ⟨h1, by simp only [Ty.nl]; omega, h3⟩
    · obtain ⟨h1, h2, h3⟩ := spO_range b x.2 (n + a.nl) h
      exact ⟨by omega, by simp only [Ty.nl]; omega, h3⟩
theorem spO_all {es : Nat → TypeId} : ∀ (t : Ty) (x : t.den) (n o : Nat), n ≤ o → o < n + t.nl → ∃ ob, (o, ob) ∈ spO es t x n
  | .int, _, _, _, h, h' => by simp [Ty.nl] at h'; omega
  | .bool, _, _, _, h, h' => by simp [Ty.nl] at h'; omega
  | .str, _, _, _, h, h' => by simp [Ty.nl] at h'; omega
  | .list t, xs, n, o, h, h' => by
    simp only [Ty.nl] at h'
    obtain rfl : o = n := by omega
    exact ⟨_, by simp only [spO]; exact List.mem_singleton.2 rfl⟩
  | .pair a b, x, n, o, h, h' => by
    simp only [Ty.nl] at h'
    rcases Nat.lt_or_ge o (n + a.nl) with h2 | h2
    · obtain ⟨ob, hm⟩ := spO_all a x.1 n o h h2
      exact ⟨ob, by simp only [spO, List.mem_append]; exact .inl hm⟩
    · obtain ⟨ob, hm⟩ := spO_all b x.2 (n + a.nl) o h2 (by omega)
      exact ⟨ob, by simp only [spO, List.mem_append]; exact .inr hm⟩
theorem spO_fun {es : Nat → TypeId} : ∀ (t : Ty) (x : t.den) (n : Nat) {o : Nat} {ob ob' : AO}, (o, ob) ∈ spO es t x n → (o, ob') ∈ spO es t x n → ob = ob'
  | .int, _, _, _, _, _, h, _ => by simp [spO] at h
  | .bool, _, _, _, _, _, h, _ => by simp [spO] at h
  | .str, _, _, _, _, _, h, _ => by simp [spO] at h
  | .list t, xs, n, o, ob, ob', h, h' => by
    simp only [spO, List.mem_singleton, Prod.mk.injEq] at h h'
    rw [h.2, h'.2]
  | .pair a b, x, n, o, ob, ob', h, h' => by
    simp only [spO, List.mem_append] at h h'
    rcases h with h | h <;> rcases h' with h' | h'
    · exact spO_fun a x.1 n h h'
    · have h1 := (spO_range a x.1 n h).2.1
      have h2 := (spO_range b x.2 _ h').1
      omega
    · have h1 := (spO_range a x.1 n h').2.1
      have h2 := (spO_range b x.2 _ h).1
      omega
    · exact spO_fun b x.2 _ h h'
theorem spO_congr {es es' : Nat → TypeId} : ∀ (t : Ty) (x : t.den) (n : Nat), (∀ o, n ≤ o → o < n + t.nl → es o = es' o) → spO es t x n = spO es' t x n
  | .int, _, _, _ => rfl
  | .bool, _, _, _ => rfl
  | .str, _, _, _ => rfl
  | .list t, xs, n, h => by simp only [spO, h n (Nat.le_refl _) (by simp [Ty.nl])]
  | .pair a b, x, n, h => by
    simp only [Ty.nl] at h
    simp only [spO]
    rw [spO_congr a x.1 n fun o h1 h2 => h o h1 (by omega), spO_congr b x.2 (n + a.nl) fun o h1 h2 => h o (by omega) (by omega)]
theorem ownL_slice {W : World} {lo : Nat} {e : TypeId} {t : Ty} {xs : List t.den} {v : Value} {bs : List Nat} (h : ownL W lo e t xs v bs) : ∃ A c, v = .slice A xs.length c ∧ xs.length ≤ c ∧ (0 < xs.length → ∃ g, A = some ⟨g, 0, none⟩) := by
  obtain ⟨cells, bss, g1, g2, g3, ⟨_, hh⟩, g5⟩ := h
  rcases hh with ⟨h5, h6⟩ | ⟨g, cap, cur, hv, _, _, hc, _⟩
  · exact ⟨none, 0, by rw [h5, h6], by omega, fun h0 => by omega⟩
  · exact ⟨_, _, hv, hc, fun _ => ⟨g, rfl⟩⟩
theorem range_add_flat (f : Nat → List Nat) (m k n : Nat) : ((List.range (m + k)).map fun i => f (n + i)).flatten = ((List.range m).map fun i => f (n + i)).flatten ++ ((List.range k).map fun i => f (n + m + i)).flatten := by
  rw [List.range_add, List.map_append, List.flatten_append, List.map_map]
  congr 2
  exact List.map_congr_left fun i _ => by simp [Nat.add_assoc]
theorem own_spread {W : World} {lo : Nat} : ∀ (t : Ty) (x : t.den) (us : List Value) (bs : List Nat) (n : Nat), t.own W lo x us bs → ∃ (es : Nat → TypeId) (ρ' : Nat → Value) (β' : Nat → List Nat), (∀ o e t' ys, (o, AO.row e t' ys) ∈ spO es t x n → ownL W lo e t' ys (ρ' o) (β' o)) ∧ bs = ((List.range t.nl).map fun i => β' (n + i)).flatten ∧ ∀ C : Cx, (∀ o e t' ys, (o, AO.row e t' ys) ∈ spO es t x n → C.len o = some ys.length ∧ C.ρ o = ρ' o) → Reps C (spC t x n) us
  | .int, x, us, bs, n, h => by
    obtain ⟨h1, h2⟩ := h
    exact ⟨fun _ => 0, fun _ => .bool false, fun _ => [], by simp [spO], by simp [Ty.nl, h2], fun C _ => by rw [h1]; exact .cons (.lit _) .nil⟩
  | .bool, x, us, bs, n, h => by
    obtain ⟨h1, h2⟩ := h
    exact ⟨fun _ => 0, fun _ => .bool false, fun _ => [], by simp [spO], by simp [Ty.nl, h2], fun C _ => by rw [h1]; exact .cons (.lit _) .nil⟩
  | .str, x, us, bs, n, h => by
    obtain ⟨h1, h2⟩ := h
    exact ⟨fun _ => 0, fun _ => .bool false, fun _ => [], by simp [spO], by simp [Ty.nl, h2], fun C _ => by rw [h1]; exact .cons (.lit _) .nil⟩
  | .list t, xs, us, bs, n, h => by
    obtain ⟨v, e, rfl, h2⟩ := h
    have h2 : ownL W lo e t xs v bs := h2
    obtain ⟨A, c, k1, k2, k3⟩ := ownL_slice h2
    refine ⟨fun _ => e, fun _ => v, fun _ => bs, fun o e' t' ys hm => ?_, by simp [Ty.nl], fun C hC => ?_⟩
    · simp only [spO, List.mem_singleton, Prod.mk.injEq, AO.row.injEq] at hm
      obtain ⟨_, rfl, rfl, hys⟩ := hm
      cases hys
      exact h2
    · obtain ⟨f1, f2⟩ := hC n e t xs (by simp [spO])
      refine .cons (.own f1 (Nat.le_refl _) ⟨A, c, k1, k2, k3⟩ fun _ => f2.symm) .nil
  | .pair a b, x, us, bs, n, h => by
    obtain ⟨u1, u2, b1, b2, rfl, rfl, h1, h2⟩ := h
    obtain ⟨es1, ρ1, β1, f1, f2, f3⟩ := own_spread a x.1 u1 b1 n h1
    obtain ⟨es2, ρ2, β2, g1, g2, g3⟩ := own_spread b x.2 u2 b2 (n + a.nl) h2
    let m := n + a.nl
    have ea : spO (fun o => if o < m then es1 o else es2 o) a x.1 n = spO es1 a x.1 n := spO_congr a x.1 n fun o _ ho => if_pos ho
    have eb : spO (fun o => if o < m then es1 o else es2 o) b x.2 m = spO es2 b x.2 m := spO_congr b x.2 m fun o ho _ => if_neg (by omega)
    refine ⟨fun o => if o < m then es1 o else es2 o, fun o => if o < m then ρ1 o else ρ2 o, fun o => if o < m then β1 o else β2 o, fun o e t' ys hm => ?_, ?_, fun C hC => ?_⟩
    · simp only [spO, List.mem_append] at hm
      rw [ea, eb] at hm
      rcases hm with hm | hm
      · have := (spO_range a x.1 n hm).2.1
        show ownL W lo e t' ys (if o < m then ρ1 o else ρ2 o) (if o < m then β1 o else β2 o)
        rw [if_pos this, if_pos this]
        exact f1 o e t' ys hm
      · have := (spO_range b x.2 _ hm).1
        show ownL W lo e t' ys (if o < m then ρ1 o else ρ2 o) (if o < m then β1 o else β2 o)
        rw [if_neg (by omega), if_neg (by omega)]
        exact g1 o e t' ys hm
    · rw [show (Ty.pair a b).nl = a.nl + b.nl from rfl, range_add_flat (fun o => if o < m then β1 o else β2 o), f2, g2]
      congr 2
      · exact List.map_congr_left fun i hi => by
          rw [List.mem_range] at hi
          exact (if_pos (show n + i < m by omega)).symm
      · exact List.map_congr_left fun i hi => (if_neg (show ¬ n + a.nl + i < m by omega)).symm
    · refine Reps.append (f3 C fun o e t' ys hm => ?_) (g3 C fun o e t' ys hm => ?_)
      · have h0 := (spO_range a x.1 n hm).2.1
        have := hC o e t' ys (by simp only [spO, List.mem_append]; rw [ea]; exact .inl hm)
        rwa [show (fun o => if o < m then ρ1 o else ρ2 o) o = ρ1 o from if_pos h0] at this
      · have h0 := (spO_range b x.2 _ hm).1
        have := hC o e t' ys (by simp only [spO, List.mem_append]; rw [eb]; exact .inr hm)
        rwa [show (fun o => if o < m then ρ1 o else ρ2 o) o = ρ2 o from if_neg (by omega)] at this
theorem flat_nodup : ∀ {L : List (List Nat)}, L.flatten.Nodup → (∀ l ∈ L, l.Nodup) ∧ ∀ (i j : Nat) l l' b, L[i]? = some l → L[j]? = some l' → b ∈ l → b ∈ l' → i = j
  | [], _ => ⟨by simp, fun i j l l' b h => by simp at h⟩
  | x :: L, h => by
    rw [List.flatten_cons, List.nodup_append] at h
    obtain ⟨h1, h2, h3⟩ := h
    obtain ⟨k1, k2⟩ := flat_nodup h2
    have hx : ∀ (j : Nat) l' b, L[j]? = some l' → b ∈ x → b ∈ l' → False := fun j l' b hj hb hb' => h3 b hb b (List.mem_flatten.2 ⟨l', List.mem_of_getElem? hj, hb'⟩) rfl
    refine ⟨fun l hl => ?_, fun i j l l' b hi hj hb hb' => ?_⟩
    · rcases List.mem_cons.1 hl with rfl | hl
      · exact h1
      · exact k1 l hl
    · cases i with
      | zero => cases j with
        | zero => rfl
        | succ j =>
          simp at hi hj; subst hi
          exact (hx j l' b hj hb hb').elim
      | succ i => cases j with
        | zero =>
          simp at hi hj; subst hj
          exact (hx i l b hi hb' hb).elim
        | succ j => rw [k2 i j l l' b (by simpa using hi) (by simpa using hj) hb hb']
section
variable {w0 : World} {get : Nat → Option AV} {obj : Nat → AO} {a : Act} {W : World} {ρ : Nat → Value} {β : Nat → List Nat}
/-- an element is opened into own objects -/
theorem RelW.focus (h : RelW w0 get obj a W ρ β) {o n : Nat} {e : TypeId} {t : Ty} {xs pre suf : List t.den} {x : t.den} (hob : obj o = .row e t xs) (hxs : xs = pre ++ x :: suf) (hd : ∀ i, i < t.nl → (obj (n + i)).len = none) :
    ∃ es ρ' β', RelW w0 get (setE obj ((o, .hol e t pre (spC t x n) suf) :: spO es t x n)) a W ρ' β' := by
  subst hxs
  have ho := h.objs o
  rw [hob] at ho
  obtain ⟨cells, bss, l1, l2, l3, hrow, hbs⟩ := ho
  have hp : partsL W w0.heap.size t (pre ++ x :: suf) cells bss := ⟨l1, l2, l3⟩
  have hlx : (pre ++ x :: suf).length = pre.length + 1 + suf.length := by simp; omega
  have hkc : pre.length < cells.length := by omega
  have hkb : pre.length < bss.length := by omega
  have hlo : (obj o).len = some (pre.length + 1 + suf.length) := by rw [hob, ← hlx]; rfl
  have hlo' : (obj o).len ≠ none := by rw [hlo]; simp
  have hown := l3 pre.length x _ _ (by simp) (List.getElem?_eq_getElem hkc) (List.getElem?_eq_getElem hkb)
  obtain ⟨es, ρ1, β1, g1, g2, g3⟩ := own_spread t x _ _ n hown
  have hn1 := h.nodup o hlo'
  rw [hbs, flat_split pre.length bss hkb] at hn1
  have hperm : ((ρ o).ownBlock.toList ++ ((bss.take pre.length).flatten ++ bss[pre.length] ++ (bss.drop (pre.length + 1)).flatten)).Perm (((ρ o).ownBlock.toList ++ (bss.take pre.length).flatten ++ (bss.drop (pre.length + 1)).flatten) ++ bss[pre.length]) := by
    rw [List.append_assoc, List.append_assoc, List.append_assoc]
    refine List.Perm.append_left _ (List.Perm.append_left _ ?_)
    exact List.perm_append_comm
  have hn2 := (hperm.nodup_iff).1 hn1
  rw [List.nodup_append] at hn2
  obtain ⟨n1, n2, n3⟩ := hn2
  have hn4 := n2
  rw [g2] at hn4
  obtain ⟨n4, n5⟩ := flat_nodup hn4
  have hmem : ∀ b, b ∈ β o ↔ (b ∈ (ρ o).ownBlock.toList ++ (bss.take pre.length).flatten ++ (bss.drop (pre.length + 1)).flatten) ∨ b ∈ bss[pre.length] := by
    intro b
    rw [hbs, flat_split pre.length bss hkb, hperm.mem_iff, List.mem_append]
  let R : Nat → Prop := fun j => n ≤ j ∧ j < n + t.nl
  have hdR : ∀ j, R j → (obj j).len = none := fun j hj => by
    have := hd (j - n) (by have := hj.1; have := hj.2; omega)
    rwa [show n + (j - n) = j by have := hj.1; omega] at this
  have hoR : ¬ R o := fun hr => hlo' (hdR o hr)
  have hβ1 : ∀ j, R j → (∀ b, b ∈ β1 j → b ∈ bss[pre.length]) ∧ (β1 j).Nodup := by
    intro j hj
    have hm : β1 j ∈ (List.range t.nl).map fun i => β1 (n + i) := List.mem_map.2 ⟨j - n, List.mem_range.2 (by have := hj.1; have := hj.2; omega), by show β1 (n + (j - n)) = _; rw [show n + (j - n) = j by have := hj.1; omega]⟩
    exact ⟨fun b hb => by rw [g2]; exact List.mem_flatten.2 ⟨_, hm, hb⟩, n4 _ hm⟩
  have hβ2 : ∀ j j' b, R j → R j' → b ∈ β1 j → b ∈ β1 j' → j = j' := by
    intro j j' b hj hj' hb hb'
    have at_ : ∀ j, R j → ((List.range t.nl).map fun i => β1 (n + i))[j - n]? = some (β1 j) := by
      intro j hj
      rw [List.getElem?_map, List.getElem?_range (by have := hj.1; have := hj.2; omega)]
      show some (β1 (n + (j - n))) = _
      rw [show n + (j - n) = j by have := hj.1; omega]
    have := n5 _ _ _ _ b (at_ j hj) (at_ j' hj') hb hb'
    have := hj.1; have := hj'.1; omega
  let obj' := setE obj ((o, .hol e t pre (spC t x n) suf) :: spO es t x n)
  have hRdec : ∀ j, Decidable (R j) := fun j => inferInstanceAs (Decidable (n ≤ j ∧ j < n + t.nl))
  let ρ' : Nat → Value := fun j => if R j then ρ1 j else ρ j
  let B0 := (ρ o).ownBlock.toList ++ (bss.take pre.length).flatten ++ (bss.drop (pre.length + 1)).flatten
  let β' : Nat → List Nat := fun j => if j = o then B0 else if R j then β1 j else β j
  have ho' : obj' o = .hol e t pre (spC t x n) suf := by simp [obj', setE, setO]
  have hin : ∀ j, R j → ∃ e' t' ys, (j, AO.row e' t' ys) ∈ spO es t x n ∧ obj' j = .row e' t' ys := by
    intro j hj
    have hjo : j ≠ o := fun e => hoR (e ▸ hj)
    obtain ⟨ob, hm⟩ := spO_all (es := es) t x n j hj.1 hj.2
    obtain ⟨q, q1, q2, q3⟩ := setE_in' (obj := obj) (l := spO es t x n) (o := j) ⟨_, hm, rfl⟩
    obtain ⟨qo, qb⟩ := q
    dsimp only at q2; subst q2
    obtain ⟨_, _, t', ys, hr⟩ := spO_range t x n q1
    subst hr
    refine ⟨_, t', ys, q1, ?_⟩
    show setE obj _ _ = _
    simp only [setE, setO, if_neg hjo]
    exact q3
  have hout : ∀ j, j ≠ o → ¬ R j → obj' j = obj j := by
    intro j hj hr
    show setE obj _ j = _
    simp only [setE, setO, if_neg hj]
    exact setE_out' fun p hp e' => hr (by obtain ⟨h1, h2, _⟩ := spO_range t x n (o := p.1) (ob := p.2) hp; rw [e'] at h1 h2; exact ⟨h1, h2⟩)
  have hρo : ρ' o = ρ o := if_neg hoR
  have hβo : β' o = B0 := if_pos rfl
  have hβR : ∀ j, R j → β' j = β1 j := fun j hj => by
    have hjo : j ≠ o := fun e => hoR (e ▸ hj)
    show (if j = o then B0 else if R j then β1 j else β j) = _
    rw [if_neg hjo, if_pos hj]
  have hβx : ∀ j, j ≠ o → ¬ R j → β' j = β j := fun j hj hr => by
    show (if j = o then B0 else if R j then β1 j else β j) = _
    rw [if_neg hj, if_neg hr]
  have hlive : ∀ j, ¬ R j → (obj' j).len ≠ none → (obj j).len ≠ none := by
    intro j hr hj
    by_cases e1 : j = o
    · subst e1; exact hlo'
    · rwa [hout j e1 hr] at hj
  have hin2 : ∀ j b, ¬ R j → b ∈ β' j → b ∈ β j := by
    intro j b hr hb
    by_cases e1 : j = o
    · subst e1; rw [hβo] at hb; exact (hmem b).2 (.inl hb)
    · rwa [hβx j e1 hr] at hb
  have hin3 : ∀ j b, R j → b ∈ β' j → b ∈ β o ∧ b ∈ bss[pre.length] := by
    intro j b hr hb
    rw [hβR j hr] at hb
    have := (hβ1 j hr).1 b hb
    exact ⟨(hmem b).2 (.inr this), this⟩
  have mixed : ∀ j j' b, R j → ¬ R j' → (obj' j').len ≠ none → b ∈ β' j → b ∈ β' j' → False := by
    intro j j' b hj hj' hl hb hb'
    obtain ⟨k1, k2⟩ := hin3 j b hj hb
    have e1 := h.apart o j' b hlo' (hlive j' hj' hl) k1 (hin2 j' b hj' hb')
    subst e1
    rw [hβo] at hb'
    exact n3 b hb' b k2 rfl
  refine ⟨es, ρ', β', (h.relabel (obj' := obj') (ρ' := ρ') (β' := β') (fun j m hj => ?_) (fun j b hj hb => ?_) (fun hrep j => ?_) (fun j j' b hj hj' hb hb' => ?_) (fun j hj => ?_)).2⟩
  · have hr : ¬ R j := fun hr => by rw [hdR j hr] at hj; cases hj
    refine ⟨?_, if_neg hr⟩
    by_cases e1 : j = o
    · subst e1; rw [ho']; rw [hlo] at hj; rw [← hj]; rfl
    · rw [hout j e1 hr]; exact hj
  · by_cases hr : R j
    · exact ⟨o, hlo', (hin3 j b hr hb).1⟩
    · exact ⟨j, hlive j hr hj, hin2 j b hr hb⟩
  · by_cases e1 : j = o
    · subst e1
      rw [ho', hρo, hβo]
      refine ⟨cells.take pre.length, bss.take pre.length, cells[pre.length], cells.drop (pre.length + 1), bss.drop (pre.length + 1), ?_, ?_, ?_, ?_, ?_, rfl⟩
      · have := parts_take hp pre.length
        rwa [List.take_left] at this
      · have := parts_drop hp (pre.length + 1)
        rwa [show (pre ++ x :: suf).drop (pre.length + 1) = suf by simp [List.drop_append]] at this
      · have h1 := (g3 (cxOf obj' W ρ' β') fun k e' t' ys hm => ?_).1
        · rw [← h1]; exact Ty.own_len hown
        · obtain ⟨r1, r2, _⟩ := spO_range t x n hm
          obtain ⟨e2, t2, ys2, m2, m3⟩ := hin k ⟨r1, r2⟩
          have := spO_fun t x n hm m2
          refine ⟨?_, if_pos ⟨r1, r2⟩⟩
          show (obj' k).len = _
          rw [m3, ← this]; rfl
      · refine g3 (cxOf obj' W ρ' β') fun k e' t' ys hm => ?_
        obtain ⟨r1, r2, _⟩ := spO_range t x n hm
        obtain ⟨e2, t2, ys2, m2, m3⟩ := hin k ⟨r1, r2⟩
        have := spO_fun t x n hm m2
        refine ⟨?_, if_pos ⟨r1, r2⟩⟩
        show (obj' k).len = _
        rw [m3, ← this]; rfl
      · rw [← flat_split pre.length cells hkc, ← hlx]; exact hrow
    · by_cases hr : R j
      · obtain ⟨e2, t2, ys2, m2, m3⟩ := hin j hr
        rw [m3, hβR j hr, show ρ' j = ρ1 j from if_pos hr]
        exact g1 j e2 t2 ys2 m2
      · rw [hout j e1 hr, hβx j e1 hr, show ρ' j = ρ j from if_neg hr]
        exact AO.own_other (C := cxOf obj W ρ β) rfl hrep (h.objs j)
  · by_cases hr : R j <;> by_cases hr' : R j'
    · rw [hβR j hr] at hb; rw [hβR j' hr'] at hb'
      exact hβ2 j j' b hr hr' hb hb'
    · exact (mixed j j' b hr hr' hj' hb hb').elim
    · exact (mixed j' j b hr' hr hj hb' hb).elim
    · exact h.apart j j' b (hlive j hr hj) (hlive j' hr' hj') (hin2 j b hr hb) (hin2 j' b hr' hb')
  · by_cases e1 : j = o
    · subst e1; rw [hβo]; exact n1
    · by_cases hr : R j
      · rw [hβR j hr]; exact (hβ1 j hr).2
      · rw [hβx j e1 hr]; exact h.nodup j (hlive j hr hj)
end
section
variable {P : Program} {w0 : World} {N : Nat}
theorem AS.app_obj (σ : AS) (l : List (Nat × AO)) : (AS.mk σ.sl (l ++ σ.hp) σ.nx σ.fr).obj = setE σ.obj l := AS.upd_obj σ none .any l
theorem Sub.unfocus {σ : AS} (o : Nat) {e : TypeId} {t : Ty} {pre suf : List t.den} {cs : List AV} (hob : σ.obj o = .hol e t pre cs suf) {c : Prop} {x : t.den} {l : List (Nat × Nat)} (hs : absorb σ.obj t cs = some (c, x, l)) (hc : c) (hnd : (l.map (·.1)).Nodup) : Sub w0 N σ ⟨σ.sl, ((o, .row e t (pre ++ x :: suf)) :: gones l) ++ σ.hp, σ.nx, σ.fr⟩ := by
  rintro a W ⟨hN, ρ, β, h⟩
  obtain ⟨β', _, h'⟩ := h.unfocus hob hs hc hnd
  exact ⟨hN, ρ, β', by rw [AS.app_obj]; exact h'⟩
/-- ahead of the code that begins with region r, element x of object o is opened -/
theorem AWp.focus {c : Code} {σ : AS} {AQ : Exit → AS → Prop} (r o n : Nat) (_ : firstR c = r) {e : TypeId} {t : Ty} {xs pre suf : List t.den} {x : t.den} (hob : σ.obj o = .row e t xs) (hxs : xs = pre ++ x :: suf) (hd : (List.range t.nl).all (fun i => (σ.obj (n + i)).isDead) = true) (h : ∀ es : Nat → TypeId, AWp P w0 N c ⟨σ.sl, ((o, .hol e t pre (spC t x n) suf) :: spO es t x n) ++ σ.hp, σ.nx, σ.fr⟩ AQ) : AWp P w0 N c σ AQ := by
  rintro a W ⟨hN, ρ, β, hr⟩
  obtain ⟨es, ρ', β', h'⟩ := hr.focus hob hxs fun i hi => by
    have := (List.all_eq_true.1 hd) i (List.mem_range.2 hi)
    revert this
    cases σ.obj (n + i) <;> simp [AO.isDead, AO.len]
  exact h es a W ⟨hN, ρ', β', by rw [AS.app_obj]; exact h'⟩
end
/-! marks of data -/
def Ty.cnt : (t : Ty) → t.den → Nat
  | .int, _ => 1
  | .bool, _ => 1
  | .str, _ => 0
  | .pair a b, x => a.cnt x.1 + b.cnt x.2
  | .list t, xs => (xs.map t.cnt).sum
def mkL {α : Type} (m : Int → α → α) (c : α → Nat) : Int → List α → List α
  | _, [] => []
  | k, x :: l => m k x :: mkL m c (k + c x) l
def Ty.mrk : (t : Ty) → Int → t.den → t.den
  | .int, k, _ => k
  | .bool, k, _ => k % 3 == 0
  | .str, _, s => s
  | .pair a b, k, x => (a.mrk k x.1, b.mrk (k + a.cnt x.1) x.2)
  | .list t, k, xs => mkL t.mrk t.cnt k xs
theorem mkL_len {α : Type} {m : Int → α → α} {c : α → Nat} : ∀ {xs : List α} {k : Int}, (mkL m c k xs).length = xs.length
  | [], _ => rfl
  | x :: l, k => by simp only [mkL, List.length_cons, mkL_len (xs := l)]
theorem cnt_mrk : ∀ (t : Ty) (k : Int) (x : t.den), t.cnt (t.mrk k x) = t.cnt x
  | .int, _, _ => rfl
  | .bool, _, _ => rfl
  | .str, _, _ => rfl
  | .pair a b, k, x => by simp only [Ty.cnt, Ty.mrk, cnt_mrk a, cnt_mrk b]
  | .list t, k, xs => by
    simp only [Ty.cnt, Ty.mrk]
    induction xs generalizing k with
    | nil => rfl
    | cons x l ih => simp only [mkL, List.map_cons, List.sum_cons, cnt_mrk t, ih]
theorem mrk_idem : ∀ (t : Ty) (k j : Int) (x : t.den), t.mrk k (t.mrk j x) = t.mrk k x
  | .int, _, _, _ => rfl
  | .bool, _, _, _ => rfl
  | .str, _, _, _ => rfl
  | .pair a b, k, j, x => by simp only [Ty.mrk, mrk_idem a, mrk_idem b, cnt_mrk]
  | .list t, k, j, xs => by
    simp only [Ty.mrk]
    induction xs generalizing k j with
    | nil => rfl
    | cons x l ih => simp only [mkL, mrk_idem t, cnt_mrk, ih]
theorem cnt_int (xs : List Int) : Ty.cnt (.list .int) xs = xs.length := by
  simp only [Ty.cnt]
  induction xs with
  | nil => rfl
  | cons x l ih => simp only [List.map_cons, List.sum_cons, List.length_cons, ih]; omega
theorem mrk_len (t : Ty) (k : Int) (xs : List t.den) : ((Ty.list t).mrk k xs : List t.den).length = xs.length := mkL_len
/-! sizes of data -/
def Ty.szn : (t : Ty) → t.den → Nat
  | .int, _ => 0
  | .bool, _ => 0
  | .str, _ => 0
  | .pair a b, x => a.szn x.1 + b.szn x.2
  | .list t, xs => xs.length + (xs.map t.szn).sum
def Ty.wd : Ty → Nat
  | .int => 1
  | .bool => 1
  | .str => 0
  | .pair a b => a.wd + b.wd
  | .list _ => 0
def Ty.w4 : Ty → Bool
  | .pair a b => a.w4 && b.w4
  | .list t => t.w4 && decide (t.wd ≤ 4)
  | _ => true
theorem cnt_szn : ∀ (t : Ty) (x : t.den), t.w4 = true → t.cnt x ≤ t.wd + 4 * t.szn x
  | .int, _, _ => by simp [Ty.cnt, Ty.wd]
  | .bool, _, _ => by simp [Ty.cnt, Ty.wd]
  | .str, _, _ => by simp [Ty.cnt]
  | .pair a b, x, h => by
    simp only [Ty.w4, Bool.and_eq_true] at h
    have h1 := cnt_szn a x.1 h.1
    have h2 := cnt_szn b x.2 h.2
    simp only [Ty.cnt, Ty.wd, Ty.szn]; omega
  | .list t, xs, h => by
    simp only [Ty.w4, Bool.and_eq_true, decide_eq_true_eq] at h
    simp only [Ty.cnt, Ty.wd, Ty.szn]
    induction xs with
    | nil => simp
    | cons x l ih =>
      have h1 := cnt_szn t x h.1
      simp only [List.map_cons, List.sum_cons, List.length_cons]
      have := h.2
      omega
/-! marks of rows -/
def mrkR : (ts : List Ty) → Int → HR ts → HR ts
  | [], _, _ => ()
  | t :: ts, k, (xs, r) => ((Ty.list t).mrk k xs, mrkR ts (k + (Ty.list t).cnt xs) r)
def cntR : (ts : List Ty) → HR ts → Nat
  | [], _ => 0
  | t :: ts, (xs, r) => (Ty.list t).cnt xs + cntR ts r
def lensR : (ts : List Ty) → List Nat → HR ts → Prop
  | [], _, _ => True
  | t :: ts, ns, (xs, r) => (ns.headD 0 = (xs : List t.den).length ∧ (xs : List t.den).length ≤ 9223372036854775807) ∧ lensR ts ns.tail r
theorem mrkR_rows : ∀ (ts : List Ty) (es : ES ts) (k : Int) (d : HR ts) (i : Nat) (ob ob' : AO), (rowsAO ts es d)[i]? = some ob → (rowsAO ts es (mrkR ts k d))[i]? = some ob' → ob'.len = ob.len
  | [], es, k, d, i, ob, ob', h, _ => by simp [rowsAO] at h
  | t :: ts, (e, es), k, (xs, r), i, ob, ob', h, h' => by
    cases i with
    | zero =>
      simp [rowsAO, mrkR] at h h'
      rw [← h, ← h']
      simp only [AO.len, Ty.mrk, mkL_len]
    | succ i => exact mrkR_rows ts es _ r i ob ob' (by simpa [rowsAO] using h) (by simpa [rowsAO, mrkR] using h')
def conM {α : Type} (ts : List Ty) (ln : α → List Nat) (ct : α → Int) (sel : List AV → Option (List Nat × α)) : Con :=
  Con.wr ts sel fun a d => (lensR ts (ln a) d ∧ 0 ≤ ct a ∧ ct a + cntR ts d ≤ 4000000000000000000, .int .i64 (ct a + cntR ts d), mrkR ts (ct a) d)
theorem okM {P : Program} {Θ : TypeId → Option TI} {f : FuncId} {fn : Func} {N : Nat} {rs : List ResultVar} (hΘ : ∀ t ti, Θ t = some ti → ti.ok P t) (hf : P.funcs[f]? = some fn) (hb : fn.body.isNone = false) (hN : fn.ntmps = N) (hrs : fn.results = rs.toArray) (hrl : rs.length ≤ 4) (hname : (fn.name == "runtime.NumGoroutine") = false)
    {α : Type} {ts : List Ty} {ln : α → List Nat} {ct : α → Int} {sel : List AV → Option (List Nat × α)} (can : α → List AV)
    (hcan : ∀ args l aa, sel args = some (l, aa) → args = (can aa).map (ren2 fun k => l.getD k 0))
    (hok : ∀ aa, (can aa).all (ok2 ts.length) = true ∧ (can aa).length ≤ N)
    (h : ∀ aa es d, (lensR ts (ln aa) d ∧ 0 ≤ ct aa ∧ ct aa + cntR ts d ≤ 4000000000000000000) → ∀ w0 pin, FrOk (fun o => if o = 1000000 then pin else .dead) → AWp P w0 N (fn.body.getD .skip) (initW (rowsAO ts es d) pin ((can aa).map (ren2 (1000001 + ·)))) (EndsW Θ rs (.int .i64 (ct aa + cntR ts d)) (rowsAO ts es (mrkR ts (ct aa) d)) pin)) : (conM ts ln ct sel).ok P f :=
  okW hΘ hf hb hN hrs hrl hname can hcan hok (fun aa es d _ i ob ob' h1 h2 => mrkR_rows ts es _ d i ob ob' h1 h2) h
theorem AWp_id {P : Program} {w0 : World} {N : Nat} {c : Code} {σ : AS} {AQ : Exit → AS → Prop} (h : AWp P w0 N c σ AQ) : AWp P w0 N c σ AQ := h
theorem cnt_pi {b : Ty} (x : Int × b.den) : Ty.cnt (.pair .int b) x = 1 + b.cnt x.2 := rfl
theorem cnt_pb {b : Ty} (x : Bool × b.den) : Ty.cnt (.pair .bool b) x = 1 + b.cnt x.2 := rfl
theorem cnt_pl {t b : Ty} (x : List t.den × b.den) : Ty.cnt (.pair (.list t) b) x = Ty.cnt (.list t) x.1 + b.cnt x.2 := rfl
theorem cnt_i (x : Int) : Ty.cnt .int x = 1 := rfl
theorem cnt_b (x : Bool) : Ty.cnt .bool x = 1 := rfl
theorem cnt_nil {t : Ty} : Ty.cnt (.list t) [] = 0 := rfl
theorem cnt_cons {t : Ty} (x : t.den) (l : List t.den) : Ty.cnt (.list t) (x :: l) = t.cnt x + Ty.cnt (.list t) l := by simp [Ty.cnt]
theorem mrk_pi {b : Ty} (k : Int) (x : Int × b.den) : Ty.mrk (.pair .int b) k x = (k, b.mrk (k + 1) x.2) := rfl
theorem mrk_pb {b : Ty} (k : Int) (x : Bool × b.den) : Ty.mrk (.pair .bool b) k x = (k % 3 == 0, b.mrk (k + 1) x.2) := rfl
theorem mrk_pl {t b : Ty} (k : Int) (x : List t.den × b.den) : Ty.mrk (.pair (.list t) b) k x = (Ty.mrk (.list t) k x.1, b.mrk (k + Ty.cnt (.list t) x.1) x.2) := rfl
theorem mrk_i (k : Int) (x : Int) : Ty.mrk .int k x = k := rfl
theorem mrk_b (k : Int) (x : Bool) : Ty.mrk .bool k x = (k % 3 == 0) := rfl
theorem mrk_nil {t : Ty} {k : Int} : Ty.mrk (.list t) k [] = ([] : List t.den) := rfl
theorem mrk_cons {t : Ty} {k : Int} (x : t.den) (l : List t.den) : Ty.mrk (.list t) k (x :: l) = (t.mrk k x :: (Ty.mrk (.list t) (k + t.cnt x) l : List t.den) : List t.den) := rfl
/-- a step of a marking loop -/
structure MkI (t : Ty) (k : Int) (xs pre suf : List t.den) (kk : Int) : Prop where
  len : pre.length + suf.length = xs.length
  row : (Ty.mrk (.list t) k xs : List t.den) = pre ++ (Ty.mrk (.list t) kk suf : List t.den)
  tot : k + Ty.cnt (.list t) xs = kk + Ty.cnt (.list t) suf
  pos : 0 ≤ kk
theorem MkI.init {t : Ty} {k : Int} {xs : List t.den} (hk : 0 ≤ k) : MkI t k xs [] xs k := ⟨by simp, by simp, rfl, hk⟩
theorem MkI.step {t : Ty} {k : Int} {xs pre suf : List t.den} {x : t.den} {kk : Int} (h : MkI t k xs pre (x :: suf) kk) : MkI t k xs (pre ++ [t.mrk kk x]) suf (kk + t.cnt x) := by
  obtain ⟨h1, h2, h3, h4⟩ := h
  refine ⟨by simp at h1 ⊢; omega, by rw [h2, mrk_cons]; simp, by rw [h3, cnt_cons]; omega, by omega⟩
theorem MkI.fin {t : Ty} {k : Int} {xs pre : List t.den} {kk : Int} (h : MkI t k xs pre [] kk) : pre = (Ty.mrk (.list t) k xs : List t.den) ∧ kk = k + Ty.cnt (.list t) xs := by
  obtain ⟨h1, h2, h3, h4⟩ := h
  refine ⟨by rw [h2, mrk_nil]; simp, by rw [h3, cnt_nil]; simp⟩
/-- a step of a loop that looks at marks -/
structure HdI (t : Ty) (k : Int) (xs pre suf : List t.den) (kk : Int) : Prop where
  cut : xs = pre ++ suf
  row : (Ty.mrk (.list t) kk suf : List t.den) = suf
  tot : k + Ty.cnt (.list t) xs = kk + Ty.cnt (.list t) suf
  pos : 0 ≤ kk
theorem HdI.init {t : Ty} {k : Int} {xs : List t.den} (hk : 0 ≤ k) (h : (Ty.mrk (.list t) k xs : List t.den) = xs) : HdI t k xs [] xs k := ⟨rfl, h, rfl, hk⟩
theorem HdI.step {t : Ty} {k : Int} {xs pre suf : List t.den} {x : t.den} {kk : Int} (h : HdI t k xs pre (x :: suf) kk) : HdI t k xs (pre ++ [x]) suf (kk + t.cnt x) := by
  obtain ⟨h1, h2, h3, h4⟩ := h
  rw [mrk_cons] at h2
  exact ⟨by rw [h1]; simp, (List.cons.inj h2).2, by rw [h3, cnt_cons]; omega, by omega⟩
theorem HdI.one {t : Ty} {k : Int} {xs pre suf : List t.den} {x : t.den} {kk : Int} (h : HdI t k xs pre (x :: suf) kk) (d : t.den) : t.mrk kk x = x ∧ xs.getD pre.length d = x := by
  obtain ⟨h1, h2, h3, h4⟩ := h
  rw [mrk_cons] at h2
  exact ⟨(List.cons.inj h2).1, by rw [h1]; simp [List.getD_eq_getElem?_getD]⟩
theorem HdI.len {t : Ty} {k : Int} {xs pre suf : List t.den} {kk : Int} (h : HdI t k xs pre suf kk) : pre.length + suf.length = xs.length := by rw [h.cut]; simp
theorem cons_of_pos {α : Type} {l : List α} (h : 0 < l.length) : ∃ x r, l = x :: r := List.exists_cons_of_length_pos h
theorem nil_of_zero {α : Type} {l : List α} (h : l.length = 0) : l = [] := List.eq_nil_of_length_eq_zero h
def absK (h : Nat → AO) (t : Ty) (cs : List AV) (K : t.den → List (Nat × Nat) → Prop) : Prop := match absorb h t cs with
  | some (c, x, l) => (c ∧ (l.map (·.1)).Nodup) ∧ K x l
  | none => False
theorem Sub.unfocusK {w0 : World} {N : Nat} {σ τ : AS} (o : Nat) {e : TypeId} {t : Ty} {pre suf : List t.den} {cs : List AV} (hob : σ.obj o = .hol e t pre cs suf) (h : absK σ.obj t cs fun x l => Sub w0 N ⟨σ.sl, ((o, .row e t (pre ++ x :: suf)) :: gones l) ++ σ.hp, σ.nx, σ.fr⟩ τ) : Sub w0 N σ τ := by
  unfold absK at h
  split at h
  · rename_i c x l hs
    exact (Sub.unfocus o hob hs h.1.1 h.1.2).trans h.2
  · exact h.elim
def endsW (σ : AS) : Nat → List AO → Prop
  | _, [] => True
  | i, x :: r => σ.obj i = x ∧ endsW σ (i + 1) r
theorem endsW_get {σ : AS} : ∀ {rows : List AO} {i : Nat}, endsW σ i rows → ∀ (j : Nat) ob, rows[j]? = some ob → σ.obj (i + j) = ob
  | [], _, _, j, ob, h => by simp at h
  | x :: r, i, hs, j, ob, h => by
    cases j with
    | zero => simp at h; subst h; exact hs.1
    | succ j => rw [show i + (j + 1) = i + 1 + j by omega]; exact endsW_get hs.2 j ob (by simpa using h)
theorem EndsW_id {Θ : TypeId → Option TI} {rs : List ResultVar} {v : Value} {rows : List AO} {pin : AO} {e : Exit} {σ : AS} (h : EndsW Θ rs v rows pin e σ) : EndsW Θ rs v rows pin e σ := h
theorem EndsW.done {Θ : TypeId → Option TI} {rs : List ResultVar} {z z' : Int} {rows : List AO} {pin : AO} {e : Exit} {σ : AS} (he : e = .normal ∨ e = .ret) (hres : resAV Θ σ rs = some (.lit (.int .i64 z))) (hz : z = z') (hrows : endsW σ 1000001 rows) (hpin : σ.obj 1000000 = pin) : EndsW Θ rs (.int .i64 z') rows pin e σ :=
  ⟨he, by rw [hres, hz], fun i ob h => endsW_get hrows i ob h, hpin⟩
theorem EndsAt.int {Θ : TypeId → Option TI} {rs : List ResultVar} {z z' : Int} {e : Exit} {σ : AS} (he : e = .normal ∨ e = .ret) (hres : resAV Θ σ rs = some (.lit (.int .i64 z))) (hz : z = z') : EndsAt Θ rs (.lit (.int .i64 z')) [] e σ :=
  ⟨he, [], rfl, List.nodup_nil, by rw [hres, hz]; rfl, fun i ob h => by simp at h⟩
/-- lengths that fit -/
def Ty.fit : (t : Ty) → t.den → Prop
  | .int, _ => True
  | .bool, _ => True
  | .str, _ => True
  | .pair a b, x => a.fit x.1 ∧ b.fit x.2
  | .list t, xs => xs.length ≤ 9223372036854775807 ∧ ∀ x ∈ xs, t.fit x
theorem cntL_szn {t : Ty} (xs : List t.den) (h : (Ty.list t).w4 = true) : Ty.cnt (.list t) xs ≤ 4 * Ty.szn (.list t) xs := by
  have := cnt_szn (.list t) xs h
  simp only [Ty.wd] at this
  omega
theorem szn_zero : ∀ (t : Ty) (x : t.den), t.flat = true → t.szn x = 0
  | .int, _, _ => rfl
  | .bool, _, _ => rfl
  | .str, _, _ => rfl
  | .pair a b, x, h => by
    simp only [Ty.flat, Bool.and_eq_true] at h
    simp only [Ty.szn, szn_zero a x.1 h.1, szn_zero b x.2 h.2]
  | .list t, _, h => by simp [Ty.flat] at h
theorem szn_flat {t : Ty} (xs : List t.den) (h : t.flat = true) : Ty.szn (.list t) xs = xs.length := by
  simp only [Ty.szn]
  have : (xs.map t.szn).sum = 0 := by
    induction xs with
    | nil => rfl
    | cons x l ih => simp only [List.map_cons, List.sum_cons, ih, szn_zero t x h]
  omega
end Go.Proofs.Ytgnnmifpfgpllaa
