import Derived.Test.YtljlimlgdnbllaaB4
import Derived.Test.YtljlimlgdnbllaaAE
import Derived.Test.YtljlimlgdnbllaaL1
/- Contracts of functions that make rows of ints, and of functions that mark them. -/
set_option linter.all false
set_option linter.unusedVariables false
set_option linter.unusedSimpArgs false
namespace Go.Proofs.Ytljlimlgdnbllaa
open Go.RowKit
theorem flat_ints : ∀ (xs : List Int), (xs.map fun x => Ty.vals .int x).flatten = xs.map (Value.int .i64)
  | [] => rfl
  | x :: xs => by simp only [List.map_cons, List.flatten_cons, flat_ints xs]; rfl
def ownsAV (m : Nat → Nat) : Nat → List (List Int) → List AV
  | _, [] => []
  | k, xs :: r => .own (m k) xs.length :: ownsAV m (k + 1) r
theorem ownsAV_reps {D : Cx} {m : Nat → Nat} {W : World} {lo : Nat} : ∀ (rows : List (List Int)) (us : List Value) (k : Nat), us.length = rows.length → (∀ (i : Nat) u xs, us[i]? = some u → rows[i]? = some xs → OI W lo u xs ∧ D.ρ (m (k + i)) = u ∧ D.len (m (k + i)) = some xs.length) → Reps D (ownsAV m k rows) us
  | [], us, k, hl, h => by
    have : us = [] := List.eq_nil_of_length_eq_zero hl
    subst this; exact .nil
  | xs :: rows, us, k, hl, h => by
    cases us with
    | nil => simp at hl
    | cons u us =>
      obtain ⟨h1, h2, h3⟩ := h 0 u xs rfl rfl
      refine .cons (.own h3 (Nat.le_refl _) (own_hs h1) fun _ => h2.symm) (ownsAV_reps (W := W) (lo := lo) rows us (k + 1) (by simpa using hl) fun i u' xs' g1 g2 => ?_)
      have := h (i + 1) u' xs' (by simpa using g1) (by simpa using g2)
      rwa [show k + 1 + i = k + (i + 1) by omega]
theorem OIs.at {W : World} {lo : Nat} {us : List Value} {rows : List (List Int)} (h : OIs W lo (us.zip rows)) {i : Nat} {u : Value} {xs : List Int} (h1 : us[i]? = some u) (h2 : rows[i]? = some xs) : OI W lo u xs := by
  refine h.1 (u, xs) ?_
  refine List.mem_of_getElem? (i := i) ?_
  rw [List.getElem?_zip_eq_some]; exact ⟨h1, h2⟩
theorem OIs.apartAt {W : World} {lo : Nat} {us : List Value} {rows : List (List Int)} (h : OIs W lo (us.zip rows)) (hl : us.length = rows.length) {i j : Nat} (hij : i < j) {u v : Value} (h1 : us[i]? = some u) (h2 : us[j]? = some v) : apart u v := by
  have hj := (List.getElem?_eq_some_iff.1 h2)
  have hi := (List.getElem?_eq_some_iff.1 h1)
  obtain ⟨hi1, hi2⟩ := hi
  obtain ⟨hj1, hj2⟩ := hj
  have := List.pairwise_iff_getElem.1 h.2 i j (by rw [List.length_zip]; omega) (by rw [List.length_zip]; omega) hij
  simp only [List.getElem_zip] at this
  rwa [hi2, hj2] at this
theorem Con0.okRows {P : Program} {f : FuncId} {C : Con0} (hent : ∀ args w, (callFunc f args).run P w = .ok (.enter f args) w)
    (h : ∀ args c x obs, C args = some (c, x, obs) → ok3 obs.length x = true ∧ ∃ rows : List (List Int), obs = rows.map (AO.row 3 .int) ∧ (c → ∀ w vs, Reps (cx0 w) args vs → Calls P f vs.toArray w fun en w' => ∃ us : List Value, us.length = rows.length ∧ OIs w' w.heap.size (us.zip rows) ∧ Below w.heap.size w w' ∧ ∃ v, en = .returned v ∧ ∀ (D : Cx) m, Reps D (ownsAV m 0 rows) us → Rep D (ren3 m x) v)) : (mk C).ok P f := DCon.lift_ok <| by
  have hmk : ∀ nid args c x objs, mkD C nid args = some (c, x, objs) → ∃ x0 obs, C args = some (c, x0, obs) ∧ x = ren3 (nid + ·) x0 ∧ objs = numb (nid + ·) obs := by
    intro nid args c x objs hm
    simp only [mkD, Option.map_eq_some_iff] at hm
    obtain ⟨⟨c', x0, obs⟩, h1, h2⟩ := hm
    cases h2
    exact ⟨x0, obs, h1, rfl, rfl⟩
  refine ⟨hent, fun nid args c x objs hm => ?_, fun nid args c x objs hm hc w vs hv => ?_⟩
  · obtain ⟨x0, obs, h1, rfl, rfl⟩ := hmk nid args c x objs hm
    obtain ⟨g1, rows, rfl, _⟩ := h args c x0 obs h1
    refine ⟨ok3_res g1, fun p hp => ?_⟩
    obtain ⟨i, ob, h3, rfl⟩ := numb_mem hp
    refine ⟨AO.ok_res (n := 0) ?_, Nat.le_add_right _ _⟩
    obtain ⟨xs, _, rfl⟩ := List.mem_map.1 (List.mem_of_getElem? h3)
    rfl
  · obtain ⟨x0, obs, h1, rfl, rfl⟩ := hmk nid args c x objs hm
    obtain ⟨g1, rows, rfl, hcall⟩ := h args c x0 obs h1
    refine (hcall hc w vs hv).mono ?_
    rintro en w' ⟨us, hl, hoi, hb, v, rfl, hv'⟩
    have hlive : ∀ o, (setE noObj (numb (nid + ·) (rows.map (AO.row 3 .int))) o).len ≠ none → ∃ i u xs, us[i]? = some u ∧ rows[i]? = some xs ∧ o = nid + i := by
      intro o ho
      obtain ⟨i, ob, h2, rfl⟩ := numb_live ho
      rw [List.getElem?_map, Option.map_eq_some_iff] at h2
      obtain ⟨xs, h3, rfl⟩ := h2
      have hi := (List.getElem?_eq_some_iff.1 h3).1
      exact ⟨i, us[i]'(by omega), xs, List.getElem?_eq_getElem _, h3, rfl⟩
    have hobj : ∀ i xs, rows[i]? = some xs → setE noObj (numb (nid + ·) (rows.map (AO.row 3 .int))) (nid + i) = .row 3 .int xs := by
      intro i xs hi
      rw [numb_obj (ob := .row 3 .int xs) (by rw [List.getElem?_map, hi]; rfl)]; rfl
    have hgetD : ∀ i u, us[i]? = some u → us.getD (nid + i - nid) (.bool false) = u := by
      intro i u hi
      rw [Nat.add_sub_cancel_left, List.getD_eq_getElem?_getD, hi]; rfl
    refine ⟨v, fun o => us.getD (o - nid) (.bool false), fun o => (us.getD (o - nid) (.bool false)).ownBlock.toList, rfl, ⟨hb, fun o => ?_, fun o b ho hbo => ?_, fun o o' b ho ho' hbo hbo' => ?_, fun o ho => ?_, fun t x hx => (by cases hx), rfl⟩, hv' _ _ (ownsAV_reps rows us 0 hl fun i u xs g1 g2 => ⟨hoi.at g1 g2, ?_, ?_⟩)⟩
    · by_cases ho : (setE noObj (numb (nid + ·) (rows.map (AO.row 3 .int))) o).len = none
      · cases he : setE noObj (numb (nid + ·) (rows.map (AO.row 3 .int))) o with
        | dead => trivial
        | _ => rw [he] at ho; simp [AO.len] at ho
      · obtain ⟨i, u, xs, e1, e2, rfl⟩ := hlive o ho
        rw [hobj i xs e2, hgetD i u e1]
        refine (ownL_flat (t := .int) rfl).2 ⟨?_, rfl⟩
        have := hoi.at e1 e2
        unfold OI at this
        rw [flat_ints]; exact this
    · obtain ⟨i, u, xs, e1, e2, rfl⟩ := hlive o ho
      simp only [hgetD i u e1, Option.mem_toList] at hbo
      exact (hoi.at e1 e2).lt b hbo
    · obtain ⟨i, u, xs, e1, e2, rfl⟩ := hlive o ho
      obtain ⟨j, u', xs', e1', e2', rfl⟩ := hlive o' ho'
      simp only [hgetD i u e1, Option.mem_toList] at hbo
      simp only [hgetD j u' e1', Option.mem_toList] at hbo'
      rcases Nat.lt_trichotomy i j with hij | rfl | hij
      · rcases hoi.apartAt hl hij e1 e1' with hh | hh
        · rw [hbo] at hh; cases hh
        · exact absurd (hbo.trans hbo'.symm) hh
      · rfl
      · rcases hoi.apartAt hl hij e1' e1 with hh | hh
        · rw [hbo'] at hh; cases hh
        · exact absurd (hbo'.trans hbo.symm) hh
    · cases (us.getD (o - nid) (.bool false)).ownBlock <;> simp
    · show us.getD (nid + (0 + i) - nid) _ = u
      rw [Nat.zero_add]; exact hgetD i u g1
    · show (setE noObj _ (nid + (0 + i))).len = _
      rw [Nat.zero_add, hobj i xs g2]; rfl
/-! marks -/
def rowsI (h : Nat → AO) : List (Nat × Nat) → Option (Prop × List (List Int))
  | [] => some (True, [])
  | (o, n) :: l => match h o, rowsI h l with
    | .row e .int xs, some (c, r) => some ((e = 3 ∧ n = xs.length) ∧ c, xs :: r)
    | _, _ => none
def markTot : Int → List (List Int) → Int
  | k, [] => k
  | k, xs :: r => markTot (k + xs.length) r
def markNew : Int → List (List Int) → List (List Int)
  | _, [] => []
  | k, xs :: r => marks k xs.length :: markNew (k + xs.length) r
def markEff : Int → List (Nat × Nat) → List (List Int) → List (Nat × AO)
  | k, (o, _) :: l, xs :: r => (o, .row 3 .int (marks k xs.length)) :: markEff (k + xs.length) l r
  | _, _, _ => []
theorem rowsI_congr {h h' : Nat → AO} : ∀ {l : List (Nat × Nat)} {r : Prop × List (List Int)}, rowsI h l = some r → (∀ o ∈ l.map (·.1), h o = h' o) → rowsI h' l = some r
  | [], r, hs, _ => hs
  | (o, n) :: l, r, hs, hh => by
    unfold rowsI at hs ⊢
    split at hs
    · rename_i e xs c r' h1 h2
      cases hs
      rw [← hh o (by simp), h1, rowsI_congr h2 (fun o' ho => hh o' (by simp at ho ⊢; exact .inr ho))]
    · cases hs
def Con.mark (sel : List AV → Option (List (Nat × Nat) × Int)) : Con where
  run _ h args := match sel args with
    | some (ids, k) => if (ids.map (·.1)).Nodup then match rowsI h ids with
      | some (c, xss) => some (c ∧ (0 ≤ k ∧ k ≤ 1000000000000) ∧ (∀ xs ∈ xss, xs.length ≤ 35184372088832), .lit (.int .i64 (markTot k xss)), markEff k ids xss, ids.map (·.1))
      | none => none
      else none
    | none => none
  congr nid h h' args r hs hh := by
    revert hs
    cases he : sel args with
    | none => intro hs; cases hs
    | some q =>
      obtain ⟨ids, k⟩ := q
      dsimp only
      by_cases hn : (ids.map (·.1)).Nodup
      · rw [if_pos hn, if_pos hn]
        cases hr : rowsI h ids with
        | none => intro hs; cases hs
        | some q =>
          obtain ⟨c, xss⟩ := q
          intro hs
          cases hs
          rw [rowsI_congr hr hh]
      · rw [if_neg hn]; intro hs; cases hs
section
variable {w0 : World} {get : Nat → Option AV} {obj : Nat → AO} {a : Act} {W : World} {ρ : Nat → Value} {β : Nat → List Nat}
theorem rowsI_sound (h : RelW w0 get obj a W ρ β) : ∀ (ids : List (Nat × Nat)) (us : List Value) (c : Prop) (xss : List (List Int)), rowsI obj ids = some (c, xss) → c → Reps (cxOf obj W ρ β) (ids.map fun p => .own p.1 p.2) us →
    us = ids.map (fun p => ρ p.1) ∧ xss.length = ids.length ∧ ∀ (i : Nat) p xs, ids[i]? = some p → xss[i]? = some xs → obj p.1 = .row 3 .int xs ∧ OI W w0.heap.size (ρ p.1) xs ∧ β p.1 = (ρ p.1).ownBlock.toList
  | [], us, c, xss, hm, hc, hr => by
    cases hm
    have : us = [] := hr.nil_of
    subst this
    exact ⟨rfl, rfl, fun i p xs h => by simp at h⟩
  | (o, n) :: ids, us, c, xss, hm, hc, hr => by
    unfold rowsI at hm
    split at hm
    · rename_i e xs c' r' h1 h2
      cases hm
      obtain ⟨⟨rfl, hn⟩, hc⟩ := hc
      obtain ⟨u, us, rfl, g1, g2⟩ := Reps.cons_of hr
      obtain ⟨rfl, k1, k2⟩ := rowsI_sound h ids us c' r' h2 hc g2
      obtain ⟨rfl, hown⟩ := h.whole h1 hn g1
      refine ⟨rfl, by simp [k1], fun i p xs' e1 e2 => ?_⟩
      cases i with
      | zero =>
        simp at e1 e2; subst e1 e2
        obtain ⟨f1, f2⟩ := (ownL_flat (t := .int) rfl).1 hown
        rw [flat_ints] at f1
        exact ⟨h1, f1, f2⟩
      | succ i => exact k2 i p xs' (by simpa using e1) (by simpa using e2)
    · cases hm
theorem markNew_len : ∀ (xss : List (List Int)) (k : Int), (markNew k xss).length = xss.length
  | [], _ => rfl
  | xs :: r, k => by simp only [markNew, List.length_cons, markNew_len r]
theorem markNew_at : ∀ (xss : List (List Int)) (k : Int) (i : Nat) (xs : List Int), xss[i]? = some xs → ∃ ys, (markNew k xss)[i]? = some ys ∧ ys.length = xs.length
  | [], _, i, xs, h => by simp at h
  | x :: r, k, 0, xs, h => by
    simp at h; subst h
    exact ⟨_, rfl, marks_len _ _⟩
  | x :: r, k, i + 1, xs, h => by
    obtain ⟨ys, h1, h2⟩ := markNew_at r (k + x.length) i xs (by simpa using h)
    exact ⟨ys, by simpa [markNew] using h1, h2⟩
theorem markEff_mem : ∀ (ids : List (Nat × Nat)) (xss : List (List Int)) (k : Int) (p : Nat × AO), p ∈ markEff k ids xss → ∃ (i : Nat) (q : Nat × Nat) (ys : List Int), ids[i]? = some q ∧ (markNew k xss)[i]? = some ys ∧ p = (q.1, .row 3 .int ys)
  | [], xss, k, p, h => by simp [markEff] at h
  | q :: ids, [], k, p, h => by simp [markEff] at h
  | q :: ids, xs :: xss, k, p, h => by
    simp only [markEff, List.mem_cons] at h
    rcases h with rfl | h
    · exact ⟨0, q, _, rfl, rfl, rfl⟩
    · obtain ⟨i, q', ys, h1, h2, h3⟩ := markEff_mem ids xss _ p h
      exact ⟨i + 1, q', ys, by simpa using h1, by simpa [markNew] using h2, h3⟩
theorem markEff_all : ∀ (ids : List (Nat × Nat)) (xss : List (List Int)) (k : Int), xss.length = ids.length → ∀ q ∈ ids, ∃ p ∈ markEff k ids xss, p.1 = q.1
  | [], xss, k, hl, q, h => by simp at h
  | q' :: ids, [], k, hl, q, h => by simp at hl
  | q' :: ids, xs :: xss, k, hl, q, h => by
    simp only [List.mem_cons] at h
    rcases h with rfl | h
    · exact ⟨_, List.mem_cons_self .., rfl⟩
    · obtain ⟨p, h1, h2⟩ := markEff_all ids xss (k + xs.length) (by simpa using hl) q h
      exact ⟨p, List.mem_cons_of_mem _ h1, h2⟩
theorem Con.mark_ok {P : Program} {f : FuncId} {sel : List AV → Option (List (Nat × Nat) × Int)} (hent : ∀ args w, (callFunc f args).run P w = .ok (.enter f args) w)
    (hsel : ∀ args ids k, sel args = some (ids, k) → ∀ D vs, Reps D args vs → ∃ us, Reps D (ids.map fun p => .own p.1 p.2) us ∧ ∀ lo w (xss : List (List Int)), OIs w lo (us.zip xss) → us.length = xss.length → lo ≤ w.heap.size → 0 ≤ k → k ≤ 1000000000000 → (∀ xs ∈ xss, xs.length ≤ 35184372088832) → Calls P f vs.toArray w fun en w' => en = .returned (.int .i64 (markTot k xss)) ∧ OIs w' lo (us.zip (markNew k xss)) ∧ Touch us w w') : (Con.mark sel).ok P f := by
  refine ⟨hent, fun w0 get obj a W ρ β h nid args c x eff tch hm hc vs hv => ?_⟩
  simp only [Con.mark] at hm
  split at hm
  rotate_left
  · cases hm
  rename_i ids k hs
  split at hm
  rotate_left
  · cases hm
  rename_i hnd
  split at hm
  rotate_left
  · cases hm
  rename_i c' xss hr
  cases hm
  obtain ⟨us, h1, h2⟩ := hsel args ids k hs _ vs hv
  obtain ⟨hc', hk, hlen⟩ := hc
  obtain ⟨rfl, k1, k2⟩ := rowsI_sound h ids us c' xss hr hc' h1
  have hlu : (ids.map fun p => ρ p.1).length = xss.length := by simp [k1]
  have hat : ∀ (i : Nat) (p : Nat × Nat), ids[i]? = some p → ∃ xs, xss[i]? = some xs ∧ obj p.1 = .row 3 .int xs ∧ OI W w0.heap.size (ρ p.1) xs ∧ β p.1 = (ρ p.1).ownBlock.toList := by
    intro i p hi
    have hlt := (List.getElem?_eq_some_iff.1 hi).1
    have e : xss[i]? = some (xss[i]'(by omega)) := List.getElem?_eq_getElem _
    exact ⟨_, e, k2 i p _ hi e⟩
  have hoi : OIs W w0.heap.size ((ids.map fun p => ρ p.1).zip xss) := by
    refine ⟨fun r hrm => ?_, List.pairwise_iff_getElem.2 fun i j hi hj hij => ?_⟩
    · obtain ⟨i, hi⟩ := List.mem_iff_getElem?.1 hrm
      obtain ⟨g1, g2⟩ := List.getElem?_zip_eq_some.1 hi
      rw [List.getElem?_map, Option.map_eq_some_iff] at g1
      obtain ⟨p, g3, g4⟩ := g1
      rw [← g4]
      exact (k2 i p _ g3 g2).2.1
    · rw [List.length_zip] at hi hj
      simp only [List.getElem_zip, List.getElem_map]
      have hil : i < ids.length := by simp at hi; omega
      have hjl : j < ids.length := by simp at hj; omega
      obtain ⟨xs, _, f1, f2, f3⟩ := hat i ids[i] (List.getElem?_eq_getElem hil)
      obtain ⟨ys, _, f1', f2', f3'⟩ := hat j ids[j] (List.getElem?_eq_getElem hjl)
      unfold apart
      cases hb : (ρ ids[i].1).ownBlock with
      | none => exact .inl rfl
      | some b =>
        refine .inr fun e => ?_
        have e1 := h.apart ids[i].1 ids[j].1 b (by rw [f1]; simp [AO.len]) (by rw [f1']; simp [AO.len]) (by rw [f3, hb]; simp) (by rw [f3', ← e]; simp)
        have := List.pairwise_iff_getElem.1 hnd i j (by simpa using hil) (by simpa using hjl) hij
        simp only [List.getElem_map] at this
        exact this e1
  refine (h2 _ W xss hoi hlu h.below.size hk.1 hk.2 hlen).mono ?_
  rintro en w' ⟨rfl, ho', ht⟩
  have htouch := h.touch (l := markEff k ids xss) (W' := w') (fun p hp => by
    obtain ⟨i, q, ys, e1, e2, rfl⟩ := markEff_mem ids xss k p hp
    obtain ⟨xs, e3, f1, f2, f3⟩ := hat i q e1
    obtain ⟨ys', e4, e5⟩ := markNew_at xss k i xs e3
    rw [e2] at e4; injection e4 with e4; subst e4
    refine ⟨⟨_, .int, ys, rfl, (ownL_flat (t := .int) rfl).2 ⟨?_, f3⟩⟩, xs.length, by rw [f1]; rfl, by simp only [AO.len]; rw [e5]⟩
    rw [flat_ints]
    exact ho'.at (by rw [List.getElem?_map, e1]; rfl) e2) ht (fun b hb hnb => ht.block b hb fun v hv e => by
      obtain ⟨q, hq, rfl⟩ := List.mem_map.1 hv
      obtain ⟨p, hp1, hp2⟩ := markEff_all ids xss k k1 q hq
      obtain ⟨i, hi⟩ := List.mem_iff_getElem?.1 hq
      obtain ⟨xs, _, _, _, f3⟩ := hat i q hi
      refine hnb p hp1 ?_
      rw [hp2, f3, e]; simp)
  exact ⟨_, ρ, β, rfl, .lit _, htouch.2⟩
end
end Go.Proofs.Ytljlimlgdnbllaa
