import Derived.Test.YtgnnmifpfgpllaaZAH
import Derived.Test.YtgnnmifpfgpllaaZRel
/- Abstract walks: parts 9, 10, 11, 12. -/
/- Calls by contract, on abstract states. -/
set_option linter.all false
set_option linter.unusedVariables false
set_option linter.unusedSimpArgs false
namespace Go.Proofs.Ytgnnmifpfgpllaa
open Go.RowKit
/-- a context without objects of its own -/
@[reducible] def cx0 (w : World) : Cx := ⟨w, fun b => b < w.heap.size, fun _ => .bool false, fun _ => none⟩
theorem Ty.own_rep {W : World} {lo : Nat} : ∀ (t : Ty) (_ : 0 < t.sz ∨ True) (x : t.den) (us : List Value) (bs : List Nat), t.own W lo x us bs → t.rep W (fun b => b < W.heap.size) x us
  | .int, _, _, _, _, h => h.1
  | .bool, _, _, _, _, h => h.1
  | .str, _, _, _, _, h => h.1
  | .pair a b, _, x, us, bs, ⟨u1, u2, b1, b2, e1, e2, h1, h2⟩ => ⟨u1, u2, e1, Ty.own_rep a (.inr trivial) x.1 u1 b1 h1, Ty.own_rep b (.inr trivial) x.2 u2 b2 h2⟩
  | .list t, _, xs, us, bs, ⟨v, e, e1, cells, bss, h1, h2, h3, h4, h5⟩ => by
    obtain ⟨A, c, g1, g2, g3⟩ := own_hs h4
    refine ⟨A, c, by rw [e1, g1], g2, ?_, fun hn => ?_⟩
    · rcases h4.2 with ⟨_, hz⟩ | ⟨g, cap, cur, _, _, _, k1, k2, _⟩
      · omega
      · unfold maxLen at k2; omega
    · obtain ⟨g, rfl⟩ := g3 hn
      subst g1
      have hcell := h4.cells (g := g) rfl
      have hlt := h4.lt g rfl
      refine ⟨_, rfl, hlt.2, fun k x hx => ?_⟩
      have hk : k < xs.length := (List.getElem?_eq_some_iff.1 hx).1
      have hown := h3 k x (cells[k]'(by omega)) (bss[k]'(by omega)) hx (List.getElem?_eq_getElem _) (List.getElem?_eq_getElem _)
      have hrep := Ty.own_rep t (.inr trivial) x _ _ hown
      refine ⟨_, hrep, fun j u hu => hcell _ u ?_⟩
      have hj : j < t.sz := by
        have := (List.getElem?_eq_some_iff.1 hu).1
        rwa [Ty.rep_len t _ _ hrep] at this
      have hall : ∀ r ∈ cells, r.length = t.sz := by
        intro r hr
        obtain ⟨k', hk', rfl⟩ := List.getElem_of_mem hr
        have := h3 k' (xs[k']'(by omega)) cells[k'] (bss[k']'(by omega)) (List.getElem?_eq_getElem _) (List.getElem?_eq_getElem hk') (List.getElem?_eq_getElem _)
        exact Ty.rep_len t _ _ (Ty.own_rep t (.inr trivial) _ _ _ this)
      rw [flatten_get cells hall k j (by omega) hj]; exact hu
theorem ownL_rep {W : World} {lo : Nat} {e : TypeId} {t : Ty} {xs : List t.den} {v : Value} {bs : List Nat} (h : ownL W lo e t xs v bs) : (Ty.list t).rep W (fun b => b < W.heap.size) xs [v] := by
  obtain ⟨cells, bss, h1, h2, h3, h4, h5⟩ := h
  exact Ty.own_rep (.list t) (.inr trivial) xs [v] bs ⟨v, e, rfl, cells, bss, h1, h2, h3, h4, h5⟩
/-- int lists in a row of slices -/
def mixInts (h : Nat → AO) : List (List AV) → Option (Prop × List (List Int) × List Nat)
  | [] => some (True, [], [])
  | [.own o n] :: r => match h o, mixInts h r with
    | .row _ .int xs, some (c, l, tc) => some (n = xs.length ∧ c, xs :: l, o :: tc)
    | _, _ => none
  | [.sl .int xs] :: r => match mixInts h r with
    | some (c, l, tc) => some (c, xs :: l, tc)
    | _ => none
  | _ => none
theorem Ty.cells_len : ∀ (t : Ty) (x : t.den), (t.cells x).length = t.sz
  | .int, _ => rfl
  | .bool, _ => rfl
  | .str, _ => rfl
  | .list _, _ => rfl
  | .pair a b, x => by simp only [Ty.cells, List.length_append, Ty.cells_len a, Ty.cells_len b, Ty.sz]
theorem Ty.rep_cells {C : Cx} : ∀ (t : Ty) (x : t.den) (us : List Value), Reps C (t.cells x) us → t.rep C.W C.I x us
  | .int, x, us, h => by obtain ⟨u, us', rfl, h1, h2⟩ := Reps.cons_of h; rw [h2.nil_of, h1.lit_eq]; rfl
  | .bool, x, us, h => by obtain ⟨u, us', rfl, h1, h2⟩ := Reps.cons_of h; rw [h2.nil_of, h1.lit_eq]; rfl
  | .str, x, us, h => by obtain ⟨u, us', rfl, h1, h2⟩ := Reps.cons_of h; rw [h2.nil_of, h1.lit_eq]; rfl
  | .pair a b, x, us, h => by
    have h1 := Reps.take h (a.cells x.1).length
    have h2 := Reps.drop h (a.cells x.1).length
    simp only [Ty.cells, List.take_left, List.drop_left] at h1 h2
    exact ⟨_, _, (List.take_append_drop (a.cells x.1).length us).symm, Ty.rep_cells a x.1 _ h1, Ty.rep_cells b x.2 _ h2⟩
  | .list t, xs, us, h => by obtain ⟨u, us', rfl, h1, h2⟩ := Reps.cons_of h; rw [h2.nil_of]; exact h1.sl_of
theorem lst_rep {obj : Nat → AO} {W : World} {ρ : Nat → Value} {β : Nat → List Nat} {lo : Nat} {e : TypeId} {t : Ty} {xs : List t.den} {v : Value} {bs : List Nat} (h : (AO.lst e t xs).own (cxOf obj W ρ β) lo v bs) : (Ty.list t).rep W (fun b => b < W.heap.size) xs [v] := by
  obtain ⟨us, h4, h5, _⟩ := h
  obtain ⟨A, c, g1, g2, g3⟩ := own_hs h4
  refine ⟨A, c, by rw [g1], g2, ?_, fun hn => ?_⟩
  · rcases h4.2 with ⟨_, hz⟩ | ⟨g, cap, cur, _, _, _, k1, k2, _⟩
    · omega
    · unfold maxLen at k2; omega
  · obtain ⟨g, rfl⟩ := g3 hn
    subst g1
    have hcell := h4.cells (g := g) rfl
    have hlt := h4.lt g rfl
    have hul : us.length = (xs.map t.cells).flatten.length := h5.1
    have hcl : ∀ r ∈ xs.map t.cells, r.length = t.sz := by
      intro r hr
      obtain ⟨x, _, rfl⟩ := List.mem_map.1 hr
      exact Ty.cells_len t x
    refine ⟨_, rfl, hlt.2, fun k x hx => ?_⟩
    have hk : k < xs.length := (List.getElem?_eq_some_iff.1 hx).1
    have hseg : Reps (cxOf obj W ρ β) (t.cells x) ((us.drop (k * t.sz)).take t.sz) := by
      refine ⟨?_, fun j c u hc hu => ?_⟩
      · have hfl : (xs.map t.cells).flatten.length = xs.length * t.sz := by
          rw [List.length_flatten]
          have : ∀ ys : List t.den, (ys.map t.cells).map List.length = List.replicate ys.length t.sz := by
            intro ys; induction ys with
            | nil => rfl
            | cons y ys ih => simp only [List.map_cons, ih, Ty.cells_len, List.length_cons, List.replicate_succ]
          rw [this]; simp
        rw [List.length_take, List.length_drop, hul, hfl, Ty.cells_len]
        have : (k + 1) * t.sz ≤ xs.length * t.sz := Nat.mul_le_mul_right _ hk
        rw [Nat.succ_mul] at this
        omega
      · have hj : j < t.sz := by
          have := (List.getElem?_eq_some_iff.1 hc).1
          rwa [Ty.cells_len] at this
        rw [List.getElem?_take, if_pos hj, List.getElem?_drop] at hu
        refine h5.2 (k * t.sz + j) c u ?_ hu
        have hk' : k < (xs.map t.cells).length := by simpa using hk
        rw [flatten_get (xs.map t.cells) hcl k j hk' hj]
        have hx' : (xs.map t.cells)[k] = t.cells x := by
          rw [List.getElem_map]
          rw [List.getElem?_eq_getElem hk] at hx
          injection hx with hx; rw [hx]
        rw [hx']; exact hc
    have hrep := Ty.rep_cells t x _ hseg
    refine ⟨_, Ty.rep_mono (fun b hb => hb.1) (fun _ _ => rfl) _ _ _ hrep, fun j u hu => hcell _ u ?_⟩
    have hj : j < t.sz := by
      have := (List.getElem?_eq_some_iff.1 hu).1
      rw [List.length_take] at this; omega
    rw [List.getElem?_take, if_pos hj, List.getElem?_drop] at hu
    exact hu
def AV.plain : AV → Bool
  | .lit _ => true
  | .sl _ _ => true
  | _ => false
/-- an argument's cell as the callee reads it -/
def deep1 (h : Nat → AO) : AV → Option (Prop × AV × List Nat)
  | .own o n => match h o with
    | .row _ t xs => some (n = xs.length, .sl t xs, [o])
    | .mix _ _ rows => (mixInts h rows).map fun r => (n = rows.length ∧ r.1, .sl (.list .int) r.2.1, o :: r.2.2)
    | .lst _ t xs => some (n = xs.length, .sl t xs, [o])
    | _ => none
  | .lit v => some (True, .lit v, [])
  | .sl t xs => some (True, .sl t xs, [])
  | .rp cs => if cs.all AV.plain = true then some (True, .rp cs, []) else none
  | _ => none
def deeps (h : Nat → AO) : List AV → Option (Prop × List AV × List Nat)
  | [] => some (True, [], [])
  | x :: l => match deep1 h x, deeps h l with
    | some (c, y, tc), some (c', l', tc') => some (c ∧ c', y :: l', tc ++ tc')
    | _, _ => none
def deep2 (h : Nat → AO) : AV → Option (Prop × AV × List Nat)
  | .agg cs => (deeps h cs).map fun r => (r.1, .agg r.2.1, r.2.2)
  | .box o off => match h o with
    | .box _ cs => (deeps h (cs.drop off)).map fun r => (r.1, .rp r.2.1, o :: r.2.2)
    | _ => none
  | x => deep1 h x
def deeps2 (h : Nat → AO) : List AV → Option (Prop × List AV × List Nat)
  | [] => some (True, [], [])
  | x :: l => match deep2 h x, deeps2 h l with
    | some (c, y, tc), some (c', l', tc') => some (c ∧ c', y :: l', tc ++ tc')
    | _, _ => none
/-- an argument as the callee reads it; a closure with what it holds -/
def deep3 (h : Nat → AO) : AV → Option (Prop × AV × List Nat)
  | .fn f cs => (deeps2 h cs).map fun r => (r.1, .fn f r.2.1, r.2.2)
  | x => deep2 h x
def deeps3 (h : Nat → AO) : List AV → Option (Prop × List AV × List Nat)
  | [] => some (True, [], [])
  | x :: l => match deep3 h x, deeps3 h l with
    | some (c, y, tc), some (c', l', tc') => some (c ∧ c', y :: l', tc ++ tc')
    | _, _ => none
section
variable {w0 : World} {get : Nat → Option AV} {obj : Nat → AO} {a : Act} {W : World} {ρ : Nat → Value} {β : Nat → List Nat}
theorem mixInts_sound (h : RelW w0 get obj a W ρ β) : ∀ (rows : List (List AV)) (us : List Value) (c : Prop) (l : List (List Int)) (tc : List Nat), mixInts obj rows = some (c, l, tc) → c → Reps (cxOf obj W ρ β) rows.flatten us →
    l.length = rows.length ∧ us.length = l.length ∧ ∀ (k : Nat) xs u, l[k]? = some xs → us[k]? = some u → (Ty.list .int).rep W (fun b => b < W.heap.size) xs [u]
  | [], us, c, l, tc, hm, hc, hr => by
    simp only [mixInts, Option.some.injEq, Prod.mk.injEq] at hm
    obtain ⟨_, rfl, _⟩ := hm
    have : us = [] := hr.nil_of
    subst this
    exact ⟨rfl, rfl, fun k xs u h => by simp at h⟩
  | r :: rows, us, c, l, tc, hm, hc, hr => by
    unfold mixInts at hm
    split at hm
    · rename_i e; cases e
    · rename_i o n r' e
      cases e
      split at hm
      · rename_i e t xs c' l' tc' hob hrec
        cases hm
        simp only [List.flatten_cons, List.cons_append, List.nil_append] at hr
        obtain ⟨u, us', rfl, h1, h2⟩ := hr.cons_of
        obtain ⟨g1, g2, g3⟩ := mixInts_sound h rows us' c' l' tc' hrec hc.2 h2
        refine ⟨by simp [g1], by simp [g2], fun k xs u hx hu => ?_⟩
        cases k with
        | zero =>
          simp at hx hu; subst hx hu
          have ho := h.objs o
          rw [hob] at ho
          cases h1 with
          | own f1 f2 f3 f4 =>
            have e1 := f4 (by
              have : (obj o).len = some _ := f1
              rw [hob] at this; simp [AO.len] at this; rw [hc.1]; exact this)
            rw [e1]
            exact ownL_rep ho
        | succ k => exact g3 k xs u (by simpa using hx) (by simpa using hu)
      · cases hm
    · rename_i xs r' e
      cases e
      split at hm
      · rename_i c' l' tc' hrec
        cases hm
        simp only [List.flatten_cons, List.cons_append, List.nil_append] at hr
        obtain ⟨u, us', rfl, h1, h2⟩ := hr.cons_of
        obtain ⟨g1, g2, g3⟩ := mixInts_sound h rows us' c l' tc hrec hc h2
        refine ⟨by simp [g1], by simp [g2], fun k xs u hx hu => ?_⟩
        cases k with
        | zero =>
          simp at hx hu; subst hx hu
          exact Ty.rep_mono (fun b hb => hb.1) (fun p _ => rfl) _ _ _ h1.sl_of
        | succ k => exact g3 k xs u (by simpa using hx) (by simpa using hu)
      · cases hm
    · cases hm
theorem plain_le {C C' : Cx} (hI : ∀ b, C.I b → C'.I b) (hW : C'.W = C.W) {x : AV} (hx : x.plain = true) {u : Value} (h : Rep C x u) : Rep C' x u := by
  cases h with
  | lit => exact .lit _
  | sl h1 => exact .sl (Ty.rep_mono hI (fun p _ => by rw [hW]) _ _ _ h1)
  | _ => simp [AV.plain] at hx
theorem deep1_sound (h : RelW w0 get obj a W ρ β) {x y : AV} {c : Prop} {tc : List Nat} (hd : deep1 obj x = some (c, y, tc)) (hc : c) {u : Value} (hr : Rep (cxOf obj W ρ β) x u) : Rep (cx0 W) y u := by
  unfold deep1 at hd
  split at hd
  · rename_i o n
    have ho := h.objs o
    split at hd
    · rename_i e t xs hob
      cases hd
      rw [hob] at ho
      cases hr with
      | own f1 f2 f3 f4 =>
        have e1 := f4 (by
          have : (obj o).len = some _ := f1
          rw [hob] at this; simp [AO.len] at this; rw [hc]; exact this)
        rw [e1]
        exact .sl (ownL_rep ho)
    · rename_i e sz rows hob
      cases hm : mixInts obj rows with
      | none => rw [hm] at hd; cases hd
      | some r =>
        obtain ⟨c', l, tc'⟩ := r
        rw [hm] at hd; cases hd
        rw [hob] at ho
        obtain ⟨us, k1, k2, k3, k4⟩ := ho
        obtain ⟨g1, g2, g3⟩ := mixInts_sound h rows us c' l tc' hm hc.2 k2
        cases hr with
        | own f1 f2 f3 f4 =>
          have e1 := f4 (by
            have : (obj o).len = some _ := f1
            rw [hob] at this; simp [AO.len] at this; rw [hc.1]; exact this)
          have e2 : u = ρ o := e1
          subst e2
          refine .sl ?_
          obtain ⟨A, cp, h1, h2, h3⟩ := own_hs k1
          rw [← g1] at h1 h2 h3
          refine ⟨A, cp, by rw [h1], h2, ?_, fun hn => ?_⟩
          · show l.length ≤ _
            rcases k1.2 with ⟨_, hz⟩ | ⟨g, cap, cur, _, _, _, j1, j2, _⟩
            · omega
            · unfold maxLen at j2; omega
          · obtain ⟨g, rfl⟩ := h3 hn
            have hb : (ρ o).ownBlock = some g := by rw [h1]; rfl
            have hcell := k1.cells hb
            refine ⟨_, rfl, (k1.lt g hb).2, fun k x hx => ?_⟩
            have hk : k < us.length := by rw [g2]; exact (List.getElem?_eq_some_iff.1 hx).1
            refine ⟨[us[k]], g3 k x _ hx (List.getElem?_eq_getElem hk), fun j u hu => ?_⟩
            cases j with
            | zero =>
              simp at hu; subst hu
              have := hcell k _ (List.getElem?_eq_getElem hk)
              simpa using this
            | succ j => simp at hu
    · rename_i e t xs hob
      cases hd
      rw [hob] at ho
      cases hr with
      | own f1 f2 f3 f4 =>
        have e1 := f4 (by
          have : (obj o).len = some _ := f1
          rw [hob] at this; simp [AO.len] at this; rw [hc]; exact this)
        rw [e1]
        exact .sl (lst_rep ho)
    · cases hd
  · cases hd; rw [hr.lit_eq]; exact .lit _
  · cases hd; exact .sl (Ty.rep_mono (fun b hb => hb.1) (fun p _ => rfl) _ _ _ hr.sl_of)
  · rename_i cs
    split at hd
    · rename_i hp
      cases hd
      cases hr with
      | @rp _ ad us hI hcc hrr =>
        exact .rp us (fun hne => (hI hne).1) hcc (fun j c hj => plain_le (C := cxOf obj W ρ β) (C' := cx0 W) (fun b hb => hb.1) rfl (List.all_eq_true.1 hp c (List.mem_of_getElem? hj)) (hrr j c hj))
    · cases hd
  · cases hd
theorem deeps_sound (h : RelW w0 get obj a W ρ β) : ∀ (cs : List AV) {c : Prop} {ys : List AV} {tc : List Nat} (_ : deeps obj cs = some (c, ys, tc)) (_ : c) {us : List Value} (_ : Reps (cxOf obj W ρ β) cs us), Reps (cx0 W) ys us
  | [], c, ys, tc, hd, hc, us, hr => by
    cases hd
    rw [hr.nil_of]; exact .nil
  | x :: l, c, ys, tc, hd, hc, us, hr => by
    simp only [deeps] at hd
    split at hd
    · rename_i c1 y tc1 c2 l' tc2 e1 e2
      cases hd
      obtain ⟨u, us', rfl, h1, h2⟩ := hr.cons_of
      exact .cons (deep1_sound h e1 hc.1 h1) (deeps_sound h l e2 hc.2 h2)
    · cases hd
theorem deep2_sound (h : RelW w0 get obj a W ρ β) {x y : AV} {c : Prop} {tc : List Nat} (hd : deep2 obj x = some (c, y, tc)) (hc : c) {u : Value} (hr : Rep (cxOf obj W ρ β) x u) : Rep (cx0 W) y u := by
  unfold deep2 at hd
  split at hd
  · rename_i cs
    cases hm : deeps obj cs with
    | none => rw [hm] at hd; cases hd
    | some r =>
      obtain ⟨c', l, tc'⟩ := r
      rw [hm] at hd; cases hd
      obtain ⟨us, rfl, h1⟩ := hr.agg_of
      have := deeps_sound h cs hm hc h1
      exact .agg this.1 this.2
  · rename_i o off
    split at hd
    · rename_i e cs hob
      cases hm : deeps obj (cs.drop off) with
      | none => rw [hm] at hd; cases hd
      | some r =>
        obtain ⟨c', l, tc'⟩ := r
        rw [hm] at hd; cases hd
        obtain ⟨b, us, rfl, h2, h3, h4, h5⟩ := h.boxAt hob hr
        have hrep := deeps_sound h _ hm hc (h4.drop off)
        have hcell := h3.cells (g := b) rfl
        refine .rp (fun j => (us.drop off).getD j undef) (fun _ => (h3.lt b rfl).2) (fun j hj => ?_) (fun j c hj => ?_)
        · have hj' : j < (us.drop off).length := by rw [hrep.1]; exact hj
          rw [List.getD_eq_getElem?_getD, List.getElem?_eq_getElem hj', Option.getD_some]
          have := hcell (off + j) (us.drop off)[j] (by rw [← List.getElem?_drop, List.getElem?_eq_getElem hj'])
          rw [Addr.add_lit, Nat.zero_add] at this
          rw [Addr.add_lit]; exact this
        · have hj' : j < (us.drop off).length := by rw [hrep.1]; exact (List.getElem?_eq_some_iff.1 hj).1
          rw [List.getD_eq_getElem?_getD, List.getElem?_eq_getElem hj', Option.getD_some]
          exact hrep.2 j c _ hj (List.getElem?_eq_getElem hj')
    · cases hd
  · exact deep1_sound h hd hc hr
theorem deeps2_sound (h : RelW w0 get obj a W ρ β) : ∀ (cs : List AV) {c : Prop} {ys : List AV} {tc : List Nat} (_ : deeps2 obj cs = some (c, ys, tc)) (_ : c) {us : List Value} (_ : Reps (cxOf obj W ρ β) cs us), Reps (cx0 W) ys us
  | [], c, ys, tc, hd, hc, us, hr => by
    cases hd
    rw [hr.nil_of]; exact .nil
  | x :: l, c, ys, tc, hd, hc, us, hr => by
    simp only [deeps2] at hd
    split at hd
    · rename_i c1 y tc1 c2 l' tc2 e1 e2
      cases hd
      obtain ⟨u, us', rfl, h1, h2⟩ := hr.cons_of
      exact .cons (deep2_sound h e1 hc.1 h1) (deeps2_sound h l e2 hc.2 h2)
    · cases hd
theorem deep3_sound (h : RelW w0 get obj a W ρ β) {x y : AV} {c : Prop} {tc : List Nat} (hd : deep3 obj x = some (c, y, tc)) (hc : c) {u : Value} (hr : Rep (cxOf obj W ρ β) x u) : Rep (cx0 W) y u := by
  unfold deep3 at hd
  split at hd
  · rename_i f cs
    cases hm : deeps2 obj cs with
    | none => rw [hm] at hd; cases hd
    | some r =>
      obtain ⟨c', l, tc'⟩ := r
      rw [hm] at hd; cases hd
      obtain ⟨us, rfl, h1⟩ := hr.fn_of
      have := deeps2_sound h cs hm hc h1
      exact .fn this.1 this.2
  · exact deep2_sound h hd hc hr
theorem deeps3_sound (h : RelW w0 get obj a W ρ β) : ∀ (cs : List AV) {c : Prop} {ys : List AV} {tc : List Nat} (_ : deeps3 obj cs = some (c, ys, tc)) (_ : c) {us : List Value} (_ : Reps (cxOf obj W ρ β) cs us), Reps (cx0 W) ys us
  | [], c, ys, tc, hd, hc, us, hr => by
    cases hd
    rw [hr.nil_of]; exact .nil
  | x :: l, c, ys, tc, hd, hc, us, hr => by
    simp only [deeps3] at hd
    split at hd
    · rename_i c1 y tc1 c2 l' tc2 e1 e2
      cases hd
      obtain ⟨u, us', rfl, h1, h2⟩ := hr.cons_of
      exact .cons (deep3_sound h e1 hc.1 h1) (deeps3_sound h l e2 hc.2 h2)
    · cases hd
end
/-! results: values that hold nothing but the callee's own new memory -/
def AV.res1 : AV → Bool
  | .lit _ => true
  | .cel => true
  | .own _ _ => true
  | _ => false
def AV.res2 : AV → Bool
  | .agg cs => cs.all AV.res1
  | x => x.res1
def AV.res : AV → Bool
  | .tup cs => cs.all AV.res2
  | x => x.res2
def AO.res : AO → Bool
  | .row _ _ _ => true
  | .mix _ _ rows => rows.all fun r => r.all AV.res1
  | _ => false
section
variable {C C' : Cx}
structure Cx.LeR (C C' : Cx) : Prop where
  len : ∀ o n, C.len o = some n → C'.len o = some n
  ρ : ∀ o n, C.len o = some n → C'.ρ o = C.ρ o
theorem res1_le (h : C.LeR C') {x : AV} (hx : x.res1 = true) {u : Value} (hr : Rep C x u) : Rep C' x u := by
  cases hr with
  | lit => exact .lit _
  | cel h1 => exact .cel h1
  | own h1 hn hs h2 => exact .own (h.len _ _ h1) hn hs (by rw [h.ρ _ _ h1]; exact h2)
  | _ => simp [AV.res1] at hx
theorem res2_le (h : C.LeR C') {x : AV} (hx : x.res2 = true) {u : Value} (hr : Rep C x u) : Rep C' x u := by
  unfold AV.res2 at hx
  split at hx
  · obtain ⟨us, rfl, h1⟩ := hr.agg_of
    have := h1.mono (C' := C') fun c u hc hr => res1_le h (List.all_eq_true.1 hx c hc) hr
    exact .agg this.1 this.2
  · exact res1_le h hx hr
theorem res_le (h : C.LeR C') {x : AV} (hx : x.res = true) {u : Value} (hr : Rep C x u) : Rep C' x u := by
  unfold AV.res at hx
  split at hx
  · obtain ⟨us, rfl, h1⟩ := hr.tup_of
    have := h1.mono (C' := C') fun c u hc hr => res2_le h (List.all_eq_true.1 hx c hc) hr
    exact .tup this.1 this.2
  · exact res2_le h hx hr
theorem AO.res_le (h : C.LeR C') (hW : C'.W = C.W) {x : AO} (hx : x.res = true) {lo : Nat} {v : Value} {bs : List Nat} (hr : x.own C lo v bs) : x.own C' lo v bs := by
  cases x with
  | row e t xs =>
    show ownL C'.W lo e t xs v bs
    rw [hW]; exact hr
  | mix e sz rows =>
    obtain ⟨us, h1, h2, h3, h4⟩ := hr
    refine ⟨us, by rw [hW]; exact h1, h2.mono fun c u hc hr => ?_, h3, h4⟩
    obtain ⟨r, hr1, hr2⟩ := List.mem_flatten.1 hc
    exact res1_le h (List.all_eq_true.1 (List.all_eq_true.1 hx r hr1) c hr2) hr
  | _ => simp [AO.res] at hx
end
end Go.Proofs.Ytgnnmifpfgpllaa
/- Every operation, on abstract states. -/
namespace Go.Proofs.Ytgnnmifpfgpllaa
open Go.RowKit
/-- a function's contract on abstract values: where new objects are numbered from, the arguments; its condition, its result, its new objects -/
abbrev DCon := Nat → List AV → Option (Prop × AV × List (Nat × AO))
abbrev noObj : Nat → AO := fun _ => .dead
structure DCon.ok (P : Program) (f : FuncId) (C : DCon) : Prop where
  enter : ∀ args w, (callFunc f args).run P w = .ok (.enter f args) w
  shape : ∀ nid args c x objs, C nid args = some (c, x, objs) → x.res = true ∧ ∀ p, p ∈ objs → p.2.res = true ∧ nid ≤ p.1
  calls : ∀ nid args c x objs, C nid args = some (c, x, objs) → c → ∀ w vs, Reps (cx0 w) args vs → Calls P f vs.toArray w fun en w' => ∃ u ρ β, en = .returned u ∧ RelW w (fun _ => none) (setE noObj objs) ⟨#[], []⟩ w' ρ β ∧ Rep (cxOf (setE noObj objs) w' ρ β) x u
theorem setE_in {obj obj' : Nat → AO} : ∀ {l : List (Nat × AO)} {o : Nat}, (∃ p ∈ l, p.1 = o) → setE obj l o = setE obj' l o
  | [], o, h => by obtain ⟨p, hp, _⟩ := h; simp at hp
  | (k, x) :: l, o, h => by
    by_cases e : o = k
    · subst e; simp only [setE, setO_same]
    · simp only [setE, setO_other e]
      obtain ⟨p, hp, rfl⟩ := h
      rcases List.mem_cons.1 hp with rfl | hp
      · exact absurd rfl e
      · exact setE_in ⟨p, hp, rfl⟩
theorem setE_out {obj : Nat → AO} : ∀ {l : List (Nat × AO)} {o : Nat}, (∀ p ∈ l, p.1 ≠ o) → setE obj l o = obj o
  | [], o, h => rfl
  | (k, x) :: l, o, h => by
    have e : o ≠ k := fun e => h (k, x) (by simp) e.symm
    simp only [setE, setO_other e]
    exact setE_out fun p hp => h p (by simp [hp])
theorem setE_mem {obj : Nat → AO} : ∀ {l : List (Nat × AO)} {o : Nat}, (∃ p ∈ l, p.1 = o) → ∃ p ∈ l, p.1 = o ∧ setE obj l o = p.2
  | [], o, h => by obtain ⟨p, hp, _⟩ := h; simp at hp
  | (k, x) :: l, o, h => by
    by_cases e : o = k
    · subst e; exact ⟨_, List.mem_cons_self .., rfl, by simp only [setE, setO_same]⟩
    · obtain ⟨p, hp, rfl⟩ := h
      rcases List.mem_cons.1 hp with rfl | hp
      · exact absurd rfl e
      · obtain ⟨q, g1, g2, g3⟩ := setE_mem (obj := obj) (l := l) (o := p.1) ⟨p, hp, rfl⟩
        exact ⟨q, by simp [g1], g2, by simp only [setE, setO_other e]; exact g3⟩
def AO.isDead : AO → Bool
  | .dead => true
  | _ => false
theorem AO.dead_of {x : AO} (h : x.isDead = true) : x = .dead := by cases x <;> simp [AO.isDead] at h <;> rfl
section
variable {h h' : Nat → AO}
theorem mixInts_congr : ∀ {rows : List (List AV)} {r : Prop × List (List Int) × List Nat}, mixInts h rows = some r → (∀ id ∈ r.2.2, h id = h' id) → mixInts h' rows = some r
  | [], r, hs, _ => hs
  | row :: rows, r, hs, hh => by
    unfold mixInts at hs ⊢
    split at hs
    · rename_i e; cases e
    · rename_i o n r' e
      cases e
      split at hs
      · rename_i e t xs c l tc hob hrec
        cases hs
        have h1 := mixInts_congr hrec (fun id hid => hh id (by simp [hid]))
        have h2 := hh o (by simp)
        try simp only []
        rw [← h2, hob, h1]
      · cases hs
    · rename_i xs r' e
      cases e
      split at hs
      · rename_i c l tc hrec
        cases hs
        have h1 := mixInts_congr hrec (fun id hid => hh id hid)
        try simp only []
        rw [h1]
      · cases hs
    · cases hs
theorem deep1_congr {x : AV} {r : Prop × AV × List Nat} (hs : deep1 h x = some r) (hh : ∀ id ∈ r.2.2, h id = h' id) : deep1 h' x = some r := by
  unfold deep1 at hs ⊢
  split at hs
  · rename_i o n
    have ho : h o = h' o := by
      refine hh o ?_
      split at hs
      · cases hs; simp
      · rename_i rows hob
        cases hm : mixInts h rows with
        | none => rw [hm] at hs; cases hs
        | some q => rw [hm] at hs; cases hs; simp
      · cases hs; simp
      · cases hs
    try simp only []
    rw [← ho]
    split at hs
    · exact hs
    · rename_i rows hob
      cases hm : mixInts h rows with
      | none => rw [hm] at hs; cases hs
      | some q =>
        rw [hm] at hs; cases hs
        rw [mixInts_congr hm (fun id hid => hh id (by simp [hid]))]; rfl
    · exact hs
    · cases hs
  · exact hs
  · exact hs
  · exact hs
  · cases hs
theorem deeps_congr : ∀ {l : List AV} {r : Prop × List AV × List Nat}, deeps h l = some r → (∀ id ∈ r.2.2, h id = h' id) → deeps h' l = some r
  | [], r, hs, _ => hs
  | x :: l, r, hs, hh => by
    simp only [deeps] at hs ⊢
    split at hs
    · rename_i c y tc c' l' tc' e1 e2
      cases hs
      rw [deep1_congr e1 (fun id hid => hh id (by simp [hid])), deeps_congr e2 (fun id hid => hh id (by simp [hid]))]
    · cases hs
theorem deep2_congr {x : AV} {r : Prop × AV × List Nat} (hs : deep2 h x = some r) (hh : ∀ id ∈ r.2.2, h id = h' id) : deep2 h' x = some r := by
  unfold deep2 at hs ⊢
  split at hs
  · rename_i cs
    cases hm : deeps h cs with
    | none => rw [hm] at hs; cases hs
    | some q =>
      rw [hm] at hs; cases hs
      try simp only []
      rw [deeps_congr hm hh]; rfl
  · rename_i o off
    split at hs
    · rename_i e cs hob
      cases hm : deeps h (cs.drop off) with
      | none => rw [hm] at hs; cases hs
      | some q =>
        rw [hm] at hs; cases hs
        have ho := hh o (by simp)
        try simp only []
        rw [← ho, hob]
        try simp only []
        rw [deeps_congr hm (fun id hid => hh id (by simp [hid]))]; rfl
    · cases hs
  · exact deep1_congr hs hh
theorem deeps2_congr : ∀ {l : List AV} {r : Prop × List AV × List Nat}, deeps2 h l = some r → (∀ id ∈ r.2.2, h id = h' id) → deeps2 h' l = some r
  | [], r, hs, _ => hs
  | x :: l, r, hs, hh => by
    simp only [deeps2] at hs ⊢
    split at hs
    · rename_i c y tc c' l' tc' e1 e2
      cases hs
      rw [deep2_congr e1 (fun id hid => hh id (by simp [hid])), deeps2_congr e2 (fun id hid => hh id (by simp [hid]))]
    · cases hs
theorem deep3_congr {x : AV} {r : Prop × AV × List Nat} (hs : deep3 h x = some r) (hh : ∀ id ∈ r.2.2, h id = h' id) : deep3 h' x = some r := by
  unfold deep3 at hs ⊢
  split at hs
  · rename_i f cs
    cases hm : deeps2 h cs with
    | none => rw [hm] at hs; cases hs
    | some q =>
      rw [hm] at hs; cases hs
      try simp only []
      rw [deeps2_congr hm hh]; rfl
  · exact deep2_congr hs hh
theorem deeps3_congr : ∀ {l : List AV} {r : Prop × List AV × List Nat}, deeps3 h l = some r → (∀ id ∈ r.2.2, h id = h' id) → deeps3 h' l = some r
  | [], r, hs, _ => hs
  | x :: l, r, hs, hh => by
    simp only [deeps3] at hs ⊢
    split at hs
    · rename_i c y tc c' l' tc' e1 e2
      cases hs
      rw [deep3_congr e1 (fun id hid => hh id (by simp [hid])), deeps3_congr e2 (fun id hid => hh id (by simp [hid]))]
    · cases hs
end
def DCon.runC (C : DCon) (nid : Nat) (h : Nat → AO) (args : List AV) : MR :=
  match deeps3 h args with
  | some (c1, dargs, tc) => match C nid dargs with
    | some (c2, x, objs) => if objs.all (fun p => (h p.1).isDead) = true then some (c1 ∧ c2, x, objs, tc ++ objs.map (·.1)) else none
    | none => none
  | none => none
theorem DCon.runC_congr (C : DCon) (nid : Nat) (h h' : Nat → AO) (args : List AV) (r : Prop × AV × List (Nat × AO) × List Nat) (hs : C.runC nid h args = some r) (hh : ∀ id ∈ r.2.2.2, h id = h' id) : C.runC nid h' args = some r := by
  unfold DCon.runC at hs ⊢
  split at hs
  rotate_left
  · cases hs
  rename_i c1 dargs tc e4
  split at hs
  rotate_left
  · cases hs
  rename_i c2 x objs e5
  split at hs
  rotate_left
  · cases hs
  rename_i hd
  cases hs
  rw [deeps3_congr e4 (fun id hid => hh id (by simp [hid]))]
  simp only [e5]
  have : objs.all (fun p => (h' p.1).isDead) = true := by
    rw [List.all_eq_true] at hd ⊢
    intro p hp
    rw [← hh p.1 (by simp only [List.mem_append]; exact .inr (List.mem_map_of_mem hp))]
    exact hd p hp
  rw [if_pos this]
/-- a contract over the caller's own objects: where new objects are numbered from, the objects, the arguments; its condition, its result, what it does to objects, what objects it looks at -/
structure Con where
  run : Nat → (Nat → AO) → List AV → MR
  congr : ∀ nid h h' args r, run nid h args = some r → (∀ id ∈ r.2.2.2, h id = h' id) → run nid h' args = some r
structure Con.ok (P : Program) (f : FuncId) (C : Con) : Prop where
  enter : ∀ args w, (callFunc f args).run P w = .ok (.enter f args) w
  calls : ∀ w0 get obj a W ρ β, RelW w0 get obj a W ρ β → ∀ nid args c x eff tch, C.run nid obj args = some (c, x, eff, tch) → c → ∀ vs, Reps (cxOf obj W ρ β) args vs → Calls P f vs.toArray W fun en w' => ∃ u ρ' β', en = .returned u ∧ Rep (cxOf (setE obj eff) w' ρ' β') x u ∧ RelW w0 get (setE obj eff) a w' ρ' β'
def DCon.lift (C : DCon) : Con := ⟨C.runC, C.runC_congr⟩
def callOp (Γ : List (FuncId × Con)) (ev : Operand → Option AV) (h : Nat → AO) (nid : Nat) : Op → MR
  | .call c => match c.callee with
    | .value f => match ev f, c.args.toList.mapM ev with
      | some (.fn (.func g) caps), some args => match look Γ g with
        | some C => C.run nid h (args ++ caps)
        | none => none
      | _, _ => none
    | _ => none
  | _ => none
def opAV (Θ : TypeId → Option TI) (Γ : List (FuncId × Con)) (ev : Operand → Option AV) (h : Nat → AO) (nid : Nat) (op : Op) : MR :=
  match pureOp Θ ev op with
  | some (c, x) => some (c, x, [], [])
  | none => match callOp Γ ev h nid op with
    | some r => some r
    | none => match memOp2 Θ ev h nid op with
      | some r => some r
      | none => match memOp3 Θ ev h op with
        | some r => some r
        | none => memOp Θ ev h nid op
theorem look_mem {α : Type} : ∀ {l : List (Nat × α)} {n : Nat} {v : α}, look l n = some v → (n, v) ∈ l
  | (k, x) :: l, n, v, h => by
    unfold look at h
    split at h
    · rename_i e; subst e; cases h; simp
    · exact List.mem_cons_of_mem _ (look_mem h)
section
variable {P : Program} {Θ : TypeId → Option TI} {Γ : List (FuncId × Con)} {w0 : World} {get : Nat → Option AV} {obj : Nat → AO} {a : Act} {W : World} {ρ : Nat → Value} {β : Nat → List Nat}
def OpOut (P : Program) (w0 : World) (get : Nat → Option AV) (obj : Nat → AO) (a : Act) (W : World) (o : Oper) (x : AV) (eff : List (Nat × AO)) : Prop :=
  ∀ (K : Act → World → Prop) (Q : Exit → Act → World → Prop), (∀ v W' ρ' β', Rep (cxOf (setE obj eff) W' ρ' β') x v → RelW w0 get (setE obj eff) a W' ρ' β' → K (a.put o.dst v) W') → o.wp P a W K Q
theorem MemOut.out {o : Oper} {x : AV} {eff : List (Nat × AO)} (h : MemOut P w0 get obj a W o x eff) : OpOut P w0 get obj a W o x eff := by
  obtain ⟨r, W', ρ', β', h1, h2, h3⟩ := h
  intro K Q hK
  unfold Oper.wp
  rw [h1]
  rcases h2 with ⟨rfl, rfl⟩ | ⟨v, rfl, hv⟩
  · exact hK undef W' ρ' β' (.any _) h3
  · exact hK v W' ρ' β' hv h3
theorem DCon.lift_ok {f : FuncId} {C : DCon} (hok : C.ok P f) : C.lift.ok P f := by
  refine ⟨hok.enter, fun w0 get obj a W ρ β h nid args c x eff tch hm hc vs hv => ?_⟩
  have hm : C.runC nid obj args = some (c, x, eff, tch) := hm
  unfold DCon.runC at hm
  split at hm
  rotate_left
  · cases hm
  rename_i c1 dargs tc e4
  split at hm
  rotate_left
  · cases hm
  rename_i c2 x' objs e5
  split at hm
  rotate_left
  · cases hm
  rename_i hdead
  cases hm
  have hall := deeps3_sound h _ e4 hc.1 hv
  have hcalls := hok.calls nid dargs c2 x eff e5 hc.2 W _ hall
  obtain ⟨hres, hobjs⟩ := hok.shape nid dargs c2 x eff e5
  refine hcalls.mono ?_
  rintro en w' ⟨u, ρR, βR, rfl, hR, hu⟩
  have hkey : ∀ p ∈ eff, (obj p.1).len = none := fun p hp => len_dead (AO.dead_of (List.all_eq_true.1 hdead p hp))
  have hin : ∀ k, (obj k).len = none → (setE obj eff k).len ≠ none → ∃ p ∈ eff, p.1 = k := by
    intro k h1 h2
    refine Classical.byContradiction fun hne => h2 ?_
    rw [setE_out fun p hp e => hne ⟨p, hp, e⟩]; exact h1
  have hinR : ∀ k, (setE noObj eff k).len ≠ none → ∃ p ∈ eff, p.1 = k := by
    intro k h2
    refine Classical.byContradiction fun hne => h2 ?_
    rw [setE_out fun p hp e => hne ⟨p, hp, e⟩]; rfl
  have hbel : Below W.heap.size W w' := hR.below
  have hler : Cx.LeR (cxOf (setE noObj eff) w' ρR βR) (cxOf (setE obj eff) w' (fun k => if (obj k).len = none then ρR k else ρ k) (fun k => if (obj k).len = none then βR k else β k)) := by
    refine ⟨fun k n hk => ?_, fun k n hk => ?_⟩
    · have hi := hinR k (by rw [show (setE noObj eff k).len = some n from hk]; simp)
      show (setE obj eff k).len = some n
      rw [setE_in (obj' := noObj) hi]; exact hk
    · obtain ⟨p, hp, rfl⟩ := hinR k (by rw [show (setE noObj eff k).len = some n from hk]; simp)
      show (if (obj p.1).len = none then ρR p.1 else ρ p.1) = ρR p.1
      rw [if_pos (hkey p hp)]
  have hnews := h.news (W' := w') (obj' := setE obj eff) (ρ' := fun k => if (obj k).len = none then ρR k else ρ k) (β' := fun k => if (obj k).len = none then βR k else β k) hbel
    (fun k hk => ⟨setE_out fun p hp e => hk (by rw [← e]; exact hkey p hp), by rw [if_neg hk], by rw [if_neg hk]⟩)
    (fun k h1 h2 => by
      have hi := hin k h1 h2
      have heq := setE_in (obj := obj) (obj' := noObj) hi
      simp only [h1, if_true]
      have hl : (setE noObj eff k).len ≠ none := by rw [← heq]; exact h2
      refine ⟨?_, hR.nodup k hl, fun b hb => hR.lt k b hl hb⟩
      have hown := hR.objs k
      obtain ⟨p, hp1, hp2, hp3⟩ := setE_mem (obj := noObj) hi
      rw [heq]
      exact AO.res_le hler rfl (by rw [hp3]; exact (hobjs p hp1).1) hown)
    (fun k k' b h1 h2 h3 h4 h5 h6 => by
      simp only [h1, h2, if_true] at h5 h6
      have e1 := setE_in (obj := obj) (obj' := noObj) (hin k h1 h3)
      have e2 := setE_in (obj := obj) (obj' := noObj) (hin k' h2 h4)
      exact hR.apart k k' b (by rw [← e1]; exact h3) (by rw [← e2]; exact h4) h5 h6)
  exact ⟨u, _, _, rfl, res_le hler hres hu, hnews.2⟩
theorem call_sound (hΓ : ∀ f C, (f, C) ∈ Γ → C.ok P f) (h : RelW w0 get obj a W ρ β) {ev : Operand → Option AV} (hev : ∀ x v, ev x = some v → Rep (cxOf obj W ρ β) v (a.eval x)) (o : Oper) {nid : Nat} {c : Prop} {x : AV} {eff : List (Nat × AO)} {tch : List Nat} (hm : callOp Γ ev obj nid o.op = some (c, x, eff, tch)) (hc : c) : OpOut P w0 get obj a W o x eff := by
  unfold callOp at hm
  split at hm
  rotate_left
  · cases hm
  rename_i cl ho
  split at hm
  rotate_left
  · cases hm
  rename_i f hcal
  split at hm
  rotate_left
  · cases hm
  rename_i g caps args e1 e2
  split at hm
  rotate_left
  · cases hm
  rename_i C e3
  have hok := hΓ _ _ (look_mem e3)
  obtain ⟨us, hf, hcaps⟩ := (hev _ _ e1).fn_of
  have hargs := mapM_reps (C := cxOf obj W ρ β) hev _ _ e2
  have hcalls := hok.calls _ _ _ _ _ _ _ h nid _ c x eff tch hm hc _ (hargs.append hcaps)
  intro K Q hK
  have hrun : (execOp a.eval o).run P W = .ok (.enter g ((cl.args.toList.map a.eval ++ us).toArray)) W := by
    unfold execOp; rw [ho]
    have e : cl.args.map a.eval = (cl.args.toList.map a.eval).toArray := by rw [← Array.toList_inj, Array.toList_map]
    simp only [resolve, hcal, hf, Deferred.ofValue, Sem.run_bind, Sem.run_pure, Result.andThen_ok, invoke, e]
    rw [show (#[] ++ (cl.args.toList.map a.eval).toArray ++ us.toArray : Array Value) = (cl.args.toList.map a.eval ++ us).toArray by simp]
    exact hok.enter _ W
  unfold Oper.wp
  rw [hrun, Oper.upon_enter]
  refine hcalls.mono ?_
  rintro en w' ⟨u, ρ', β', rfl, hu, hr⟩
  exact hK u w' ρ' β' hu hr
theorem op_sound (hΘ : ∀ t ti, Θ t = some ti → ti.ok P t) (hΓ : ∀ f C, (f, C) ∈ Γ → C.ok P f) (h : RelW w0 get obj a W ρ β) {ev : Operand → Option AV} (hev : ∀ x v, ev x = some v → Rep (cxOf obj W ρ β) v (a.eval x)) (o : Oper) {nid : Nat} {c : Prop} {x : AV} {eff : List (Nat × AO)} {tch : List Nat} (hm : opAV Θ Γ ev obj nid o.op = some (c, x, eff, tch)) (hc : c) : OpOut P w0 get obj a W o x eff := by
  unfold opAV at hm
  split at hm
  · rename_i c' x' hp
    cases hm
    obtain ⟨v, h1, h2⟩ := pure_sound hΘ hev o hp hc W
    exact MemOut.out ⟨_, W, ρ, β, h1, .inr ⟨v, rfl, h2⟩, h⟩
  · split at hm
    · rename_i r hcall
      cases hm
      exact call_sound hΓ h hev o hcall hc
    · split at hm
      · rename_i r h2
        cases hm
        exact (mem2_sound hΘ h hev o h2 hc).out
      · split at hm
        · rename_i r h3
          cases hm
          exact (mem3_sound hΘ h hev o h3 hc).out
        · exact (mem_sound hΘ h hev o hm hc).out
end
end Go.Proofs.Ytgnnmifpfgpllaa
/- What an operation's abstract form depends on. -/
namespace Go.Proofs.Ytgnnmifpfgpllaa
open Go.RowKit
theorem mapM_congr' {α γ : Type} {f g : α → Option γ} : ∀ {l : List α}, (∀ x ∈ l, f x = g x) → l.mapM f = l.mapM g
  | [], _ => rfl
  | x :: l, h => by
    simp only [List.mapM_cons]
    rw [h x (by simp), mapM_congr' fun y hy => h y (by simp [hy])]
section
variable {Θ : TypeId → Option TI} {Γ : List (FuncId × Con)} {ev ev' : Operand → Option AV} {h h' : Nat → AO}
theorem pureOp_congr : ∀ (op : Op), (∀ x ∈ op.operands.toList, ev x = ev' x) → pureOp Θ ev op = pureOp Θ ev' op := by
  intro op hx
  cases op with
  | move x => simp only [pureOp]; rw [hx x (by simp [Op.operands])]
  | assign x => simp only [pureOp]; rw [hx x (by simp [Op.operands])]
  | pick c a b => simp only [pureOp]; rw [hx c (by simp [Op.operands]), hx a (by simp [Op.operands]), hx b (by simp [Op.operands])]
  | binOp op t x y t' => simp only [pureOp]; rw [hx x (by simp [Op.operands]), hx y (by simp [Op.operands])]
  | unOp op t x => cases op <;> simp only [pureOp] <;> first | rw [hx x (by simp [Op.operands])] | rfl
  | convert s d x => simp only [pureOp]; rw [hx x (by simp [Op.operands])]
  | field S x f => simp only [pureOp]; rw [hx x (by simp [Op.operands])]
  | fieldAddr S x f => simp only [pureOp]; rw [hx x (by simp [Op.operands])]
  | extract x i => simp only [pureOp]; rw [hx x (by simp [Op.operands])]
  | indexAddr T x i => simp only [pureOp]; rw [hx x (by simp [Op.operands]), hx i (by simp [Op.operands])]
  | build T parts =>
    simp only [pureOp]
    rw [mapM_congr' (g := fun p => (ev' p.2).map fun v => (p.1, v)) (fun p hp => by rw [hx p.2 (by simp only [Op.operands]; exact List.mem_map_of_mem hp)])]
  | slice T x lo hi mx =>
    have h1 : lo.map ev = lo.map ev' := by cases lo with
      | none => rfl
      | some z => simp only [Option.map_some]; rw [hx z (by simp [Op.operands])]
    have h2 : hi.map ev = hi.map ev' := by cases hi with
      | none => rfl
      | some z => simp only [Option.map_some]; rw [hx z (by simp [Op.operands])]
    cases mx with
    | none => simp only [pureOp]; rw [hx x (by simp [Op.operands]), h1, h2]
    | some z => rfl
  | makeFunc f first caps =>
    simp only [pureOp]
    rw [mapM_congr' (l := caps.toList) (g := ev') (fun p hp => hx p (by simp only [Op.operands, Array.toList_append, List.mem_append]; exact .inr hp))]
  | call c =>
    simp only [pureOp]
    split
    · rename_i y T e1 e2 e3
      rw [hx y (by simp only [Op.operands, Call.operands, Array.toList_append, List.mem_append, e2]; exact .inr (by simp))]
    · rename_i y z T T' e1 e2 e3
      rw [hx y (by simp only [Op.operands, Call.operands, Array.toList_append, List.mem_append, e2]; exact .inr (by simp)), hx z (by simp only [Op.operands, Call.operands, Array.toList_append, List.mem_append, e2]; exact .inr (by simp))]
    · rfl
  | _ => rfl
theorem srcOf_congr {t : Ty} {x : AV} {r : Prop × List t.den × List Nat} (hs : srcOf h t x = some r) (hh : ∀ id ∈ r.2.2, h id = h' id) : srcOf h' t x = some r := by
  unfold srcOf at hs ⊢
  split at hs
  · exact hs
  · rename_i o n
    have : h o = h' o := by
      refine hh o ?_
      split at hs
      · split at hs
        · cases hs; simp
        · cases hs
      · cases hs
    rw [← this]; exact hs
  · exact hs
  · cases hs
theorem callOp_ev (nid : Nat) : ∀ (op : Op), (∀ x ∈ op.operands.toList, ev x = ev' x) → callOp Γ ev h nid op = callOp Γ ev' h nid op := by
  intro op hx
  cases op with
  | call c =>
    simp only [callOp]
    split
    · rename_i f hcal
      rw [hx f (by simp only [Op.operands, Call.operands, hcal, Array.toList_append, List.mem_append]; exact .inl (by simp)), mapM_congr' (l := c.args.toList) (g := ev') (fun p hp => hx p (by simp only [Op.operands, Call.operands, Array.toList_append, List.mem_append]; exact .inr hp))]
    · rfl
  | _ => rfl
theorem callOp_congr {nid : Nat} {op : Op} {r : Prop × AV × List (Nat × AO) × List Nat} (hs : callOp Γ ev h nid op = some r) (hh : ∀ id ∈ r.2.2.2, h id = h' id) : callOp Γ ev h' nid op = some r := by
  unfold callOp at hs ⊢
  split at hs
  rotate_left
  · cases hs
  try simp only []
  split at hs
  rotate_left
  · cases hs
  try simp only []
  split at hs
  rotate_left
  · cases hs
  split at hs
  rotate_left
  · cases hs
  rename_i C e3
  exact C.congr _ _ _ _ _ hs hh
theorem memOp_ev (nid : Nat) : ∀ (op : Op), (∀ x ∈ op.operands.toList, ev x = ev' x) → memOp Θ ev h nid op = memOp Θ ev' h nid op := by
  intro op hx
  cases op with
  | box T x => simp only [memOp]; rw [hx x (by simp [Op.operands])]
  | load T x => simp only [memOp]; rw [hx x (by simp [Op.operands])]
  | store T p y => simp only [memOp]; rw [hx p (by simp [Op.operands]), hx y (by simp [Op.operands])]
  | buildSlice T n parts =>
    simp only [memOp]
    rw [mapM_congr' (l := parts.toList) (g := fun p => (ev' p.2).bind AV.cells) (fun p hp => by rw [hx p.2 (by simp only [Op.operands]; exact List.mem_map_of_mem hp)])]
  | makeSlice T l c => simp only [memOp]; rw [hx l (by simp [Op.operands]), hx c (by simp [Op.operands])]
  | call c =>
    simp only [memOp]
    split
    · rename_i s x T T' e1 e2 e3
      rw [hx s (by simp only [Op.operands, Call.operands, Array.toList_append, List.mem_append, e2]; exact .inr (by simp)), hx x (by simp only [Op.operands, Call.operands, Array.toList_append, List.mem_append, e2]; exact .inr (by simp))]
    · rfl
  | _ => rfl
theorem memOp_congr {nid : Nat} {op : Op} {r : Prop × AV × List (Nat × AO) × List Nat} (hs : memOp Θ ev h nid op = some r) (hh : ∀ id ∈ r.2.2.2, h id = h' id) : memOp Θ ev h' nid op = some r := by
  cases op with
  | alloc T =>
    simp only [memOp] at hs ⊢
    split at hs
    · rename_i ti e0 hd
      cases hs
      rw [← hh nid (by simp), hd, e0]
    · cases hs
  | box T x =>
    simp only [memOp] at hs ⊢
    split at hs
    · rename_i cs e0 hd
      cases hs
      rw [← hh nid (by simp), hd, e0]
    · cases hs
  | load T p =>
    simp only [memOp] at hs ⊢
    split at hs
    · exact hs
    · rename_i ti b off e0 e1
      try simp only []
      split at hs
      · rename_i e cs hob
        cases hl : loadAV ti (cs.drop off) with
        | none => rw [hl] at hs; cases hs
        | some v => rw [hl] at hs; cases hs; rw [← hh b (by simp), hob]; simp only [hl]; rfl
      · cases hs
    · rename_i ti b n sz k off e0 e1
      try simp only []
      split at hs
      · rename_i e t xs hob
        split at hs
        · rename_i hf
          cases hl : loadAV ti ((t.cells (xs.getD k t.dflt)).drop off) with
          | none => rw [hl] at hs; cases hs
          | some v => rw [hl] at hs; cases hs; rw [← hh b (by simp), hob]; simp only [hl]; rw [if_pos hf]; rfl
        · cases hs
      · cases hs
    · cases hs
  | store T p y =>
    simp only [memOp] at hs ⊢
    split at hs
    · rename_i ti b off vs e0 e1 e2
      try simp only []
      split at hs
      · rename_i e cs hob
        split at hs
        · rename_i hc
          cases hs; rw [← hh b (by simp), hob]; (try simp only []); rw [if_pos hc]
        · cases hs
      · cases hs
    · rename_i ti b n sz k off vs e0 e1 e2
      try simp only []
      split at hs
      · rename_i e t xs hob
        split at hs
        · rename_i hc
          cases hz : t.ofC ((t.cells (xs.getD k t.dflt)).take off ++ vs ++ (t.cells (xs.getD k t.dflt)).drop (off + vs.length)) with
          | none => rw [hz] at hs; cases hs
          | some z => rw [hz] at hs; cases hs; rw [← hh b (by simp), hob]; (try simp only []); rw [if_pos hc, hz]; rfl
        · cases hs
      · cases hs
    · cases hs
  | buildSlice T n parts =>
    simp only [memOp] at hs ⊢
    split at hs
    · rename_i ti rows e0 hr hd
      split at hs
      · rename_i e y b hel
        split at hs
        · rename_i hc
          have hn : h nid = h' nid := by
            refine hh nid ?_
            split at hs <;> cases hs <;> simp
          rw [← hn, hd, e0, hr]
          simp only [hel]
          rw [if_pos hc]; exact hs
        · cases hs
      · cases hs
    · cases hs
  | makeSlice T l c =>
    simp only [memOp] at hs ⊢
    split at hs
    · rename_i ti k1 i k2 j e0 e1 e2 hd
      split at hs
      · rename_i e y b hel
        split at hs
        · rename_i hb
          cases hs
          rw [← hh nid (by simp), hd, e0, e1, e2]
          simp only [hel]
          rw [if_pos hb]
        · cases hs
      · cases hs
    · cases hs
  | call c =>
    simp only [memOp] at hs ⊢
    split at hs
    · rename_i s x T T' e1 e2 e3
      try simp only []
      split at hs
      · rename_i hT
        rw [if_pos hT]
        split at hs
        · rename_i ti o n src e4 e5 e6
          split at hs
          · rename_i e' y b e t xs hel hob
            split at hs
            · rename_i hc
              cases hsr : srcOf h t src with
              | none => rw [hsr] at hs; cases hs
              | some q =>
                rw [hsr] at hs; cases hs
                try simp only []
                rw [← hh o (by simp), hob, hel]
                try simp only []
                rw [if_pos hc, srcOf_congr hsr (fun id hid => hh id (by simp [hid]))]; rfl
            · cases hs
          · cases hs
        · rename_i ti src e4 e5 e6
          split at hs
          · rename_i e y b hel hd
            split at hs
            · rename_i hc
              cases hsr : srcOf h y src with
              | none => rw [hsr] at hs; cases hs
              | some q =>
                rw [hsr] at hs; cases hs
                try simp only []
                rw [← hh nid (by simp), hd, hel]
                try simp only []
                rw [if_pos hc, srcOf_congr hsr (fun id hid => hh id (by simp [hid]))]; rfl
            · cases hs
          · cases hs
        · cases hs
      · cases hs
    · cases hs
  | _ => simp only [memOp] at hs; cases hs
theorem memOp_excl {nid : Nat} {op : Op} {r : Prop × AV × List (Nat × AO) × List Nat} (hs : memOp Θ ev h nid op = some r) (hh : ∀ id ∈ r.2.2.2, h id = h' id) : memOp2 Θ ev h' nid op = none ∧ memOp3 Θ ev h' op = none := by
  cases op with
  | load T p =>
    refine ⟨?_, rfl⟩
    simp only [memOp] at hs
    simp only [memOp2]
    split at hs
    · rename_i e0 e1; rw [e0, e1]
    · rename_i e0 e1; rw [e0, e1]
    · rename_i ti b n sz k off e0 e1
      rw [e0, e1]
      try simp only []
      split at hs
      · rename_i e t xs hob
        split at hs
        · cases hl : loadAV ti ((t.cells (xs.getD k t.dflt)).drop off) with
          | none => rw [hl] at hs; cases hs
          | some v => rw [hl] at hs; cases hs; rw [← hh b (by simp), hob]
        · cases hs
      · cases hs
    · cases hs
  | store T p y =>
    simp only [memOp] at hs
    simp only [memOp2, memOp3]
    split at hs
    · rename_i e0 e1 e2; rw [e0, e1, e2]; exact ⟨rfl, rfl⟩
    · rename_i ti b n sz k off vs e0 e1 e2
      rw [e0, e1, e2]
      try simp only []
      split at hs
      · rename_i e t xs hob
        split at hs
        · rename_i hc
          cases hz : t.ofC ((t.cells (xs.getD k t.dflt)).take off ++ vs ++ (t.cells (xs.getD k t.dflt)).drop (off + vs.length)) with
          | none => rw [hz] at hs; cases hs
          | some z =>
            rw [hz] at hs; cases hs; rw [← hh b (by simp), hob]
            exact ⟨if_neg (fun hx => by rw [hc.1] at hx; exact absurd hx.1 (by simp)), rfl⟩
        · cases hs
      · cases hs
    · cases hs
  | call c =>
    refine ⟨?_, rfl⟩
    simp only [memOp] at hs
    simp only [memOp2]
    split at hs
    · rename_i s x T T' e1 e2 e3
      rw [e1, e2, e3]
      try simp only []
      split at hs
      · rename_i hT
        rw [if_pos hT]
        split at hs
        · rename_i ti o n src e4 e5 e6
          split at hs
          · rename_i e' y b e t xs hel hob
            split at hs
            · rename_i hc
              cases hsr : srcOf h t src with
              | none => rw [hsr] at hs; cases hs
              | some q =>
                rw [hsr] at hs; cases hs
                rw [e4, e5, e6]
                split
                · rename_i ti2 o2 n2 m2 g1 g2 g3
                  cases g1
                  cases g2
                  rw [← hh o (by simp), hob]
                  split
                  · rename_i g5 g6 g7
                    cases g6
                    exact if_neg (fun hx => by rw [hc.1] at hx; exact absurd hx.1 (by simp))
                  · rename_i g5 g6 g7
                    cases g6
                  · rfl
                · rename_i g1 g2 g3; cases g2
                · rfl
            · cases hs
          · cases hs
        · rename_i ti src e4 e5 e6
          split at hs
          · rename_i e y b hel hd
            split at hs
            · rename_i hc
              cases hsr : srcOf h y src with
              | none => rw [hsr] at hs; cases hs
              | some q =>
                rw [hsr] at hs; cases hs
                rw [e4, e5, e6]
                split
                · rename_i g1 g2 g3; cases g2
                · rename_i ti2 m2 g1 g2 g3
                  cases g1
                  split
                  · rename_i g5 g6 g7
                    rw [hel] at g5
                    cases g5
                    exact if_neg (fun hx => by rw [hc.1] at hx; exact absurd hx.1 (by simp))
                  · rfl
                · rfl
            · cases hs
          · cases hs
        · cases hs
      · cases hs
    · cases hs
  | _ => first | exact ⟨rfl, rfl⟩ | (simp only [memOp] at hs; cases hs)
theorem memOp3_excl {nid : Nat} {op : Op} {r : Prop × AV × List (Nat × AO) × List Nat} (hs : memOp3 Θ ev h op = some r) (hh : ∀ id ∈ r.2.2.2, h id = h' id) : memOp2 Θ ev h' nid op = none := by
  cases op with
  | store T p y =>
    simp only [memOp3] at hs
    simp only [memOp2]
    split at hs
    · rename_i ti b n sz k off vs e0 e1 e2
      try simp only []
      split at hs
      · rename_i e t pre cs suf hob
        split at hs
        · cases hs; rw [← hh b (by simp), hob]
        · cases hs
      · cases hs
    · cases hs
  | _ => simp only [memOp3] at hs; cases hs
theorem opAV_congr {nid : Nat} {op : Op} {r : Prop × AV × List (Nat × AO) × List Nat} (hs : opAV Θ Γ ev h nid op = some r) (hx : ∀ x ∈ op.operands.toList, ev x = ev' x) (hh : ∀ id ∈ r.2.2.2, h id = h' id) : opAV Θ Γ ev' h' nid op = some r := by
  unfold opAV at hs ⊢
  rw [← pureOp_congr op hx]
  split at hs
  · exact hs
  · rename_i hp
    try simp only []
    split at hs
    · rename_i q hq
      cases hs
      rw [← callOp_ev nid op hx, callOp_congr hq hh]
    · rename_i hq
      have hnone : callOp Γ ev' h' nid op = none := by
        cases hc : callOp Γ ev' h' nid op with
        | none => rfl
        | some q =>
          exfalso
          -- a call of a function is no memory operation
          unfold callOp at hc
          split at hc
          · rename_i c
            split at hc
            · rename_i f hcal
              simp only [memOp, memOp2, memOp3, hcal] at hs
              cases hs
            · cases hc
          · cases hc
      rw [hnone]
      try simp only []
      rw [← memOp_ev nid op hx, ← memOp2_ev nid op hx, ← memOp3_ev op hx]
      split at hs
      · rename_i q h2
        cases hs
        rw [memOp2_congr h2 hh]
      · split at hs
        · rename_i q h3
          cases hs
          rw [memOp3_excl h3 hh, memOp3_congr h3 hh]
        · rw [(memOp_excl hs hh).1, (memOp_excl hs hh).2]
          exact memOp_congr hs hh
end
end Go.Proofs.Ytgnnmifpfgpllaa
/- Regions, on abstract states: one run in the text's order stands for all orders. -/
namespace Go.Proofs.Ytgnnmifpfgpllaa
open Go.RowKit
def AS.ev (σ : AS) : Operand → Option AV
  | .tmp t => σ.get t
  | .const v => some (.lit v)
  | .func f => some (.fn (.func f) [])
  | .global _ => none
def evOf (get : Nat → Option AV) : Operand → Option AV
  | .tmp t => get t
  | .const v => some (.lit v)
  | .func f => some (.fn (.func f) [])
  | .global _ => none
def AS.upd (σ : AS) (d : Option Tmp) (x : AV) (eff : List (Nat × AO)) : AS := ⟨match d with | some t => (t, x) :: σ.sl | none => σ.sl, eff ++ σ.hp, σ.nx, σ.fr⟩
theorem look_append {α : Type} : ∀ (l l' : List (Nat × α)) (n : Nat), look (l ++ l') n = (look l n).or (look l' n)
  | [], l', n => by simp [look]
  | (k, v) :: l, l', n => by
    simp only [List.cons_append, look]
    split
    · rfl
    · exact look_append l l' n
theorem AS.upd_get (σ : AS) (d : Option Tmp) (x : AV) (eff : List (Nat × AO)) : (σ.upd d x eff).get = setS σ.get d x := by
  funext t
  cases d with
  | none => simp [AS.upd, AS.get, setS]
  | some k =>
    simp only [AS.upd, AS.get, look, setS, Option.some.injEq]
theorem setE_look (obj : Nat → AO) : ∀ (l : List (Nat × AO)) (o : Nat), setE obj l o = (look l o).getD (obj o)
  | [], o => rfl
  | (k, x) :: l, o => by
    simp only [setE, setO, look]
    by_cases e : o = k
    · subst e; simp
    · rw [if_neg e, if_neg (fun h => e h.symm)]; exact setE_look obj l o
theorem AS.upd_obj (σ : AS) (d : Option Tmp) (x : AV) (eff : List (Nat × AO)) : (σ.upd d x eff).obj = setE σ.obj eff := by
  funext o
  rw [setE_look]
  simp only [AS.upd, AS.obj, look_append]
  cases look eff o <;> simp
/-- an operation with its guard and what was decided -/
def stepOp (Θ : TypeId → Option TI) (Γ : List (FuncId × Con)) (ds : List (Nat × Bool)) (gd : Nat → Option Tmp) (nx i : Nat) (o : Oper) (ev : Operand → Option AV) (h : Nat → AO) : MR :=
  match o.guard with
  | none => match o.op, look ds i with
    | .pick c x y, some d => match ev c, ev x, ev y with
      | some (.lit (.bool B)), some u, some v => some (B = d, if d = true then u else v, [], [])
      | _, _, _ => none
    | op, _ => opAV Θ Γ ev h (nx + 8 * i) op
  | some (g, b) => match gd g, look ds i with
    | some t, some d => match ev (.tmp t) with
      | some (.lit (.bool B)) => if d = b then (opAV Θ Γ ev h (nx + 8 * i) o.op).map fun r => (B = d ∧ r.1, r.2) else some (B = d, .any, [], [])
      | _ => none
    | _, _ => none
/-- the slots that an operation reads -/
def rdS (gd : Nat → Option Tmp) (o : Oper) : List Nat :=
  (o.op.operands.toList.filterMap fun x => match x with | .tmp t => some t | _ => none) ++ (match o.guard with | some (g, _) => (gd g).toList | none => [])
theorem stepOp_congr {Θ : TypeId → Option TI} {Γ : List (FuncId × Con)} {ds : List (Nat × Bool)} {gd : Nat → Option Tmp} {nx i : Nat} {o : Oper} {get get' : Nat → Option AV} {h h' : Nat → AO} {r : Prop × AV × List (Nat × AO) × List Nat} (hs : stepOp Θ Γ ds gd nx i o (evOf get) h = some r) (hx : ∀ s ∈ rdS gd o, get s = get' s) (hh : ∀ id ∈ r.2.2.2, h id = h' id) : stepOp Θ Γ ds gd nx i o (evOf get') h' = some r := by
  have hev : ∀ x ∈ o.op.operands.toList, evOf get x = evOf get' x := by
    intro x hxm
    cases x with
    | tmp t =>
      refine hx t ?_
      simp only [rdS, List.mem_append, List.mem_filterMap]
      exact .inl ⟨.tmp t, hxm, rfl⟩
    | _ => rfl
  unfold stepOp at hs ⊢
  cases hg : o.guard with
  | none =>
    rw [hg] at hs
    simp only [] at hs ⊢
    split at hs
    · rename_i c x y d ho hd
      rw [ho] at hev
      rw [← hev c (by simp [Op.operands]), ← hev x (by simp [Op.operands]), ← hev y (by simp [Op.operands])]
      exact hs
    · rename_i hne
      exact opAV_congr hs hev hh
  | some gb =>
    obtain ⟨g, b⟩ := gb
    rw [hg] at hs
    simp only [] at hs ⊢
    split at hs
    · rename_i t d ht hd
      have ht' : get t = get' t := hx t (by simp only [rdS, hg, ht, List.mem_append]; exact .inr (by simp))
      have e1 : evOf get' (.tmp t) = evOf get (.tmp t) := ht'.symm
      rw [e1]
      split at hs
      · rename_i B hB
        split at hs
        · rename_i hdb
          rw [if_pos hdb]
          cases ho : opAV Θ Γ (evOf get) h (nx + 8 * i) o.op with
          | none => rw [ho] at hs; cases hs
          | some q =>
            rw [ho] at hs; cases hs
            rw [opAV_congr ho hev hh]; rfl
        · rename_i hdb
          rw [if_neg hdb]; exact hs
      · cases hs
    · cases hs
section
variable {P : Program} {Θ : TypeId → Option TI} {Γ : List (FuncId × Con)} {ds : List (Nat × Bool)} {w0 : World} {get : Nat → Option AV} {obj : Nat → AO} {a : Act} {W : World} {ρ : Nat → Value} {β : Nat → List Nat}
theorem evOf_sound (h : RelW w0 get obj a W ρ β) : ∀ x v, evOf get x = some v → Rep (cxOf obj W ρ β) v (a.eval x) := by
  intro x v hx
  cases x with
  | tmp t =>
    obtain ⟨u, h1, h2⟩ := h.slots t v hx
    show Rep _ v (a.tmps.getD t undef)
    rw [Array.getD_eq_getD_getElem?, h1]; exact h2
  | const u =>
    simp only [evOf, Option.some.injEq] at hx
    subst hx; exact .lit _
  | func f =>
    simp only [evOf, Option.some.injEq] at hx
    subst hx
    exact .fn (vs := []) rfl (fun j c u h => by simp at h)
  | global g => simp [evOf] at hx
/-- one step of a region, whatever came before -/
theorem step_sound (hΘ : ∀ t ti, Θ t = some ti → ti.ok P t) (hΓ : ∀ f C, (f, C) ∈ Γ → C.ok P f) {ops : Array Oper} {nx i : Nat} {o : Oper} (h : RelW w0 get obj a W ρ β) {c : Prop} {x : AV} {eff : List (Nat × AO)} {tch : List Nat} (hs : stepOp Θ Γ ds (fun g => (ops[g]?).bind (·.dst)) nx i o (evOf get) obj = some (c, x, eff, tch)) (hc : c) (hd : ∀ k, o.dst = some k → k < a.tmps.size)
    {K : Act → World → Prop} (hK : ∀ v W' ρ' β', RelW w0 (setS get o.dst x) (setE obj eff) (a.put o.dst v) W' ρ' β' → K (a.put o.dst v) W') (Q : Exit → Act → World → Prop) : if Region.wanted o (yielded ops a.tmps) = true then o.wp P a W K Q else K (a.put o.dst undef) W := by
  have hev := evOf_sound h
  have plain : ∀ {c x eff tch}, opAV Θ Γ (evOf get) obj (nx + 8 * i) o.op = some (c, x, eff, tch) → c → (∀ v W' ρ' β', RelW w0 (setS get o.dst x) (setE obj eff) (a.put o.dst v) W' ρ' β' → K (a.put o.dst v) W') → o.wp P a W K Q := by
    intro c x eff tch ho hc hK
    exact op_sound hΘ hΓ h hev o ho hc K Q fun v W' ρ' β' h1 h2 => hK v W' ρ' β' (h2.put h1 hd)
  unfold stepOp at hs
  cases hg : o.guard with
  | none =>
    rw [if_pos (by unfold Region.wanted; rw [hg])]
    rw [hg] at hs
    simp only [] at hs
    split at hs
    · rename_i c' x' y' d ho hd'
      split at hs
      · rename_i B u v e1 e2 e3
        cases hs
        have g1 := (hev _ _ e1).lit_eq
        have hex : execOp a.eval o = (do pure (.value (if ← asBool (a.eval c') then a.eval x' else a.eval y'))) := by unfold execOp; rw [ho]
        unfold Oper.wp
        rw [hex, g1]
        have hx := hev _ _ e2
        have hy := hev _ _ e3
        subst hc
        cases B with
        | true => exact hK _ W ρ β (h.put hx hd)
        | false => exact hK _ W ρ β (h.put hy hd)
      · cases hs
    · exact plain hs hc hK
  | some gb =>
    obtain ⟨g, b⟩ := gb
    rw [hg] at hs
    simp only [] at hs
    split at hs
    · rename_i t d ht hd'
      split at hs
      · rename_i B hB
        have hy : yielded ops a.tmps g = some B := by
          obtain ⟨u, h1, h2⟩ := h.slots t _ hB
          rw [h2.lit_eq] at h1
          have ht' : (ops[g]?).bind (·.dst) = some t := ht
          simp only [yielded, ht', Option.bind_some, h1]
        have hw : Region.wanted o (yielded ops a.tmps) = (some B == some b) := by unfold Region.wanted; rw [hg]; simp only [hy]
        rw [hw]
        split at hs
        · rename_i hdb
          cases ho : opAV Θ Γ (evOf get) obj (nx + 8 * i) o.op with
          | none => rw [ho] at hs; cases hs
          | some q =>
            obtain ⟨q1, q2, q3, q4⟩ := q
            rw [ho] at hs; cases hs
            obtain ⟨hB', hc⟩ := hc
            subst hB' hdb
            rw [if_pos (by simp)]
            exact plain ho hc hK
        · rename_i hdb
          cases hs
          subst hc
          rw [if_neg (by simpa using hdb)]
          exact hK undef W ρ β (h.putAny undef hd)
      · cases hs
    · cases hs
end
end Go.Proofs.Ytgnnmifpfgpllaa
