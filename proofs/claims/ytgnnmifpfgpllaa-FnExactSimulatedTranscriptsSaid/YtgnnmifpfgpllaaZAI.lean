import Derived.Test.YtgnnmifpfgpllaaZAG
/- Contracts of functions that write rows of their caller's own. -/
set_option linter.all false
set_option linter.unusedVariables false
set_option linter.unusedSimpArgs false
namespace Go.Proofs.Ytgnnmifpfgpllaa
open Go.RowKit
/-- element types' ids of some rows -/
@[reducible] def ES : List Ty → Type
  | [] => Unit
  | _ :: ts => TypeId × ES ts
@[reducible] def HR (ts : List Ty) : Type := HL (ts.map Ty.list)
/-- rows read from the caller's objects -/
def rowsT (h : Nat → AO) : (ts : List Ty) → List Nat → Option (ES ts × HR ts)
  | [], [] => some ((), ())
  | t :: ts, o :: l => match h o, rowsT h ts l with
    | .row e' t' xs, some (es, r) => if hh : t' = t then some ((e', es), (hh ▸ xs, r)) else none
    | _, _ => none
  | _, _ => none
/-- rows as objects -/
def rowsAO : (ts : List Ty) → ES ts → HR ts → List AO
  | [], _, _ => []
  | t :: ts, (e, es), (xs, r) => .row e t xs :: rowsAO ts es r
def wnum : Nat → List AO → List (Nat × AO)
  | _, [] => []
  | k, x :: l => (k, x) :: wnum (k + 1) l
def pair2 : List Nat → List AO → List (Nat × AO)
  | o :: l, x :: r => (o, x) :: pair2 l r
  | _, _ => []
theorem rowsT_at {h : Nat → AO} : ∀ {ts : List Ty} {l : List Nat} {es : ES ts} {d : HR ts}, rowsT h ts l = some (es, d) → l.length = ts.length ∧ (rowsAO ts es d).length = ts.length ∧ ∀ (i : Nat) o ob, l[i]? = some o → (rowsAO ts es d)[i]? = some ob → h o = ob
  | [], [], es, d, hs => ⟨rfl, rfl, fun i o ob h1 h2 => by simp at h1⟩
  | t :: ts, o :: l, es, d, hs => by
    unfold rowsT at hs
    split at hs
    · rename_i e' t' xs es' r h1 h2
      split at hs
      · rename_i hh
        subst hh
        cases hs
        obtain ⟨g1, g2, g3⟩ := rowsT_at h2
        refine ⟨by simp [g1], by simp [rowsAO, g2], fun i o' ob i1 i2 => ?_⟩
        cases i with
        | zero => simp [rowsAO] at i1 i2; rw [← i1, ← i2, h1]
        | succ i => exact g3 i o' ob (by simpa using i1) (by simpa [rowsAO] using i2)
      · cases hs
    · cases hs
  | [], _ :: _, es, d, hs => by simp [rowsT] at hs
  | _ :: _, [], es, d, hs => by simp [rowsT] at hs
theorem rowsT_congr {h h' : Nat → AO} : ∀ {ts : List Ty} {l : List Nat} {r : ES ts × HR ts}, rowsT h ts l = some r → (∀ o ∈ l, h o = h' o) → rowsT h' ts l = some r
  | [], [], r, hs, _ => hs
  | t :: ts, o :: l, r, hs, hh => by
    unfold rowsT at hs ⊢
    split at hs
    · rename_i e' t' xs es' r' h1 h2
      rw [← hh o (by simp), h1, rowsT_congr h2 fun o' ho => hh o' (by simp [ho])]
      exact hs
    · cases hs
  | [], _ :: _, r, hs, _ => by simp [rowsT] at hs
  | _ :: _, [], r, hs, _ => by simp [rowsT] at hs
/-- a contract of a function that writes rows: sel finds the rows' ids and the plain data in the arguments; F: condition, result, new rows -/
def Con.wr {α : Type} (ts : List Ty) (sel : List AV → Option (List Nat × α)) (F : α → HR ts → Prop × Value × HR ts) : Con where
  run _ h args := match sel args with
    | some (l, a) => if l.Nodup then match rowsT h ts l with
      | some (es, d) => some ((F a d).1, .lit (F a d).2.1, pair2 l (rowsAO ts es (F a d).2.2), l)
      | none => none
      else none
    | none => none
  congr nid h h' args r hs hh := by
    revert hs
    cases he : sel args with
    | none => intro hs; cases hs
    | some q =>
      obtain ⟨l, a⟩ := q
      dsimp only
      by_cases hn : l.Nodup
      · rw [if_pos hn, if_pos hn]
        cases hr : rowsT h ts l with
        | none => intro hs; cases hs
        | some d =>
          intro hs
          cases hs
          rw [rowsT_congr hr hh]
      · rw [if_neg hn]; intro hs; cases hs
/-- what the walk of such a function must come to -/
def EndsW (Θ : TypeId → Option TI) (rs : List ResultVar) (v : Value) (rows : List AO) (pin : AO) (e : Exit) (σ : AS) : Prop :=
  (e = .normal ∨ e = .ret) ∧ resAV Θ σ rs = some (.lit v) ∧ (∀ (i : Nat) ob, rows[i]? = some ob → σ.obj (1000001 + i) = ob) ∧ σ.obj 1000000 = pin
def initW (rows : List AO) (pin : AO) (args : List AV) : AS := ⟨initFrom 0 args, wnum 1000001 rows, 0, fun o => if o = 1000000 then pin else .dead⟩
def pinAvs : Nat → List AO → List AV
  | _, [] => []
  | k, x :: l => .own k (x.len.getD 0) :: pinAvs (k + 1) l
theorem pinAvs_free {D : List Nat} (hD : ∀ d ∈ D, d < 1000000) : ∀ (l : List AO) (k : Nat), 1000001 ≤ k → AV.free.frees D (pinAvs k l) = true
  | [], _, _ => rfl
  | x :: l, k, hk => by
    simp only [pinAvs, AV.free.frees, Bool.and_eq_true]
    refine ⟨?_, pinAvs_free hD l (k + 1) (by omega)⟩
    simp only [AV.free, Bool.not_eq_true', List.contains_eq_mem, decide_eq_false_iff_not]
    intro h
    have := hD k h
    omega
theorem frokW {W0 : World} {bs : List Nat} {rows : List AO} {us : List Value} : FrOk (fun o => if o = 1000000 then .pin W0 bs (pinAvs 1000001 rows) us else .dead) := by
  refine ⟨fun o ho => ?_, fun o D hD => ?_⟩
  · rw [if_neg (by omega)]
  · by_cases h : o = 1000000
    · rw [if_pos h]; exact pinAvs_free hD rows _ (Nat.le_refl _)
    · rw [if_neg h]; rfl
theorem look_wnum : ∀ (l : List AO) (k o : Nat), look (wnum k l) o = if k ≤ o then l[o - k]? else none
  | [], k, o => by simp [wnum, look]
  | x :: l, k, o => by
    simp only [wnum, look]
    by_cases h : k = o
    · subst h; simp
    · rw [if_neg h, look_wnum l (k + 1) o]
      by_cases h2 : k ≤ o
      · rw [if_pos h2, if_pos (by omega), show o - k = (o - (k + 1)) + 1 by omega]; simp
      · rw [if_neg h2, if_neg (by omega)]
theorem initW_obj {rows : List AO} {pin : AO} {args : List AV} (o : Nat) : (initW rows pin args).obj o = if o = 1000000 then pin else if 1000001 ≤ o then (rows[o - 1000001]?).getD .dead else .dead := by
  simp only [initW, AS.obj, look_wnum]
  by_cases h : o = 1000000
  · subst h; simp
  · rw [if_neg h]
    by_cases h2 : 1000001 ≤ o
    · rw [if_pos h2, if_pos h2, if_neg h]
    · rw [if_neg h2, if_neg h2, if_neg h]; rfl
theorem rowsAO_row : ∀ {ts : List Ty} {es : ES ts} {d : HR ts} {i : Nat} {ob : AO}, (rowsAO ts es d)[i]? = some ob → ∃ e t xs, ob = .row e t xs
  | [], es, d, i, ob, h => by simp [rowsAO] at h
  | t :: ts, (e, es), (xs, r), i, ob, h => by
    cases i with
    | zero => simp [rowsAO] at h; exact ⟨_, _, _, h.symm⟩
    | succ i => exact rowsAO_row (ts := ts) (es := es) (d := r) (i := i) (by simpa [rowsAO] using h)
theorem rowsAO_len : ∀ {ts : List Ty} {es : ES ts} {d : HR ts}, (rowsAO ts es d).length = ts.length
  | [], _, _ => rfl
  | t :: ts, (e, es), (xs, r) => by simp [rowsAO, rowsAO_len (ts := ts) (es := es) (d := r)]
theorem pinAvs_at : ∀ {l : List AO} {k i : Nat} {x : AO}, l[i]? = some x → (pinAvs k l)[i]? = some (.own (k + i) (x.len.getD 0))
  | [], k, i, x, h => by simp at h
  | y :: l, k, i, x, h => by
    cases i with
    | zero => simp at h; subst h; simp [pinAvs]
    | succ i =>
      have := pinAvs_at (l := l) (k := k + 1) (i := i) (by simpa using h)
      simp only [pinAvs, List.getElem?_cons_succ]
      rw [this]; congr 2; omega
theorem pinAvs_len : ∀ (l : List AO) (k : Nat), (pinAvs k l).length = l.length
  | [], _ => rfl
  | x :: l, k => by simp [pinAvs, pinAvs_len l (k + 1)]
section
variable {w0 : World} {get : Nat → Option AV} {obj : Nat → AO} {a : Act} {W : World} {ρ : Nat → Value} {β : Nat → List Nat}
/-- a live row of one's own is an own slice of itself -/
theorem RelW.self (h : RelW w0 get obj a W ρ β) {o : Nat} {e : TypeId} {t : Ty} {xs : List t.den} (hob : obj o = .row e t xs) : Rep (cxOf obj W ρ β) (.own o xs.length) (ρ o) := by
  have h1 := h.objs o
  rw [hob] at h1
  obtain ⟨cells, bss, g1, g2, g3, ⟨_, hh⟩, g5⟩ := h1
  have hl : (obj o).len = some xs.length := by rw [hob]; rfl
  rcases hh with ⟨h5, h6⟩ | ⟨g, cap, cur, hv, _, _, hc, _⟩
  · exact .own (m := xs.length) hl (Nat.le_refl _) ⟨none, 0, by rw [h5, h6], by omega, fun h0 => by omega⟩ fun _ => rfl
  · exact .own (m := xs.length) hl (Nat.le_refl _) ⟨_, _, hv, hc, fun _ => ⟨g, rfl⟩⟩ fun _ => rfl
end
section
variable {w0 : World} {get : Nat → Option AV} {obj : Nat → AO} {a : Act} {W : World} {ρ : Nat → Value} {β : Nat → List Nat}
/-- the blocks that lie in no written row -/
def restB (w0 W : World) (β : Nat → List Nat) (l : List Nat) : List Nat := (List.range W.heap.size).filter fun b => decide (w0.heap.size ≤ b) && l.all fun o => !(β o).contains b
theorem restB_mem {w0 W : World} {β : Nat → List Nat} {l : List Nat} {b : Nat} : b ∈ restB w0 W β l ↔ b < W.heap.size ∧ w0.heap.size ≤ b ∧ ∀ o ∈ l, b ∉ β o := by
  simp [restB, List.mem_filter, List.all_eq_true]
/-- the frame that the callee begins with -/
theorem RelW.enterW (h : RelW w0 get obj a W ρ β) {l : List Nat} (hnd : l.Nodup) {rows : List AO} (hll : l.length = rows.length) (hat : ∀ (i : Nat) o ob, l[i]? = some o → rows[i]? = some ob → obj o = ob) (hrow : ∀ (i : Nat) ob, rows[i]? = some ob → ∃ e t xs, ob = .row e t xs)
    {args : List AV} {n : Nat} (hn : n = rows.length) (hok : args.all (ok2 n) = true) {vs : List Value} (hv : Reps (cxOf obj W ρ β) (args.map (ren2 fun k => l.getD k 0)) vs) {N : Nat} (hN : args.length ≤ N) :
    AtS w0 N (initW rows (.pin W (restB w0 W β l) (pinAvs 1000001 rows) (l.map ρ)) (args.map (ren2 (1000001 + ·)))) { tmps := vs.toArray ++ Array.replicate (N - vs.toArray.size) undef, defers := [] } W := by
  let pin := AO.pin W (restB w0 W β l) (pinAvs 1000001 rows) (l.map ρ)
  let obj0 := (initW rows pin (args.map (ren2 (1000001 + ·)))).obj
  let ρ0 : Nat → Value := fun k => ρ (l.getD (k - 1000001) 0)
  let β0 : Nat → List Nat := fun k => if k = 1000000 then restB w0 W β l else β (l.getD (k - 1000001) 0)
  have hvl : vs.length = args.length := by simpa using hv.1
  have hobj : ∀ o, obj0 o = if o = 1000000 then pin else if 1000001 ≤ o then (rows[o - 1000001]?).getD .dead else .dead := fun o => initW_obj o
  have hp : obj0 1000000 = pin := by rw [hobj, if_pos rfl]
  have hi : ∀ i, i < rows.length → ∃ e t xs, obj0 (1000001 + i) = .row e t xs ∧ obj (l.getD i 0) = .row e t xs ∧ rows[i]? = some (.row e t xs) ∧ l[i]? = some (l.getD i 0) := by
    intro i hlt
    obtain ⟨e, t, xs, hr⟩ := hrow i _ (List.getElem?_eq_getElem hlt)
    have hle : l[i]? = some (l.getD i 0) := by rw [List.getD_eq_getElem?_getD, List.getElem?_eq_getElem (by omega)]; rfl
    refine ⟨e, t, xs, ?_, hat i _ _ hle (by rw [List.getElem?_eq_getElem hlt, hr]), by rw [List.getElem?_eq_getElem hlt, hr], hle⟩
    rw [hobj, if_neg (by omega), if_pos (by omega), show 1000001 + i - 1000001 = i by omega, List.getElem?_eq_getElem hlt, hr]; rfl
  have hcase : ∀ o, (obj0 o).len ≠ none → o = 1000000 ∨ ∃ i, i < rows.length ∧ o = 1000001 + i := by
    intro o ho
    rw [hobj] at ho
    by_cases h1 : o = 1000000
    · exact .inl h1
    · rw [if_neg h1] at ho
      by_cases h2 : 1000001 ≤ o
      · rw [if_pos h2] at ho
        refine .inr ⟨o - 1000001, ?_, by omega⟩
        rcases Nat.lt_or_ge (o - 1000001) rows.length with h3 | h3
        · exact h3
        · rw [List.getElem?_eq_none h3] at ho; exact absurd rfl ho
      · rw [if_neg h2] at ho; exact absurd rfl ho
  have hβ : ∀ i, β0 (1000001 + i) = β (l.getD i 0) := fun i => by simp only [β0]; rw [if_neg (by omega), show 1000001 + i - 1000001 = i by omega]
  have hρ : ∀ i, ρ0 (1000001 + i) = ρ (l.getD i 0) := fun i => by simp only [ρ0]; rw [show 1000001 + i - 1000001 = i by omega]
  have hβp : β0 1000000 = restB w0 W β l := if_pos rfl
  have hlv : ∀ i, i < rows.length → (obj (l.getD i 0)).len ≠ none := fun i hlt => by obtain ⟨e, t, xs, _, h2, _⟩ := hi i hlt; rw [h2]; simp [AO.len]
  subst hn
  have hren : RenLe rows.length (fun k => l.getD k 0) (1000001 + ·) (cxOf obj W ρ β) (cxOf obj0 W ρ0 β0) := by
    intro k hk a ha
    obtain ⟨e, t, xs, g1, g2, _⟩ := hi k hk
    refine ⟨?_, hρ k⟩
    have ha : (obj (l.getD k 0)).len = some a := ha
    show (obj0 (1000001 + k)).len = some a
    rw [g1]; rw [g2] at ha; exact ha
  have hargs : Reps (cxOf obj0 W ρ0 β0) (args.map (ren2 (1000001 + ·))) vs := ren2_reps hren hok hv
  have hne : ∀ i, 1000001 + i ≠ 1000000 := fun i => by omega
  refine ⟨by simp; omega, ρ0, β0, h.below, fun o => ?_, fun o b ho hb => ?_, fun o o' b ho ho' hb hb' => ?_, fun o ho => ?_, fun t x hx => ?_, rfl⟩
  · show (obj0 o).own (cxOf obj0 W ρ0 β0) w0.heap.size (ρ0 o) (β0 o)
    by_cases hl : (obj0 o).len = none
    · cases hx : obj0 o with
      | dead => trivial
      | _ => rw [hx] at hl; simp [AO.len] at hl
    · rcases hcase o hl with rfl | ⟨i, hlt, rfl⟩
      · rw [hp]
        refine ⟨hβp, fun b _ => rfl, by simp [pinAvs_len, hll], fun i x u hx hu => ?_⟩
        have hlt : i < rows.length := by
          have := (List.getElem?_eq_some_iff.1 hx).1
          rwa [pinAvs_len] at this
        obtain ⟨e, t, xs, g1, g2, g3, g4⟩ := hi i hlt
        rw [pinAvs_at g3] at hx
        rw [List.getElem?_map, g4] at hu
        simp only [Option.map_some, Option.some.injEq] at hx hu
        subst hx hu
        exact ren1_rep hren (x := .own i xs.length) (by simp [ok1, hlt]) (h.self g2)
      · obtain ⟨e, t, xs, g1, g2, _⟩ := hi i hlt
        rw [g1, hβ, hρ]
        have := h.objs (l.getD i 0)
        rw [g2] at this; exact this
  · rcases hcase o ho with rfl | ⟨i, hlt, rfl⟩
    · rw [hβp] at hb
      have := restB_mem.1 hb
      exact ⟨this.2.1, this.1⟩
    · rw [hβ] at hb
      exact h.lt _ b (hlv i hlt) hb
  · rcases hcase o ho with rfl | ⟨i, hlt, rfl⟩ <;> rcases hcase o' ho' with rfl | ⟨j, hlt', rfl⟩
    · rfl
    · rw [hβp] at hb; rw [hβ] at hb'
      exact absurd hb' ((restB_mem.1 hb).2.2 _ (List.mem_of_getElem? (hi j hlt').choose_spec.choose_spec.choose_spec.2.2.2))
    · rw [hβp] at hb'; rw [hβ] at hb
      exact absurd hb ((restB_mem.1 hb').2.2 _ (List.mem_of_getElem? (hi i hlt).choose_spec.choose_spec.choose_spec.2.2.2))
    · rw [hβ] at hb hb'
      have e1 := h.apart _ _ b (hlv i hlt) (hlv j hlt') hb hb'
      have e2 := (hi i hlt).choose_spec.choose_spec.choose_spec.2.2.2
      have e3 := (hi j hlt').choose_spec.choose_spec.choose_spec.2.2.2
      rw [← e1] at e3
      have : i = j := (List.getElem?_inj (by omega) hnd).1 (e2.trans e3.symm)
      rw [this]
  · rcases hcase o ho with rfl | ⟨i, hlt, rfl⟩
    · rw [hβp]; exact List.nodup_range.filter _
    · rw [hβ]; exact h.nodup _ (hlv i hlt)
  · obtain ⟨_, h3⟩ := initFrom_get _ 0 t x hx
    simp only [Nat.sub_zero] at h3
    have hlt : t < args.length := by
      have := (List.getElem?_eq_some_iff.1 h3).1
      simpa using this
    refine ⟨vs[t]'(by omega), ?_, ?_⟩
    · rw [Array.getElem?_append_left (by simp; omega)]
      simp
    · exact hargs.2 t x _ h3 (List.getElem?_eq_getElem (by omega))
end
theorem pair2_mem : ∀ {l : List Nat} {r : List AO} {p : Nat × AO}, p ∈ pair2 l r → ∃ i : Nat, l[i]? = some p.1 ∧ r[i]? = some p.2
  | [], _, p, h => by simp [pair2] at h
  | _ :: _, [], p, h => by simp [pair2] at h
  | o :: l, x :: r, p, h => by
    simp only [pair2, List.mem_cons] at h
    rcases h with rfl | h
    · exact ⟨0, rfl, rfl⟩
    · obtain ⟨i, h1, h2⟩ := pair2_mem h
      exact ⟨i + 1, by simpa using h1, by simpa using h2⟩
theorem pair2_in : ∀ {l : List Nat} {r : List AO} {i o : Nat} {x : AO}, l[i]? = some o → r[i]? = some x → (o, x) ∈ pair2 l r
  | [], _, i, o, x, h, _ => by simp at h
  | _ :: _, [], i, o, x, _, h => by simp at h
  | o' :: l, x' :: r, i, o, x, h1, h2 => by
    cases i with
    | zero => simp at h1 h2; subst h1 h2; simp [pair2]
    | succ i => simp only [pair2, List.mem_cons]; exact .inr (pair2_in (by simpa using h1) (by simpa using h2))
section
variable {w0 : World} {get : Nat → Option AV} {obj : Nat → AO} {a : Act} {W : World} {ρ : Nat → Value} {β : Nat → List Nat}
/-- the caller's state behind the call -/
theorem RelW.exitW (h : RelW w0 get obj a W ρ β) {l : List Nat} (hnd : l.Nodup) {rows rows' : List AO} (hll : l.length = rows.length) (hat : ∀ (i : Nat) o ob, l[i]? = some o → rows[i]? = some ob → obj o = ob) (hl' : rows'.length = rows.length) (hrow' : ∀ (i : Nat) ob, rows'[i]? = some ob → ∃ e t xs, ob = .row e t xs) (hlen : ∀ (i : Nat) ob ob', rows[i]? = some ob → rows'[i]? = some ob' → ob'.len = ob.len)
    {get1 : Nat → Option AV} {obj1 : Nat → AO} {a1 : Act} {w' : World} {ρ1 : Nat → Value} {β1 : Nat → List Nat} (h1 : RelW w0 get1 obj1 a1 w' ρ1 β1) (hob : ∀ (i : Nat) ob, rows'[i]? = some ob → obj1 (1000001 + i) = ob) (hpin : obj1 1000000 = .pin W (restB w0 W β l) (pinAvs 1000001 rows) (l.map ρ)) :
    ∃ ρ' β', RelW w0 get (setE obj (pair2 l rows')) a w' ρ' β' := by
  have hp := h1.objs 1000000
  rw [hpin] at hp
  obtain ⟨e1, e2, e3⟩ := hp
  have hi : ∀ i, i < rows.length → ∃ e t ys, l[i]? = some (l.getD i 0) ∧ rows'[i]? = some (.row e t ys) ∧ obj1 (1000001 + i) = .row e t ys ∧ (obj (l.getD i 0)).len = some ys.length ∧ ρ1 (1000001 + i) = ρ (l.getD i 0) := by
    intro i hlt
    have hle : l[i]? = some (l.getD i 0) := by rw [List.getD_eq_getElem?_getD, List.getElem?_eq_getElem (by omega)]; rfl
    obtain ⟨e, t, ys, hr⟩ := hrow' i _ (List.getElem?_eq_getElem (by omega))
    have hr' : rows'[i]? = some (.row e t ys) := by rw [List.getElem?_eq_getElem (by omega), hr]
    have hr0 := List.getElem?_eq_getElem hlt
    have hln := hlen i _ _ hr0 hr'
    have ho := hat i _ _ hle hr0
    have hlo : (obj (l.getD i 0)).len = some ys.length := by rw [ho, ← hln]; rfl
    refine ⟨e, t, ys, hle, hr', hob i _ hr', hlo, ?_⟩
    have hrep := e3.2 i _ (ρ (l.getD i 0)) (pinAvs_at hr0) (by rw [List.getElem?_map, hle]; rfl)
    exact (h1.whole (hob i _ hr') (by rw [← hln]; rfl) hrep).1.symm
  let β' : Nat → List Nat := fun o => if o ∈ l then β1 (1000001 + l.idxOf o) else β o
  let obj' := setE obj (pair2 l rows')
  have hin : ∀ o, o ∈ l → ∃ i e t ys, i < rows.length ∧ o = l.getD i 0 ∧ obj' o = .row e t ys ∧ obj1 (1000001 + i) = .row e t ys ∧ (obj o).len = some ys.length ∧ ρ1 (1000001 + i) = ρ o ∧ β' o = β1 (1000001 + i) ∧ l[i]? = some o := by
    intro o ho
    obtain ⟨i, hio⟩ := List.mem_iff_getElem?.1 ho
    have hlt : i < rows.length := by have := (List.getElem?_eq_some_iff.1 hio).1; omega
    obtain ⟨e, t, ys, g1, g2, g3, g4, g5⟩ := hi i hlt
    have eo : o = l.getD i 0 := by rw [g1] at hio; exact (Option.some.inj hio).symm
    subst eo
    refine ⟨i, e, t, ys, hlt, rfl, ?_, g3, g4, g5, ?_, g1⟩
    · obtain ⟨p, f1, f2, f3⟩ := setE_mem (obj := obj) (l := pair2 l rows') (o := l.getD i 0) ⟨_, pair2_in g1 g2, rfl⟩
      obtain ⟨j, f4, f5⟩ := pair2_mem f1
      rw [f2] at f4
      have : i = j := (List.getElem?_inj (by omega) hnd).1 (g1.trans f4.symm)
      subst this
      show setE obj (pair2 l rows') (l.getD i 0) = _
      rw [f3]
      rw [g2] at f5; exact (Option.some.inj f5).symm
    · show (if l.getD i 0 ∈ l then β1 (1000001 + l.idxOf (l.getD i 0)) else _) = _
      rw [if_pos ho]
      have hix : l[l.idxOf (l.getD i 0)]? = some (l.getD i 0) := by rw [List.getElem?_eq_getElem (List.idxOf_lt_length_of_mem ho)]; simp
      have : i = l.idxOf (l.getD i 0) := (List.getElem?_inj (by omega) hnd).1 (g1.trans hix.symm)
      rw [← this]
  have hout : ∀ o, o ∉ l → obj' o = obj o ∧ β' o = β o := fun o ho => ⟨setE_out fun p hp e => by obtain ⟨i, f1, _⟩ := pair2_mem hp; exact ho (e ▸ List.mem_of_getElem? f1), if_neg ho⟩
  have hlen0 : ∀ o, (obj' o).len = (obj o).len := by
    intro o
    by_cases ho : o ∈ l
    · obtain ⟨i, e, t, ys, _, _, g3, _, g5, _⟩ := hin o ho
      rw [g3, g5]; rfl
    · rw [(hout o ho).1]
  have hrest : ∀ b ∈ restB w0 W β l, ∀ i, i < rows.length → b ∉ β1 (1000001 + i) := by
    intro b hb i hlt hb'
    obtain ⟨e, t, ys, _, _, g3, _⟩ := hi i hlt
    have := h1.apart 1000000 (1000001 + i) b (by rw [hpin]; simp [AO.len]) (by rw [g3]; simp [AO.len]) (by rw [e1]; exact hb) hb'
    omega
  have hheap : ∀ b, b < W.heap.size → (∀ o ∈ l, b ∉ β o) → w'.heap[b]? = W.heap[b]? := by
    intro b hb hn
    rcases Nat.lt_or_ge b w0.heap.size with h2 | h2
    · rw [h1.below.block b h2, h.below.block b h2]
    · exact e2 b (restB_mem.2 ⟨hb, h2, hn⟩)
  have hsize : ∀ b, b < W.heap.size → (∀ o ∈ l, b ∉ β o) → b < w'.heap.size := by
    intro b hb hn
    have := hheap b hb hn
    rw [Array.getElem?_eq_getElem hb] at this
    exact (Array.getElem?_eq_some_iff.1 this).1
  have hlive : ∀ o, o ∈ l → (obj o).len ≠ none := fun o ho => by obtain ⟨i, e, t, ys, _, _, _, _, g5, _⟩ := hin o ho; rw [g5]; simp
  have hoth : ∀ o b, (obj o).len ≠ none → o ∉ l → b ∈ β o → ∀ o' ∈ l, b ∉ β o' := fun o b hl ho hb o' ho' hb' => ho (h.apart o o' b hl (hlive o' ho') hb hb' ▸ ho')
  have hle : Cx.Le (cxOf obj W ρ β) (cxOf obj' w' ρ β') := by
    refine ⟨fun b hb => ⟨hsize b hb.1 fun o ho => hb.2 o (hlive o ho), fun o ho hb' => ?_⟩, fun p hp => World.cell?_of_block (hheap _ hp.1 fun o ho => hp.2 o (hlive o ho)), fun o n ho => ?_, fun o n _ => rfl⟩
    · by_cases hm : o ∈ l
      · obtain ⟨i, e, t, ys, g1, _, _, g4, _, _, g7, _⟩ := hin o hm
        rw [g7] at hb'
        have h2 := (h1.lt (1000001 + i) b (by rw [g4]; simp [AO.len]) hb').1
        exact hrest b (restB_mem.2 ⟨hb.1, h2, fun o' ho' => hb.2 o' (hlive o' ho')⟩) i g1 hb'
      · rw [(hout o hm).2] at hb'
        exact hb.2 o (by rw [← hlen0 o]; exact ho) hb'
    · show (obj' o).len = some n
      rw [hlen0]; exact ho
  refine ⟨ρ, β', h1.below, fun o => ?_, fun o b ho hb => ?_, fun o o' b ho ho' hb hb' => ?_, fun o ho => ?_, fun t x hx => ?_, h.defers⟩
  · show (obj' o).own (cxOf obj' w' ρ β') w0.heap.size (ρ o) (β' o)
    by_cases hm : o ∈ l
    · obtain ⟨i, e, t, ys, g1, _, g3, g4, _, g6, g7, _⟩ := hin o hm
      rw [g3, g7, ← g6]
      have := h1.objs (1000001 + i)
      rw [g4] at this; exact this
    · rw [(hout o hm).1, (hout o hm).2]
      by_cases hl2 : (obj o).len = none
      · cases he : obj o with
        | dead => trivial
        | _ => rw [he] at hl2; simp [AO.len] at hl2
      · exact AO.own_mono (Nat.le_refl _) (fun b hb => hheap b (h.lt o b hl2 hb).2 (hoth o b hl2 hm hb)) (fun c u hr => hr.le hle) (h.objs o)
  · have ho : (obj' o).len ≠ none := ho
    rw [hlen0] at ho
    by_cases hm : o ∈ l
    · obtain ⟨i, e, t, ys, g1, _, _, g4, _, _, g7, _⟩ := hin o hm
      rw [g7] at hb
      exact h1.lt _ b (by rw [g4]; simp [AO.len]) hb
    · rw [(hout o hm).2] at hb
      exact ⟨(h.lt o b ho hb).1, hsize b (h.lt o b ho hb).2 (hoth o b ho hm hb)⟩
  · have ho : (obj' o).len ≠ none := ho
    have ho' : (obj' o').len ≠ none := ho'
    rw [hlen0] at ho ho'
    have mix : ∀ o o', (obj o').len ≠ none → o ∈ l → o' ∉ l → b ∈ β' o → b ∈ β' o' → False := by
      intro o o' hl2 hm hm' hb hb'
      obtain ⟨i, e, t, ys, g1, _, _, g4, _, _, g7, _⟩ := hin o hm
      rw [g7] at hb
      rw [(hout o' hm').2] at hb'
      have h2 := h.lt o' b hl2 hb'
      exact hrest b (restB_mem.2 ⟨h2.2, h2.1, hoth o' b hl2 hm' hb'⟩) i g1 hb
    by_cases hm : o ∈ l <;> by_cases hm' : o' ∈ l
    · obtain ⟨i, e, t, ys, g1, _, _, g4, _, _, g7, g8⟩ := hin o hm
      obtain ⟨j, e', t', ys', k1, _, _, k4, _, _, k7, k8⟩ := hin o' hm'
      rw [g7] at hb; rw [k7] at hb'
      have := h1.apart _ _ b (by rw [g4]; simp [AO.len]) (by rw [k4]; simp [AO.len]) hb hb'
      have : i = j := by omega
      subst this
      exact Option.some.inj (g8.symm.trans k8)
    · exact (mix o o' ho' hm hm' hb hb').elim
    · exact (mix o' o ho hm' hm hb' hb).elim
    · rw [(hout o hm).2] at hb; rw [(hout o' hm').2] at hb'
      exact h.apart o o' b ho ho' hb hb'
  · have ho : (obj' o).len ≠ none := ho
    rw [hlen0] at ho
    by_cases hm : o ∈ l
    · obtain ⟨i, e, t, ys, g1, _, _, g4, _, _, g7, _⟩ := hin o hm
      rw [g7]; exact h1.nodup _ (by rw [g4]; simp [AO.len])
    · rw [(hout o hm).2]; exact h.nodup o ho
  · obtain ⟨v, f1, f2⟩ := h.slots t x hx
    exact ⟨v, f1, f2.le hle⟩
end
/-- a function that writes rows of its caller's, by its walk -/
theorem okW {P : Program} {Θ : TypeId → Option TI} {f : FuncId} {fn : Func} {N : Nat} {rs : List ResultVar} (hΘ : ∀ t ti, Θ t = some ti → ti.ok P t) (hf : P.funcs[f]? = some fn) (hb : fn.body.isNone = false) (hN : fn.ntmps = N) (hrs : fn.results = rs.toArray) (hrl : rs.length ≤ 4) (hname : (fn.name == "runtime.NumGoroutine") = false)
    {α : Type} {ts : List Ty} {sel : List AV → Option (List Nat × α)} {F : α → HR ts → Prop × Value × HR ts} (can : α → List AV)
    (hcan : ∀ args l aa, sel args = some (l, aa) → args = (can aa).map (ren2 fun k => l.getD k 0))
    (hok : ∀ aa, (can aa).all (ok2 ts.length) = true ∧ (can aa).length ≤ N)
    (hlen : ∀ aa es d, (F aa d).1 → ∀ (i : Nat) ob ob', (rowsAO ts es d)[i]? = some ob → (rowsAO ts es (F aa d).2.2)[i]? = some ob' → ob'.len = ob.len)
    (h : ∀ aa es d, (F aa d).1 → ∀ w0 pin, FrOk (fun o => if o = 1000000 then pin else .dead) → AWp P w0 N (fn.body.getD .skip) (initW (rowsAO ts es d) pin ((can aa).map (ren2 (1000001 + ·)))) (EndsW Θ rs (F aa d).2.1 (rowsAO ts es (F aa d).2.2) pin)) : (Con.wr ts sel F).ok P f := by
  obtain ⟨code, hcode⟩ : ∃ code, fn.body = some code := by
    cases hc : fn.body with
    | none => rw [hc] at hb; simp at hb
    | some c => exact ⟨c, rfl⟩
  subst hN
  refine ⟨fun args w => by simp only [callFunc, Sem.run_bind, run_program, Result.andThen_ok, hf, hname, hb]; rfl, fun w0 get obj a W ρ β hR nid args c x eff tch hm hc vs hv => ?_⟩
  simp only [Con.wr] at hm
  split at hm
  rotate_left
  · cases hm
  rename_i l aa hs
  split at hm
  rotate_left
  · cases hm
  rename_i hnd
  split at hm
  rotate_left
  · cases hm
  rename_i es d hr
  cases hm
  obtain ⟨g1, g2, g3⟩ := rowsT_at hr
  have ha := hcan _ _ _ hs
  subst ha
  refine calls_of_wp hf hcode ?_
  have hin := hR.enterW hnd (rows := rowsAO ts es d) (by omega) g3 (fun i ob => rowsAO_row) (n := ts.length) g2.symm (hok aa).1 hv (N := fn.ntmps) (hok aa).2
  have h2 := h aa es d hc w0 (.pin W (restB w0 W β tch) (pinAvs 1000001 (rowsAO ts es d)) (List.map ρ tch)) frokW
  rw [hcode] at h2
  refine wp_mono (h2 _ _ hin) ?_
  rintro e a' w' ⟨σ', ⟨he, hres, hob, hpin⟩, hsz, ρ1, β1, hr1⟩
  obtain ⟨v, hv1, hv2⟩ := res_sound (P := P) hΘ hr1 hrs hrl hres
  have hve := hv2.lit_eq
  subst hve
  have g2' : (rowsAO ts es (F aa d).2.2).length = (rowsAO ts es d).length := by rw [g2, rowsAO_len]
  obtain ⟨ρ', β', hfin⟩ := hR.exitW hnd (rows := rowsAO ts es d) (by omega) g3 g2' (fun i ob => rowsAO_row) (hlen aa es d hc) hr1 hob hpin
  rcases he with rfl | rfl
  · exact ⟨hr1.defers, _, hv1, _, ρ', β', rfl, .lit _, hfin⟩
  · exact ⟨hr1.defers, _, hv1, _, ρ', β', rfl, .lit _, hfin⟩
end Go.Proofs.Ytgnnmifpfgpllaa
