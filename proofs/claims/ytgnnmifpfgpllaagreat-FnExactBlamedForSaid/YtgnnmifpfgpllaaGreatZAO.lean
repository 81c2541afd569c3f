import Derived.Test.YtgnnmifpfgpllaaGreatZAM
/- Abstract walks: functions that hand one of their caller's rows on. -/
set_option linter.all false
set_option linter.unusedVariables false
set_option linter.unusedSimpArgs false
namespace Go.Proofs.YtgnnmifpfgpllaaGreat
open Go.RowKit
/-- what the walk of such a function must come to -/
def EndsO (Θ : TypeId → Option TI) (rs : List ResultVar) (n : Nat) (row pin : AO) (e : Exit) (σ : AS) : Prop :=
  (e = .normal ∨ e = .ret) ∧ resAV Θ σ rs = some (.own 1000001 n) ∧ σ.obj 1000001 = row ∧ σ.obj 1000000 = pin
theorem EndsO_id {Θ : TypeId → Option TI} {rs : List ResultVar} {n : Nat} {row pin : AO} {e : Exit} {σ : AS} (h : EndsO Θ rs n row pin e σ) : EndsO Θ rs n row pin e σ := h
section
variable {w0 : World} {get : Nat → Option AV} {obj : Nat → AO} {a : Act} {W : World} {ρ : Nat → Value} {β : Nat → List Nat}
/-- a slot of one's own behind the last one -/
theorem RelW.push (h : RelW w0 get obj a W ρ β) {x : AV} {v : Value} (hx : Rep (cxOf obj W ρ β) x v) : RelW w0 (fun t => if t = a.tmps.size then some x else if t < a.tmps.size then get t else none) obj { tmps := a.tmps.push v, defers := [] } W ρ β := by
  refine ⟨h.below, h.objs, h.lt, h.apart, h.nodup, fun t y hy => ?_, rfl⟩
  split at hy
  · rename_i ht; subst ht
    cases hy
    exact ⟨_, by simp, hx⟩
  · split at hy
    · rename_i h1 h2
      obtain ⟨u, e1, e2⟩ := h.slots t y hy
      exact ⟨u, by rw [Array.getElem?_push_lt h2]; rw [Array.getElem?_eq_getElem h2] at e1; exact e1, e2⟩
    · cases hy
theorem RelW.pop {obj' : Nat → AO} {W' : World} {ρ' : Nat → Value} {β' : Nat → List Nat} (h : RelW w0 get obj a W ρ β) {x : AV} {v : Value} (h2 : RelW w0 (fun t => if t = a.tmps.size then some x else if t < a.tmps.size then get t else none) obj' { tmps := a.tmps.push v, defers := [] } W' ρ' β') : Rep (cxOf obj' W' ρ' β') x v ∧ RelW w0 get obj' a W' ρ' β' := by
  obtain ⟨v2, e1, e2⟩ := h2.slots a.tmps.size x (if_pos rfl)
  have e3 : v2 = v := by simpa using e1.symm
  subst e3
  refine ⟨e2, h2.below, h2.objs, h2.lt, h2.apart, h2.nodup, fun t y hy => ?_, h.defers⟩
  obtain ⟨u, f1, f2⟩ := h.slots t y hy
  have ht : t < a.tmps.size := (Array.getElem?_eq_some_iff.1 f1).1
  obtain ⟨v', g1, g2⟩ := h2.slots t y (by rw [if_neg (by omega), if_pos ht]; exact hy)
  refine ⟨v', ?_, g2⟩
  dsimp only at g1
  rwa [Array.getElem?_push_lt ht, ← Array.getElem?_eq_getElem ht] at g1
end
theorem okHand {P : Program} {Θ : TypeId → Option TI} {f : FuncId} {fn : Func} {N : Nat} {rs : List ResultVar} (hΘ : ∀ t ti, Θ t = some ti → ti.ok P t) (hf : P.funcs[f]? = some fn) (hb : fn.body.isNone = false) (hN : fn.ntmps = N) (hrs : fn.results = rs.toArray) (hrl : rs.length ≤ 4)
    {t : Ty} {e : TypeId} {xs : List t.den} {rest : List Value} (hlen : rest.length + 1 ≤ N)
    (h : ∀ w0 pin, FrOk (fun o => if o = 1000000 then pin else .dead) → AWp P w0 N (fn.body.getD .skip) (initW [.row e t xs] pin (.own 1000001 xs.length :: rest.map .lit)) (EndsO Θ rs xs.length (.row e t xs) pin))
    {w0 : World} {get : Nat → Option AV} {obj : Nat → AO} {a : Act} {W : World} {ρ : Nat → Value} {β : Nat → List Nat} (hR0 : RelW w0 get obj a W ρ β) {o : Nat} (hob : obj o = .row e t xs) :
    Calls P f (ρ o :: rest).toArray W fun en w' => ∃ ρ' β', en = .returned (ρ o) ∧ Rep (cxOf obj w' ρ' β') (.own o xs.length) (ρ o) ∧ RelW w0 get obj a w' ρ' β' := by
  obtain ⟨code, hcode⟩ : ∃ code, fn.body = some code := by
    cases hc : fn.body with
    | none => rw [hc] at hb; simp at hb
    | some c => exact ⟨c, rfl⟩
  subst hN
  refine calls_of_wp hf hcode ?_
  have hself := hR0.self hob
  have hR := hR0.push hself
  have hnd : [o].Nodup := by simp
  have hat : ∀ (i : Nat) o' ob, [o][i]? = some o' → [AO.row e t xs][i]? = some ob → obj o' = ob := by
    intro i o' ob h1 h2
    match i with
    | 0 => simp at h1 h2; subst h1 h2; exact hob
    | i + 1 => simp at h1
  have hrow : ∀ (i : Nat) ob, [AO.row e t xs][i]? = some ob → ∃ e t xs, ob = .row e t xs := by
    intro i ob h1
    match i with
    | 0 => simp at h1; exact ⟨_, _, _, h1.symm⟩
    | i + 1 => simp at h1
  have hren : ∀ m : Nat → Nat, (rest.map AV.lit).map (ren2 m) = rest.map .lit := by
    intro m; rw [List.map_map]; exact List.map_congr_left fun v _ => by cases v <;> rfl
  have hin := hR.enterW hnd (rows := [.row e t xs]) rfl hat hrow (args := .own 0 xs.length :: rest.map .lit) (n := 1) rfl (by
      simp only [List.all_cons, List.all_map, Bool.and_eq_true]
      exact ⟨by simp [ok2, ok1], List.all_eq_true.2 fun v _ => by cases v <;> rfl⟩) (vs := ρ o :: rest) (by
      rw [List.map_cons, hren]
      exact .cons hself (Reps.lits rest)) (N := fn.ntmps) (by simp only [List.length_cons, List.length_map]; exact hlen)
  rw [show List.map (ren2 fun x => 1000001 + x) (AV.own 0 xs.length :: List.map AV.lit rest) = .own 1000001 xs.length :: rest.map .lit from by rw [List.map_cons, hren]; rfl] at hin
  have h2 := h w0 (.pin W (restB w0 W β [o]) (pinAvs 1000001 [.row e t xs]) (List.map ρ [o])) frokW
  rw [hcode] at h2
  refine wp_mono (h2 _ _ hin) ?_
  rintro en a' w' ⟨σ', ⟨he, hres, hrw, hpin⟩, hsz, ρ1, β1, hr1⟩
  obtain ⟨v, hv1, hv2⟩ := res_sound (P := P) hΘ hr1 hrs hrl hres
  have hp := hr1.objs 1000000
  rw [hpin] at hp
  obtain ⟨_, _, e3⟩ := hp
  have hrep := e3.2 0 (.own 1000001 xs.length) (ρ o) rfl rfl
  have e4 := (hr1.whole hrw rfl hv2).1
  have e5 := (hr1.whole hrw rfl hrep).1
  obtain rfl : v = ρ o := e4.trans e5.symm
  obtain ⟨ρ', β', hfin⟩ := hR.exitW hnd (rows := [.row e t xs]) (rows' := [.row e t xs]) rfl hat rfl hrow (fun i ob ob' h1 h2 => by rw [h1] at h2; cases h2; rfl) hr1 (fun i ob h1 => by
    match i with
    | 0 => simp at h1; subst h1; exact hrw
    | i + 1 => simp at h1) hpin
  have hset : setE obj (pair2 [o] [.row e t xs]) = obj := by
    funext k
    simp only [pair2, setE, setO]
    split
    · rename_i hk; subst hk; exact hob.symm
    · rfl
  rw [hset] at hfin
  obtain ⟨g1, g2⟩ := hR0.pop hfin
  rcases he with rfl | rfl
  · exact ⟨hr1.defers, _, hv1, ρ', β', rfl, g1, g2⟩
  · exact ⟨hr1.defers, _, hv1, ρ', β', rfl, g1, g2⟩
/-- a function that puts a number into an own row, or hands the row on -/
def Con.ins (T : TypeId) (put : Int → List Int → List Int) : Con where
  run nid h args := match args with
    | [.own o n, .lit (.int .i64 v)] => match h o, h nid with
      | .row e .int xs, .dead => some (n = xs.length ∧ e = T ∧ xs.length ≤ 1000000, .own nid (put v xs).length, [(nid, .row T .int (put v xs)), (o, .gone n)], [nid, o])
      | _, _ => none
    | _ => none
  congr nid h h' args r hs hh := by
    revert hs
    split
    · rename_i o n v
      split
      · rename_i e xs h1 h2
        intro hs; cases hs
        rw [← hh o (by simp), ← hh nid (by simp), h1, h2]
      · intro hs; cases hs
    · intro hs; cases hs
theorem okIns {P : Program} {f : FuncId} {T : TypeId} {put : Int → List Int → List Int} (stays : Int → List Int → Bool) (hst : ∀ v xs, stays v xs = true → put v xs = xs)
    (h1 : (mk (conF [.list .int, .int] fun (⟨xs, v, _⟩ : List Int × Int × Unit) => (xs.length ≤ 1000000 ∧ stays v xs = false, .own 0 (put v xs).length, [.row T .int (put v xs)]))).ok P f)
    (h2 : ∀ (v : Int) (xs : List Int), xs.length ≤ 1000000 → stays v xs = true → ∀ {w0 : World} {get : Nat → Option AV} {obj : Nat → AO} {a : Act} {W : World} {ρ : Nat → Value} {β : Nat → List Nat}, RelW w0 get obj a W ρ β → ∀ {o : Nat}, obj o = .row T .int xs → Calls P f (ρ o :: [.int .i64 v]).toArray W fun en w' => ∃ ρ' β', en = .returned (ρ o) ∧ Rep (cxOf obj w' ρ' β') (.own o xs.length) (ρ o) ∧ RelW w0 get obj a w' ρ' β') : (Con.ins T put).ok P f := by
  refine ⟨h1.enter, fun w0 get obj a W ρ0 β h nid args c x eff tch hm hc vs hv => ?_⟩
  simp only [Con.ins] at hm
  split at hm
  rotate_left
  · cases hm
  rename_i o n v
  split at hm
  rotate_left
  · cases hm
  rename_i e xs hob hdead
  cases hm
  obtain ⟨hn, rfl, hl⟩ := hc
  have hv0 := hv
  obtain ⟨v1, vs, rfl, r1, hv⟩ := hv.cons_of
  obtain ⟨v2, vs, rfl, r2, hv⟩ := hv.cons_of
  obtain rfl := hv.nil_of
  obtain rfl := r2.lit_eq
  obtain ⟨hu, hown⟩ := h.whole hob hn r1
  subst hu hn
  have hon : o ≠ nid := fun e' => by rw [e', hdead] at hob; cases hob
  cases hs : stays v xs with
  | true =>
    refine (h2 v xs hl hs h hob).mono ?_
    rintro en w' ⟨ρ', β', rfl, g1, g2⟩
    obtain ⟨A, c, ρ2, β2, f1, f2, f3⟩ := g2.cut (oo := o) (n := xs.length) hob rfl rfl (k0 := xs.length) (Nat.le_refl _) (nid := nid) hdead
    have e1 := (g2.whole hob rfl g1).1
    rw [List.take_length] at f2 f3
    rw [hst v xs hs]
    refine ⟨_, ρ2, β2, rfl, ?_, f2⟩
    rw [e1, f1]; exact f3
  | false =>
    obtain ⟨cc, tch, hcc, hrun⟩ : ∃ cc tch, cc ∧ (mk (conF [.list .int, .int] fun (⟨xs, v, _⟩ : List Int × Int × Unit) => (xs.length ≤ 1000000 ∧ stays v xs = false, .own 0 (put v xs).length, [.row e .int (put v xs)]))).run nid obj [.own o xs.length, .lit (.int .i64 v)] = some (cc, .own nid (put v xs).length, [(nid, .row e .int (put v xs))], tch) := by
      refine ⟨(xs.length = xs.length ∧ True ∧ True) ∧ xs.length ≤ 1000000 ∧ stays v xs = false, [o] ++ [nid], ⟨⟨rfl, trivial, trivial⟩, hl, hs⟩, ?_⟩
      · simp only [mk, DCon.lift, DCon.runC, deeps3, deep3, deep2, deep1, hob, mkD, conF, asArgs, asArg, asTy, asI1, asL1, dite_true, Option.map_some, numb, List.zipIdx_cons, List.zipIdx_nil, List.map_cons, List.map_nil, ren3, ren2, ren1, AO.ren, Nat.zero_add, Nat.add_zero, List.all_cons, List.all_nil, hdead, AO.isDead, Bool.and_self, if_true]
        rfl
    refine (h1.calls w0 get obj a W ρ0 β h nid _ _ _ _ _ hrun hcc _ hv0).mono ?_
    rintro en w' ⟨u, ρ', β', rfl, g1, g2⟩
    have hnid : setE obj [(nid, .row e .int (put v xs))] nid = .row e .int (put v xs) := by simp [setE, setO]
    have ho2 : setE obj [(nid, .row e .int (put v xs))] o = .row e .int xs := by simp [setE, setO, hon, hob]
    have e1 := (g2.whole hnid rfl g1).1
    obtain ⟨_, g3⟩ := g2.freeze ho2
    have hset : setO (setE obj [(nid, .row e .int (put v xs))]) o (.gone xs.length) = setE obj [(nid, .row e .int (put v xs)), (o, .gone xs.length)] := by
      funext k
      simp only [setE, setO]
      by_cases e2 : k = o
      · subst e2; simp [hon]
      · simp [e2]
    rw [hset] at g3
    refine ⟨u, ρ', _, rfl, ?_, g3⟩
    rw [e1]
    have hfin : setE obj [(nid, .row e .int (put v xs)), (o, .gone xs.length)] nid = .row e .int (put v xs) := by simp [setE, setO]
    exact g3.self hfin
end Go.Proofs.YtgnnmifpfgpllaaGreat
