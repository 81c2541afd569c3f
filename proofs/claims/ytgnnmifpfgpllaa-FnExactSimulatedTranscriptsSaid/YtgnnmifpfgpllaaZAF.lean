import Derived.Test.YtgnnmifpfgpllaaZAE
/- Abstract walks: forks, loops, objects that are let go. -/
set_option linter.all false
set_option linter.unusedVariables false
set_option linter.unusedSimpArgs false
namespace Go.Proofs.Ytgnnmifpfgpllaa
open Go.RowKit
class Hold (α : Type) where
  val : α
/-- a Bool decides (what follows lies where simp does not look) -/
structure Fork (b : Bool) [h : Hold (Prop × Prop)] : Prop where
  t : b = true → h.val.1
  f : b = false → h.val.2
theorem Fork.intro {b : Bool} {x y : Prop} (t : b = true → x) (f : b = false → y) : @Fork b ⟨(x, y)⟩ := @Fork.mk b ⟨(x, y)⟩ t f
theorem Fork.T {b : Bool} {x y : Prop} (h : @Fork b ⟨(x, y)⟩) : b = true → x := @Fork.t b ⟨(x, y)⟩ h
theorem Fork.F {b : Bool} {x y : Prop} (h : @Fork b ⟨(x, y)⟩) : b = false → y := @Fork.f b ⟨(x, y)⟩ h
theorem Fork.true_ {x y : Prop} : @Fork true ⟨(x, y)⟩ = x := propext ⟨fun h => Fork.T h rfl, fun h => Fork.intro (fun _ => h) (fun e => (by cases e))⟩
theorem Fork.false_ {x y : Prop} : @Fork false ⟨(x, y)⟩ = y := propext ⟨fun h => Fork.F h rfl, fun h => Fork.intro (fun e => (by cases e)) (fun _ => h)⟩
def forkOf (gd : Nat → Option Tmp) (o : Oper) (ev : Operand → Option AV) : Option Bool := match o.guard with
  | some (g, _) => match gd g with
    | some t => match ev (.tmp t) with
      | some (.lit (.bool b)) => some b
      | _ => none
    | none => none
  | none => match o.op with
    | .pick c _ _ => match ev c with
      | some (.lit (.bool b)) => some b
      | _ => none
    | _ => none
def stepF (Θ : TypeId → Option TI) (Γ : List (FuncId × Con)) (ds : List (Nat × Bool)) (gd : Nat → Option Tmp) (nx i : Nat) (o : Oper) (σ : AS) (k : AS → List Nat × List Nat → Prop) : Prop := match stepOp Θ Γ ds gd nx i o σ.ev σ.obj with
  | none => False
  | some (c, x, eff, tch) => c ∧ k (σ.upd o.dst x eff) (tch, eff.map (·.1))
def runF (Θ : TypeId → Option TI) (Γ : List (FuncId × Con)) (gd : Nat → Option Tmp) (nx : Nat) : List Oper → Nat → AS → List (List Nat × List Nat) → (AS → List (List Nat × List Nat) → Prop) → Prop
  | [], _, σ, rs, K => K σ rs
  | o :: l, i, σ, rs, K => match forkOf gd o σ.ev with
    | some b => @Fork b ⟨(stepF Θ Γ [(i, true)] gd nx i o σ fun σ' r => runF Θ Γ gd nx l (i + 1) σ' (rs ++ [r]) K, stepF Θ Γ [(i, false)] gd nx i o σ fun σ' r => runF Θ Γ gd nx l (i + 1) σ' (rs ++ [r]) K)⟩
    | none => stepF Θ Γ [] gd nx i o σ fun σ' r => runF Θ Γ gd nx l (i + 1) σ' (rs ++ [r]) K
section
variable {P : Program} {Θ : TypeId → Option TI} {Γ : List (FuncId × Con)} {w0 : World} {N : Nat}
theorem stepOp_ds {ds ds' : List (Nat × Bool)} {gd : Nat → Option Tmp} {nx i : Nat} {o : Oper} {ev : Operand → Option AV} {h : Nat → AO} (e : look ds i = look ds' i) : stepOp Θ Γ ds gd nx i o ev h = stepOp Θ Γ ds' gd nx i o ev h := by
  unfold stepOp; rw [e]
theorem runR_ds {ds ds' : List (Nat × Bool)} {gd : Nat → Option Tmp} {nx : Nat} {K : AS → List (List Nat × List Nat) → Prop} : ∀ (l : List Oper) (i : Nat) (σ : AS) (rs : List (List Nat × List Nat)), (∀ j, i ≤ j → look ds j = look ds' j) → runR Θ Γ ds gd nx l i σ rs K → runR Θ Γ ds' gd nx l i σ rs K
  | [], _, _, _, _, h => h
  | o :: l, i, σ, rs, e, h => by
    unfold runR at h ⊢
    rw [← stepOp_ds (e i (Nat.le_refl _))]
    split at h
    · exact h.elim
    · rename_i c x eff tch hs
      exact ⟨h.1, runR_ds l (i + 1) _ _ (fun j hj => e j (by omega)) h.2⟩
theorem runF_run {gd : Nat → Option Tmp} {nx : Nat} {K : AS → List (List Nat × List Nat) → Prop} : ∀ (l : List Oper) (i : Nat) (σ : AS) (rs : List (List Nat × List Nat)), runF Θ Γ gd nx l i σ rs K → ∃ ds : List (Nat × Bool), (∀ j, j < i → look ds j = none) ∧ runR Θ Γ ds gd nx l i σ rs K
  | [], i, σ, rs, h => ⟨[], fun _ _ => rfl, h⟩
  | o :: l, i, σ, rs, h => by
    have key : ∀ d0 : List (Nat × Bool), (∀ j, j ≠ i → look d0 j = none) → (stepF Θ Γ d0 gd nx i o σ fun σ' r => runF Θ Γ gd nx l (i + 1) σ' (rs ++ [r]) K) → ∃ ds : List (Nat × Bool), (∀ j, j < i → look ds j = none) ∧ runR Θ Γ ds gd nx (o :: l) i σ rs K := by
      intro d0 hd0 hs
      unfold stepF at hs
      split at hs
      · exact hs.elim
      · rename_i c x eff tch hst
        obtain ⟨ds, h1, h2⟩ := runF_run l (i + 1) _ _ hs.2
        have hlook : ∀ j, look (d0 ++ ds) j = if j = i then (look d0 i) else look ds j := by
          intro j
          rw [look_append]
          by_cases e : j = i
          · subst e
            rw [if_pos rfl, h1 j (by omega)]; cases look d0 j <;> rfl
          · rw [if_neg e, hd0 j e]; rfl
        refine ⟨d0 ++ ds, fun j hj => by rw [hlook, if_neg (by omega)]; exact h1 j (by omega), ?_⟩
        unfold runR
        rw [stepOp_ds (ds' := d0) (by rw [hlook, if_pos rfl]), hst]
        exact ⟨hs.1, runR_ds l (i + 1) _ _ (fun j hj => by rw [hlook, if_neg (by omega)]) h2⟩
    have h1 : ∀ d, ∀ j, j ≠ i → look [(i, d)] j = (none : Option Bool) := by
      intro d j hj
      simp only [look]
      rw [if_neg (fun e => hj e.symm)]
    unfold runF at h
    split at h
    · rename_i b hb
      cases b with
      | true => exact key _ (h1 true) (Fork.T h rfl)
      | false => exact key _ (h1 false) (Fork.F h rfl)
    · exact key [] (fun _ _ => rfl) h
/-- a region that draws its order, then the rest -/
theorem AWp.dS (hm : P.follows .mixedOrders = true) (hΘ : ∀ t ti, Θ t = some ti → ti.ok P t) (hΓ : ∀ f C, (f, C) ∈ Γ → C.ok P f) (ks : List Nat) {id : Nat} {ops : Array Oper} {y : Code} {σ : AS} {AQ : Exit → AS → Prop}
    (h : ∀ K : AS → List (List Nat × List Nat) → Prop, (∀ σ' rs, regOK N ops.toList rs = true → AWp P w0 N y σ' AQ → K σ' rs) → runF Θ Γ (gdOf ops.toList) σ.nx ops.toList 0 σ [] fun σ' rs => K (σ'.fin ks (σ.nx + 8 * ops.size)) rs) : AWp P w0 N (.seq (.region id ops true) y) σ AQ := by
  refine AWp.seq ?_
  obtain ⟨ds, _, h1⟩ := runF_run _ _ _ _ (h (fun σ' rs => regOK N ops.toList rs = true ∧ AWp P w0 N y σ' AQ) fun σ' rs h1 h2 => ⟨h1, h2⟩)
  have h2 := AWp.drawn (w0 := w0) (N := N) (id := id) (AQ := fun e σ' => match e with
    | .normal => AWp P w0 N y (σ'.fin ks (σ.nx + 8 * ops.size)) AQ
    | _ => False) hm hΘ hΓ ds h1
  intro a W hat
  refine wp_mono (h2 a W hat) ?_
  rintro e a' W' ⟨σ', h3, h4⟩
  cases e with
  | normal => exact ⟨_, h3, Sub.fin σ' ks _ a' W' h4⟩
  | _ => exact h3.elim
theorem AWp.dE (hm : P.follows .mixedOrders = true) (hΘ : ∀ t ti, Θ t = some ti → ti.ok P t) (hΓ : ∀ f C, (f, C) ∈ Γ → C.ok P f) (ks : List Nat) {id : Nat} {ops : Array Oper} {σ : AS} {AQ : Exit → AS → Prop}
    (h : ∀ K : AS → List (List Nat × List Nat) → Prop, (∀ σ' rs, regOK N ops.toList rs = true → AQ .normal σ' → K σ' rs) → runF Θ Γ (gdOf ops.toList) σ.nx ops.toList 0 σ [] fun σ' rs => K (σ'.fin ks (σ.nx + 8 * ops.size)) rs) : AWp P w0 N (.region id ops true) σ AQ := by
  obtain ⟨ds, _, h1⟩ := runF_run _ _ _ _ (h (fun σ' rs => regOK N ops.toList rs = true ∧ AQ .normal σ') fun σ' rs h1 h2 => ⟨h1, h2⟩)
  have h2 := AWp.drawn (w0 := w0) (N := N) (id := id) (AQ := fun e σ' => match e with
    | .normal => AQ .normal (σ'.fin ks (σ.nx + 8 * ops.size))
    | _ => False) hm hΘ hΓ ds h1
  intro a W hat
  refine wp_mono (h2 a W hat) ?_
  rintro e a' W' ⟨σ', h3, h4⟩
  cases e with
  | normal => exact ⟨_, h3, Sub.fin σ' ks _ a' W' h4⟩
  | _ => exact h3.elim
theorem AWp.pS (hΘ : ∀ t ti, Θ t = some ti → ti.ok P t) (hΓ : ∀ f C, (f, C) ∈ Γ → C.ok P f) (ks : List Nat) {id : Nat} {ops : Array Oper} {y : Code} {σ : AS} {AQ : Exit → AS → Prop} (hN : ops.toList.all (fun o => match o.dst with | some t => decide (t < N) | none => true) = true)
    (h : ∀ K : AS → List (List Nat × List Nat) → Prop, (∀ σ' rs, AWp P w0 N y σ' AQ → K σ' rs) → runF Θ Γ (gdOf ops.toList) σ.nx ops.toList 0 σ [] fun σ' rs => K (σ'.fin ks (σ.nx + 8 * ops.size)) rs) : AWp P w0 N (.seq (.region id ops false) y) σ AQ := by
  refine AWp.seq ?_
  obtain ⟨ds, _, h1⟩ := runF_run _ _ _ _ (h (fun σ' rs => AWp P w0 N y σ' AQ) fun σ' rs h2 => h2)
  have h2 := AWp.plain (w0 := w0) (N := N) (id := id) (AQ := fun e σ' => match e with
    | .normal => AWp P w0 N y (σ'.fin ks (σ.nx + 8 * ops.size)) AQ
    | _ => False) hΘ hΓ ds hN h1
  intro a W hat
  refine wp_mono (h2 a W hat) ?_
  rintro e a' W' ⟨σ', h3, h4⟩
  cases e with
  | normal => exact ⟨_, h3, Sub.fin σ' ks _ a' W' h4⟩
  | _ => exact h3.elim
theorem AWp.pE (hΘ : ∀ t ti, Θ t = some ti → ti.ok P t) (hΓ : ∀ f C, (f, C) ∈ Γ → C.ok P f) (ks : List Nat) {id : Nat} {ops : Array Oper} {σ : AS} {AQ : Exit → AS → Prop} (hN : ops.toList.all (fun o => match o.dst with | some t => decide (t < N) | none => true) = true)
    (h : ∀ K : AS → List (List Nat × List Nat) → Prop, (∀ σ' rs, AQ .normal σ' → K σ' rs) → runF Θ Γ (gdOf ops.toList) σ.nx ops.toList 0 σ [] fun σ' rs => K (σ'.fin ks (σ.nx + 8 * ops.size)) rs) : AWp P w0 N (.region id ops false) σ AQ := by
  obtain ⟨ds, _, h1⟩ := runF_run _ _ _ _ (h (fun σ' rs => AQ .normal σ') fun σ' rs h2 => h2)
  have h2 := AWp.plain (w0 := w0) (N := N) (id := id) (AQ := fun e σ' => match e with
    | .normal => AQ .normal (σ'.fin ks (σ.nx + 8 * ops.size))
    | _ => False) hΘ hΓ ds hN h1
  intro a W hat
  refine wp_mono (h2 a W hat) ?_
  rintro e a' W' ⟨σ', h3, h4⟩
  cases e with
  | normal => exact ⟨_, h3, Sub.fin σ' ks _ a' W' h4⟩
  | _ => exact h3.elim
theorem AWp.condT {c : Operand} {x y : Code} {σ : AS} {AQ : Exit → AS → Prop} (hc : σ.ev c = some (.lit (.bool true))) (h : AWp P w0 N x σ AQ) : AWp P w0 N (.cond c x y) σ AQ := AWp.cond hc (fun _ => h) (fun e => by cases e)
theorem AWp.condF {c : Operand} {x y : Code} {σ : AS} {AQ : Exit → AS → Prop} (hc : σ.ev c = some (.lit (.bool false))) (h : AWp P w0 N y σ AQ) : AWp P w0 N (.cond c x y) σ AQ := AWp.cond hc (fun e => by cases e) (fun _ => h)
theorem AWp.condB {c : Operand} {x y : Code} {σ : AS} {AQ : Exit → AS → Prop} {b : Bool} (hc : σ.ev c = some (.lit (.bool b))) (h : @Fork b ⟨(AWp P w0 N x σ AQ, AWp P w0 N y σ AQ)⟩) : AWp P w0 N (.cond c x y) σ AQ := AWp.cond hc (Fork.T h) (Fork.F h)
/-- a value that names none of some objects -/
def AV.free (D : List Nat) : AV → Bool
  | .box o _ => !D.contains o
  | .elt o _ _ _ _ => !D.contains o
  | .own o _ => !D.contains o
  | .rp cs => frees D cs
  | .agg cs => frees D cs
  | .tup cs => frees D cs
  | .fn _ cs => frees D cs
  | .any => true
  | .cel => true
  | .lit _ => true
  | .sl _ _ => true
where frees (D : List Nat) : List AV → Bool
  | [] => true
  | c :: cs => AV.free D c && frees D cs
def AO.free (D : List Nat) : AO → Bool
  | .box _ cs => AV.free.frees D cs
  | .mix _ _ rows => rows.all (AV.free.frees D)
  | .hol _ _ _ cs _ => AV.free.frees D cs
  | .pin _ _ avs _ => AV.free.frees D avs
  | _ => true
theorem frees_get {D : List Nat} : ∀ {cs : List AV} (_ : AV.free.frees D cs = true) {j : Nat} {c : AV}, cs[j]? = some c → c.free D = true
  | [], _, j, c, h => by simp at h
  | x :: cs, hf, j, c, h => by
    simp only [AV.free.frees, Bool.and_eq_true] at hf
    cases j with
    | zero => simp at h; subst h; exact hf.1
    | succ j => exact frees_get hf.2 (by simpa using h)
theorem frees_app {D : List Nat} : ∀ {cs cs' : List AV}, AV.free.frees D cs = true → AV.free.frees D cs' = true → AV.free.frees D (cs ++ cs') = true
  | [], _, _, h => h
  | c :: cs, cs', h1, h2 => by
    simp only [AV.free.frees, Bool.and_eq_true, List.cons_append] at h1 ⊢
    exact ⟨h1.1, frees_app h1.2 h2⟩
theorem frees_flat {D : List Nat} : ∀ {rows : List (List AV)}, rows.all (AV.free.frees D) = true → AV.free.frees D rows.flatten = true
  | [], _ => rfl
  | r :: rows, h => by
    simp only [List.all_cons, Bool.and_eq_true] at h
    simp only [List.flatten_cons]
    exact frees_app h.1 (frees_flat h.2)
theorem cells_free {D : List Nat} : ∀ (t : Ty) (x : t.den), AV.free.frees D (t.cells x) = true
  | .int, _ => rfl
  | .bool, _ => rfl
  | .str, _ => rfl
  | .pair a b, x => frees_app (cells_free a x.1) (cells_free b x.2)
  | .list _, _ => rfl
/-- objects of others that nothing here names -/
structure FrOk (fr : Nat → AO) : Prop where
  lo : ∀ o, o < 1000000 → fr o = .dead
  fr : ∀ o D, (∀ d ∈ D, d < 1000000) → (fr o).free D = true
theorem frok0 : FrOk (fun _ => .dead) := ⟨fun _ _ => rfl, fun _ _ _ => rfl⟩
def dropO (D : List Nat) (obj : Nat → AO) : Nat → AO := fun o => if o ∈ D then .dead else obj o
theorem Rep.dropped {D : List Nat} {obj : Nat → AO} {W : World} {ρ : Nat → Value} {β : Nat → List Nat} {x : AV} {u : Value} (hr : Rep (cxOf obj W ρ β) x u) : x.free D = true → Rep (cxOf (dropO D obj) W ρ β) x u := by
  have hlen : ∀ o, o ∉ D → (dropO D obj o).len = (obj o).len := fun o ho => by simp only [dropO, if_neg ho]
  have hI : ∀ b, (cxOf obj W ρ β).I b → (cxOf (dropO D obj) W ρ β).I b := by
    intro b hb
    refine ⟨hb.1, fun o ho => hb.2 o fun e => ho ?_⟩
    by_cases hd : o ∈ D
    · simp [dropO, hd, AO.len]
    · rw [hlen o hd]; exact e
  induction hr with
  | any v => exact fun _ => .any v
  | cel h => exact fun _ => .cel h
  | lit v => exact fun _ => .lit v
  | @box o _ m _ h hn h2 =>
    intro hf
    have ho : o ∉ D := by simpa [AV.free] using hf
    exact .box (m := m) (by show (dropO D obj o).len = _; rw [hlen o ho]; exact h) hn h2
  | @elt o _ _ _ _ m _ h hn h2 =>
    intro hf
    have ho : o ∉ D := by simpa [AV.free] using hf
    exact .elt (m := m) (by show (dropO D obj o).len = _; rw [hlen o ho]; exact h) hn h2
  | @own o _ m _ h hn hs h2 =>
    intro hf
    have ho : o ∉ D := by simpa [AV.free] using hf
    exact .own (m := m) (by show (dropO D obj o).len = _; rw [hlen o ho]; exact h) hn hs h2
  | sl h => exact fun _ => .sl (Ty.rep_mono hI (fun _ _ => rfl) _ _ _ h)
  | rp us h1 hc _ ih => exact fun hf => .rp us (fun hne => hI _ (h1 hne)) hc (fun j c hj => ih j c hj (frees_get (D := D) hf hj))
  | agg hl _ ih => exact fun hf => .agg hl (fun j c u hj hu => ih j c u hj hu (frees_get (D := D) hf hj))
  | tup hl _ ih => exact fun hf => .tup hl (fun j c u hj hu => ih j c u hj hu (frees_get (D := D) hf hj))
  | fn hl _ ih => exact fun hf => .fn hl (fun j c u hj hu => ih j c u hj hu (frees_get (D := D) hf hj))
theorem Reps.dropped {D : List Nat} {obj : Nat → AO} {W : World} {ρ : Nat → Value} {β : Nat → List Nat} {cs : List AV} {us : List Value} (hr : Reps (cxOf obj W ρ β) cs us) (hf : AV.free.frees D cs = true) : Reps (cxOf (dropO D obj) W ρ β) cs us :=
  ⟨hr.1, fun j c u hc hu => (hr.2 j c u hc hu).dropped (frees_get hf hc)⟩
theorem RelW.dropped {get get' : Nat → Option AV} {obj : Nat → AO} {a : Act} {W : World} {ρ : Nat → Value} {β : Nat → List Nat} (h : RelW w0 get obj a W ρ β) (D : List Nat) (hg : ∀ t x, get' t = some x → get t = some x ∧ x.free D = true) (ho : ∀ o, o ∉ D → (obj o).free D = true) : RelW w0 get' (dropO D obj) a W ρ β := by
  have hlive : ∀ o, (dropO D obj o).len ≠ none → o ∉ D ∧ (obj o).len ≠ none := by
    intro o hl
    by_cases hd : o ∈ D
    · exact absurd (by simp [dropO, hd, AO.len]) hl
    · exact ⟨hd, by simpa [dropO, hd] using hl⟩
  refine ⟨h.below, fun o => ?_, fun o b hl hb => h.lt o b (hlive o hl).2 hb, fun o o' b hl hl' hb hb' => h.apart o o' b (hlive o hl).2 (hlive o' hl').2 hb hb', fun o hl => h.nodup o (hlive o hl).2, fun t x hx => ?_, h.defers⟩
  · by_cases hd : o ∈ D
    · simp only [dropO, if_pos hd]; trivial
    · have h1 := h.objs o
      have h2 := ho o hd
      simp only [dropO, if_neg hd]
      cases hob : obj o with
      | dead => trivial
      | box e cs =>
        rw [hob] at h1 h2
        obtain ⟨b, us, e1, e2, e3, e4⟩ := h1
        exact ⟨b, us, e1, e2, e3.dropped h2, e4⟩
      | row e t xs => rw [hob] at h1; exact h1
      | mix e sz rows =>
        rw [hob] at h1 h2
        obtain ⟨us, e1, e2, e3, e4⟩ := h1
        exact ⟨us, e1, e2.dropped (frees_flat h2), e3, e4⟩
      | lst e t xs =>
        rw [hob] at h1
        obtain ⟨us, e1, e2, e4⟩ := h1
        refine ⟨us, e1, e2.dropped (frees_flat ?_), e4⟩
        rw [List.all_eq_true]
        intro r hr
        obtain ⟨x, _, rfl⟩ := List.mem_map.1 hr
        exact cells_free t x
      | hol e t pre cs suf =>
        rw [hob] at h1 h2
        obtain ⟨c1, b1, us, c2, b2, g1, g2, g3, g4, g5, g6⟩ := h1
        exact ⟨c1, b1, us, c2, b2, g1, g2, g3, g4.dropped h2, g5, g6⟩
      | frz t xs => rw [hob] at h1; exact ⟨h1.1, h1.2.dropped rfl⟩
      | gone n => rw [hob] at h1; exact h1
      | pin W0 bs' avs us =>
        rw [hob] at h1 h2
        exact ⟨h1.1, h1.2.1, h1.2.2.dropped h2⟩
  · obtain ⟨h1, h2⟩ := hg t x hx
    obtain ⟨v, h3, h4⟩ := h.slots t x h1
    exact ⟨v, h3, h4.dropped h2⟩
def subS (sl : List (Nat × AV)) (D : List Nat) : List (Nat × AV) → Prop
  | [] => True
  | (k, x) :: l => look sl k = some x ∧ x.free D = true ∧ subS sl D l
def subO (hp : List (Nat × AO)) (D : List Nat) : List (Nat × AO) → Prop
  | [] => True
  | (k, x) :: l => look hp k = some x ∧ x.free D = true ∧ D.contains k = false ∧ subO hp D l
theorem subS_look {sl : List (Nat × AV)} {D : List Nat} : ∀ {l : List (Nat × AV)} (_ : subS sl D l) {t : Nat} {x : AV}, look l t = some x → look sl t = some x ∧ x.free D = true
  | [], _, t, x, h => by simp [look] at h
  | (k, y) :: l, hs, t, x, h => by
    simp only [look] at h
    split at h
    · rename_i e; subst e; cases h; exact ⟨hs.1, hs.2.1⟩
    · exact subS_look hs.2.2 h
theorem subO_look {hp : List (Nat × AO)} {D : List Nat} : ∀ {l : List (Nat × AO)} (_ : subO hp D l) {t : Nat} {x : AO}, look l t = some x → look hp t = some x ∧ x.free D = true ∧ t ∉ D
  | [], _, t, x, h => by simp [look] at h
  | (k, y) :: l, hs, t, x, h => by
    simp only [look] at h
    split at h
    · rename_i e; subst e; cases h; exact ⟨hs.1, hs.2.1, by have := hs.2.2.1; simpa using this⟩
    · exact subO_look hs.2.2.2 h
theorem look_none {α : Type} : ∀ {l : List (Nat × α)} {o : Nat}, (∀ p ∈ l, p.1 ≠ o) → look l o = none
  | [], _, _ => rfl
  | (k, x) :: l, o, h => by
    simp only [look]
    rw [if_neg (h (k, x) (by simp))]
    exact look_none fun p hp => h p (by simp [hp])
theorem look_some {α : Type} : ∀ {l : List (Nat × α)} {o : Nat}, (∃ p ∈ l, p.1 = o) → ∃ x, look l o = some x
  | [], _, ⟨p, hp, _⟩ => by simp at hp
  | (k, x) :: l, o, ⟨p, hp, e⟩ => by
    simp only [look]
    split
    · exact ⟨x, rfl⟩
    · rename_i hne
      rcases List.mem_cons.1 hp with rfl | hp
      · exact absurd e hne
      · exact look_some ⟨p, hp, e⟩
/-- one literal state in another, some objects let go -/
theorem Sub.lit {σ σ' : AS} (D : List Nat) (hfr : FrOk σ.fr) (hs : σ'.fr = σ.fr) (hD : D.all (fun d => decide (d < 1000000)) = true) (h : subS σ.sl D σ'.sl) (ho : subO σ.hp D σ'.hp) (hd : σ.hp.all (fun p => D.contains p.1 || σ'.hp.any (fun q => q.1 == p.1)) = true) : Sub w0 N σ σ' := by
  rintro a W ⟨hN, ρ, β, hr⟩
  have hD' : ∀ d ∈ D, d < 1000000 := fun d hd => by simpa using List.all_eq_true.1 hD d hd
  refine ⟨hN, ρ, β, ?_⟩
  have hcov : ∀ o, o ∉ D → look σ'.hp o = look σ.hp o := by
    intro o hoD
    cases hl : look σ'.hp o with
    | some x => rw [(subO_look ho hl).1]
    | none =>
      refine (look_none fun p hp e => ?_).symm
      have := List.all_eq_true.1 hd p hp
      simp only [Bool.or_eq_true, List.any_eq_true, beq_iff_eq] at this
      rcases this with h1 | ⟨q, hq, e'⟩
      · exact hoD (by rw [← e]; simpa using h1)
      · obtain ⟨x, hx⟩ := look_some (l := σ'.hp) (o := o) ⟨q, hq, by rw [e', e]⟩
        rw [hx] at hl; cases hl
  have e : σ'.obj = dropO D σ.obj := by
    funext o
    simp only [AS.obj, dropO]
    by_cases hoD : o ∈ D
    · rw [if_pos hoD]
      cases hl : look σ'.hp o with
      | some x => exact absurd hoD (subO_look ho hl).2.2
      | none => rw [hs]; exact hfr.lo o (hD' o hoD)
    · rw [if_neg hoD, hcov o hoD, hs]
  rw [e]
  refine hr.dropped D (fun t x hx => subS_look h hx) fun o hoD => ?_
  simp only [AS.obj]
  cases hl : look σ.hp o with
  | none => exact hfr.fr o D hD'
  | some x =>
    have := subO_look ho (by rw [hcov o hoD]; exact hl)
    exact this.2.1
def pickO (hp : List (Nat × AO)) : List Nat → List (Nat × AO)
  | [] => []
  | k :: ks => match look hp k with
    | some v => (k, v) :: pickO hp ks
    | none => pickO hp ks
def AS.over (σ : AS) (ov : List (Nat × AV)) (ks : List Nat) (oo : List (Nat × AO)) (os : List Nat) : AS := ⟨ov ++ pick σ.sl ks, oo ++ pickO σ.hp os, σ.nx, σ.fr⟩
/-- a loop: what its round finds, told by slots and objects over those at its head -/
theorem AWp.loopK {c : Code} {σ : AS} {AQ : Exit → AS → Prop} {ι : Type} (S : ι → AS) (I : ι → Prop) (μ : ι → Nat) (i0 : ι) (h0 : I i0) (hs : Sub w0 N σ (S i0)) (h : ∀ i, I i → ∀ L : AS → Prop, (∀ j σ', I j → μ j < μ i → Sub w0 N σ' (S j) → L σ') → AWp P w0 N c (S i) (seqQ L AQ)) : AWp P w0 N (.loop c) σ AQ :=
  AWp.loop S I μ i0 h0 hs fun i hi => h i hi _ fun j σ' h1 h2 h3 => ⟨j, h1, h2, h3⟩
theorem AWp.skipS {y : Code} {σ : AS} {AQ : Exit → AS → Prop} (h : AWp P w0 N y σ AQ) : AWp P w0 N (.seq .skip y) σ AQ := AWp.seq (AWp.skip h)
end
end Go.Proofs.Ytgnnmifpfgpllaa
