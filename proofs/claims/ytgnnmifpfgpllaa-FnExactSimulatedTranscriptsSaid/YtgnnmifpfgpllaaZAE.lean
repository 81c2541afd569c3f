import Derived.Test.YtgnnmifpfgpllaaZAD
/- Abstract walks: parts 17, 18, 19. -/
/- Abstract walks, in the form that proofs use. -/
set_option linter.all false
set_option linter.unusedVariables false
set_option linter.unusedSimpArgs false
namespace Go.Proofs.Ytgnnmifpfgpllaa
open Go.RowKit
def pick (sl : List (Nat × AV)) : List Nat → List (Nat × AV)
  | [] => []
  | k :: ks => match look sl k with
    | some v => (k, v) :: pick sl ks
    | none => pick sl ks
def dedup : List (Nat × AO) → List Nat → List (Nat × AO)
  | [], _ => []
  | (k, x) :: l, s => if k ∈ s then dedup l s else (k, x) :: dedup l (k :: s)
def AS.fin (σ : AS) (ks : List Nat) (n : Nat) : AS := ⟨pick σ.sl ks, dedup σ.hp [], n, σ.fr⟩
theorem pick_get {sl : List (Nat × AV)} : ∀ {ks : List Nat} {t : Nat} {x : AV}, look (pick sl ks) t = some x → look sl t = some x
  | [], t, x, h => by simp [pick, look] at h
  | k :: ks, t, x, h => by
    simp only [pick] at h
    split at h
    · rename_i v hv
      simp only [look] at h
      split at h
      · rename_i e; subst e; cases h; exact hv
      · exact pick_get h
    · exact pick_get h
theorem dedup_look : ∀ (l : List (Nat × AO)) (s : List Nat) (o : Nat), o ∉ s → look (dedup l s) o = look l o
  | [], s, o, _ => rfl
  | (k, x) :: l, s, o, h => by
    simp only [dedup]
    split
    · rename_i hk
      have hne : k ≠ o := fun e => h (e ▸ hk)
      rw [dedup_look l s o h]
      simp only [look]
      rw [if_neg hne]
    · simp only [look]
      split
      · rfl
      · rename_i hne
        exact dedup_look l (k :: s) o (by simp only [List.mem_cons, not_or]; exact ⟨fun e => hne e.symm, h⟩)
section
variable {P : Program} {Θ : TypeId → Option TI} {Γ : List (FuncId × Con)} {w0 : World} {N : Nat}
theorem RelW.less {get get' : Nat → Option AV} {obj : Nat → AO} {a : Act} {W : World} {ρ : Nat → Value} {β : Nat → List Nat} (h : RelW w0 get obj a W ρ β) (hg : ∀ t x, get' t = some x → get t = some x) : RelW w0 get' obj a W ρ β :=
  ⟨h.below, h.objs, h.lt, h.apart, h.nodup, fun t x hx => h.slots t x (hg t x hx), h.defers⟩
theorem Sub.fin (σ : AS) (ks : List Nat) (n : Nat) : Sub w0 N σ (σ.fin ks n) := by
  rintro a W ⟨hN, ρ, β, h⟩
  refine ⟨hN, ρ, β, ?_⟩
  have : (σ.fin ks n).obj = σ.obj := by
    funext o
    simp only [AS.obj, AS.fin]
    rw [dedup_look σ.hp [] o (by simp)]
  rw [this]
  exact h.less fun t x hx => pick_get hx
theorem AWp.body {fn : Func} {c : Code} {σ : AS} {AQ : Exit → AS → Prop} (hb : fn.body = some c) (h : AWp P w0 N c σ AQ) : AWp P w0 N (fn.body.getD .skip) σ AQ := by rw [hb]; exact h
def gdL (l : List (Option Tmp)) (g : Nat) : Option Tmp := (l[g]?).bind id
theorem Con0.okOf2 {f : FuncId} {fn : Func} {C : Con0} {N : Nat} {rs : List ResultVar} (hΘ : ∀ t ti, Θ t = some ti → ti.ok P t) (hf : P.funcs[f]? = some fn) (hb : fn.body.isNone = false) (hN : fn.ntmps = N) (hrs : fn.results = rs.toArray) (hrl : rs.length ≤ 4) (hname : (fn.name == "runtime.NumGoroutine") = false)
    (h : ∀ args c x obs, C args = some (c, x, obs) → ok3 obs.length x = true ∧ obs.all (AO.ok obs.length) = true ∧ args.length ≤ N ∧ ∃ args', args'.length = args.length ∧ (∀ w vs, Reps (cx0 w) args vs → Reps (cx0 w) args' vs) ∧ (c → ∀ w0, AWp P w0 N (fn.body.getD .skip) (initS args') (EndsAt Θ rs x obs))) : (mk C).ok P f := DCon.lift_ok <| by
  obtain ⟨code, hcode⟩ : ∃ code, fn.body = some code := by
    cases hc : fn.body with
    | none => rw [hc] at hb; simp at hb
    | some c => exact ⟨c, rfl⟩
  -- the contract over arguments in their own form
  have hent : ∀ args w, (callFunc f args).run P w = .ok (.enter f args) w := by
    intro args w
    simp only [callFunc, Sem.run_bind, run_program, Result.andThen_ok, hf, hname, hb]
    rfl
  refine ⟨hent, fun nid args c x objs hm => ?_, fun nid args c x objs hm hc w vs hv => ?_⟩
  · simp only [mkD, Option.map_eq_some_iff] at hm
    obtain ⟨⟨c', x0, obs⟩, h1, h2⟩ := hm
    cases h2
    obtain ⟨g1, g2, _⟩ := h _ _ _ _ h1
    refine ⟨ok3_res g1, fun p hp => ?_⟩
    obtain ⟨i, ob, h3, rfl⟩ := numb_mem hp
    exact ⟨AO.ok_res (List.all_eq_true.1 g2 ob (List.mem_of_getElem? h3)), Nat.le_add_right _ _⟩
  · have hm' := hm
    simp only [mkD, Option.map_eq_some_iff] at hm'
    obtain ⟨⟨c', x0, obs⟩, h1, h2⟩ := hm'
    cases h2
    obtain ⟨g1, g2, g3, args', g4, g5, g6⟩ := h _ _ _ _ h1
    -- a contract for these arguments alone
    let C1 : Con0 := fun al => if al.length = args'.length then some (al = args' ∧ c', x0, obs) else none
    have hC1 : (mkD C1).ok P f := by
      refine Con0.okOf (Θ := Θ) (N := N) hΘ hf hcode hN hrs hrl hent (fun al c2 x2 obs2 he => ?_) (fun al c2 x2 obs2 he hc2 w0 => ?_)
      · simp only [C1] at he
        split at he
        · rename_i hl; cases he; exact ⟨g1, g2, by omega⟩
        · cases he
      · simp only [C1] at he
        split at he
        · cases he
          obtain ⟨rfl, hc'⟩ := hc2
          have := g6 hc' w0
          rw [hcode] at this; exact this
        · cases he
    refine hC1.calls nid args' (args' = args' ∧ c') _ _ ?_ ⟨rfl, hc⟩ w vs (g5 w vs hv)
    simp [mkD, C1]
end
end Go.Proofs.Ytgnnmifpfgpllaa
/- Calls that write their arguments' own objects. -/
namespace Go.Proofs.Ytgnnmifpfgpllaa
open Go.RowKit
/-- only these slices' blocks have changed, and new ones have come -/
structure Touch (vs : List Value) (w w' : World) : Prop where
  os : w'.os = w.os
  tape : w'.tape = w.tape
  output : w'.output = w.output
  size : w.heap.size ≤ w'.heap.size
  block : ∀ k, k < w.heap.size → (∀ v ∈ vs, v.ownBlock ≠ some k) → w'.heap[k]? = w.heap[k]?
theorem Touch.refl (vs : List Value) (w : World) : Touch vs w w := ⟨rfl, rfl, rfl, Nat.le_refl _, fun _ _ _ => rfl⟩
theorem Touch.trans {vs : List Value} {a b c : World} (h : Touch vs a b) (k : Touch vs b c) : Touch vs a c :=
  ⟨k.os.trans h.os, k.tape.trans h.tape, k.output.trans h.output, Nat.le_trans h.size k.size, fun i h1 h2 => (k.block i (Nat.lt_of_lt_of_le h1 h.size) h2).trans (h.block i h1 h2)⟩
theorem Touch.of_grown {vs : List Value} {w w' : World} {v : Value} (h : w.grownBy w' v.ownBlock) (hv : v ∈ vs) : Touch vs w w' :=
  ⟨h.os, h.tape, h.output, h.size, fun k hk h2 => h.block k hk fun e => h2 v hv e.symm⟩
section
variable {w0 : World} {get : Nat → Option AV} {obj : Nat → AO} {a : Act} {W : World} {ρ : Nat → Value} {β : Nat → List Nat}
/-- rows are written where they stand -/
theorem RelW.touch (h : RelW w0 get obj a W ρ β) {W' : World} {l : List (Nat × AO)} (hr : ∀ p ∈ l, (∃ e t xs, p.2 = .row e t xs ∧ ownL W' w0.heap.size e t xs (ρ p.1) (β p.1)) ∧ ∃ m, (obj p.1).len = some m ∧ p.2.len = some m)
    {us : List Value} (ht : Touch us W W') (hblk : ∀ k, k < W.heap.size → (∀ p ∈ l, k ∉ β p.1) → W'.heap[k]? = W.heap[k]?) :
    Cx.Le (cxOf obj W ρ β) (cxOf (setE obj l) W' ρ β) ∧ RelW w0 get (setE obj l) a W' ρ β := by
  have hin : ∀ o, (∃ p ∈ l, p.1 = o) ∨ ∀ p ∈ l, p.1 ≠ o := by
    intro o
    by_cases e : ∃ p ∈ l, p.1 = o
    · exact .inl e
    · exact .inr fun p hp e' => e ⟨p, hp, e'⟩
  have hlen : ∀ o, (setE obj l o).len = (obj o).len := by
    intro o
    rcases hin o with h1 | h1
    · obtain ⟨p, h2, rfl, h3⟩ := setE_mem (obj := obj) h1
      obtain ⟨_, m, h4, h5⟩ := hr p h2
      rw [h3, h4, h5]
    · rw [setE_out h1]
  have hold : ∀ k, k < W.heap.size → (∀ p ∈ l, k ∉ β p.1) → W'.heap[k]? = W.heap[k]? := hblk
  have hlive : ∀ p ∈ l, (obj p.1).len ≠ none := fun p hp => by obtain ⟨_, m, h4, _⟩ := hr p hp; rw [h4]; simp
  have hle : Cx.Le (cxOf obj W ρ β) (cxOf (setE obj l) W' ρ β) := by
    refine ⟨fun b hb => ⟨Nat.lt_of_lt_of_le hb.1 ht.size, fun o ho => hb.2 o (by rw [← hlen o]; exact ho)⟩, fun p hp => World.cell?_of_block (hold _ hp.1 fun q hq => hp.2 q.1 (hlive q hq)), fun o n ho => ?_, fun o n _ => rfl⟩
    show (setE obj l o).len = some n
    rw [hlen o]; exact ho
  refine ⟨hle, ⟨ht.os.trans h.below.os, ht.tape.trans h.below.tape, ht.output.trans h.below.output, Nat.le_trans h.below.size ht.size, fun k hk => ?_⟩, fun o => ?_, fun o b ho hb => ?_, fun o o' b ho ho' hb hb' => ?_, fun o ho => ?_, fun t x hx => ?_, h.defers⟩
  · rw [hold k (Nat.lt_of_lt_of_le hk h.below.size) fun p hp hb => by have := (h.lt p.1 k (hlive p hp) hb).1; omega]
    exact h.below.block k hk
  · rcases hin o with h1 | h1
    · obtain ⟨p, h2, rfl, h3⟩ := setE_mem (obj := obj) h1
      obtain ⟨⟨e, t, xs, h4, h5⟩, _⟩ := hr p h2
      rw [h3, h4]; exact h5
    · rw [setE_out h1]
      by_cases hl : (obj o).len = none
      · cases he : obj o with
        | dead => trivial
        | _ => rw [he] at hl; simp [AO.len] at hl
      · exact AO.own_mono (Nat.le_refl _) (fun b hb => hold b (h.lt o b hl hb).2 fun p hp hb' => h1 p hp (h.apart p.1 o b (hlive p hp) hl hb' hb)) (fun c u hr => hr.le hle) (h.objs o)
  · rw [hlen o] at ho
    exact ⟨(h.lt o b ho hb).1, Nat.lt_of_lt_of_le (h.lt o b ho hb).2 ht.size⟩
  · rw [hlen o] at ho; rw [hlen o'] at ho'
    exact h.apart o o' b ho ho' hb hb'
  · rw [hlen o] at ho; exact h.nodup o ho
  · obtain ⟨v, h1, h2⟩ := h.slots t x hx
    exact ⟨v, h1, h2.le hle⟩
/-- an own slice of the whole row, and its row -/
theorem RelW.whole (h : RelW w0 get obj a W ρ β) {o n : Nat} {e : TypeId} {t : Ty} {xs : List t.den} (hob : obj o = .row e t xs) (hn : n = xs.length) {u : Value} (hr : Rep (cxOf obj W ρ β) (.own o n) u) : u = ρ o ∧ ownL W w0.heap.size e t xs (ρ o) (β o) := by
  cases hr with
  | own h1 hn' hs h2 =>
    have h1 : (obj o).len = some _ := h1
    rw [hob] at h1
    simp only [AO.len, Option.some.injEq] at h1
    refine ⟨h2 (by omega), ?_⟩
    have := h.objs o
    rw [hob] at this; exact this
end
end Go.Proofs.Ytgnnmifpfgpllaa
/- A nil slice seen as an empty row of one's own. -/
namespace Go.Proofs.Ytgnnmifpfgpllaa
open Go.RowKit
section
variable {w0 : World} {get : Nat → Option AV} {obj : Nat → AO} {a : Act} {W : World} {ρ : Nat → Value} {β : Nat → List Nat} {N : Nat}
theorem RelW.ghost (h : RelW w0 get obj a W ρ β) {k : Nat} (hd : (obj k).len = none) (e : TypeId) (t : Ty) : ∃ ρ' β', ρ' k = .slice none 0 0 ∧ Cx.Le (cxOf obj W ρ β) (cxOf (setO obj k (.row e t [])) W ρ' β') ∧ RelW w0 get (setO obj k (.row e t [])) a W ρ' β' :=
  h.new1 hd (x := .row e t []) (v := .slice none 0 0) (bs := []) (Below.refl _ _) (by simp [AO.len]) (fun C' _ _ => ⟨[], [], rfl, rfl, fun k x u b h => by simp at h, World.ownsRow_nil _ _ _ _, rfl⟩) List.nodup_nil (fun b hb => by simp at hb)
theorem rep_own0 {C : Cx} {k : Nat} (hl : C.len k = some 0) (hρ : C.ρ k = .slice none 0 0) : Rep C (.own k 0) (.slice none 0 0) :=
  .own hl (Nat.le_refl _) ⟨none, 0, rfl, Nat.le_refl _, fun h => absurd h (Nat.lt_irrefl _)⟩ fun _ => hρ.symm
theorem Sub.nilSlot {σ : AS} (t k : Nat) (e : TypeId) (ty : Ty) (ht : σ.get t = some (.lit (.slice none 0 0))) (hk : (σ.obj k).len = none) : Sub w0 N σ ⟨(t, .own k 0) :: σ.sl, (k, .row e ty []) :: σ.hp, σ.nx, σ.fr⟩ := by
  rintro a W ⟨hN, ρ, β, h⟩
  obtain ⟨ρ', β', h1, h2, h3⟩ := h.ghost hk e ty
  refine ⟨hN, ρ', β', ?_⟩
  have ho : (⟨(t, .own k 0) :: σ.sl, (k, .row e ty []) :: σ.hp, σ.nx, σ.fr⟩ : AS).obj = setO σ.obj k (.row e ty []) := by
    funext o
    simp only [AS.obj, look, setO]
    by_cases e : o = k
    · subst e; simp
    · rw [if_neg e, if_neg (fun h => e h.symm)]
  rw [ho]
  refine ⟨h3.below, h3.objs, h3.lt, h3.apart, h3.nodup, fun t' x hx => ?_, h3.defers⟩
  by_cases e : t = t'
  · subst e
    simp only [AS.get, look, if_true, Option.some.injEq] at hx
    subst hx
    obtain ⟨v, g1, g2⟩ := h.slots t _ ht
    rw [g2.lit_eq] at g1
    exact ⟨_, g1, rep_own0 (by show (setO σ.obj k _ k).len = _; rw [setO_same]; rfl) h1⟩
  · simp only [AS.get, look] at hx
    rw [if_neg e] at hx
    exact h3.slots t' x hx
end
end Go.Proofs.Ytgnnmifpfgpllaa
