import Derived.Test.YtgnnmifpfgpllaaZAL
/- Abstract walks: functions that take one of their caller's rows and give a row back. -/
set_option linter.all false
set_option linter.unusedVariables false
set_option linter.unusedSimpArgs false
namespace Go.Proofs.Ytgnnmifpfgpllaa
open Go.RowKit
section
variable {w0 : World} {get : Nat → Option AV} {obj : Nat → AO} {a : Act} {W : World} {ρ : Nat → Value} {β : Nat → List Nat}
/-- the caller's frame behind a call that took row o and gave row nid -/
theorem RelW.exitO (h : RelW w0 get obj a W ρ β) {o nid : Nat} {e : TypeId} {t : Ty} {xs : List t.den} (hob : obj o = .row e t xs) (hdead : obj nid = .dead)
    {get1 : Nat → Option AV} {obj1 : Nat → AO} {a1 : Act} {w' : World} {ρ1 : Nat → Value} {β1 : Nat → List Nat} (h1 : RelW w0 get1 obj1 a1 w' ρ1 β1) {r : Nat} {ys : List t.den} (hr : obj1 r = .row e t ys) {avs : List AV} {us : List Value} (hpin : obj1 1000000 = .pin W (restB w0 W β [o]) avs us) :
    ∃ ρ' β', ρ' nid = ρ1 r ∧ RelW w0 get (setE obj [(nid, .row e t ys), (o, .gone xs.length)]) a w' ρ' β' := by
  have hp := h1.objs 1000000
  rw [hpin] at hp
  obtain ⟨e1, e2, _⟩ := hp
  have hon : o ≠ nid := fun e' => by rw [e', hdead] at hob; cases hob
  have hlo : (obj o).len ≠ none := by rw [hob]; simp [AO.len]
  have hlr : (obj1 r).len ≠ none := by rw [hr]; simp [AO.len]
  have hlp : (obj1 1000000).len ≠ none := by rw [hpin]; simp [AO.len]
  have hrp : r ≠ 1000000 := fun e' => by rw [e', hpin] at hr; cases hr
  let obj' := setE obj [(nid, .row e t ys), (o, .gone xs.length)]
  let ρ' : Nat → Value := fun k => if k = nid then ρ1 r else ρ k
  let β' : Nat → List Nat := fun k => if k = nid then β1 r else if k = o then [] else β k
  have on : obj' nid = .row e t ys := by simp [obj', setE, setO]
  have oo : obj' o = .gone xs.length := by simp [obj', setE, setO, hon]
  have ox : ∀ k, k ≠ nid → k ≠ o → obj' k = obj k := fun k h1 h2 => by simp [obj', setE, setO, h1, h2]
  have bn : β' nid = β1 r := if_pos rfl
  have bo : β' o = [] := by
    show (if o = nid then β1 r else if o = o then [] else β o) = []
    rw [if_neg hon, if_pos rfl]
  have bx : ∀ k, k ≠ nid → k ≠ o → β' k = β k := fun k h1 h2 => by
    show (if k = nid then β1 r else if k = o then [] else β k) = β k
    rw [if_neg h1, if_neg h2]
  have rx : ∀ k, k ≠ nid → ρ' k = ρ k := fun k h1 => if_neg h1
  have hheap : ∀ b, b < W.heap.size → b ∉ β o → w'.heap[b]? = W.heap[b]? := by
    intro b hb hn
    rcases Nat.lt_or_ge b w0.heap.size with h2 | h2
    · rw [h1.below.block b h2, h.below.block b h2]
    · exact e2 b (restB_mem.2 ⟨hb, h2, fun o' ho' => by rw [List.mem_singleton] at ho'; subst ho'; exact hn⟩)
  have hsize : ∀ b, b < W.heap.size → b ∉ β o → b < w'.heap.size := by
    intro b hb hn
    have := hheap b hb hn
    rw [Array.getElem?_eq_getElem hb] at this
    exact (Array.getElem?_eq_some_iff.1 this).1
  have hnew : ∀ b ∈ β1 r, b < W.heap.size → b ∈ β o := by
    intro b hb hlt
    refine Decidable.byContradiction fun hn => ?_
    have h2 := (h1.lt r b hlr hb).1
    have := h1.apart 1000000 r b hlp hlr (by rw [e1]; exact restB_mem.2 ⟨hlt, h2, fun o' ho' => by rw [List.mem_singleton] at ho'; subst ho'; exact hn⟩) hb
    exact hrp this.symm
  have hoth : ∀ k b, (obj k).len ≠ none → k ≠ o → b ∈ β k → b ∉ β o := fun k b hl hk hb hb' => hk (h.apart k o b hl hlo hb hb')
  have hle : Cx.Le (cxOf obj W ρ β) (cxOf obj' w' ρ' β') := by
    refine ⟨fun b hb => ⟨hsize b hb.1 (hb.2 o hlo), fun k hk hb' => ?_⟩, fun p hp => World.cell?_of_block (hheap _ hp.1 (hp.2 o hlo)), fun k n hk => ?_, fun k n hk => ?_⟩
    · by_cases k1 : k = nid
      · subst k1; rw [bn] at hb'; exact hb.2 o hlo (hnew b hb' hb.1)
      · by_cases k2 : k = o
        · subst k2; rw [bo] at hb'; cases hb'
        · rw [bx k k1 k2] at hb'
          have hk : (obj' k).len ≠ none := hk
          rw [ox k k1 k2] at hk
          exact hb.2 k hk hb'
    · have hk : (obj k).len = some n := hk
      show (obj' k).len = some n
      have k1 : k ≠ nid := fun e' => by rw [e', hdead] at hk; cases hk
      by_cases k2 : k = o
      · subst k2; rw [oo, ← hk, hob]; rfl
      · rw [ox k k1 k2]; exact hk
    · have hk : (obj k).len = some n := hk
      have k1 : k ≠ nid := fun e' => by rw [e', hdead] at hk; cases hk
      exact rx k k1
  refine ⟨ρ', β', if_pos rfl, h1.below, fun k => ?_, fun k b hk hb => ?_, fun k k' b hk hk' hb hb' => ?_, fun k hk => ?_, fun s x hx => ?_, h.defers⟩
  · show (obj' k).own (cxOf obj' w' ρ' β') w0.heap.size (ρ' k) (β' k)
    by_cases k1 : k = nid
    · have := h1.objs r
      rw [hr] at this
      rw [k1, on, bn, show ρ' nid = ρ1 r from if_pos rfl]
      exact this
    · by_cases k2 : k = o
      · rw [k2, oo, bo]; exact rfl
      · rw [ox k k1 k2, bx k k1 k2, rx k k1]
        by_cases hl2 : (obj k).len = none
        · cases he : obj k with
          | dead => trivial
          | _ => rw [he] at hl2; simp [AO.len] at hl2
        · exact AO.own_mono (Nat.le_refl _) (fun b hb => hheap b (h.lt k b hl2 hb).2 (hoth k b hl2 k2 hb)) (fun c u hr => hr.le hle) (h.objs k)
  · have hk : (obj' k).len ≠ none := hk
    by_cases k1 : k = nid
    · rw [k1, bn] at hb; exact h1.lt r b hlr hb
    · by_cases k2 : k = o
      · rw [k2, bo] at hb; cases hb
      · rw [bx k k1 k2] at hb
        rw [ox k k1 k2] at hk
        exact ⟨(h.lt k b hk hb).1, hsize b (h.lt k b hk hb).2 (hoth k b hk k2 hb)⟩
  · have hk : (obj' k).len ≠ none := hk
    have hk' : (obj' k').len ≠ none := hk'
    have mix : ∀ j, (obj' j).len ≠ none → j ≠ nid → b ∈ β' j → b ∈ β1 r → False := by
      intro j hj j1 hb1 hb2
      by_cases j2 : j = o
      · rw [j2, bo] at hb1; cases hb1
      · rw [bx j j1 j2] at hb1
        rw [ox j j1 j2] at hj
        exact hoth j b hj j2 hb1 (hnew b hb2 (h.lt j b hj hb1).2)
    by_cases k1 : k = nid <;> by_cases k2 : k' = nid
    · rw [k1, k2]
    · rw [k1, bn] at hb; exact (mix k' hk' k2 hb' hb).elim
    · rw [k2, bn] at hb'; exact (mix k hk k1 hb hb').elim
    · by_cases j1 : k = o
      · rw [j1, bo] at hb; cases hb
      · by_cases j2 : k' = o
        · rw [j2, bo] at hb'; cases hb'
        · rw [bx k k1 j1] at hb; rw [bx k' k2 j2] at hb'
          rw [ox k k1 j1] at hk; rw [ox k' k2 j2] at hk'
          exact h.apart k k' b hk hk' hb hb'
  · have hk : (obj' k).len ≠ none := hk
    by_cases k1 : k = nid
    · rw [k1, bn]; exact h1.nodup r hlr
    · by_cases k2 : k = o
      · rw [k2, bo]; exact List.nodup_nil
      · rw [bx k k1 k2]; rw [ox k k1 k2] at hk; exact h.nodup k hk
  · obtain ⟨v, f1, f2⟩ := h.slots s x hx
    exact ⟨v, f1, f2.le hle⟩
end
/-- what the walk of such a function must come to -/
def EndsK (Θ : TypeId → Option TI) (rs : List ResultVar) (e : TypeId) (t : Ty) (ys : List t.den) (pin : AO) (ex : Exit) (σ : AS) : Prop :=
  (ex = .normal ∨ ex = .ret) ∧ ∃ r, resAV Θ σ rs = some (.own r ys.length) ∧ σ.obj r = .row e t ys ∧ σ.obj 1000000 = pin
theorem EndsK_id {Θ : TypeId → Option TI} {rs : List ResultVar} {e : TypeId} {t : Ty} {ys : List t.den} {pin : AO} {ex : Exit} {σ : AS} (h : EndsK Θ rs e t ys pin ex σ) : EndsK Θ rs e t ys pin ex σ := h
theorem okTake {P : Program} {Θ : TypeId → Option TI} {f : FuncId} {fn : Func} {N : Nat} {rs : List ResultVar} (hΘ : ∀ t ti, Θ t = some ti → ti.ok P t) (hf : P.funcs[f]? = some fn) (hb : fn.body.isNone = false) (hN : fn.ntmps = N) (hrs : fn.results = rs.toArray) (hrl : rs.length ≤ 4)
    {t : Ty} {e : TypeId} {xs ys : List t.den} {rest : List AV} (hlen : rest.length + 1 ≤ N) (hrest : rest.all (ok2 1) = true) (hren : ∀ m, rest.map (ren2 m) = rest)
    (h : ∀ w0 pin, FrOk (fun o => if o = 1000000 then pin else .dead) → AWp P w0 N (fn.body.getD .skip) (initW [.row e t xs] pin (.own 1000001 xs.length :: rest)) (EndsK Θ rs e t ys pin))
    {w0 : World} {get : Nat → Option AV} {obj : Nat → AO} {a : Act} {W : World} {ρ : Nat → Value} {β : Nat → List Nat} (hR : RelW w0 get obj a W ρ β) {o nid : Nat} (hob : obj o = .row e t xs) (hdead : obj nid = .dead) {vs : List Value} (hvs : Reps (cxOf obj W ρ β) rest vs) :
    Calls P f (ρ o :: vs).toArray W fun en w' => ∃ u ρ' β', en = .returned u ∧ Rep (cxOf (setE obj [(nid, .row e t ys), (o, .gone xs.length)]) w' ρ' β') (.own nid ys.length) u ∧ RelW w0 get (setE obj [(nid, .row e t ys), (o, .gone xs.length)]) a w' ρ' β' := by
  obtain ⟨code, hcode⟩ : ∃ code, fn.body = some code := by
    cases hc : fn.body with
    | none => rw [hc] at hb; simp at hb
    | some c => exact ⟨c, rfl⟩
  subst hN
  refine calls_of_wp hf hcode ?_
  have hself := hR.self hob
  have hnd : [o].Nodup := by simp
  have hat : ∀ (i : Nat) o' ob, [o][i]? = some o' → [AO.row e t xs][i]? = some ob → obj o' = ob := by
    intro i o' ob h1 h2
    match i with
    | 0 => simp at h1 h2; subst h1 h2; exact hob
    | i + 1 => simp at h1
  have hrow : ∀ (i : Nat) ob, [AO.row e t xs][i]? = some ob → ∃ e t xs, ob = .row e t xs := by
    intro i ob h1
    match i with
    | 0 => simp at h1; exact ⟨_, _, _, h1.symm⟩
    | i + 1 => simp at h1
  have hin := hR.enterW hnd (rows := [.row e t xs]) rfl hat hrow (args := .own 0 xs.length :: rest) (n := 1) rfl (by
      rw [List.all_cons, hrest, Bool.and_true]; simp [ok2, ok1]) (vs := ρ o :: vs) (by
      rw [List.map_cons, hren]
      exact .cons hself hvs) (N := fn.ntmps) (by simp only [List.length_cons]; exact hlen)
  rw [show List.map (ren2 fun x => 1000001 + x) (AV.own 0 xs.length :: rest) = .own 1000001 xs.length :: rest from by rw [List.map_cons, hren]; rfl] at hin
  have h2 := h w0 (.pin W (restB w0 W β [o]) (pinAvs 1000001 [.row e t xs]) (List.map ρ [o])) frokW
  rw [hcode] at h2
  refine wp_mono (h2 _ _ hin) ?_
  rintro en a' w' ⟨σ', ⟨he, r, hres, hrw, hpin⟩, hsz, ρ1, β1, hr1⟩
  obtain ⟨v, hv1, hv2⟩ := res_sound (P := P) hΘ hr1 hrs hrl hres
  have e4 := (hr1.whole hrw rfl hv2).1
  obtain ⟨ρ', β', e5, hfin⟩ := hR.exitO hob hdead hr1 hrw hpin
  have hnid : setE obj [(nid, .row e t ys), (o, .gone xs.length)] nid = .row e t ys := by simp [setE, setO]
  have hrep := hfin.self hnid
  rw [e5, ← e4] at hrep
  rcases he with rfl | rfl
  · exact ⟨hr1.defers, _, hv1, v, ρ', β', rfl, hrep, hfin⟩
  · exact ⟨hr1.defers, _, hv1, v, ρ', β', rfl, hrep, hfin⟩
/-- a contract of such a function: an own row and one plain argument -/
def Con.take (T : TypeId) (ty te : Ty) (C : te.den → List ty.den → Prop) (put : te.den → List ty.den → List ty.den) : Con where
  run nid h args := match args with
    | [.own o n, x] => match h o, h nid, asArg te x with
      | .row e t xs, .dead, some v => if ht : t = ty then some (n = xs.length ∧ e = T ∧ canon te v = x ∧ C v (ht ▸ xs), .own nid (put v (ht ▸ xs)).length, [(nid, .row T ty (put v (ht ▸ xs))), (o, .gone n)], [nid, o]) else none
      | _, _, _ => none
    | _ => none
  congr nid h h' args r hs hh := by
    revert hs
    split
    · rename_i o n x
      split
      · rename_i e t xs v h1 h2 h3
        split
        · rename_i ht
          intro hs; cases hs
          rw [← hh o (by simp), ← hh nid (by simp), h1, h2]
          simp only [h3, ht, dite_true]
        · intro hs; cases hs
      · intro hs; cases hs
    · intro hs; cases hs
end Go.Proofs.Ytgnnmifpfgpllaa
