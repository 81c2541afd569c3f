import Derived.Test.YtjapjmhifoeogaaZAG
/- Contracts of functions that write rows of their caller's own. -/
set_option linter.all false
set_option linter.unusedVariables false
set_option linter.unusedSimpArgs false
namespace Go.Proofs.Ytjapjmhifoeogaa
open Go.RowKit
/-- element types' ids of some rows -/
@[reducible] def ES : List Ty → Type
  | [] => Unit
  | _ :: ts => TypeId × ES ts
@[reducible] def HR (ts : List Ty) : Type := HL (ts.map Ty.list)
/-- rows read from the caller's objects -/
def rowsT (h : Nat → AO) : (ts : List Ty) → List Nat → Option (ES ts × HR ts)
  | [], [] => some ((), ())
  | t :: ts, o :: l => match h o, rowsT h ts l with
    | .row e' t' xs, some (es, r) => if hh : t' = t then some ((e', es), (hh ▸ xs, r)) else none
    | _, _ => none
  | _, _ => none
/-- rows as objects -/
def rowsAO : (ts : List Ty) → ES ts → HR ts → List AO
  | [], _, _ => []
  | t :: ts, (e, es), (xs, r) => .row e t xs :: rowsAO ts es r
def pair2 : List Nat → List AO → List (Nat × AO)
  | o :: l, x :: r => (o, x) :: pair2 l r
  | _, _ => []
theorem rowsT_congr {h h' : Nat → AO} : ∀ {ts : List Ty} {l : List Nat} {r : ES ts × HR ts}, rowsT h ts l = some r → (∀ o ∈ l, h o = h' o) → rowsT h' ts l = some r
  | [], [], r, hs, _ => hs
  | t :: ts, o :: l, r, hs, hh => by
    unfold rowsT at hs ⊢
    split at hs
    · rename_i e' t' xs es' r' h1 h2
      rw [← hh o (by simp), h1, rowsT_congr h2 fun o' ho => hh o' (by simp [ho])]
      exact hs
    · cases hs
  | [], _ :: _, r, hs, _ => by simp [rowsT] at hs
  | _ :: _, [], r, hs, _ => by simp [rowsT] at hs
/-- a contract of a function that writes rows: sel finds the rows' ids and the plain data in the arguments; F: condition, result, new rows -/
def Con.wr {α : Type} (ts : List Ty) (sel : List AV → Option (List Nat × α)) (F : α → HR ts → Prop × Value × HR ts) : Con where
  run _ h args := match sel args with
    | some (l, a) => if l.Nodup then match rowsT h ts l with
      | some (es, d) => some ((F a d).1, .lit (F a d).2.1, pair2 l (rowsAO ts es (F a d).2.2), l)
      | none => none
      else none
    | none => none
  congr nid h h' args r hs hh := by
    revert hs
    cases he : sel args with
    | none => intro hs; cases hs
    | some q =>
      obtain ⟨l, a⟩ := q
      dsimp only
      by_cases hn : l.Nodup
      · rw [if_pos hn, if_pos hn]
        cases hr : rowsT h ts l with
        | none => intro hs; cases hs
        | some d =>
          intro hs
          cases hs
          rw [rowsT_congr hr hh]
      · rw [if_neg hn]; intro hs; cases hs
/-- what the walk of such a function must come to -/
def EndsW (Θ : TypeId → Option TI) (rs : List ResultVar) (v : Value) (rows : List AO) (pin : AO) (e : Exit) (σ : AS) : Prop :=
  (e = .normal ∨ e = .ret) ∧ resAV Θ σ rs = some (.lit v) ∧ (∀ (i : Nat) ob, rows[i]? = some ob → σ.obj (1000001 + i) = ob) ∧ σ.obj 1000000 = pin
section
variable {w0 : World} {get : Nat → Option AV} {obj : Nat → AO} {a : Act} {W : World} {ρ : Nat → Value} {β : Nat → List Nat}
/-- a live row of one's own is an own slice of itself -/
theorem RelW.self (h : RelW w0 get obj a W ρ β) {o : Nat} {e : TypeId} {t : Ty} {xs : List t.den} (hob : obj o = .row e t xs) : Rep (cxOf obj W ρ β) (.own o xs.length) (ρ o) := by
  have h1 := h.objs o
  rw [hob] at h1
  obtain ⟨cells, bss, g1, g2, g3, ⟨_, hh⟩, g5⟩ := h1
  have hl : (obj o).len = some xs.length := by rw [hob]; rfl
  rcases hh with ⟨h5, h6⟩ | ⟨g, cap, cur, hv, _, _, hc, _⟩
  · exact .own (m := xs.length) hl (Nat.le_refl _) ⟨none, 0, by rw [h5, h6], by omega, fun h0 => by omega⟩ fun _ => rfl
  · exact .own (m := xs.length) hl (Nat.le_refl _) ⟨_, _, hv, hc, fun _ => ⟨g, rfl⟩⟩ fun _ => rfl
end
section
variable {w0 : World} {get : Nat → Option AV} {obj : Nat → AO} {a : Act} {W : World} {ρ : Nat → Value} {β : Nat → List Nat}
end
section
variable {w0 : World} {get : Nat → Option AV} {obj : Nat → AO} {a : Act} {W : World} {ρ : Nat → Value} {β : Nat → List Nat}
end
end Go.Proofs.Ytjapjmhifoeogaa
