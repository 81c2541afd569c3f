import Derived.Test.YtgnnmifpfgpllaaGreatZB4
import Derived.Test.YtgnnmifpfgpllaaGreatZAE
import Derived.Test.YtgnnmifpfgpllaaGreatZL1
/- Contracts of functions that make rows of ints, and of functions that mark them. -/
set_option linter.all false
set_option linter.unusedVariables false
set_option linter.unusedSimpArgs false
namespace Go.Proofs.YtgnnmifpfgpllaaGreat
open Go.RowKit
theorem OIs.at {W : World} {lo : Nat} {us : List Value} {rows : List (List Int)} (h : OIs W lo (us.zip rows)) {i : Nat} {u : Value} {xs : List Int} (h1 : us[i]? = some u) (h2 : rows[i]? = some xs) : OI W lo u xs := by
  refine h.1 (u, xs) ?_
  refine List.mem_of_getElem? (i := i) ?_
  rw [List.getElem?_zip_eq_some]; exact ⟨h1, h2⟩
/-! marks -/
def rowsI (h : Nat → AO) : List (Nat × Nat) → Option (Prop × List (List Int))
  | [] => some (True, [])
  | (o, n) :: l => match h o, rowsI h l with
    | .row e .int xs, some (c, r) => some ((e = 3 ∧ n = xs.length) ∧ c, xs :: r)
    | _, _ => none
def markTot : Int → List (List Int) → Int
  | k, [] => k
  | k, xs :: r => markTot (k + xs.length) r
def markEff : Int → List (Nat × Nat) → List (List Int) → List (Nat × AO)
  | k, (o, _) :: l, xs :: r => (o, .row 3 .int (marks k xs.length)) :: markEff (k + xs.length) l r
  | _, _, _ => []
theorem rowsI_congr {h h' : Nat → AO} : ∀ {l : List (Nat × Nat)} {r : Prop × List (List Int)}, rowsI h l = some r → (∀ o ∈ l.map (·.1), h o = h' o) → rowsI h' l = some r
  | [], r, hs, _ => hs
  | (o, n) :: l, r, hs, hh => by
    unfold rowsI at hs ⊢
    split at hs
    · rename_i e xs c r' h1 h2
      cases hs
      rw [← hh o (by simp), h1, rowsI_congr h2 (fun o' ho => hh o' (by simp at ho ⊢; exact .inr ho))]
    · cases hs
def Con.mark (sel : List AV → Option (List (Nat × Nat) × Int)) : Con where
  run _ h args := match sel args with
    | some (ids, k) => if (ids.map (·.1)).Nodup then match rowsI h ids with
      | some (c, xss) => some (c ∧ (0 ≤ k ∧ k ≤ 1000000000000) ∧ (∀ xs ∈ xss, xs.length ≤ 35184372088832), .lit (.int .i64 (markTot k xss)), markEff k ids xss, ids.map (·.1))
      | none => none
      else none
    | none => none
  congr nid h h' args r hs hh := by
    revert hs
    cases he : sel args with
    | none => intro hs; cases hs
    | some q =>
      obtain ⟨ids, k⟩ := q
      dsimp only
      by_cases hn : (ids.map (·.1)).Nodup
      · rw [if_pos hn, if_pos hn]
        cases hr : rowsI h ids with
        | none => intro hs; cases hs
        | some q =>
          obtain ⟨c, xss⟩ := q
          intro hs
          cases hs
          rw [rowsI_congr hr hh]
      · rw [if_neg hn]; intro hs; cases hs
section
variable {w0 : World} {get : Nat → Option AV} {obj : Nat → AO} {a : Act} {W : World} {ρ : Nat → Value} {β : Nat → List Nat}
end
end Go.Proofs.YtgnnmifpfgpllaaGreat
