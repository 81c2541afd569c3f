/- Contracts of functions that make rows of ints, and of functions that mark them. -/
import Derived.Test.YtgnnmifpfgpllaaGreatZB3
import Derived.Test.YtgnnmifpfgpllaaGreatZN1
import Derived.Test.YtgnnmifpfgpllaaGreatZKit
import Derived.Deep.QuietTactic
import Derived.BigQuiet
import Derived.Deep.AppendLies
import Derived.Test.YtgnnmifpfgpllaaGreatZB4
import Derived.Test.YtgnnmifpfgpllaaGreatZAE
/- Walks of the laws' own functions: structs of ints. -/
/- Contracts of the lower layers. -/
set_option linter.all false
set_option linter.unusedVariables false
set_option linter.unusedSimpArgs false
namespace Go.Proofs.YtgnnmifpfgpllaaGreat
open Go.RowKit
noncomputable def c_powers : Con0 := fun args => match args with
  | [a0, a1, a2] => match asG a0, asIs a1, asIs a2 with
    | some (p, q, g), some xs, some es => some (M.Grp p q g ∧ xs.length ≤ es.length ∧ (∀ x ∈ xs, 0 ≤ x ∧ x < p) ∧ ∀ e ∈ es, 0 ≤ e ∧ e < q, .lit (.int .i64 (M.powL p q 1 xs es)), [])
    | _, _, _ => none
  | _ => none
set_option linter.unusedVariables false in
theorem ok_powers : (mk c_powers).ok Tryz.prog 70 := Con0.okLit (enter_of Tryz.func70 (by kernel_rfl) (by kernel_rfl)) fun args c x obs h => by
  unfold c_powers at h
  split at h
  · split at h
    · rename_i p q g xs es e0 e1 e2
      cases h
      refine ⟨rfl, _, rfl, fun hc w vs hv => ?_⟩
      obtain ⟨u0, vs, rfl, r0, h0⟩ := hv.cons_of
      obtain ⟨u1, vs, rfl, r1, h1⟩ := h0.cons_of
      obtain ⟨u2, vs, rfl, r2, h2⟩ := h1.cons_of
      rw [h2.nil_of]
      obtain rfl := asG_sound e0 r0
      obtain ⟨A_xs, c_xs, rfl, hx_xs, hl_xs, hc_xs⟩ := asIs_sound e1 r1
      obtain ⟨A_es, c_es, rfl, hx_es, hl_es, hc_es⟩ := asIs_sound e2 r2
      exact powers_any p q g hc.1 A_xs A_es c_xs c_es xs es hl_xs hc.2.1 _ hx_xs hx_es hc.2.2.1 hc.2.2.2
    · cases h
  · cases h
noncomputable def c_gProd : Con0 := fun args => match args with
  | [a0, a1, a2] => match asG a0, asIs a1, asIs a2 with
    | some (p, q, g), some xs, some es => some (M.Grp p q g ∧ xs.length ≤ es.length ∧ (∀ x ∈ xs, 0 ≤ x ∧ x < p) ∧ ∀ e ∈ es, 0 ≤ e ∧ e < q, .lit (.int .i64 (M.powL p q 1 xs es)), [])
    | _, _, _ => none
  | _ => none
set_option linter.unusedVariables false in
theorem ok_gProd : (mk c_gProd).ok Tryz.prog 103 := Con0.okLit (enter_of Tryz.func103 (by kernel_rfl) (by kernel_rfl)) fun args c x obs h => by
  unfold c_gProd at h
  split at h
  · split at h
    · rename_i p q g xs es e0 e1 e2
      cases h
      refine ⟨rfl, _, rfl, fun hc w vs hv => ?_⟩
      obtain ⟨u0, vs, rfl, r0, h0⟩ := hv.cons_of
      obtain ⟨u1, vs, rfl, r1, h1⟩ := h0.cons_of
      obtain ⟨u2, vs, rfl, r2, h2⟩ := h1.cons_of
      rw [h2.nil_of]
      obtain rfl := asG_sound e0 r0
      obtain ⟨A_xs, c_xs, rfl, hx_xs, hl_xs, hc_xs⟩ := asIs_sound e1 r1
      obtain ⟨A_es, c_es, rfl, hx_es, hl_es, hc_es⟩ := asIs_sound e2 r2
      exact gProd_any p q g hc.1 A_xs A_es c_xs c_es xs es hl_xs hc.2.1 _ hx_xs hx_es hc.2.2.1 hc.2.2.2
    · cases h
  · cases h
end Go.Proofs.YtgnnmifpfgpllaaGreat

set_option linter.all false
set_option linter.unusedVariables false
set_option linter.unusedSimpArgs false
namespace Go.Proofs.YtgnnmifpfgpllaaGreat
open Go.RowKit
end Go.Proofs.YtgnnmifpfgpllaaGreat

/- Walks of the laws' own functions on int slices. -/
namespace Go.Proofs.YtgnnmifpfgpllaaGreat
open Go.RowKit
/-- the list that markIntS writes: k, k + 1, .. -/
def marks (k : Int) : Nat → List Int
  | 0 => []
  | n + 1 => k :: marks (k + 1) n
end Go.Proofs.YtgnnmifpfgpllaaGreat

/- Walks of the laws' own functions: bases. -/
namespace Go.Proofs.YtgnnmifpfgpllaaGreat
open Go.RowKit
end Go.Proofs.YtgnnmifpfgpllaaGreat

/- Walks of the laws' own functions: structs with slices. -/
namespace Go.Proofs.YtgnnmifpfgpllaaGreat
open Go.RowKit
end Go.Proofs.YtgnnmifpfgpllaaGreat

set_option linter.all false
set_option linter.unusedVariables false
set_option linter.unusedSimpArgs false
namespace Go.Proofs.YtgnnmifpfgpllaaGreat
open Go.RowKit
theorem OIs.at {W : World} {lo : Nat} {us : List Value} {rows : List (List Int)} (h : OIs W lo (us.zip rows)) {i : Nat} {u : Value} {xs : List Int} (h1 : us[i]? = some u) (h2 : rows[i]? = some xs) : OI W lo u xs := by
  refine h.1 (u, xs) ?_
  refine List.mem_of_getElem? (i := i) ?_
  rw [List.getElem?_zip_eq_some]; exact ⟨h1, h2⟩
/-! marks -/
def rowsI (h : Nat → AO) : List (Nat × Nat) → Option (Prop × List (List Int))
  | [] => some (True, [])
  | (o, n) :: l => match h o, rowsI h l with
    | .row e .int xs, some (c, r) => some ((e = 3 ∧ n = xs.length) ∧ c, xs :: r)
    | _, _ => none
def markTot : Int → List (List Int) → Int
  | k, [] => k
  | k, xs :: r => markTot (k + xs.length) r
def markEff : Int → List (Nat × Nat) → List (List Int) → List (Nat × AO)
  | k, (o, _) :: l, xs :: r => (o, .row 3 .int (marks k xs.length)) :: markEff (k + xs.length) l r
  | _, _, _ => []
theorem rowsI_congr {h h' : Nat → AO} : ∀ {l : List (Nat × Nat)} {r : Prop × List (List Int)}, rowsI h l = some r → (∀ o ∈ l.map (·.1), h o = h' o) → rowsI h' l = some r
  | [], r, hs, _ => hs
  | (o, n) :: l, r, hs, hh => by
    unfold rowsI at hs ⊢
    split at hs
    · rename_i e xs c r' h1 h2
      cases hs
      rw [← hh o (by simp), h1, rowsI_congr h2 (fun o' ho => hh o' (by simp at ho ⊢; exact .inr ho))]
    · cases hs
def Con.mark (sel : List AV → Option (List (Nat × Nat) × Int)) : Con where
  run _ h args := match sel args with
    | some (ids, k) => if (ids.map (·.1)).Nodup then match rowsI h ids with
      | some (c, xss) => some (c ∧ (0 ≤ k ∧ k ≤ 1000000000000) ∧ (∀ xs ∈ xss, xs.length ≤ 35184372088832), .lit (.int .i64 (markTot k xss)), markEff k ids xss, ids.map (·.1))
      | none => none
      else none
    | none => none
  congr nid h h' args r hs hh := by
    revert hs
    cases he : sel args with
    | none => intro hs; cases hs
    | some q =>
      obtain ⟨ids, k⟩ := q
      dsimp only
      by_cases hn : (ids.map (·.1)).Nodup
      · rw [if_pos hn, if_pos hn]
        cases hr : rowsI h ids with
        | none => intro hs; cases hs
        | some q =>
          obtain ⟨c, xss⟩ := q
          intro hs
          cases hs
          rw [rowsI_congr hr hh]
      · rw [if_neg hn]; intro hs; cases hs
section
variable {w0 : World} {get : Nat → Option AV} {obj : Nat → AO} {a : Act} {W : World} {ρ : Nat → Value} {β : Nat → List Nat}
end
end Go.Proofs.YtgnnmifpfgpllaaGreat
