import Derived.Test.YtljlimlgdnbllaaOpen
import Derived.Test.YtljlimlgdnbllaaB6
/- From an argument's reading to abstract values. -/
set_option linter.all false
set_option linter.unusedVariables false
set_option linter.unusedSimpArgs false
namespace Go.Proofs.Ytljlimlgdnbllaa
open Go.ChangeShapes Go.WideShapes Go.ChangeAt Go.RowKit Go.Joins
section
variable {H : Type} {enc : TypeId × Value → H} {W : World} {base : Nat} {sp : Nat → Bool} {held : Bool}
theorem sl_of_reads {xs : List Int} {A : Option Addr} {c : Nat} (h : RI W W.heap.size A xs) (hl : xs.length ≤ 9223372036854775807) (hc : xs.length ≤ c) : Rep (cx0 W) (.sl .int xs) (.slice A xs.length c) := by
  refine .sl ⟨A, c, rfl, hc, hl, fun hn => ?_⟩
  obtain ⟨h1, h2⟩ := h
  obtain ⟨ad, e1, e2, e3⟩ := h2 (by omega)
  refine ⟨ad, e1, e2, fun k x hx => ⟨[.int .i64 x], rfl, fun j u hu => ?_⟩⟩
  cases j with
  | zero =>
    simp at hu; subst hu
    have := e3 k (.int .i64 x) (by rw [List.getElem?_map, hx]; rfl)
    simpa using this
  | succ j => simp at hu
set_option maxRecDepth 100000 in
theorem sl_openc {fuel : Nat} {v : Value} {x : DataW H × List MemPlace} (h : DataW.trod enc Try.prog W base sp held fuel 24 [v] = some x) (hlt : ∀ q ∈ x.2, q.block < W.heap.size) : ∃ xs, Rep (cx0 W) (.sl .int xs) v := by
  rcases open_ints Try.underlying24 Try.underlying3 cells_int h with ⟨hcs, _⟩ | ⟨a, len, cap, zs, hcs, _, hlc, hcm, hz, hx, hcell, _⟩
  · obtain rfl : v = .slice none 0 0 := by simpa using hcs
    exact ⟨[], sl_of_reads (RI.nil _ _ _) (by simp) (Nat.le_refl _)⟩
  · obtain rfl : v = .slice (some a) len cap := by simpa using hcs
    have hzl : len ≤ zs.length := by rw [hz]; split <;> omega
    have hlen : (zs.take len).length = len := by simp; omega
    have hri : RI W W.heap.size (some a) (zs.take len) := by
      refine ⟨by simp, fun hn => ⟨a, rfl, ?_, fun j u hu => ?_⟩⟩
      · obtain ⟨y, hy, hb⟩ := mem_row (a := a) (n := zs.length) (by omega)
        rw [← hb]
        exact hlt y (by rw [hx]; exact hy)
      · rw [List.getElem?_map] at hu
        rcases Nat.lt_or_ge j (zs.take len).length with hj | hj
        · rw [List.getElem?_eq_getElem hj] at hu
          simp only [Option.map_some, Option.some.injEq] at hu
          subst hu
          rw [hcell j (by omega)]
          simp only [List.getElem_take]
          rw [List.getD_eq_getElem?_getD, List.getElem?_eq_getElem (by omega)]; rfl
        · rw [List.getElem?_eq_none hj] at hu; simp at hu
    refine ⟨zs.take len, ?_⟩
    have := sl_of_reads (c := cap) hri (by unfold maxLen at hcm; omega) (by omega)
    rwa [hlen] at this
set_option maxRecDepth 100000 in
theorem sl_open {t : TypeId} {r : Reach} {b0 : Nat} {v : Value} {d : DataW H} {p : List MemPlace} (ht : t = 24) (hv : Value.okWide Try.prog W r b0 t v) (h : DataW.Trod enc Try.prog W base sp held t v d p) (hlt : ∀ q ∈ p, q.block < W.heap.size) : ∃ xs, Rep (cx0 W) (.sl .int xs) v := by
  subst ht
  obtain ⟨a0, len, cap, rfl⟩ := okWide_slice Try.underlying24 hv
  obtain ⟨fuel, hf⟩ := h
  exact sl_openc (v := .slice a0 len cap) hf hlt
end
/-- what a law's contract says of a call from outside -/
theorem Con.law {P : Program} {f : FuncId} {C : Con} (h : C.ok P f) {args : List AV} {v : Value} {c : Prop} {eff : List (Nat × AO)} {tch : List Nat} {w : World} (hrun : C.run 0 noObj args = some (c, .lit v, eff, tch)) (hc : c) {vs : List Value} (hr : Reps (cx0 w) args vs) : Calls P f vs.toArray w fun e w' => e = .returned v ∧ Below w.heap.size w w' := by
  have hR : RelW w (fun _ => none) noObj ⟨#[], []⟩ w (fun _ => .bool false) (fun _ => []) := ⟨Below.refl _ _, fun o => trivial, fun o b ho => absurd rfl ho, fun o o' b ho => absurd rfl ho, fun o ho => absurd rfl ho, fun t x hx => (by cases hx), rfl⟩
  have hle : Cx.Le (cx0 w) (cxOf noObj w (fun _ => .bool false) (fun _ => [])) := ⟨fun b hb => ⟨hb, fun o ho => absurd rfl ho⟩, fun p _ => rfl, fun o n h => (by cases h), fun o n h => (by cases h)⟩
  refine (h.calls w _ noObj _ w _ _ hR 0 args c _ eff tch hrun hc vs (hr.le hle)).mono ?_
  rintro e w' ⟨u, ρ', β', rfl, hu, hr'⟩
  rw [hu.lit_eq]
  exact ⟨rfl, hr'.below⟩
end Go.Proofs.Ytljlimlgdnbllaa
