/- From an argument's reading to what the walks ask of it. -/
import Derived.Test.YtljlimlgdnbllaaLift
import Derived.Test.YtljlimlgdnbllaaKit3
set_option linter.all false
set_option linter.unusedVariables false
set_option linter.unusedSimpArgs false
namespace Go.Proofs.Ytljlimlgdnbllaa
open Go.ChangeShapes Go.WideShapes Go.ChangeAt Go.RowKit Go.Joins
theorem cells_int : Try.prog.cellsOf 3 = 1 := by kernel_rfl
section
variable {H : Type} {enc : TypeId × Value → H} {W : World} {base : Nat} {sp : Nat → Bool} {held : Bool}
theorem mem_row {a : Addr} {n : Nat} (h : 0 < n) : ∃ x ∈ MemPlace.row a n, x.block = a.block := by
  refine ⟨(MemPlace.row a n)[0]'(by simp [MemPlace.row]; omega), List.getElem_mem _, ?_⟩
  simp [MemPlace.row, MemPlace.block]
set_option maxRecDepth 100000 in
theorem open_RIc {fuel : Nat} {v : Value} {x : DataW H × List MemPlace} (h : DataW.trod enc Try.prog W base sp held fuel 24 [v] = some x) (hlt : ∀ q ∈ x.2, q.block < W.heap.size) :
    ∃ A c xs, v = .slice A xs.length c ∧ RI W W.heap.size A xs ∧ xs.length ≤ 9223372036854775807 := by
  rcases open_ints Try.underlying24 Try.underlying3 cells_int h with ⟨hcs, _⟩ | ⟨a, len, cap, zs, hcs, _, hlc, hcm, hz, hx, hcell, _⟩
  · obtain rfl : v = .slice none 0 0 := by simpa using hcs
    exact ⟨none, 0, [], rfl, RI.nil _ _ _, by simp⟩
  · obtain rfl : v = .slice (some a) len cap := by simpa using hcs
    have hzl : len ≤ zs.length := by rw [hz]; split <;> omega
    have hlen : (zs.take len).length = len := by simp; omega
    refine ⟨some a, cap, zs.take len, by rw [hlen], ⟨by simp, fun hn => ⟨a, rfl, ?_, fun j u hu => ?_⟩⟩, by unfold maxLen at hcm; omega⟩
    · obtain ⟨y, hy, hb⟩ := mem_row (a := a) (n := zs.length) (by omega)
      rw [← hb]
      exact hlt y (by rw [hx]; exact hy)
    · rw [List.getElem?_map] at hu
      rcases Nat.lt_or_ge j (zs.take len).length with hj | hj
      · rw [List.getElem?_eq_getElem hj] at hu
        simp only [Option.map_some, Option.some.injEq] at hu
        subst hu
        rw [hcell j (by omega)]
        simp only [List.getElem_take]
        rw [List.getD_eq_getElem?_getD, List.getElem?_eq_getElem (by omega)]; rfl
      · rw [List.getElem?_eq_none hj] at hu; simp at hu
set_option maxRecDepth 100000 in
theorem open_RI {t : TypeId} {r : Reach} {b0 : Nat} {v : Value} {d : DataW H} {p : List MemPlace} (ht : t = 24) (hv : Value.okWide Try.prog W r b0 t v) (h : DataW.Trod enc Try.prog W base sp held t v d p) (hlt : ∀ q ∈ p, q.block < W.heap.size) :
    ∃ A c xs, v = .slice A xs.length c ∧ RI W W.heap.size A xs ∧ xs.length ≤ 9223372036854775807 := by
  subst ht
  obtain ⟨a0, len, cap, rfl⟩ := okWide_slice Try.underlying24 hv
  obtain ⟨fuel, hf⟩ := h
  exact open_RIc (v := .slice a0 len cap) hf hlt
end
end Go.Proofs.Ytljlimlgdnbllaa
