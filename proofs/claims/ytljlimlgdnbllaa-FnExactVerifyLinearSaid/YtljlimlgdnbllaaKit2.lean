/- More small lemmas beside the walks. -/
import Derived.Test.YtljlimlgdnbllaaKit
set_option linter.all false
set_option linter.unusedVariables false
set_option linter.unusedSimpArgs false
namespace Go.Proofs.Ytljlimlgdnbllaa
open Go.RowKit
theorem frozen_new' {w : World} {n : Nat} (hn : n = w.heap.size) (cs : Array Value) (t : TypeId) (i : Nat) : (w.alloc (.cells cs t)).frozen? ⟨n, i, none⟩ = false := by
  subst hn; simp
theorem frozen_alloc {w : World} {o : Obj} {a : Addr} (hne : a.block ≠ w.heap.size) (h : w.frozen? a = false) : (w.alloc o).frozen? a = false := (World.frozen?_alloc_old w o a hne).trans h
theorem cell_drew {w : World} {a : Addr} {v : Value} (h : w.cell? a = some v) : w.drew.cell? a = some v := h
theorem frozen_drew {w : World} {a : Addr} (h : w.frozen? a = false) : w.drew.frozen? a = false := h
theorem ret_iib {a b c d : Int} {e f : Bool} (h : a = b) (h' : c = d) (h'' : e = f) : Ending.returned (.tuple #[.int .i64 a, .int .i64 c, .bool e]) = .returned (.tuple #[.int .i64 b, .int .i64 d, .bool f]) := by rw [h, h', h'']
theorem set1' {W : World} {b : Nat} {u0 : Value} (v0 : Value) (h0 : W.cell? ⟨b, 0, none⟩ = some u0) : (W.setCell ⟨b, 0, none⟩ v0).cell? ⟨b, 0, none⟩ = some v0 := World.cell?_setCell_same _ _ _ h0
theorem set2' {W : World} {b : Nat} {u0 u1 : Value} (v0 v1 : Value) (h0 : W.cell? ⟨b, 0, none⟩ = some u0) (h1 : W.cell? ⟨b, 1, none⟩ = some u1) :
    ((W.setCell ⟨b, 0, none⟩ v0).setCell ⟨b, 1, none⟩ v1).cell? ⟨b, 0, none⟩ = some v0 ∧ ((W.setCell ⟨b, 0, none⟩ v0).setCell ⟨b, 1, none⟩ v1).cell? ⟨b, 1, none⟩ = some v1 :=
  set2 (hasC_set _ _ (hasC_set _ _ (hasC h0))) (hasC_set _ _ (hasC_set _ _ (hasC h1)))
theorem set3' {W : World} {b : Nat} {u0 u1 u2 : Value} (v0 v1 v2 : Value) (h0 : W.cell? ⟨b, 0, none⟩ = some u0) (h1 : W.cell? ⟨b, 1, none⟩ = some u1) (h2 : W.cell? ⟨b, 2, none⟩ = some u2) :
    (((W.setCell ⟨b, 0, none⟩ v0).setCell ⟨b, 1, none⟩ v1).setCell ⟨b, 2, none⟩ v2).cell? ⟨b, 0, none⟩ = some v0 ∧ (((W.setCell ⟨b, 0, none⟩ v0).setCell ⟨b, 1, none⟩ v1).setCell ⟨b, 2, none⟩ v2).cell? ⟨b, 1, none⟩ = some v1 ∧
    (((W.setCell ⟨b, 0, none⟩ v0).setCell ⟨b, 1, none⟩ v1).setCell ⟨b, 2, none⟩ v2).cell? ⟨b, 2, none⟩ = some v2 :=
  set3 (hasC_set _ _ (hasC_set _ _ (hasC_set _ _ (hasC h0)))) (hasC_set _ _ (hasC_set _ _ (hasC_set _ _ (hasC h1)))) (hasC_set _ _ (hasC_set _ _ (hasC_set _ _ (hasC h2))))
end Go.Proofs.Ytljlimlgdnbllaa
