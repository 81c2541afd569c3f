/- Small lemmas: memory of the call's own. -/
import Derived.Test.YtljlimlgdnbllaaKit2
import Derived.Laws.OwnMore
import Derived.Laws.MakeOwn
import Derived.OwnWalk
import Derived.Deep.OwnRows
set_option linter.all false
set_option linter.unusedVariables false
set_option linter.unusedSimpArgs false
namespace Go.Proofs.Ytljlimlgdnbllaa
open Go.RowKit
theorem set1b {W : World} {b i : Nat} {u0 : Value} (v0 : Value) (h0 : W.cell? ⟨b, i, none⟩ = some u0) : (W.setCell ⟨b, i, none⟩ v0).cell? ⟨b, i, none⟩ = some v0 := World.cell?_setCell_same _ _ _ h0
theorem bdrewN {w w1 : World} (h : Below w.heap.size w w1) (n : Nat) : Below w.heap.size w (w1.drewN n) := ⟨h.os, h.tape, h.output, h.size, h.block⟩
theorem info_int : (Try.prog.info? 3).map (fun i => (i.zero, i.size, i.bytes)) = some (some (.int .i64 0), 1, 8) := by kernel_rfl
/-- an int slice of the call's own: nil, or at the head of a block from lo on -/
def OI (w : World) (lo : Nat) (v : Value) (xs : List Int) : Prop := w.ownsRow lo 3 1 v xs.length (xs.map (Value.int .i64))
theorem OI.ri {w : World} {lo : Nat} {A : Option Addr} {c : Nat} {xs : List Int} (h : OI w lo (.slice A xs.length c) xs) : RI w w.heap.size A xs := Reads.of_own h
theorem OI.below {w w' : World} {lo : Nat} {v : Value} {xs : List Int} (h : OI w lo v xs) (hb : Below w.heap.size w w') : OI w' lo v xs := by
  refine ⟨h.1, ?_⟩
  rcases h.2 with h2 | ⟨g, cap, cur, hv, hg, hh, r⟩
  · exact .inl h2
  · exact .inr ⟨g, cap, cur, hv, hg, (hb.block g (Array.getElem?_eq_some_iff.1 hh).1).trans hh, r⟩
theorem OI.lo {w : World} {lo lo' : Nat} {v : Value} {xs : List Int} (h : OI w lo v xs) (hl : lo' ≤ lo) : OI w lo' v xs := by
  refine ⟨h.1, ?_⟩
  rcases h.2 with h2 | ⟨g, cap, cur, hv, hg, r⟩
  · exact .inl h2
  · exact .inr ⟨g, cap, cur, hv, by omega, r⟩
theorem OI.set_ {w : World} {lo : Nat} {v : Value} {xs : List Int} (h : OI w lo v xs) (p : Addr) (u : Value) (hp : p.block < lo) : OI (w.setCell p u) lo v xs := ownsRow_setCell_below h hp u
theorem OI.cap {w : World} {lo n c : Nat} {A : Option Addr} {xs : List Int} (h : OI w lo (.slice A n c) xs) (hn : n = xs.length) : n ≤ c := by
  rcases h.2 with ⟨h1, h2⟩ | ⟨g, cap, cur, h1, _, _, h3, _⟩
  · omega
  · injection h1 with _ e1 e2; omega
theorem OI.nil (w : World) (lo : Nat) : OI w lo (.slice none 0 0) [] := World.ownsRow_nil _ _ _ _
theorem OI.shape {w : World} {lo : Nat} {v : Value} {xs : List Int} (h : OI w lo v xs) : ∃ A c, v = .slice A xs.length c := by
  rcases h.2 with ⟨rfl, h2⟩ | ⟨g, cap, cur, rfl, _⟩
  · exact ⟨none, 0, by rw [h2]⟩
  · exact ⟨_, _, rfl⟩
theorem RI.nil (w : World) (B : Nat) (A : Option Addr) : RI w B A [] := ⟨by simp, fun h => by simp at h⟩
/-- what a function that hands back an int slice of its own says -/
def RetI (w : World) (xs : List Int) (e : Ending) (w' : World) : Prop := ∃ A c, e = .returned (.slice A xs.length c) ∧ OI w' w.heap.size (.slice A xs.length c) xs ∧ Below w.heap.size w w'
theorem take_set_rep (xs : List Int) (k : Nat) (hk : k < xs.length) : ((xs.take k).map (Value.int .i64) ++ List.replicate (xs.length - k) (Value.int .i64 0)).set k (Value.int .i64 xs[k]) = (xs.take (k + 1)).map (Value.int .i64) ++ List.replicate (xs.length - (k + 1)) (Value.int .i64 0) := by
  have hl : ((xs.take k).map (Value.int .i64)).length = k := by simp; omega
  rw [List.set_append_right _ _ (by omega), hl, Nat.sub_self, show xs.length - k = (xs.length - (k + 1)) + 1 by omega, List.replicate_succ, List.set_cons_zero, List.take_succ_eq_append_getElem hk, List.map_append]
  simp
end Go.Proofs.Ytljlimlgdnbllaa
