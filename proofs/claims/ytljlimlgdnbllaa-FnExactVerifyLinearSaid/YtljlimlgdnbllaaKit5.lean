/- Small lemmas: several slices of the call's own; what a mark leaves as it was. -/
import Derived.Test.YtljlimlgdnbllaaKit4
set_option linter.all false
set_option linter.unusedVariables false
set_option linter.unusedSimpArgs false
namespace Go.Proofs.Ytljlimlgdnbllaa
open Go.RowKit
/-- two own slices that share no block -/
def apart (v u : Value) : Prop := v.ownBlock = none ∨ v.ownBlock ≠ u.ownBlock
/-- own slices of ints, no two in one block -/
def OIs (W : World) (lo : Nat) (l : List (Value × List Int)) : Prop := (∀ r ∈ l, OI W lo r.1 r.2) ∧ l.Pairwise fun r s => apart r.1 s.1
/-- only blocks from lo on and below hi have changed, and new ones have come -/
structure Only (lo hi : Nat) (w w' : World) : Prop where
  below : Below lo w w'
  above : ∀ k, hi ≤ k → k < w.heap.size → w'.heap[k]? = w.heap[k]?
theorem Only.refl (lo hi : Nat) (w : World) : Only lo hi w w := ⟨Below.refl _ _, fun _ _ _ => rfl⟩
theorem Only.trans {lo hi : Nat} {a b c : World} (h : Only lo hi a b) (k : Only lo hi b c) : Only lo hi a c :=
  ⟨h.below.trans k.below, fun i h1 h2 => (k.above i h1 (by have := h.below.size; omega)).trans (h.above i h1 h2)⟩
theorem Only.of_below {lo hi : Nat} {w w' : World} (h : Below w.heap.size w w') (hl : lo ≤ w.heap.size) : Only lo hi w w' := ⟨h.mono hl, fun k _ hk => h.block k hk⟩
theorem Only.of_grown {lo hi : Nat} {w w' : World} {row : Option Nat} (h : w.grownBy w' row) (hl : lo ≤ w.heap.size) (hr : ∀ k, row = some k → lo ≤ k ∧ k < hi) : Only lo hi w w' :=
  ⟨(Below.refl lo w).grown h hl fun k hk => (hr k hk).1, fun k h1 h2 => h.block k h2 fun e => by have := (hr k e.symm).2; omega⟩
theorem Only.mono {lo hi lo' hi' : Nat} {w w' : World} (h : Only lo hi w w') (hl : lo' ≤ lo) (hh : hi ≤ hi') : Only lo' hi' w w' := ⟨h.below.mono hl, fun k h1 h2 => h.above k (by omega) h2⟩
theorem Only.cell {lo hi : Nat} {w w' : World} (h : Only lo hi w w') {a : Addr} {v : Value} (hc : w.cell? a = some v) (hk : a.block < lo ∨ hi ≤ a.block) : w'.cell? a = some v := by
  rcases hk with hk | hk
  · exact (h.below.cell hk).trans hc
  · exact (World.cell?_of_block (h.above _ hk (World.block_lt_of_cell? w a hc))).trans hc
theorem Only.frozen {lo hi : Nat} {w w' : World} (h : Only lo hi w w') {a : Addr} {v : Value} {b : Bool} (hc : w.cell? a = some v) (hf : w.frozen? a = b) (hk : a.block < lo ∨ hi ≤ a.block) : w'.frozen? a = b := by
  rcases hk with hk | hk
  · exact (h.below.frozen hk).trans hf
  · exact (World.frozen?_of_block (h.above _ hk (World.block_lt_of_cell? w a hc))).trans hf
theorem OI.only {lo hi lo' : Nat} {w w' : World} {v : Value} {xs : List Int} (h : OI w lo' v xs) (ho : Only lo hi w w') (hk : hi ≤ lo') : OI w' lo' v xs := by
  refine ⟨h.1, ?_⟩
  rcases h.2 with h2 | ⟨g, cap, cur, hv, hg, hh, r⟩
  · exact .inl h2
  · exact .inr ⟨g, cap, cur, hv, hg, (ho.above g (by omega) (Array.getElem?_eq_some_iff.1 hh).1).trans hh, r⟩
theorem OI.lt {w : World} {lo : Nat} {v : Value} {xs : List Int} (h : OI w lo v xs) : ∀ k, v.ownBlock = some k → lo ≤ k ∧ k < w.heap.size := World.ownsRow.lt h
theorem OI.kept {w w' : World} {row : Option Nat} {lo : Nat} {v : Value} {xs : List Int} (h : OI w lo v xs) (hg : w.grownBy w' row) (hne : v.ownBlock = none ∨ v.ownBlock ≠ row) : OI w' lo v xs := World.ownsRow.kept h hg hne
theorem apart_of {W W' : World} {lo lo' : Nat} {v u : Value} {xs ys : List Int} (h : OI W lo v xs) (h' : OI W' lo' u ys) (hle : W.heap.size ≤ lo') : apart v u := by
  unfold apart
  cases hv : v.ownBlock with
  | none => exact .inl rfl
  | some k =>
    refine .inr fun e => ?_
    have h1 := h.lt k hv
    have h2 := h'.lt k e.symm
    omega
theorem apart.symm {v u : Value} (h : apart v u) : u.ownBlock = none ∨ u.ownBlock ≠ v.ownBlock := by
  rcases h with h | h
  · rw [h]
    cases u.ownBlock with
    | none => exact .inl rfl
    | some k => exact .inr (by simp)
  · exact .inr fun e => h e.symm
theorem OIs.below {w w' : World} {lo : Nat} {l : List (Value × List Int)} (h : OIs w lo l) (hb : Below w.heap.size w w') : OIs w' lo l := ⟨fun r hr => (h.1 r hr).below hb, h.2⟩
theorem OIs.only {lo hi lo' : Nat} {w w' : World} {l : List (Value × List Int)} (h : OIs w lo' l) (ho : Only lo hi w w') (hk : hi ≤ lo') : OIs w' lo' l := ⟨fun r hr => (h.1 r hr).only ho hk, h.2⟩
theorem OIs.set_ {w : World} {lo : Nat} {l : List (Value × List Int)} (h : OIs w lo l) (p : Addr) (u : Value) (hp : p.block < lo) : OIs (w.setCell p u) lo l := ⟨fun r hr => (h.1 r hr).set_ p u hp, h.2⟩
theorem OIs.lo {w : World} {lo lo' : Nat} {l : List (Value × List Int)} (h : OIs w lo l) (hl : lo' ≤ lo) : OIs w lo' l := ⟨fun r hr => (h.1 r hr).lo hl, h.2⟩
theorem OIs.get0 {w : World} {lo : Nat} {v : Value} {xs : List Int} {l : List (Value × List Int)} (h : OIs w lo ((v, xs) :: l)) : OI w lo v xs := h.1 (v, xs) (List.mem_cons_self ..)
theorem OIs.tail {w : World} {lo : Nat} {r : Value × List Int} {l : List (Value × List Int)} (h : OIs w lo (r :: l)) : OIs w lo l := ⟨fun s hs => h.1 s (List.mem_cons_of_mem _ hs), (List.pairwise_cons.1 h.2).2⟩
theorem OIs.get1 {w : World} {lo : Nat} {r : Value × List Int} {v : Value} {xs : List Int} {l : List (Value × List Int)} (h : OIs w lo (r :: (v, xs) :: l)) : OI w lo v xs := h.tail.get0
theorem OIs.get2 {w : World} {lo : Nat} {r s : Value × List Int} {v : Value} {xs : List Int} {l : List (Value × List Int)} (h : OIs w lo (r :: s :: (v, xs) :: l)) : OI w lo v xs := h.tail.tail.get0
theorem OIs.mk1 {w : World} {lo : Nat} {v : Value} {xs : List Int} (h : OI w lo v xs) : OIs w lo [(v, xs)] := ⟨fun r hr => by simp at hr; subst hr; exact h, by simp⟩
theorem OIs.cons {w : World} {lo : Nat} {v : Value} {xs : List Int} {l : List (Value × List Int)} (h : OI w lo v xs) (hl : OIs w lo l) (ha : ∀ s ∈ l, apart v s.1) : OIs w lo ((v, xs) :: l) :=
  ⟨fun r hr => (List.mem_cons.1 hr).elim (fun e => by subst e; exact h) (fun h2 => hl.1 r h2), List.pairwise_cons.2 ⟨ha, hl.2⟩⟩
/-- a slice that reads below a bound, after what a mark has changed -/
theorem RI.only {lo hi : Nat} {w w' : World} {A : Option Addr} {xs : List Int} (h : RI w lo A xs) (ho : Only lo hi w w') : RI w' lo A xs := RI.below h ho.below
theorem RI.more {w : World} {B B' : Nat} {A : Option Addr} {xs : List Int} (h : RI w B A xs) (hB : B ≤ B') : RI w B' A xs := Reads.more h hB
end Go.Proofs.Ytljlimlgdnbllaa
