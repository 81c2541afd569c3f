/- Small lemmas: append onto an own slice of ints; the low bits of a number. -/
import Derived.Test.YtljlimlgdnbllaaKit6
import Derived.RegionTactic
import Derived.OwnWalk
set_option linter.all false
set_option linter.unusedVariables false
set_option linter.unusedSimpArgs false
namespace Go.Proofs.Ytljlimlgdnbllaa
open Go.RowKit
theorem wpList_app {ops : Array Oper} {rest : List Oper} {o : Oper} {a : Act} {w : World} {Q : Exit → Act → World → Prop} (hgd : Region.wanted o (yielded ops a.tmps) = true) (s x : Operand)
    (ho : o.op = .call { callee := .builtin .append, args := #[s, x], argTypes := #[24, 24] })
    (lo : Nat) (v : Value) (xs : List Int) (hs : a.eval s = v) (hown : OI w lo v xs) (B : Nat) (A : Option Addr) (m c : Nat) (ys zs : List Int) (hx : a.eval x = .slice A m c) (hm : m = ys.length) (hr : RI w B A ys)
    (hz : zs = xs ++ ys) (hn : zs.length ≤ 1000000000) (hlo : lo ≤ w.heap.size)
    (h : ∀ A' c' w', OI w' lo (.slice A' zs.length c') zs → w.grownBy w' v.ownBlock → ((Value.slice A' zs.length c').ownBlock = v.ownBlock ∨ (Value.slice A' zs.length c').ownBlock = some w.heap.size) → wpList Try.prog ops Q rest (a.put o.dst (.slice A' zs.length c')) w') : wpList Try.prog ops Q (o :: rest) a w := by
  obtain ⟨i0, hi, hz0, hz1, hz2⟩ := info_parts info_int
  subst hm
  have hl : zs.length = xs.length + ys.length := by rw [hz, List.length_append]
  refine wpList_append_want w hgd s x 24 ho lo 3 i0 (.int .i64 0) 1 8 Try.underlying24 hi hz0 hz1 hz2 rfl (by decide) v xs.length (xs.map (Value.int .i64)) hs hown B A ys.length c (ys.map (Value.int .i64)) hx hr (ints_one ys) (by unfold maxLen; omega) (by omega) hlo ?_
  intro v' w' h2 h3 h4
  have ho2 : OI w' lo v' zs := by
    unfold OI
    rw [hl, hz, List.map_append]; exact h2
  obtain ⟨A', c', rfl⟩ := ho2.shape
  exact h A' c' w' ho2 h3 h4
theorem and_low (e : Int) (h0 : 0 ≤ e) (h : e ≤ 9223372036854775807) : bits .and .i64 e 2147483647 = e % 2147483648 := by
  obtain ⟨n, rfl⟩ := Int.eq_ofNat_of_zero_le h0
  have := i64_and_nat n 2147483647 (by omega) (by omega)
  rw [show ((2147483647 : Nat) : Int) = 2147483647 from rfl] at this
  rw [this, show (2147483647 : Nat) = 2 ^ 31 - 1 from rfl, Nat.and_two_pow_sub_one_eq_mod]; omega
theorem OI.lit {w : World} {n : Nat} (hn : n = w.heap.size) (xs : List Int) (hm : xs.length ≤ 1000000000) : OI (w.alloc (.cells (xs.map (Value.int .i64)).toArray 3)) w.heap.size (.slice (some ⟨n, 0, none⟩) xs.length xs.length) xs := by
  have := own_lit hn (xs.map (Value.int .i64)) 3 (by unfold maxLen; simp; omega)
  simpa [OI] using this
theorem grown_keep {w0 w w' : World} {v : Value} (h : Below w0.heap.size w0 w) (hg : w.grownBy w' v.ownBlock) (hv : ∀ k, v.ownBlock = some k → w0.heap.size ≤ k) : Below w0.heap.size w0 w' := h.grown hg h.size hv
theorem OI.ge {w : World} {lo : Nat} {v : Value} {xs : List Int} (h : OI w lo v xs) : ∀ k, v.ownBlock = some k → lo ≤ k := fun k hk => (h.lt k hk).1
end Go.Proofs.Ytljlimlgdnbllaa
