/- Small lemmas beside the walks. -/
import Derived.Test.YtljlimlgdnbllaaMath
import Derived.Test.YtljlimlgdnbllaaChecked
import Derived.WalkKit
import Derived.WalkLawsBesides
import Derived.WalkSpells
import Derived.IntWalk
import Derived.Lib.Hide
import Derived.Laws.BitsAllLaws
import Derived.Laws.BitsLemmas
import Derived.Laws.OwnMore
import Derived.Deep.AppendLies
import Derived.Deep.Draws
import Derived.Shelf.Abstract
import Derived.Maps.AppendAt
import Derived.Laws.Rows
set_option linter.all false
set_option linter.unusedVariables false
set_option linter.unusedSimpArgs false
namespace Go.Proofs.Ytljlimlgdnbllaa
open Go.RowKit

theorem ofInt_i64 (a : Nat) (ha : a < 9223372036854775808) : (BitVec.ofInt 64 (a : Int)).toNat = a := by
  rw [BitVec.ofInt_natCast, BitVec.toNat_ofNat]; exact Nat.mod_eq_of_lt (by omega)
theorem i64_and_nat (a b : Nat) (ha : a < 9223372036854775808) (hb : b < 9223372036854775808) : bits .and .i64 (a : Int) (b : Int) = ((a &&& b : Nat) : Int) := by
  have hx : a &&& b < 2 ^ 63 := Nat.and_lt_two_pow _ (by omega)
  show IntKind.i64.wrap ((BitVec.ofInt 64 (a : Int) &&& BitVec.ofInt 64 (b : Int)).toNat : Int) = _
  rw [BitVec.toNat_and, ofInt_i64 a ha, ofInt_i64 b hb, IntKind.wrap_i64]
  omega
theorem and_one (e : Int) (h0 : 0 ≤ e) (h : e ≤ 9223372036854775807) : bits .and .i64 e 1 = e % 2 := by
  obtain ⟨n, rfl⟩ := Int.eq_ofNat_of_zero_le h0
  have := i64_and_nat n 1 (by omega) (by omega)
  rw [show ((1 : Nat) : Int) = 1 from rfl] at this
  rw [this, Nat.and_one_is_mod]; omega
theorem ret_int {k : IntKind} {a b : Int} (h : a = b) : Ending.returned (.int k a) = .returned (.int k b) := by rw [h]
theorem ret_bool {a b : Bool} (h : a = b) : Ending.returned (.bool a) = .returned (.bool b) := by rw [h]

theorem ret_ib {a b : Int} {c d : Bool} (h : a = b) (h' : c = d) : Ending.returned (.tuple #[.int .i64 a, .bool c]) = .returned (.tuple #[.int .i64 b, .bool d]) := by rw [h, h']
theorem ret_bb {a b : Bool} {c d : Bool} (h : a = b) (h' : c = d) : Ending.returned (.tuple #[.bool a, .bool c]) = .returned (.tuple #[.bool b, .bool d]) := by rw [h, h']

theorem below_new (w : World) (o : Obj) : Below w.heap.size w (w.alloc o) := (Below.refl _ _).alloc (Nat.le_refl _) _
theorem bnext {w w1 w2 : World} (h : Below w.heap.size w w1) (k : Below w1.heap.size w1 w2) : Below w.heap.size w w2 := h.trans (k.mono h.size)
theorem bnew {w w1 : World} (h : Below w.heap.size w w1) (o : Obj) : Below w.heap.size w (w1.alloc o) := h.alloc h.size o
theorem bcell {W w1 : World} (hb : Below W.heap.size W w1) : (∀ b o, b < W.heap.size → w1.cell? ⟨b, o, none⟩ = W.cell? ⟨b, o, none⟩) ∧ (∀ b o, b < W.heap.size → w1.frozen? ⟨b, o, none⟩ = W.frozen? ⟨b, o, none⟩) :=
  ⟨fun b o h => hb.cell (p := ⟨b, o, none⟩) h, fun b o h => hb.frozen (p := ⟨b, o, none⟩) h⟩
theorem cell_keep {W W' : World} {a : Addr} {v : Value} (hb : Below W.heap.size W W') (h : W.cell? a = some v) : W'.cell? a = some v := (hb.cell (World.block_lt_of_cell? W a h)).trans h
theorem frozen_keep {W W' : World} {a : Addr} {v : Value} (hb : Below W.heap.size W W') (hc : W.cell? a = some v) (h : W.frozen? a = false) : W'.frozen? a = false := (hb.frozen (World.block_lt_of_cell? W a hc)).trans h
/-- what a cell holds, whatever it is: 'W.cell? a = some (getC W b i)' says that it is there -/
def getC (W : World) (b i : Nat) : Value := (W.cell? ⟨b, i, none⟩).getD undef
theorem hasC {W : World} {b i : Nat} {v : Value} (h : W.cell? ⟨b, i, none⟩ = some v) : W.cell? ⟨b, i, none⟩ = some (getC W b i) := by unfold getC; rw [h]; rfl
theorem hasC_below {W W' : World} {b i : Nat} {v : Value} (hb : Below W.heap.size W W') (h : W.cell? ⟨b, i, none⟩ = some v) : W'.cell? ⟨b, i, none⟩ = some (getC W' b i) := hasC (cell_keep hb h)
theorem hasC_set {W : World} {b i : Nat} (p : Addr) (x : Value) (h : W.cell? ⟨b, i, none⟩ = some (getC W b i)) : (W.setCell p x).cell? ⟨b, i, none⟩ = some (getC (W.setCell p x) b i) := by
  obtain ⟨v', hv⟩ := cell?_setCell_some (w := W) (p := p) (x := x) (q := ⟨b, i, none⟩) h
  exact hasC hv
theorem hasC_drew {W : World} {b i : Nat} {v : Value} (h : W.cell? ⟨b, i, none⟩ = some v) : W.drew.cell? ⟨b, i, none⟩ = some (getC W.drew b i) := hasC (W := W.drew) h
theorem cell_new' {w : World} {n : Nat} (hn : n = w.heap.size) (cs : Array Value) (t : TypeId) (i : Nat) {v : Value} (h : cs[i]? = some v) : (w.alloc (.cells cs t)).cell? ⟨n, i, none⟩ = some v := by
  subst hn; rw [World.cell?_alloc_at _ _ _ _ rfl]; exact h
theorem sc_other {W : World} {a p : Addr} (x : Value) (hne : a ≠ p) : (W.setCell p x).cell? a = W.cell? a := World.cell?_setCell_other W p a x (fun e => hne e.symm)
theorem sc_same {W : World} {a : Addr} {x y : Value} (h : (W.setCell a x).cell? a = some y) : (W.setCell a x).cell? a = some x := by
  unfold World.cell? World.setCell at h ⊢
  simp only [Array.getElem?_modify, if_true] at h ⊢
  cases hh : W.heap[a.block]? with
  | none => simp [hh] at h
  | some o =>
    cases o <;> simp [hh] at h ⊢
    obtain ⟨h3, h4⟩ := h
    simp [h3] at h4 ⊢
    have := (Array.getElem?_eq_some_iff.1 h4).1
    simp at this
    simp [this]
theorem set2 {W : World} {b : Nat} {v0 v1 y0 y1 : Value}
    (h0 : ((W.setCell ⟨b, 0, none⟩ v0).setCell ⟨b, 1, none⟩ v1).cell? ⟨b, 0, none⟩ = some y0) (h1 : ((W.setCell ⟨b, 0, none⟩ v0).setCell ⟨b, 1, none⟩ v1).cell? ⟨b, 1, none⟩ = some y1) :
    ((W.setCell ⟨b, 0, none⟩ v0).setCell ⟨b, 1, none⟩ v1).cell? ⟨b, 0, none⟩ = some v0 ∧ ((W.setCell ⟨b, 0, none⟩ v0).setCell ⟨b, 1, none⟩ v1).cell? ⟨b, 1, none⟩ = some v1 := by
  refine ⟨?_, sc_same h1⟩
  rw [sc_other _ (by simp)] at h0 ⊢
  exact sc_same h0
theorem set3 {W : World} {b : Nat} {v0 v1 v2 y0 y1 y2 : Value}
    (h0 : (((W.setCell ⟨b, 0, none⟩ v0).setCell ⟨b, 1, none⟩ v1).setCell ⟨b, 2, none⟩ v2).cell? ⟨b, 0, none⟩ = some y0) (h1 : (((W.setCell ⟨b, 0, none⟩ v0).setCell ⟨b, 1, none⟩ v1).setCell ⟨b, 2, none⟩ v2).cell? ⟨b, 1, none⟩ = some y1)
    (h2 : (((W.setCell ⟨b, 0, none⟩ v0).setCell ⟨b, 1, none⟩ v1).setCell ⟨b, 2, none⟩ v2).cell? ⟨b, 2, none⟩ = some y2) :
    (((W.setCell ⟨b, 0, none⟩ v0).setCell ⟨b, 1, none⟩ v1).setCell ⟨b, 2, none⟩ v2).cell? ⟨b, 0, none⟩ = some v0 ∧ (((W.setCell ⟨b, 0, none⟩ v0).setCell ⟨b, 1, none⟩ v1).setCell ⟨b, 2, none⟩ v2).cell? ⟨b, 1, none⟩ = some v1 ∧
    (((W.setCell ⟨b, 0, none⟩ v0).setCell ⟨b, 1, none⟩ v1).setCell ⟨b, 2, none⟩ v2).cell? ⟨b, 2, none⟩ = some v2 := by
  refine ⟨?_, ?_, sc_same h2⟩
  · rw [sc_other _ (by simp)] at h0 ⊢
    rw [sc_other _ (by simp)] at h0 ⊢
    exact sc_same h0
  · rw [sc_other _ (by simp)] at h1 ⊢
    exact sc_same h1
theorem cell_set {W : World} {a p : Addr} {v : Value} (x : Value) (h : W.cell? a = some v) (hne : a.block ≠ p.block) : (W.setCell p x).cell? a = some v := (World.cell?_setCell_other W p a x (fun e => hne (by rw [e]))).trans h
theorem frozen_set {W : World} {a p : Addr} (x : Value) (h : W.frozen? a = false) : (W.setCell p x).frozen? a = false := by
  rw [World.frozen?_setCell]; exact h
theorem below_set {w W : World} {p : Addr} (x : Value) (h : Below w.heap.size w W) (hp : w.heap.size ≤ p.block) : Below w.heap.size w (W.setCell p x) := h.setCell hp x
theorem cell_new (w : World) (cs : Array Value) (t : TypeId) (i : Nat) : (w.alloc (.cells cs t)).cell? ⟨w.heap.size, i, none⟩ = cs[i]? := by
  rw [World.cell?_alloc_at _ _ _ _ rfl]

/-! a slice that reads as a list (after the kit's page extra-words) -/
theorem block_of_add (a : Addr) (n : Nat) : (a.add n).block = a.block := by unfold Addr.add; split <;> rfl
theorem add_of_add (a : Addr) (i j : Nat) : (a.add i).add j = a.add (i + j) := by
  unfold Addr.add
  by_cases hi : i = 0 <;> by_cases hj : j = 0 <;> simp [hi, hj, Nat.add_assoc]

def Reads (w : World) (B size : Nat) (A : Option Addr) (n : Nat) (xs : List Value) : Prop :=
  xs.length = n * size ∧ (0 < n → ∃ ad, A = some ad ∧ ad.block < B ∧ ∀ j u, xs[j]? = some u → w.cell? (ad.add j) = some u)

section
variable {w w' : World} {B B' size n : Nat} {A : Option Addr} {xs : List Value}
theorem Reads.none_ : Reads w B size A 0 [] := ⟨by simp, fun h => absurd h (by omega)⟩
theorem Reads.at_ {k : Nat} (h : Reads w B 1 A n xs) (hk : k < n) : ∃ ad u, A = some ad ∧ ad.block < B ∧ xs[k]? = some u ∧ w.cell? (ad.add k) = some u := by
  obtain ⟨ad, e, hb, hc⟩ := h.2 (by omega)
  have hl : k < xs.length := by have := h.1; omega
  exact ⟨ad, xs[k], e, hb, List.getElem?_eq_getElem hl, hc k _ (List.getElem?_eq_getElem hl)⟩
theorem Reads.keep (h : Reads w B size A n xs) (hk : ∀ p : Addr, p.block < B → w'.cell? p = w.cell? p) : Reads w' B size A n xs :=
  ⟨h.1, fun hn => by
    obtain ⟨ad, e, hb, hc⟩ := h.2 hn
    exact ⟨ad, e, hb, fun j u hu => (hk _ (by rw [block_of_add]; exact hb)).trans (hc j u hu)⟩⟩
theorem Reads.more (h : Reads w B size A n xs) (hB : B ≤ B') : Reads w B' size A n xs :=
  ⟨h.1, fun hn => by
    obtain ⟨ad, e, hb, hc⟩ := h.2 hn
    exact ⟨ad, e, by omega, hc⟩⟩
theorem Reads.below (h : Reads w B size A n xs) (hb : Below B w w') : Reads w' B size A n xs := h.keep fun _ hp => hb.cell hp
theorem Reads.drew (h : Reads w B size A n xs) : Reads w.drew B size A n xs := h
theorem Reads.drewN (h : Reads w B size A n xs) (k : Nat) : Reads (w.drewN k) B size A n xs := h
theorem Reads.alloc (h : Reads w B size A n xs) (hB : B ≤ w.heap.size) (o : Obj) : Reads (w.alloc o) B size A n xs := h.keep fun p hp => World.cell?_alloc_lt w o p (by omega)
theorem Reads.setCell (h : Reads w B size A n xs) {p : Addr} (hB : B ≤ p.block) (u : Value) : Reads (w.setCell p u) B size A n xs :=
  h.keep fun q hq => World.cell?_setCell_other w p q u (fun e => by subst e; omega)
theorem Reads.grown (h : Reads w B size A n xs) {row : Option Nat} (hg : w.grownBy w' row) (hB : B ≤ w.heap.size) (hr : ∀ g, row = some g → B ≤ g) : Reads w' B size A n xs :=
  h.keep fun p hp => World.cell?_of_block (hg.block p.block (by omega) (fun e => by have := hr _ e.symm; omega))
theorem Reads.cut (h : Reads w B size A n xs) {k cap : Nat} (hk : k ≤ n) (hc : n ≤ cap) :
    Reads w B size (if cap = k then A else A.map (·.add (k * size))) (n - k) (xs.drop (k * size)) := by
  refine ⟨by rw [List.length_drop, h.1, Nat.sub_mul], fun hn => ?_⟩
  obtain ⟨ad, rfl, hb, hcell⟩ := h.2 (by omega)
  rw [if_neg (by omega)]
  refine ⟨ad.add (k * size), rfl, by rw [block_of_add]; exact hb, fun j u hu => ?_⟩
  rw [add_of_add]
  exact hcell _ u (by rw [← hu, List.getElem?_drop])
theorem Reads.of_own {base : Nat} {e : TypeId} {c : Nat} (h : w.ownsRow base e size (.slice A n c) n xs) : Reads w w.heap.size size A n xs := by
  refine ⟨h.1, fun hn => ?_⟩
  obtain ⟨g, cap, hv, _, hlt⟩ := h.form hn
  have hA : A = some ⟨g, 0, none⟩ := by injection hv
  subst hA
  exact ⟨_, rfl, hlt, h.cells (g := g) rfl⟩
end

/-- a slice of ints, below block B -/
def RI (w : World) (B : Nat) (A : Option Addr) (xs : List Int) : Prop := Reads w B 1 A xs.length (xs.map (Value.int .i64))
theorem RI.below {w w' : World} {B : Nat} {A : Option Addr} {xs : List Int} (h : RI w B A xs) (hb : Below B w w') : RI w' B A xs := Reads.below h hb
theorem RI.new {w : World} {A : Option Addr} {xs : List Int} (h : RI w w.heap.size A xs) (o : Obj) : RI (w.alloc o) (w.alloc o).heap.size A xs :=
  (Reads.alloc h (Nat.le_refl _) o).more (by simp)
theorem RI.next {w w' : World} {A : Option Addr} {xs : List Int} (h : RI w w.heap.size A xs) (hb : Below w.heap.size w w') : RI w' w'.heap.size A xs := (Reads.below h hb).more hb.size
theorem RI.at_ {w : World} {B : Nat} {A : Option Addr} {xs : List Int} {k : Nat} (h : RI w B A xs) (hk : k < xs.length) : ∃ ad, A = some ad ∧ ad.block < B ∧ w.cell? (ad.add k) = some (.int .i64 xs[k]) := by
  obtain ⟨ad, u, e, hb, hx, hc⟩ := Reads.at_ h hk
  refine ⟨ad, e, hb, ?_⟩
  rw [List.getElem?_map, List.getElem?_eq_getElem hk] at hx
  simp at hx; rw [hc, hx]
theorem RI.mk {w : World} {B g : Nat} {cs : Array Value} {t : TypeId} {fr : Nat × Nat} {xs : List Int} (h : w.heap[g]? = some (.cells cs t fr)) (hB : g < B) (hc : ∀ j (hj : j < xs.length), cs[j]? = some (.int .i64 xs[j])) : RI w B (some ⟨g, 0, none⟩) xs := by
  refine ⟨by simp, fun _ => ⟨_, rfl, hB, fun j u hu => ?_⟩⟩
  rw [List.getElem?_map] at hu
  rcases Nat.lt_or_ge j xs.length with hj | hj
  · rw [List.getElem?_eq_getElem hj] at hu
    simp at hu
    subst hu
    have hadd : (⟨g, 0, none⟩ : Addr).add j = ⟨g, j, none⟩ := by unfold Addr.add; split <;> simp_all
    rw [hadd, cell_of_row w g j cs t fr h]; exact hc j hj
  · rw [List.getElem?_eq_none hj] at hu; simp at hu
theorem RI.lit (w : World) (xs : List Int) (t : TypeId) {n : Nat} (hn : n = w.heap.size) : RI (w.alloc (.cells (xs.map (Value.int .i64)).toArray t)) (w.alloc (.cells (xs.map (Value.int .i64)).toArray t)).heap.size (some ⟨n, 0, none⟩) xs := by
  subst hn; exact RI.mk (heap_alloc_new w _) (by simp) fun j hj => by simp [hj]
/-- the first place where p holds -/
def idx {α : Type} (p : α → Bool) (l : List α) : Int := if l.findIdx p < l.length then l.findIdx p else -1
theorem idx_hit {α : Type} {p : α → Bool} {l : List α} {k : Nat} (hk : k < l.length) (hp : p l[k] = true) (hn : ∀ j (h : j < k), p l[j] = false) : idx p l = k := by
  have : l.findIdx p = k := (List.findIdx_eq hk).2 ⟨hp, fun j hj => hn j hj⟩
  unfold idx; rw [this, if_pos hk]
theorem idx_miss {α : Type} {p : α → Bool} {l : List α} (hn : ∀ j (h : j < l.length), p l[j] = false) : idx p l = -1 := by
  unfold idx; rw [if_neg]
  intro h
  have := List.findIdx_getElem (w := h)
  rw [hn _ h] at this; cases this
theorem idx_ge {α : Type} (p : α → Bool) (l : List α) : decide (0 ≤ idx p l) = l.any p := by
  unfold idx
  by_cases h : l.findIdx p < l.length
  · rw [if_pos h]
    have h2 := List.findIdx_getElem (w := h)
    have h3 : l.any p = true := List.any_eq_true.2 ⟨_, List.getElem_mem h, h2⟩
    rw [h3]; simp
  · rw [if_neg h]
    have h3 : l.any p = false := by
      rw [List.any_eq_false]; intro x hx hp
      exact h (List.findIdx_lt_length_of_exists ⟨x, hx, hp⟩)
    rw [h3]; rfl
end Go.Proofs.Ytljlimlgdnbllaa
