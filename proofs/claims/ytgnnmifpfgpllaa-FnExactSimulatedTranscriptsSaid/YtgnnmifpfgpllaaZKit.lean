import Derived.Test.YtgnnmifpfgpllaaZMath
import Derived.Test.YtgnnmifpfgpllaaChecked
import Derived.WalkKit
import Derived.WalkLawsBesides
import Derived.WalkSpells
import Derived.IntWalk
import Derived.Lib.Hide
import Derived.Laws.BitsAllLaws
import Derived.Laws.BitsLemmas
import Derived.Laws.OwnMore
import Derived.Deep.AppendLies
import Derived.Deep.Draws
import Derived.Shelf.Abstract
import Derived.Maps.AppendAt
import Derived.Laws.Rows
import Derived.Laws.MakeOwn
import Derived.OwnWalk
import Derived.Deep.OwnRows
import Derived.RegionTactic
import Derived.BigFrame
/- Small lemmas beside the walks. -/
set_option linter.all false
set_option linter.unusedVariables false
set_option linter.unusedSimpArgs false
namespace Go.Proofs.Ytgnnmifpfgpllaa
open Go.RowKit

theorem ofInt_i64 (a : Nat) (ha : a < 9223372036854775808) : (BitVec.ofInt 64 (a : Int)).toNat = a := by
  rw [BitVec.ofInt_natCast, BitVec.toNat_ofNat]; exact Nat.mod_eq_of_lt (by omega)
theorem i64_and_nat (a b : Nat) (ha : a < 9223372036854775808) (hb : b < 9223372036854775808) : bits .and .i64 (a : Int) (b : Int) = ((a &&& b : Nat) : Int) := by
  have hx : a &&& b < 2 ^ 63 := Nat.and_lt_two_pow _ (by omega)
  show IntKind.i64.wrap ((BitVec.ofInt 64 (a : Int) &&& BitVec.ofInt 64 (b : Int)).toNat : Int) = _
  rw [BitVec.toNat_and, ofInt_i64 a ha, ofInt_i64 b hb, IntKind.wrap_i64]
  omega
theorem and_one (e : Int) (h0 : 0 ≤ e) (h : e ≤ 9223372036854775807) : bits .and .i64 e 1 = e % 2 := by
  obtain ⟨n, rfl⟩ := Int.eq_ofNat_of_zero_le h0
  have := i64_and_nat n 1 (by omega) (by omega)
  rw [show ((1 : Nat) : Int) = 1 from rfl] at this
  rw [this, Nat.and_one_is_mod]; omega
theorem ret_int {k : IntKind} {a b : Int} (h : a = b) : Ending.returned (.int k a) = .returned (.int k b) := by rw [h]
theorem ret_bool {a b : Bool} (h : a = b) : Ending.returned (.bool a) = .returned (.bool b) := by rw [h]

theorem below_new (w : World) (o : Obj) : Below w.heap.size w (w.alloc o) := (Below.refl _ _).alloc (Nat.le_refl _) _
theorem bnext {w w1 w2 : World} (h : Below w.heap.size w w1) (k : Below w1.heap.size w1 w2) : Below w.heap.size w w2 := h.trans (k.mono h.size)
theorem bnew {w w1 : World} (h : Below w.heap.size w w1) (o : Obj) : Below w.heap.size w (w1.alloc o) := h.alloc h.size o
theorem bcell {W w1 : World} (hb : Below W.heap.size W w1) : (∀ b o, b < W.heap.size → w1.cell? ⟨b, o, none⟩ = W.cell? ⟨b, o, none⟩) ∧ (∀ b o, b < W.heap.size → w1.frozen? ⟨b, o, none⟩ = W.frozen? ⟨b, o, none⟩) :=
  ⟨fun b o h => hb.cell (p := ⟨b, o, none⟩) h, fun b o h => hb.frozen (p := ⟨b, o, none⟩) h⟩
theorem cell_keep {W W' : World} {a : Addr} {v : Value} (hb : Below W.heap.size W W') (h : W.cell? a = some v) : W'.cell? a = some v := (hb.cell (World.block_lt_of_cell? W a h)).trans h
theorem frozen_keep {W W' : World} {a : Addr} {v : Value} (hb : Below W.heap.size W W') (hc : W.cell? a = some v) (h : W.frozen? a = false) : W'.frozen? a = false := (hb.frozen (World.block_lt_of_cell? W a hc)).trans h
/-- what a cell holds, whatever it is: 'W.cell? a = some (getC W b i)' says that it is there -/
def getC (W : World) (b i : Nat) : Value := (W.cell? ⟨b, i, none⟩).getD undef
theorem hasC {W : World} {b i : Nat} {v : Value} (h : W.cell? ⟨b, i, none⟩ = some v) : W.cell? ⟨b, i, none⟩ = some (getC W b i) := by unfold getC; rw [h]; rfl
theorem hasC_below {W W' : World} {b i : Nat} {v : Value} (hb : Below W.heap.size W W') (h : W.cell? ⟨b, i, none⟩ = some v) : W'.cell? ⟨b, i, none⟩ = some (getC W' b i) := hasC (cell_keep hb h)
theorem hasC_set {W : World} {b i : Nat} (p : Addr) (x : Value) (h : W.cell? ⟨b, i, none⟩ = some (getC W b i)) : (W.setCell p x).cell? ⟨b, i, none⟩ = some (getC (W.setCell p x) b i) := by
  obtain ⟨v', hv⟩ := cell?_setCell_some (w := W) (p := p) (x := x) (q := ⟨b, i, none⟩) h
  exact hasC hv
theorem hasC_drew {W : World} {b i : Nat} {v : Value} (h : W.cell? ⟨b, i, none⟩ = some v) : W.drew.cell? ⟨b, i, none⟩ = some (getC W.drew b i) := hasC (W := W.drew) h
theorem cell_new' {w : World} {n : Nat} (hn : n = w.heap.size) (cs : Array Value) (t : TypeId) (i : Nat) {v : Value} (h : cs[i]? = some v) : (w.alloc (.cells cs t)).cell? ⟨n, i, none⟩ = some v := by
  subst hn; rw [World.cell?_alloc_at _ _ _ _ rfl]; exact h
theorem sc_other {W : World} {a p : Addr} (x : Value) (hne : a ≠ p) : (W.setCell p x).cell? a = W.cell? a := World.cell?_setCell_other W p a x (fun e => hne e.symm)
theorem sc_same {W : World} {a : Addr} {x y : Value} (h : (W.setCell a x).cell? a = some y) : (W.setCell a x).cell? a = some x := by
  unfold World.cell? World.setCell at h ⊢
  simp only [Array.getElem?_modify, if_true] at h ⊢
  cases hh : W.heap[a.block]? with
  | none => simp [hh] at h
  | some o =>
    cases o <;> simp [hh] at h ⊢
    obtain ⟨h3, h4⟩ := h
    simp [h3] at h4 ⊢
    have := (Array.getElem?_eq_some_iff.1 h4).1
    simp at this
    simp [this]
theorem set3 {W : World} {b : Nat} {v0 v1 v2 y0 y1 y2 : Value}
    (h0 : (((W.setCell ⟨b, 0, none⟩ v0).setCell ⟨b, 1, none⟩ v1).setCell ⟨b, 2, none⟩ v2).cell? ⟨b, 0, none⟩ = some y0) (h1 : (((W.setCell ⟨b, 0, none⟩ v0).setCell ⟨b, 1, none⟩ v1).setCell ⟨b, 2, none⟩ v2).cell? ⟨b, 1, none⟩ = some y1)
    (h2 : (((W.setCell ⟨b, 0, none⟩ v0).setCell ⟨b, 1, none⟩ v1).setCell ⟨b, 2, none⟩ v2).cell? ⟨b, 2, none⟩ = some y2) :
    (((W.setCell ⟨b, 0, none⟩ v0).setCell ⟨b, 1, none⟩ v1).setCell ⟨b, 2, none⟩ v2).cell? ⟨b, 0, none⟩ = some v0 ∧ (((W.setCell ⟨b, 0, none⟩ v0).setCell ⟨b, 1, none⟩ v1).setCell ⟨b, 2, none⟩ v2).cell? ⟨b, 1, none⟩ = some v1 ∧
    (((W.setCell ⟨b, 0, none⟩ v0).setCell ⟨b, 1, none⟩ v1).setCell ⟨b, 2, none⟩ v2).cell? ⟨b, 2, none⟩ = some v2 := by
  refine ⟨?_, ?_, sc_same h2⟩
  · rw [sc_other _ (by simp)] at h0 ⊢
    rw [sc_other _ (by simp)] at h0 ⊢
    exact sc_same h0
  · rw [sc_other _ (by simp)] at h1 ⊢
    exact sc_same h1
theorem cell_set {W : World} {a p : Addr} {v : Value} (x : Value) (h : W.cell? a = some v) (hne : a.block ≠ p.block) : (W.setCell p x).cell? a = some v := (World.cell?_setCell_other W p a x (fun e => hne (by rw [e]))).trans h
theorem frozen_set {W : World} {a p : Addr} (x : Value) (h : W.frozen? a = false) : (W.setCell p x).frozen? a = false := by
  rw [World.frozen?_setCell]; exact h
theorem below_set {w W : World} {p : Addr} (x : Value) (h : Below w.heap.size w W) (hp : w.heap.size ≤ p.block) : Below w.heap.size w (W.setCell p x) := h.setCell hp x
theorem cell_new (w : World) (cs : Array Value) (t : TypeId) (i : Nat) : (w.alloc (.cells cs t)).cell? ⟨w.heap.size, i, none⟩ = cs[i]? := by
  rw [World.cell?_alloc_at _ _ _ _ rfl]

/-! a slice that reads as a list (after the kit's page extra-words) -/
theorem block_of_add (a : Addr) (n : Nat) : (a.add n).block = a.block := by unfold Addr.add; split <;> rfl
theorem add_of_add (a : Addr) (i j : Nat) : (a.add i).add j = a.add (i + j) := by
  unfold Addr.add
  by_cases hi : i = 0 <;> by_cases hj : j = 0 <;> simp [hi, hj, Nat.add_assoc]

def Reads (w : World) (B size : Nat) (A : Option Addr) (n : Nat) (xs : List Value) : Prop :=
  xs.length = n * size ∧ (0 < n → ∃ ad, A = some ad ∧ ad.block < B ∧ ∀ j u, xs[j]? = some u → w.cell? (ad.add j) = some u)

section
variable {w w' : World} {B B' size n : Nat} {A : Option Addr} {xs : List Value}
theorem Reads.none_ : Reads w B size A 0 [] := ⟨by simp, fun h => absurd h (by omega)⟩
theorem Reads.at_ {k : Nat} (h : Reads w B 1 A n xs) (hk : k < n) : ∃ ad u, A = some ad ∧ ad.block < B ∧ xs[k]? = some u ∧ w.cell? (ad.add k) = some u := by
  obtain ⟨ad, e, hb, hc⟩ := h.2 (by omega)
  have hl : k < xs.length := by have := h.1; omega
  exact ⟨ad, xs[k], e, hb, List.getElem?_eq_getElem hl, hc k _ (List.getElem?_eq_getElem hl)⟩
theorem Reads.keep (h : Reads w B size A n xs) (hk : ∀ p : Addr, p.block < B → w'.cell? p = w.cell? p) : Reads w' B size A n xs :=
  ⟨h.1, fun hn => by
    obtain ⟨ad, e, hb, hc⟩ := h.2 hn
    exact ⟨ad, e, hb, fun j u hu => (hk _ (by rw [block_of_add]; exact hb)).trans (hc j u hu)⟩⟩
theorem Reads.more (h : Reads w B size A n xs) (hB : B ≤ B') : Reads w B' size A n xs :=
  ⟨h.1, fun hn => by
    obtain ⟨ad, e, hb, hc⟩ := h.2 hn
    exact ⟨ad, e, by omega, hc⟩⟩
theorem Reads.below (h : Reads w B size A n xs) (hb : Below B w w') : Reads w' B size A n xs := h.keep fun _ hp => hb.cell hp
theorem Reads.drew (h : Reads w B size A n xs) : Reads w.drew B size A n xs := h
theorem Reads.drewN (h : Reads w B size A n xs) (k : Nat) : Reads (w.drewN k) B size A n xs := h
theorem Reads.alloc (h : Reads w B size A n xs) (hB : B ≤ w.heap.size) (o : Obj) : Reads (w.alloc o) B size A n xs := h.keep fun p hp => World.cell?_alloc_lt w o p (by omega)
theorem Reads.setCell (h : Reads w B size A n xs) {p : Addr} (hB : B ≤ p.block) (u : Value) : Reads (w.setCell p u) B size A n xs :=
  h.keep fun q hq => World.cell?_setCell_other w p q u (fun e => by subst e; omega)
theorem Reads.grown (h : Reads w B size A n xs) {row : Option Nat} (hg : w.grownBy w' row) (hB : B ≤ w.heap.size) (hr : ∀ g, row = some g → B ≤ g) : Reads w' B size A n xs :=
  h.keep fun p hp => World.cell?_of_block (hg.block p.block (by omega) (fun e => by have := hr _ e.symm; omega))
theorem Reads.cut (h : Reads w B size A n xs) {k cap : Nat} (hk : k ≤ n) (hc : n ≤ cap) :
    Reads w B size (if cap = k then A else A.map (·.add (k * size))) (n - k) (xs.drop (k * size)) := by
  refine ⟨by rw [List.length_drop, h.1, Nat.sub_mul], fun hn => ?_⟩
  obtain ⟨ad, rfl, hb, hcell⟩ := h.2 (by omega)
  rw [if_neg (by omega)]
  refine ⟨ad.add (k * size), rfl, by rw [block_of_add]; exact hb, fun j u hu => ?_⟩
  rw [add_of_add]
  exact hcell _ u (by rw [← hu, List.getElem?_drop])
theorem Reads.of_own {base : Nat} {e : TypeId} {c : Nat} (h : w.ownsRow base e size (.slice A n c) n xs) : Reads w w.heap.size size A n xs := by
  refine ⟨h.1, fun hn => ?_⟩
  obtain ⟨g, cap, hv, _, hlt⟩ := h.form hn
  have hA : A = some ⟨g, 0, none⟩ := by injection hv
  subst hA
  exact ⟨_, rfl, hlt, h.cells (g := g) rfl⟩
end

/-- a slice of ints, below block B -/
def RI (w : World) (B : Nat) (A : Option Addr) (xs : List Int) : Prop := Reads w B 1 A xs.length (xs.map (Value.int .i64))
theorem RI.below {w w' : World} {B : Nat} {A : Option Addr} {xs : List Int} (h : RI w B A xs) (hb : Below B w w') : RI w' B A xs := Reads.below h hb
theorem RI.new {w : World} {A : Option Addr} {xs : List Int} (h : RI w w.heap.size A xs) (o : Obj) : RI (w.alloc o) (w.alloc o).heap.size A xs :=
  (Reads.alloc h (Nat.le_refl _) o).more (by simp)
theorem RI.next {w w' : World} {A : Option Addr} {xs : List Int} (h : RI w w.heap.size A xs) (hb : Below w.heap.size w w') : RI w' w'.heap.size A xs := (Reads.below h hb).more hb.size
theorem RI.at_ {w : World} {B : Nat} {A : Option Addr} {xs : List Int} {k : Nat} (h : RI w B A xs) (hk : k < xs.length) : ∃ ad, A = some ad ∧ ad.block < B ∧ w.cell? (ad.add k) = some (.int .i64 xs[k]) := by
  obtain ⟨ad, u, e, hb, hx, hc⟩ := Reads.at_ h hk
  refine ⟨ad, e, hb, ?_⟩
  rw [List.getElem?_map, List.getElem?_eq_getElem hk] at hx
  simp at hx; rw [hc, hx]
theorem RI.mk {w : World} {B g : Nat} {cs : Array Value} {t : TypeId} {fr : Nat × Nat} {xs : List Int} (h : w.heap[g]? = some (.cells cs t fr)) (hB : g < B) (hc : ∀ j (hj : j < xs.length), cs[j]? = some (.int .i64 xs[j])) : RI w B (some ⟨g, 0, none⟩) xs := by
  refine ⟨by simp, fun _ => ⟨_, rfl, hB, fun j u hu => ?_⟩⟩
  rw [List.getElem?_map] at hu
  rcases Nat.lt_or_ge j xs.length with hj | hj
  · rw [List.getElem?_eq_getElem hj] at hu
    simp at hu
    subst hu
    have hadd : (⟨g, 0, none⟩ : Addr).add j = ⟨g, j, none⟩ := by unfold Addr.add; split <;> simp_all
    rw [hadd, cell_of_row w g j cs t fr h]; exact hc j hj
  · rw [List.getElem?_eq_none hj] at hu; simp at hu
theorem RI.lit (w : World) (xs : List Int) (t : TypeId) {n : Nat} (hn : n = w.heap.size) : RI (w.alloc (.cells (xs.map (Value.int .i64)).toArray t)) (w.alloc (.cells (xs.map (Value.int .i64)).toArray t)).heap.size (some ⟨n, 0, none⟩) xs := by
  subst hn; exact RI.mk (heap_alloc_new w _) (by simp) fun j hj => by simp [hj]
/-- the first place where p holds -/
def idx {α : Type} (p : α → Bool) (l : List α) : Int := if l.findIdx p < l.length then l.findIdx p else -1
theorem idx_hit {α : Type} {p : α → Bool} {l : List α} {k : Nat} (hk : k < l.length) (hp : p l[k] = true) (hn : ∀ j (h : j < k), p l[j] = false) : idx p l = k := by
  have : l.findIdx p = k := (List.findIdx_eq hk).2 ⟨hp, fun j hj => hn j hj⟩
  unfold idx; rw [this, if_pos hk]
theorem idx_miss {α : Type} {p : α → Bool} {l : List α} (hn : ∀ j (h : j < l.length), p l[j] = false) : idx p l = -1 := by
  unfold idx; rw [if_neg]
  intro h
  have := List.findIdx_getElem (w := h)
  rw [hn _ h] at this; cases this
theorem idx_ge {α : Type} (p : α → Bool) (l : List α) : decide (0 ≤ idx p l) = l.any p := by
  unfold idx
  by_cases h : l.findIdx p < l.length
  · rw [if_pos h]
    have h2 := List.findIdx_getElem (w := h)
    have h3 : l.any p = true := List.any_eq_true.2 ⟨_, List.getElem_mem h, h2⟩
    rw [h3]; simp
  · rw [if_neg h]
    have h3 : l.any p = false := by
      rw [List.any_eq_false]; intro x hx hp
      exact h (List.findIdx_lt_length_of_exists ⟨x, hx, hp⟩)
    rw [h3]; rfl
end Go.Proofs.Ytgnnmifpfgpllaa

/- More small lemmas beside the walks. -/
namespace Go.Proofs.Ytgnnmifpfgpllaa
open Go.RowKit
theorem cell_drew {w : World} {a : Addr} {v : Value} (h : w.cell? a = some v) : w.drew.cell? a = some v := h
end Go.Proofs.Ytgnnmifpfgpllaa

/- Small lemmas: memory of the call's own. -/
namespace Go.Proofs.Ytgnnmifpfgpllaa
open Go.RowKit
/-- an int slice of the call's own: nil, or at the head of a block from lo on -/
def OI (w : World) (lo : Nat) (v : Value) (xs : List Int) : Prop := w.ownsRow lo 3 1 v xs.length (xs.map (Value.int .i64))
theorem OI.ri {w : World} {lo : Nat} {A : Option Addr} {c : Nat} {xs : List Int} (h : OI w lo (.slice A xs.length c) xs) : RI w w.heap.size A xs := Reads.of_own h
theorem OI.below {w w' : World} {lo : Nat} {v : Value} {xs : List Int} (h : OI w lo v xs) (hb : Below w.heap.size w w') : OI w' lo v xs := by
  refine ⟨h.1, ?_⟩
  rcases h.2 with h2 | ⟨g, cap, cur, hv, hg, hh, r⟩
  · exact .inl h2
  · exact .inr ⟨g, cap, cur, hv, hg, (hb.block g (Array.getElem?_eq_some_iff.1 hh).1).trans hh, r⟩
theorem OI.lo {w : World} {lo lo' : Nat} {v : Value} {xs : List Int} (h : OI w lo v xs) (hl : lo' ≤ lo) : OI w lo' v xs := by
  refine ⟨h.1, ?_⟩
  rcases h.2 with h2 | ⟨g, cap, cur, hv, hg, r⟩
  · exact .inl h2
  · exact .inr ⟨g, cap, cur, hv, by omega, r⟩
theorem OI.set_ {w : World} {lo : Nat} {v : Value} {xs : List Int} (h : OI w lo v xs) (p : Addr) (u : Value) (hp : p.block < lo) : OI (w.setCell p u) lo v xs := ownsRow_setCell_below h hp u
theorem OI.cap {w : World} {lo n c : Nat} {A : Option Addr} {xs : List Int} (h : OI w lo (.slice A n c) xs) (hn : n = xs.length) : n ≤ c := by
  rcases h.2 with ⟨h1, h2⟩ | ⟨g, cap, cur, h1, _, _, h3, _⟩
  · omega
  · injection h1 with _ e1 e2; omega
theorem OI.nil (w : World) (lo : Nat) : OI w lo (.slice none 0 0) [] := World.ownsRow_nil _ _ _ _
theorem OI.shape {w : World} {lo : Nat} {v : Value} {xs : List Int} (h : OI w lo v xs) : ∃ A c, v = .slice A xs.length c := by
  rcases h.2 with ⟨rfl, h2⟩ | ⟨g, cap, cur, rfl, _⟩
  · exact ⟨none, 0, by rw [h2]⟩
  · exact ⟨_, _, rfl⟩
theorem RI.nil (w : World) (B : Nat) (A : Option Addr) : RI w B A [] := ⟨by simp, fun h => by simp at h⟩
end Go.Proofs.Ytgnnmifpfgpllaa

/- append onto a row of the call's own (after the kit's page extra-words). -/
namespace Go.Proofs.Ytgnnmifpfgpllaa
open Go.RowKit
section
variable {P : Program} (w : World)

theorem run_append_of_nil (base : Nat) (t ty e : TypeId) (i : TypeInfo) (size : Nat) (ht : P.underlying t = some (.slice e)) (hi : P.info? e = some i)
    (v : Value) (n : Nat) (xs : List Value) (hown : w.ownsRow base e size v n xs) (c : Nat) : (Builtin.append_ #[t, t] ty #[v, .slice none 0 c]).run P w = .ok v w := by
  rcases hown.2 with ⟨rfl, rfl⟩ | ⟨g, cap, cur, rfl, _, _, hnc, _⟩
  · simp [Builtin.append_, run_underlying ht, sizeOf, typeInfo, hi, Builtin.lenOf, Builtin.firstCells]
  · simp [Builtin.append_, run_underlying ht, sizeOf, typeInfo, hi, Builtin.lenOf, Builtin.firstCells, hnc, storeCells]

theorem run_append_any (base : Nat) (t ty e : TypeId) (i : TypeInfo) (z : Value) (size bytes : Nat) (ht : P.underlying t = some (.slice e)) (hi : P.info? e = some i) (hz : i.zero = some z)
    (hsize : i.size = size) (hby : i.bytes = bytes) (hzs : z.cells.size = size) (hsz : 0 < size)
    (v : Value) (n : Nat) (xs : List Value) (hown : w.ownsRow base e size v n xs)
    (B : Nat) (A : Option Addr) (m c : Nat) (news : List Value) (hr : Reads w B size A m news) (h1 : ∀ u ∈ news, u.oneCell' = true)
    (h63 : n + m ≤ maxLen) (hbytes : (n + m) * bytes ≤ 140737488355328) (hbase : base ≤ w.heap.size) :
    ∃ v' w', (Builtin.append_ #[t, t] ty #[v, .slice A m c]).run P w = .ok v' w' ∧ w'.ownsRow base e size v' (n + m) (xs ++ news) ∧ w.grownBy w' v.ownBlock ∧
      (v'.ownBlock = v.ownBlock ∨ v'.ownBlock = some w.heap.size) := by
  rcases A with _ | ad
  · have hm : m = 0 := by
      rcases Nat.eq_zero_or_pos m with h0 | h0
      · exact h0
      · obtain ⟨ad, h, _⟩ := hr.2 h0
        cases h
    subst hm
    have hn : news = [] := List.eq_nil_of_length_eq_zero (by simpa using hr.1)
    subst hn
    exact ⟨v, w, run_append_of_nil w base t ty e i size ht hi v n xs hown c, by simpa using hown, World.grownBy.refl w _, .inl rfl⟩
  · have hcells : ∀ j u, news[j]? = some u → w.cell? (ad.add j) = some u := by
      intro j u hu
      rcases Nat.eq_zero_or_pos m with h0 | h0
      · subst h0
        have hn : news = [] := List.eq_nil_of_length_eq_zero (by simpa using hr.1)
        subst hn
        simp at hu
      · obtain ⟨ad', h, _, hc⟩ := hr.2 h0
        injection h with h
        subst h
        exact hc j u hu
    obtain ⟨v', w', hrun, h2, h3, _, h5⟩ := run_append_own_at (P := P) w base t ty e i z size bytes ht hi hz hsize hby hzs hsz v n xs hown ad m c news hr.1 hcells h1 h63 hbytes hbase
    exact ⟨v', w', hrun, h2, h3, h5⟩

end

section
variable {P : Program} (w : World)
end
theorem own_lit {w : World} {n : Nat} (hn : n = w.heap.size) (us : List Value) (t : TypeId) (hm : us.length ≤ maxLen) : (w.alloc (.cells us.toArray t)).ownsRow w.heap.size t 1 (.slice (some ⟨n, 0, none⟩) us.length us.length) us.length us := by
  subst hn
  exact ⟨by simp, .inr ⟨w.heap.size, us.length, us.toArray, rfl, Nat.le_refl _, heap_alloc_new w _, Nat.le_refl _, hm, by simp, by simp⟩⟩
end Go.Proofs.Ytgnnmifpfgpllaa

/- Small lemmas: several slices of the call's own; what a mark leaves as it was. -/
namespace Go.Proofs.Ytgnnmifpfgpllaa
open Go.RowKit
/-- two own slices that share no block -/
def apart (v u : Value) : Prop := v.ownBlock = none ∨ v.ownBlock ≠ u.ownBlock
/-- own slices of ints, no two in one block -/
def OIs (W : World) (lo : Nat) (l : List (Value × List Int)) : Prop := (∀ r ∈ l, OI W lo r.1 r.2) ∧ l.Pairwise fun r s => apart r.1 s.1
/-- only blocks from lo on and below hi have changed, and new ones have come -/
structure Only (lo hi : Nat) (w w' : World) : Prop where
  below : Below lo w w'
  above : ∀ k, hi ≤ k → k < w.heap.size → w'.heap[k]? = w.heap[k]?
theorem Only.refl (lo hi : Nat) (w : World) : Only lo hi w w := ⟨Below.refl _ _, fun _ _ _ => rfl⟩
theorem Only.trans {lo hi : Nat} {a b c : World} (h : Only lo hi a b) (k : Only lo hi b c) : Only lo hi a c :=
  ⟨h.below.trans k.below, fun i h1 h2 => (k.above i h1 (by have := h.below.size; omega)).trans (h.above i h1 h2)⟩
theorem Only.of_grown {lo hi : Nat} {w w' : World} {row : Option Nat} (h : w.grownBy w' row) (hl : lo ≤ w.heap.size) (hr : ∀ k, row = some k → lo ≤ k ∧ k < hi) : Only lo hi w w' :=
  ⟨(Below.refl lo w).grown h hl fun k hk => (hr k hk).1, fun k h1 h2 => h.block k h2 fun e => by have := (hr k e.symm).2; omega⟩
theorem Only.mono {lo hi lo' hi' : Nat} {w w' : World} (h : Only lo hi w w') (hl : lo' ≤ lo) (hh : hi ≤ hi') : Only lo' hi' w w' := ⟨h.below.mono hl, fun k h1 h2 => h.above k (by omega) h2⟩
theorem Only.cell {lo hi : Nat} {w w' : World} (h : Only lo hi w w') {a : Addr} {v : Value} (hc : w.cell? a = some v) (hk : a.block < lo ∨ hi ≤ a.block) : w'.cell? a = some v := by
  rcases hk with hk | hk
  · exact (h.below.cell hk).trans hc
  · exact (World.cell?_of_block (h.above _ hk (World.block_lt_of_cell? w a hc))).trans hc
theorem Only.frozen {lo hi : Nat} {w w' : World} (h : Only lo hi w w') {a : Addr} {v : Value} {b : Bool} (hc : w.cell? a = some v) (hf : w.frozen? a = b) (hk : a.block < lo ∨ hi ≤ a.block) : w'.frozen? a = b := by
  rcases hk with hk | hk
  · exact (h.below.frozen hk).trans hf
  · exact (World.frozen?_of_block (h.above _ hk (World.block_lt_of_cell? w a hc))).trans hf
theorem OI.only {lo hi lo' : Nat} {w w' : World} {v : Value} {xs : List Int} (h : OI w lo' v xs) (ho : Only lo hi w w') (hk : hi ≤ lo') : OI w' lo' v xs := by
  refine ⟨h.1, ?_⟩
  rcases h.2 with h2 | ⟨g, cap, cur, hv, hg, hh, r⟩
  · exact .inl h2
  · exact .inr ⟨g, cap, cur, hv, hg, (ho.above g (by omega) (Array.getElem?_eq_some_iff.1 hh).1).trans hh, r⟩
theorem OI.lt {w : World} {lo : Nat} {v : Value} {xs : List Int} (h : OI w lo v xs) : ∀ k, v.ownBlock = some k → lo ≤ k ∧ k < w.heap.size := World.ownsRow.lt h
theorem OI.kept {w w' : World} {row : Option Nat} {lo : Nat} {v : Value} {xs : List Int} (h : OI w lo v xs) (hg : w.grownBy w' row) (hne : v.ownBlock = none ∨ v.ownBlock ≠ row) : OI w' lo v xs := World.ownsRow.kept h hg hne
theorem apart.symm {v u : Value} (h : apart v u) : u.ownBlock = none ∨ u.ownBlock ≠ v.ownBlock := by
  rcases h with h | h
  · rw [h]
    cases u.ownBlock with
    | none => exact .inl rfl
    | some k => exact .inr (by simp)
  · exact .inr fun e => h e.symm
theorem OIs.below {w w' : World} {lo : Nat} {l : List (Value × List Int)} (h : OIs w lo l) (hb : Below w.heap.size w w') : OIs w' lo l := ⟨fun r hr => (h.1 r hr).below hb, h.2⟩
theorem OIs.only {lo hi lo' : Nat} {w w' : World} {l : List (Value × List Int)} (h : OIs w lo' l) (ho : Only lo hi w w') (hk : hi ≤ lo') : OIs w' lo' l := ⟨fun r hr => (h.1 r hr).only ho hk, h.2⟩
theorem OIs.set_ {w : World} {lo : Nat} {l : List (Value × List Int)} (h : OIs w lo l) (p : Addr) (u : Value) (hp : p.block < lo) : OIs (w.setCell p u) lo l := ⟨fun r hr => (h.1 r hr).set_ p u hp, h.2⟩
theorem OIs.lo {w : World} {lo lo' : Nat} {l : List (Value × List Int)} (h : OIs w lo l) (hl : lo' ≤ lo) : OIs w lo' l := ⟨fun r hr => (h.1 r hr).lo hl, h.2⟩
theorem OIs.get0 {w : World} {lo : Nat} {v : Value} {xs : List Int} {l : List (Value × List Int)} (h : OIs w lo ((v, xs) :: l)) : OI w lo v xs := h.1 (v, xs) (List.mem_cons_self ..)
theorem OIs.tail {w : World} {lo : Nat} {r : Value × List Int} {l : List (Value × List Int)} (h : OIs w lo (r :: l)) : OIs w lo l := ⟨fun s hs => h.1 s (List.mem_cons_of_mem _ hs), (List.pairwise_cons.1 h.2).2⟩
theorem OIs.get1 {w : World} {lo : Nat} {r : Value × List Int} {v : Value} {xs : List Int} {l : List (Value × List Int)} (h : OIs w lo (r :: (v, xs) :: l)) : OI w lo v xs := h.tail.get0
theorem OIs.cons {w : World} {lo : Nat} {v : Value} {xs : List Int} {l : List (Value × List Int)} (h : OI w lo v xs) (hl : OIs w lo l) (ha : ∀ s ∈ l, apart v s.1) : OIs w lo ((v, xs) :: l) :=
  ⟨fun r hr => (List.mem_cons.1 hr).elim (fun e => by subst e; exact h) (fun h2 => hl.1 r h2), List.pairwise_cons.2 ⟨ha, hl.2⟩⟩
/-- a slice that reads below a bound, after what a mark has changed -/
theorem RI.only {lo hi : Nat} {w w' : World} {A : Option Addr} {xs : List Int} (h : RI w lo A xs) (ho : Only lo hi w w') : RI w' lo A xs := RI.below h ho.below
theorem RI.more {w : World} {B B' : Nat} {A : Option Addr} {xs : List Int} (h : RI w B A xs) (hB : B ≤ B') : RI w B' A xs := Reads.more h hB
end Go.Proofs.Ytgnnmifpfgpllaa

/- Small lemmas: the rows of memory that a call owns, all in one list. -/
namespace Go.Proofs.Ytgnnmifpfgpllaa
open Go.RowKit
/-- a row of memory: the slice value, its element's type and size, how many, the cells -/
structure Rw where
  v : Value
  e : TypeId
  sz : Nat
  n : Nat
  cs : List Value
def Rw.own (W : World) (lo : Nat) (r : Rw) : Prop := W.ownsRow lo r.e r.sz r.v r.n r.cs
/-- rows of a call's own, no two in one block -/
def Mem (W : World) (lo : Nat) (l : List Rw) : Prop := (∀ r ∈ l, r.own W lo) ∧ l.Pairwise fun r s => apart r.v s.v
/-- a row of ints -/
def ir (v : Value) (xs : List Int) : Rw := ⟨v, 3, 1, xs.length, xs.map (Value.int .i64)⟩
theorem own_below {w w' : World} {lo : Nat} {e : TypeId} {sz n : Nat} {v : Value} {cs : List Value} (h : w.ownsRow lo e sz v n cs) (hb : Below w.heap.size w w') : w'.ownsRow lo e sz v n cs := by
  refine ⟨h.1, ?_⟩
  rcases h.2 with h2 | ⟨g, cap, cur, hv, hg, hh, r⟩
  · exact .inl h2
  · exact .inr ⟨g, cap, cur, hv, hg, (hb.block g (Array.getElem?_eq_some_iff.1 hh).1).trans hh, r⟩
theorem own_lo {w : World} {lo lo' : Nat} {e : TypeId} {sz n : Nat} {v : Value} {cs : List Value} (h : w.ownsRow lo e sz v n cs) (hl : lo' ≤ lo) : w.ownsRow lo' e sz v n cs := by
  refine ⟨h.1, ?_⟩
  rcases h.2 with h2 | ⟨g, cap, cur, hv, hg, r⟩
  · exact .inl h2
  · exact .inr ⟨g, cap, cur, hv, by omega, r⟩
theorem apart.comm {v u : Value} (h : apart v u) : apart u v := h.symm
theorem Mem.nil (W : World) (lo : Nat) : Mem W lo [] := ⟨fun _ h => by simp at h, .nil⟩
theorem Mem.below {w w' : World} {lo : Nat} {l : List Rw} (h : Mem w lo l) (hb : Below w.heap.size w w') : Mem w' lo l := ⟨fun r hr => own_below (h.1 r hr) hb, h.2⟩
theorem Mem.lo {w : World} {lo lo' : Nat} {l : List Rw} (h : Mem w lo l) (hl : lo' ≤ lo) : Mem w lo' l := ⟨fun r hr => own_lo (h.1 r hr) hl, h.2⟩
theorem Mem.set_ {w : World} {lo : Nat} {l : List Rw} (h : Mem w lo l) (p : Addr) (u : Value) (hp : p.block < lo) : Mem (w.setCell p u) lo l := ⟨fun r hr => ownsRow_setCell_below (h.1 r hr) hp u, h.2⟩
theorem Mem.get {w : World} {lo : Nat} {l : List Rw} (h : Mem w lo l) {r : Rw} (hr : r ∈ l) : r.own w lo := h.1 r hr
theorem Mem.sub {w : World} {lo : Nat} {l l' : List Rw} (h : Mem w lo l) (hs : l'.Sublist l) : Mem w lo l' :=
  ⟨fun r hr => h.1 r (hs.subset hr), h.2.sublist hs⟩
theorem Mem.left {w : World} {lo : Nat} {l l' : List Rw} (h : Mem w lo (l ++ l')) : Mem w lo l := h.sub (List.sublist_append_left _ _)
theorem Mem.right {w : World} {lo : Nat} {l l' : List Rw} (h : Mem w lo (l ++ l')) : Mem w lo l' := h.sub (List.sublist_append_right _ _)
theorem Rw.lt {w : World} {lo : Nat} {r : Rw} (h : r.own w lo) : ∀ k, r.v.ownBlock = some k → lo ≤ k ∧ k < w.heap.size := World.ownsRow.lt h
theorem Mem.one {w : World} {lo : Nat} {r : Rw} (h : r.own w lo) : Mem w lo [r] := ⟨fun s hs => by simp at hs; subst hs; exact h, by simp⟩
/-- one row is written, or has moved to a new block -/
theorem Mem.upd {w w' : World} {lo : Nat} {l1 l2 : List Rw} {r r' : Rw} (h : Mem w lo (l1 ++ r :: l2)) (hg : w.grownBy w' r.v.ownBlock) (hr : r'.own w' lo)
    (hv : r'.v.ownBlock = r.v.ownBlock ∨ r'.v.ownBlock = some w.heap.size) : Mem w' lo (l1 ++ r' :: l2) := by
  obtain ⟨h1, h2⟩ := h
  rw [List.pairwise_append] at h2
  obtain ⟨p1, p2, p3⟩ := h2
  rw [List.pairwise_cons] at p2
  have kept : ∀ s : Rw, s.own w lo → apart s.v r.v → s.own w' lo := fun s hs ha => World.ownsRow.kept hs hg ha
  have new : ∀ s : Rw, s.own w lo → apart s.v r.v → apart s.v r'.v := fun s hs ha => by
    rcases hv with hv | hv
    · unfold apart at ha ⊢; rw [hv]; exact ha
    · unfold apart
      cases hk : s.v.ownBlock with
      | none => exact .inl rfl
      | some k =>
        refine .inr fun e => ?_
        have := (hs.lt k hk).2
        rw [hv] at e; injection e with e; omega
  refine ⟨fun s hs => ?_, List.pairwise_append.2 ⟨p1, List.pairwise_cons.2 ⟨fun s hs => ?_, p2.2⟩, fun s hs t ht => ?_⟩⟩
  · rcases List.mem_append.1 hs with hs | hs
    · exact kept s (h1 s (by simp [hs])) (p3 s hs r (by simp))
    · rcases List.mem_cons.1 hs with rfl | hs
      · exact hr
      · exact kept s (h1 s (by simp [hs])) (p2.1 s hs).comm
  · exact (new s (h1 s (by simp [hs])) (p2.1 s hs).comm).comm
  · rcases List.mem_cons.1 ht with rfl | ht
    · exact new s (h1 s (by simp [hs])) (p3 s hs r (by simp))
    · exact p3 s hs t (by simp [ht])
theorem Mem.oi {w : World} {lo : Nat} {l : List Rw} {v : Value} {xs : List Int} (h : Mem w lo l) (hr : ir v xs ∈ l) : OI w lo v xs := h.1 _ hr
theorem Mem.ri {w : World} {lo : Nat} {l : List Rw} {A : Option Addr} {c : Nat} {xs : List Int} (h : Mem w lo l) (hr : ir (.slice A xs.length c) xs ∈ l) : RI w w.heap.size A xs := (h.oi hr).ri
/-! atoms: what one cell of a row of structs holds -/
inductive At where
  | i (n : Int)
  | b (x : Bool)
  | s (A : Option Addr) (c : Nat) (xs : List Int)
/-- the same without the addresses -/
inductive Da where
  | i (n : Int)
  | b (x : Bool)
  | s (xs : List Int)
  deriving DecidableEq
def At.val : At → Value
  | .i n => .int .i64 n
  | .b x => .bool x
  | .s A c xs => .slice A xs.length c
def At.rows : At → List Rw
  | .s A c xs => [ir (.slice A xs.length c) xs]
  | _ => []
def At.ok (W : World) (B : Nat) : At → Prop
  | .s A c xs => RI W B A xs ∧ xs.length ≤ c ∧ xs.length ≤ 1048576
  | _ => True
theorem At.ok.next {w w' : World} {a : At} (h : a.ok w w.heap.size) (hb : Below w.heap.size w w') : a.ok w' w'.heap.size := by
  cases a with
  | s A c xs => exact ⟨h.1.next hb, h.2⟩
  | _ => trivial
/-- a slice of structs that reads as rows of atoms -/
def RA (W : World) (B sz : Nat) (A : Option Addr) (l : List (List At)) : Prop := Reads W B sz A l.length (l.flatten.map At.val) ∧ (∀ r ∈ l, r.length = sz) ∧ ∀ r ∈ l, ∀ a ∈ r, a.ok W B
theorem RA.next {w w' : World} {sz : Nat} {A : Option Addr} {l : List (List At)} (h : RA w w.heap.size sz A l) (hb : Below w.heap.size w w') : RA w' w'.heap.size sz A l :=
  ⟨(Reads.below h.1 hb).more hb.size, h.2.1, fun r hr a ha => (h.2.2 r hr a ha).next hb⟩
theorem flatten_get {α : Type} {sz : Nat} : ∀ (l : List (List α)) (_ : ∀ r ∈ l, r.length = sz) (k j : Nat) (hk : k < l.length) (hj : j < sz), l.flatten[k * sz + j]? = (l[k])[j]?
  | r :: l, h, 0, j, _, hj => by
    have hr := h r (by simp)
    simp only [List.flatten_cons, Nat.zero_mul, Nat.zero_add, List.getElem_cons_zero]
    rw [List.getElem?_append_left (by omega)]
  | r :: l, h, k + 1, j, hk, hj => by
    have hr := h r (by simp)
    simp only [List.flatten_cons, List.getElem_cons_succ]
    rw [List.getElem?_append_right (by rw [hr, Nat.succ_mul]; omega), hr]
    rw [show (k + 1) * sz + j - sz = k * sz + j by rw [Nat.succ_mul]; omega]
    exact flatten_get l (fun r hr => h r (by simp [hr])) k j (by simpa using hk) hj
theorem RA.at_ {W : World} {B sz : Nat} {A : Option Addr} {l : List (List At)} {k : Nat} (h : RA W B sz A l) (hk : k < l.length) :
    ∃ ad, A = some ad ∧ ad.block < B ∧ ∀ (j : Nat) (a : At), (l[k])[j]? = some a → W.cell? (ad.add (k * sz + j)) = some a.val := by
  obtain ⟨ad, e, hb, hc⟩ := h.1.2 (by omega)
  refine ⟨ad, e, hb, fun j a ha => hc _ _ ?_⟩
  have hlen := h.2.1 l[k] (List.getElem_mem hk)
  have hj : j < sz := by
    have := (List.getElem?_eq_some_iff.1 ha).1
    omega
  rw [List.getElem?_map, flatten_get l h.2.1 k j hk hj, ha]; rfl
theorem RA.ok {W : World} {B sz : Nat} {A : Option Addr} {l : List (List At)} {k : Nat} (h : RA W B sz A l) (hk : k < l.length) {a : At} (ha : a ∈ l[k]) : a.ok W B := h.2.2 _ (List.getElem_mem hk) a ha
end Go.Proofs.Ytgnnmifpfgpllaa

/- Small lemmas: append onto an own slice of ints; the low bits of a number. -/
namespace Go.Proofs.Ytgnnmifpfgpllaa
open Go.RowKit
theorem OI.lit {w : World} {n : Nat} (hn : n = w.heap.size) (xs : List Int) (hm : xs.length ≤ 1000000000) : OI (w.alloc (.cells (xs.map (Value.int .i64)).toArray 3)) w.heap.size (.slice (some ⟨n, 0, none⟩) xs.length xs.length) xs := by
  have := own_lit hn (xs.map (Value.int .i64)) 3 (by unfold maxLen; simp; omega)
  simpa [OI] using this
end Go.Proofs.Ytgnnmifpfgpllaa
