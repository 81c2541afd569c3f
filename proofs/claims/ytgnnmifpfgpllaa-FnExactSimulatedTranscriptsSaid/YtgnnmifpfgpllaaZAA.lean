import Derived.Test.YtgnnmifpfgpllaaZKit
/- Abstract walks: parts 1, 2, 3, 4. -/
/- Abstract values: what slots and own memory hold, without addresses. -/
set_option linter.all false
set_option linter.unusedVariables false
set_option linter.unusedSimpArgs false
namespace Go.Proofs.Ytgnnmifpfgpllaa
open Go.RowKit
/-- types of data -/
inductive Ty where
  | int
  | bool
  | str
  | pair (a b : Ty)
  | list (t : Ty)
  deriving DecidableEq
@[reducible] def Ty.den : Ty → Type
  | .int => Int
  | .bool => Bool
  | .str => ByteArray
  | .pair a b => a.den × b.den
  | .list t => List t.den
def Ty.dflt : (t : Ty) → t.den
  | .int => (0 : Int)
  | .bool => false
  | .str => ByteArray.empty
  | .pair a b => (a.dflt, b.dflt)
  | .list _ => []
@[simp] def Ty.sz : Ty → Nat
  | .pair a b => a.sz + b.sz
  | _ => 1
/-- abstract values -/
inductive AV where
  | any
  | cel
  | lit (v : Value)
  | box (o off : Nat)
  | elt (o n sz k off : Nat)
  | own (o n : Nat)
  | sl (t : Ty) (xs : List t.den)
  | rp (cs : List AV)
  | agg (cs : List AV)
  | tup (vs : List AV)
  | fn (f : Fn) (cap : List AV)
def Ty.cells : (t : Ty) → t.den → List AV
  | .int, x => [.lit (.int .i64 x)]
  | .bool, x => [.lit (.bool x)]
  | .str, x => [.lit (.string x)]
  | .pair a b, x => a.cells x.1 ++ b.cells x.2
  | .list t, xs => [.sl t xs]
/-- cells that read as a datum, in blocks that nobody writes -/
def Ty.rep (W : World) (I : Nat → Prop) : (t : Ty) → t.den → List Value → Prop
  | .int, x, us => us = [.int .i64 x]
  | .bool, x, us => us = [.bool x]
  | .str, x, us => us = [.string x]
  | .pair a b, x, us => ∃ u1 u2, us = u1 ++ u2 ∧ a.rep W I x.1 u1 ∧ b.rep W I x.2 u2
  | .list t, xs, us => ∃ A c, us = [.slice A xs.length c] ∧ xs.length ≤ c ∧ xs.length ≤ 9223372036854775807 ∧ (0 < xs.length → ∃ ad, A = some ad ∧ I ad.block ∧ ∀ (k : Nat) (x : t.den), xs[k]? = some x → ∃ vs, t.rep W I x vs ∧ ∀ j u, vs[j]? = some u → W.cell? (ad.add (k * t.sz + j)) = some u)
/-- where abstract values are read -/
structure Cx where
  W : World
  I : Nat → Prop
  ρ : Nat → Value
  len : Nat → Option Nat
inductive Rep (C : Cx) : AV → Value → Prop where
  | any (v : Value) : Rep C .any v
  | cel {v : Value} (h : v.oneCell' = true) : Rep C .cel v
  | lit (v : Value) : Rep C (.lit v) v
  | box {o off m b : Nat} (h : C.len o = some m) (hn : 1 ≤ m) (h2 : m = 1 → ∃ c, C.ρ o = .slice (some ⟨b, 0, none⟩) 1 c) : Rep C (.box o off) (.pointer (some ⟨b, off, none⟩))
  | elt {o n sz k off m b : Nat} (h : C.len o = some m) (hn : n ≤ m) (h2 : n = m → ∃ c, C.ρ o = .slice (some ⟨b, 0, none⟩) n c) : Rep C (.elt o n sz k off) (.pointer (some ⟨b, k * sz + off, none⟩))
  | own {o n m : Nat} {u : Value} (h : C.len o = some m) (hn : n ≤ m) (hs : ∃ A c, u = .slice A n c ∧ n ≤ c ∧ (0 < n → ∃ g, A = some ⟨g, 0, none⟩)) (h2 : n = m → u = C.ρ o) : Rep C (.own o n) u
  | sl {t : Ty} {xs : List t.den} {u : Value} (h : (Ty.list t).rep C.W C.I xs [u]) : Rep C (.sl t xs) u
  | rp {cs : List AV} {ad : Addr} (us : Nat → Value) (hI : cs ≠ [] → C.I ad.block) (hc : ∀ j, j < cs.length → C.W.cell? (ad.add j) = some (us j)) (hr : ∀ (j : Nat) (c : AV), cs[j]? = some c → Rep C c (us j)) : Rep C (.rp cs) (.pointer (some ad))
  | agg {cs : List AV} {vs : List Value} (hl : vs.length = cs.length) (hr : ∀ (j : Nat) (c : AV) (u : Value), cs[j]? = some c → vs[j]? = some u → Rep C c u) : Rep C (.agg cs) (.agg vs.toArray)
  | tup {cs : List AV} {vs : List Value} (hl : vs.length = cs.length) (hr : ∀ (j : Nat) (c : AV) (u : Value), cs[j]? = some c → vs[j]? = some u → Rep C c u) : Rep C (.tup cs) (.tuple vs.toArray)
  | fn {f : Fn} {cs : List AV} {vs : List Value} (hl : vs.length = cs.length) (hr : ∀ (j : Nat) (c : AV) (u : Value), cs[j]? = some c → vs[j]? = some u → Rep C c u) : Rep C (.fn f cs) (.func f #[] vs.toArray)
def Reps (C : Cx) (cs : List AV) (us : List Value) : Prop := us.length = cs.length ∧ ∀ (j : Nat) (c : AV) (u : Value), cs[j]? = some c → us[j]? = some u → Rep C c u
section
variable {C : Cx}
theorem Reps.nil : Reps C [] [] := ⟨rfl, fun j c u h => by simp at h⟩
theorem Reps.cons {c : AV} {u : Value} {cs : List AV} {us : List Value} (h : Rep C c u) (hs : Reps C cs us) : Reps C (c :: cs) (u :: us) := by
  refine ⟨by simp [hs.1], fun j c' u' h1 h2 => ?_⟩
  cases j with
  | zero => simp at h1 h2; subst h1 h2; exact h
  | succ j => exact hs.2 j c' u' (by simpa using h1) (by simpa using h2)
theorem Reps.out {c : AV} {u : Value} {cs : List AV} {us : List Value} (h : Reps C (c :: cs) (u :: us)) : Rep C c u ∧ Reps C cs us :=
  ⟨h.2 0 c u rfl rfl, by have := h.1; simp at this; exact this, fun j c' u' h1 h2 => h.2 (j + 1) c' u' (by simpa using h1) (by simpa using h2)⟩
theorem Reps.nil_of {us : List Value} (h : Reps C [] us) : us = [] := List.eq_nil_of_length_eq_zero h.1
theorem Reps.cons_of {c : AV} {cs : List AV} {us : List Value} (h : Reps C (c :: cs) us) : ∃ u us', us = u :: us' ∧ Rep C c u ∧ Reps C cs us' := by
  cases us with
  | nil => have := h.1; simp at this
  | cons u us => exact ⟨u, us, rfl, h.out.1, h.out.2⟩
theorem Reps.append {cs cs' : List AV} {us us' : List Value} (h : Reps C cs us) (h' : Reps C cs' us') : Reps C (cs ++ cs') (us ++ us') := by
  refine ⟨by simp [h.1, h'.1], fun j c u h1 h2 => ?_⟩
  rcases Nat.lt_or_ge j cs.length with hj | hj
  · rw [List.getElem?_append_left hj] at h1
    rw [List.getElem?_append_left (by rw [h.1]; exact hj)] at h2
    exact h.2 j c u h1 h2
  · rw [List.getElem?_append_right hj] at h1
    rw [List.getElem?_append_right (by rw [h.1]; exact hj), h.1] at h2
    exact h'.2 _ c u h1 h2
theorem Reps.take {cs : List AV} {us : List Value} (h : Reps C cs us) (n : Nat) : Reps C (cs.take n) (us.take n) := by
  refine ⟨by simp [h.1], fun j c u h1 h2 => ?_⟩
  rw [List.getElem?_take] at h1 h2
  split at h1
  · rename_i hj; rw [if_pos hj] at h2; exact h.2 j c u h1 h2
  · cases h1
theorem Reps.drop {cs : List AV} {us : List Value} (h : Reps C cs us) (n : Nat) : Reps C (cs.drop n) (us.drop n) := by
  refine ⟨by simp [h.1], fun j c u h1 h2 => ?_⟩
  rw [List.getElem?_drop] at h1 h2
  exact h.2 _ c u h1 h2
theorem Reps.mono {C' : Cx} {cs : List AV} {us : List Value} (h : Reps C cs us) (hm : ∀ c u, c ∈ cs → Rep C c u → Rep C' c u) : Reps C' cs us :=
  ⟨h.1, fun j c u h1 h2 => hm c u (List.mem_of_getElem? h1) (h.2 j c u h1 h2)⟩
theorem Reps.lits (us : List Value) : Reps C (us.map .lit) us := by
  refine ⟨by simp, fun j c u h1 h2 => ?_⟩
  rw [List.getElem?_map, h2] at h1
  simp at h1; subst h1; exact .lit _
theorem Rep.lit_eq {v u : Value} (h : Rep C (.lit v) u) : u = v := by cases h; rfl
theorem Rep.agg_of {cs : List AV} {u : Value} (h : Rep C (.agg cs) u) : ∃ us, u = .agg us.toArray ∧ Reps C cs us := by cases h with | agg hl hr => exact ⟨_, rfl, hl, hr⟩
theorem Rep.tup_of {cs : List AV} {u : Value} (h : Rep C (.tup cs) u) : ∃ us, u = .tuple us.toArray ∧ Reps C cs us := by cases h with | tup hl hr => exact ⟨_, rfl, hl, hr⟩
theorem Rep.fn_of {f : Fn} {cs : List AV} {u : Value} (h : Rep C (.fn f cs) u) : ∃ us, u = .func f #[] us.toArray ∧ Reps C cs us := by cases h with | fn hl hr => exact ⟨_, rfl, hl, hr⟩
theorem Rep.sl_of {t : Ty} {xs : List t.den} {u : Value} (h : Rep C (.sl t xs) u) : (Ty.list t).rep C.W C.I xs [u] := by cases h with | sl h => exact h
end
theorem Ty.rep_mono {W W' : World} {I I' : Nat → Prop} (hI : ∀ b, I b → I' b) (hW : ∀ p : Addr, I p.block → W'.cell? p = W.cell? p) : ∀ (t : Ty) (x : t.den) (us : List Value), t.rep W I x us → t.rep W' I' x us
  | .int, _, _, h => h
  | .bool, _, _, h => h
  | .str, _, _, h => h
  | .pair a b, x, us, ⟨u1, u2, e, h1, h2⟩ => ⟨u1, u2, e, Ty.rep_mono hI hW a x.1 u1 h1, Ty.rep_mono hI hW b x.2 u2 h2⟩
  | .list t, xs, us, ⟨A, c, e, h1, h2, h3⟩ => ⟨A, c, e, h1, h2, fun h => by
      obtain ⟨ad, e1, e2, e3⟩ := h3 h
      refine ⟨ad, e1, hI _ e2, fun k x hx => ?_⟩
      obtain ⟨vs, g1, g2⟩ := e3 k x hx
      refine ⟨vs, Ty.rep_mono hI hW t x vs g1, fun j u hu => ?_⟩
      rw [hW _ (by rw [block_of_add]; exact e2)]
      exact g2 j u hu⟩
theorem Ty.rep_len {W : World} {I : Nat → Prop} : ∀ (t : Ty) (x : t.den) (us : List Value), t.rep W I x us → us.length = t.sz
  | .int, _, _, h => by rw [show _ = _ from h]; rfl
  | .bool, _, _, h => by rw [show _ = _ from h]; rfl
  | .str, _, _, h => by rw [show _ = _ from h]; rfl
  | .pair a b, x, us, ⟨u1, u2, e, h1, h2⟩ => by rw [e, List.length_append, Ty.rep_len a x.1 u1 h1, Ty.rep_len b x.2 u2 h2]; rfl
  | .list t, xs, us, ⟨A, c, e, _⟩ => by rw [e]; rfl
theorem Ty.cells_rep {C : Cx} : ∀ (t : Ty) (x : t.den) (us : List Value), t.rep C.W C.I x us → Reps C (t.cells x) us
  | .int, x, us, h => by rw [show us = _ from h]; exact .cons (.lit _) .nil
  | .bool, x, us, h => by rw [show us = _ from h]; exact .cons (.lit _) .nil
  | .str, x, us, h => by rw [show us = _ from h]; exact .cons (.lit _) .nil
  | .pair a b, x, us, ⟨u1, u2, e, h1, h2⟩ => by rw [e]; exact (Ty.cells_rep a x.1 u1 h1).append (Ty.cells_rep b x.2 u2 h2)
  | .list t, xs, us, h => by
      obtain ⟨A, c, e, _⟩ := id h
      subst e
      exact .cons (.sl h) .nil
/-- C' knows all that C knows -/
structure Cx.Le (C C' : Cx) : Prop where
  I : ∀ b, C.I b → C'.I b
  cell : ∀ p : Addr, C.I p.block → C'.W.cell? p = C.W.cell? p
  len : ∀ o n, C.len o = some n → C'.len o = some n
  ρ : ∀ o n, C.len o = some n → C'.ρ o = C.ρ o
theorem Rep.le {C C' : Cx} (h : C.Le C') {c : AV} {u : Value} (hr : Rep C c u) : Rep C' c u := by
  induction hr with
  | any v => exact .any v
  | cel h => exact .cel h
  | lit v => exact .lit v
  | box h1 hn h2 => exact .box (h.len _ _ h1) hn (by rw [h.ρ _ _ h1]; exact h2)
  | elt h1 hn h2 => exact .elt (h.len _ _ h1) hn (by rw [h.ρ _ _ h1]; exact h2)
  | own h1 hn hs h2 => exact .own (h.len _ _ h1) hn hs (by rw [h.ρ _ _ h1]; exact h2)
  | sl h1 => exact .sl (Ty.rep_mono h.I h.cell _ _ _ h1)
  | @rp cs ad us hI hc _ ih => exact .rp us (fun hne => h.I _ (hI hne)) (fun j hj => by rw [h.cell _ (by rw [block_of_add]; exact hI (fun e => by subst e; simp at hj))]; exact hc j hj) ih
  | agg hl _ ih => exact .agg hl ih
  | tup hl _ ih => exact .tup hl ih
  | fn hl _ ih => exact .fn hl ih
theorem Reps.le {C C' : Cx} (h : C.Le C') {cs : List AV} {us : List Value} (hr : Reps C cs us) : Reps C' cs us := ⟨hr.1, fun j c u h1 h2 => (hr.2 j c u h1 h2).le h⟩
/-- a tree of the call's own memory: cells, and the blocks that it holds -/
def Ty.own (W : World) (lo : Nat) : (t : Ty) → t.den → List Value → List Nat → Prop
  | .int, x, us, bs => us = [.int .i64 x] ∧ bs = []
  | .bool, x, us, bs => us = [.bool x] ∧ bs = []
  | .str, x, us, bs => us = [.string x] ∧ bs = []
  | .pair a b, x, us, bs => ∃ u1 u2 b1 b2, us = u1 ++ u2 ∧ bs = b1 ++ b2 ∧ a.own W lo x.1 u1 b1 ∧ b.own W lo x.2 u2 b2
  | .list t, xs, us, bs => ∃ v e, us = [v] ∧ ∃ (cells : List (List Value)) (bss : List (List Nat)), cells.length = xs.length ∧ bss.length = xs.length ∧ (∀ (k : Nat) (x : t.den) u b, xs[k]? = some x → cells[k]? = some u → bss[k]? = some b → t.own W lo x u b) ∧ W.ownsRow lo e t.sz v xs.length cells.flatten ∧ bs = v.ownBlock.toList ++ bss.flatten
/-- a row of own memory, its element's type known -/
def ownL (W : World) (lo : Nat) (e : TypeId) (t : Ty) (xs : List t.den) (v : Value) (bs : List Nat) : Prop :=
  ∃ (cells : List (List Value)) (bss : List (List Nat)), cells.length = xs.length ∧ bss.length = xs.length ∧ (∀ (k : Nat) (x : t.den) u b, xs[k]? = some x → cells[k]? = some u → bss[k]? = some b → t.own W lo x u b) ∧ W.ownsRow lo e t.sz v xs.length cells.flatten ∧ bs = v.ownBlock.toList ++ bss.flatten
/-- the call's own objects -/
inductive AO where
  | dead
  | box (e : TypeId) (cs : List AV)
  | row (e : TypeId) (t : Ty) (xs : List t.den)
  | mix (e : TypeId) (sz : Nat) (rows : List (List AV))
  | lst (e : TypeId) (t : Ty) (xs : List t.den)
  | hol (e : TypeId) (t : Ty) (pre : List t.den) (row : List AV) (suf : List t.den)
  | frz (t : Ty) (xs : List t.den)
  | gone (n : Nat)
  | pin (W0 : World) (bs : List Nat) (avs : List AV) (us : List Value)
def AO.len : AO → Option Nat
  | .dead => none
  | .box _ _ => some 1
  | .row _ _ xs => some xs.length
  | .mix _ _ rows => some rows.length
  | .lst _ _ xs => some xs.length
  | .hol _ _ pre _ suf => some (pre.length + 1 + suf.length)
  | .frz _ xs => some xs.length
  | .gone n => some n
  | .pin _ _ _ _ => some 0
/-- parts of a row: cells and blocks -/
def partsL (W : World) (lo : Nat) (t : Ty) (xs : List t.den) (cells : List (List Value)) (bss : List (List Nat)) : Prop :=
  cells.length = xs.length ∧ bss.length = xs.length ∧ ∀ (k : Nat) (x : t.den) u b, xs[k]? = some x → cells[k]? = some u → bss[k]? = some b → t.own W lo x u b
def AO.held : AO → Bool
  | .dead => false
  | .frz _ _ => false
  | .gone _ => false
  | .pin _ _ _ _ => false
  | _ => true
def AO.own (C : Cx) (lo : Nat) (v : Value) (bs : List Nat) : AO → Prop
  | .dead => True
  | .box e cs => ∃ b us, v = .slice (some ⟨b, 0, none⟩) 1 1 ∧ C.W.ownsRow lo e cs.length v 1 us ∧ Reps C cs us ∧ bs = [b]
  | .row e t xs => ownL C.W lo e t xs v bs
  | .mix e sz rows => ∃ us, C.W.ownsRow lo e sz v rows.length us ∧ Reps C rows.flatten us ∧ (∀ r ∈ rows, r.length = sz) ∧ bs = v.ownBlock.toList
  | .lst e t xs => ∃ us, C.W.ownsRow lo e t.sz v xs.length us ∧ Reps C (xs.map t.cells).flatten us ∧ bs = v.ownBlock.toList
  | .hol e t pre cs suf => ∃ c1 b1 us c2 b2, partsL C.W lo t pre c1 b1 ∧ partsL C.W lo t suf c2 b2 ∧ cs.length = t.sz ∧ Reps C cs us ∧ C.W.ownsRow lo e t.sz v (pre.length + 1 + suf.length) (c1.flatten ++ us ++ c2.flatten) ∧ bs = v.ownBlock.toList ++ b1.flatten ++ b2.flatten
  | .frz t xs => bs = [] ∧ Rep C (.sl t xs) v
  | .gone _ => bs = []
  | .pin W0 bs' avs us => bs = bs' ∧ (∀ b ∈ bs', C.W.heap[b]? = W0.heap[b]?) ∧ Reps C avs us
structure AS where
  sl : List (Nat × AV)
  hp : List (Nat × AO)
  nx : Nat
  fr : Nat → AO
def look {α : Type} : List (Nat × α) → Nat → Option α
  | [], _ => none
  | (k, v) :: l, n => if k = n then some v else look l n
def AS.get (σ : AS) (t : Nat) : Option AV := look σ.sl t
def AS.obj (σ : AS) (o : Nat) : AO := (look σ.hp o).getD (σ.fr o)
/-- an abstract state stands for a frame and a world -/
structure RelW (w0 : World) (get : Nat → Option AV) (obj : Nat → AO) (a : Act) (W : World) (ρ : Nat → Value) (β : Nat → List Nat) : Prop where
  below : Below w0.heap.size w0 W
  objs : ∀ o, (obj o).own ⟨W, fun b => b < W.heap.size ∧ ∀ o, (obj o).len ≠ none → b ∉ β o, ρ, fun o => (obj o).len⟩ w0.heap.size (ρ o) (β o)
  lt : ∀ o b, (obj o).len ≠ none → b ∈ β o → w0.heap.size ≤ b ∧ b < W.heap.size
  apart : ∀ o o' b, (obj o).len ≠ none → (obj o').len ≠ none → b ∈ β o → b ∈ β o' → o = o'
  nodup : ∀ o, (obj o).len ≠ none → (β o).Nodup
  slots : ∀ t x, get t = some x → ∃ v, a.tmps[t]? = some v ∧ Rep ⟨W, fun b => b < W.heap.size ∧ ∀ o, (obj o).len ≠ none → b ∉ β o, ρ, fun o => (obj o).len⟩ x v
  defers : a.defers = []
@[reducible] def cxOf (obj : Nat → AO) (W : World) (ρ : Nat → Value) (β : Nat → List Nat) : Cx := ⟨W, fun b => b < W.heap.size ∧ ∀ o, (obj o).len ≠ none → b ∉ β o, ρ, fun o => (obj o).len⟩
end Go.Proofs.Ytgnnmifpfgpllaa
/- Steps of abstract states: a slot, new objects, an object that is written. -/
namespace Go.Proofs.Ytgnnmifpfgpllaa
open Go.RowKit
theorem Ty.own_mono {W W' : World} {lo lo' : Nat} (hl : lo' ≤ lo) : ∀ (t : Ty) (x : t.den) (us : List Value) (bs : List Nat) (_ : ∀ b, b ∈ bs → W'.heap[b]? = W.heap[b]?), t.own W lo x us bs → t.own W' lo' x us bs
  | .int, _, _, _, _, h => h
  | .bool, _, _, _, _, h => h
  | .str, _, _, _, _, h => h
  | .pair a b, x, us, bs, hb, ⟨u1, u2, b1, b2, e1, e2, h1, h2⟩ => ⟨u1, u2, b1, b2, e1, e2, Ty.own_mono hl a x.1 u1 b1 (fun k hk => hb k (by rw [e2]; simp [hk])) h1, Ty.own_mono hl b x.2 u2 b2 (fun k hk => hb k (by rw [e2]; simp [hk])) h2⟩
  | .list t, xs, us, bs, hb, ⟨v, e, e1, cells, bss, h1, h2, h3, h4, h5⟩ => ⟨v, e, e1, cells, bss, h1, h2, fun k x u b hx hu hbb => Ty.own_mono hl t x u b (fun j hj => hb j (by rw [h5]; exact List.mem_append.2 (.inr (List.mem_flatten.2 ⟨b, List.mem_of_getElem? hbb, hj⟩)))) (h3 k x u b hx hu hbb), by
      refine ⟨h4.1, ?_⟩
      rcases h4.2 with h | ⟨g, cap, cur, hv, hg, hh, r⟩
      · exact .inl h
      · refine .inr ⟨g, cap, cur, hv, by omega, ?_, r⟩
        rw [hb g (by rw [h5, hv]; simp [Value.ownBlock])]; exact hh, h5⟩
theorem own_blocks {W W' : World} {lo lo' : Nat} {e : TypeId} {sz n : Nat} {v : Value} {us : List Value} (hl : lo' ≤ lo) (hb : ∀ b, v.ownBlock = some b → W'.heap[b]? = W.heap[b]?) (h : W.ownsRow lo e sz v n us) : W'.ownsRow lo' e sz v n us := by
  refine ⟨h.1, ?_⟩
  rcases h.2 with h | ⟨g, cap, cur, hv, hg, hh, r⟩
  · exact .inl h
  · refine .inr ⟨g, cap, cur, hv, by omega, ?_, r⟩
    rw [hb g (by rw [hv]; simp [Value.ownBlock])]; exact hh
theorem ownL_mono {W W' : World} {lo lo' : Nat} {e : TypeId} {t : Ty} {xs : List t.den} {v : Value} {bs : List Nat} (hl : lo' ≤ lo) (hb : ∀ b, b ∈ bs → W'.heap[b]? = W.heap[b]?) (h : ownL W lo e t xs v bs) : ownL W' lo' e t xs v bs := by
  obtain ⟨cells, bss, h1, h2, h3, h4, h5⟩ := h
  exact ⟨cells, bss, h1, h2, fun k x u b hx hu hbb => Ty.own_mono hl t x u b (fun j hj => hb j (by rw [h5]; exact List.mem_append.2 (.inr (List.mem_flatten.2 ⟨b, List.mem_of_getElem? hbb, hj⟩)))) (h3 k x u b hx hu hbb), own_blocks hl (fun b hb' => hb b (by rw [h5, hb']; simp)) h4, h5⟩
/-- an object is as it was where its blocks are -/
theorem partsL_mono {W W' : World} {lo lo' : Nat} {t : Ty} {xs : List t.den} {cells : List (List Value)} {bss : List (List Nat)} (hl : lo' ≤ lo) (hb : ∀ b, b ∈ bss.flatten → W'.heap[b]? = W.heap[b]?) (h : partsL W lo t xs cells bss) : partsL W' lo' t xs cells bss :=
  ⟨h.1, h.2.1, fun k x u b hx hu hbb => Ty.own_mono hl t x u b (fun j hj => hb j (List.mem_flatten.2 ⟨b, List.mem_of_getElem? hbb, hj⟩)) (h.2.2 k x u b hx hu hbb)⟩
theorem AO.own_mono {C C' : Cx} {lo lo' : Nat} {v : Value} {bs : List Nat} {x : AO} (hl : lo' ≤ lo) (hb : ∀ b, b ∈ bs → C'.W.heap[b]? = C.W.heap[b]?) (hr : ∀ c u, Rep C c u → Rep C' c u) (h : x.own C lo v bs) : x.own C' lo' v bs := by
  cases x with
  | dead => trivial
  | box e cs =>
    obtain ⟨b, us, h1, h2, h3, h4⟩ := h
    exact ⟨b, us, h1, own_blocks hl (fun k hk => hb k (by subst h1; simp [Value.ownBlock] at hk; subst hk; rw [h4]; simp)) h2, h3.mono fun c u _ => hr c u, h4⟩
  | row e t xs => exact ownL_mono hl hb h
  | mix e sz rows =>
    obtain ⟨us, h1, h2, h3, h4⟩ := h
    exact ⟨us, own_blocks hl (fun k hk => hb k (by rw [h4, hk]; simp)) h1, h2.mono fun c u _ => hr c u, h3, h4⟩
  | lst e t xs =>
    obtain ⟨us, h1, h2, h4⟩ := h
    exact ⟨us, own_blocks hl (fun k hk => hb k (by rw [h4, hk]; simp)) h1, h2.mono fun c u _ => hr c u, h4⟩
  | hol e t pre cs suf =>
    obtain ⟨c1, b1, us, c2, b2, h1, h2, h3, h4, h5, h6⟩ := h
    refine ⟨c1, b1, us, c2, b2, partsL_mono hl (fun b hb' => hb b (by rw [h6]; simp [hb'])) h1, partsL_mono hl (fun b hb' => hb b (by rw [h6]; simp [hb'])) h2, h3, h4.mono fun c u _ => hr c u, own_blocks hl (fun k hk => hb k (by rw [h6, hk]; simp)) h5, h6⟩
  | frz t xs => exact ⟨h.1, hr _ _ h.2⟩
  | gone n => exact h
  | pin W0 bs' avs us =>
    obtain ⟨h1, h2, h3⟩ := h
    exact ⟨h1, fun b hb' => (hb b (by rw [h1]; exact hb')).trans (h2 b hb'), h3.mono fun c u _ => hr c u⟩
theorem AO.head_in {C : Cx} {lo : Nat} {v : Value} {bs : List Nat} {x : AO} (hx : x.held = true) (h : x.own C lo v bs) : ∀ b, v.ownBlock = some b → b ∈ bs := by
  intro k hk
  cases x with
  | dead => simp [AO.held] at hx
  | frz t xs => simp [AO.held] at hx
  | gone n => simp [AO.held] at hx
  | pin W0 bs' avs us => simp [AO.held] at hx
  | lst e t xs =>
    obtain ⟨us, h1, h2, h4⟩ := h
    rw [h4, hk]; simp
  | hol e t pre cs suf =>
    obtain ⟨c1, b1, us, c2, b2, h1, h2, h3, h4, h5, h6⟩ := h
    rw [h6, hk]; simp
  | box e cs =>
    obtain ⟨b, us, h1, h2, h3, h4⟩ := h
    subst h1; simp [Value.ownBlock] at hk; subst hk; rw [h4]; simp
  | row e t xs =>
    obtain ⟨cells, bss, h1, h2, h3, h4, h5⟩ := h
    rw [h5, hk]; simp
  | mix e sz rows =>
    obtain ⟨us, h1, h2, h3, h4⟩ := h
    rw [h4, hk]; simp
/-- the slots with one written -/
def setS (get : Nat → Option AV) (d : Option Tmp) (x : AV) : Nat → Option AV := fun t => if d = some t then some x else get t
section
variable {w0 : World} {get : Nat → Option AV} {obj : Nat → AO} {a : Act} {W : World} {ρ : Nat → Value} {β : Nat → List Nat}
theorem RelW.put (h : RelW w0 get obj a W ρ β) {d : Option Tmp} {x : AV} {v : Value} (hv : Rep (cxOf obj W ρ β) x v) (hd : ∀ k, d = some k → k < a.tmps.size) : RelW w0 (setS get d x) obj (a.put d v) W ρ β := by
  refine ⟨h.below, h.objs, h.lt, h.apart, h.nodup, fun t y hy => ?_, ?_⟩
  · unfold setS at hy
    split at hy
    · rename_i e
      subst e
      simp only [Option.some.injEq] at hy
      subst hy
      refine ⟨v, ?_, hv⟩
      simp only [Act.put]
      rw [Array.getElem?_setIfInBounds_self_of_lt (hd t rfl)]
    · rename_i e
      obtain ⟨u, h1, h2⟩ := h.slots t y hy
      refine ⟨u, ?_, h2⟩
      cases d with
      | none => exact h1
      | some k =>
        simp only [Act.put]
        rw [Array.getElem?_setIfInBounds_ne (fun e' => e (by rw [e']))]
        exact h1
  · cases d <;> exact h.defers
/-- a slot's value is forgotten -/
theorem RelW.putAny (h : RelW w0 get obj a W ρ β) {d : Option Tmp} (v : Value) (hd : ∀ k, d = some k → k < a.tmps.size) : RelW w0 (setS get d .any) obj (a.put d v) W ρ β := h.put (.any v) hd
/-- new objects, behind a step that turns nothing of what was there -/
theorem RelW.news (h : RelW w0 get obj a W ρ β) {W' : World} {obj' : Nat → AO} {ρ' : Nat → Value} {β' : Nat → List Nat} (hb : Below W.heap.size W W')
    (hold : ∀ o, (obj o).len ≠ none → obj' o = obj o ∧ ρ' o = ρ o ∧ β' o = β o)
    (hnew : ∀ o, (obj o).len = none → (obj' o).len ≠ none → (obj' o).own (cxOf obj' W' ρ' β') W.heap.size (ρ' o) (β' o) ∧ (β' o).Nodup ∧ ∀ b, b ∈ β' o → W.heap.size ≤ b ∧ b < W'.heap.size)
    (hap : ∀ o o' b, (obj o).len = none → (obj o').len = none → (obj' o).len ≠ none → (obj' o').len ≠ none → b ∈ β' o → b ∈ β' o' → o = o') :
    Cx.Le (cxOf obj W ρ β) (cxOf obj' W' ρ' β') ∧ RelW w0 get obj' a W' ρ' β' := by
  have hle : Cx.Le (cxOf obj W ρ β) (cxOf obj' W' ρ' β') := by
    refine ⟨fun b hI => ⟨Nat.lt_of_lt_of_le hI.1 hb.size, fun o ho hbo => ?_⟩, fun p hp => hb.cell hp.1, fun o n ho => ?_, fun o n ho => ?_⟩
    · by_cases hl : (obj o).len = none
      · have := ((hnew o hl ho).2.2 b hbo).1
        have := hI.1
        omega
      · rw [(hold o hl).2.2] at hbo
        exact hI.2 o hl hbo
    · have : (obj o).len ≠ none := by rw [show (obj o).len = some n from ho]; simp
      show (obj' o).len = some n
      rw [(hold o this).1]; exact ho
    · have : (obj o).len ≠ none := by rw [show (obj o).len = some n from ho]; simp
      exact (hold o this).2.1
  have hs0 := h.below.size
  refine ⟨hle, h.below.trans (hb.mono hs0), fun o => ?_, fun o b ho hbo => ?_, fun o o' b ho ho' h1 h2 => ?_, fun o ho => ?_, fun t x hx => ?_, h.defers⟩
  · by_cases hl : (obj o).len = none
    · by_cases hl' : (obj' o).len = none
      · cases he : obj' o with
        | dead => trivial
        | _ => rw [he] at hl'; simp [AO.len] at hl'
      · exact AO.own_mono hs0 (fun _ _ => rfl) (fun _ _ h => h) (hnew o hl hl').1
    · rw [(hold o hl).1, (hold o hl).2.1, (hold o hl).2.2]
      exact AO.own_mono (Nat.le_refl _) (fun b hbo => hb.block b (h.lt o b hl hbo).2) (fun c u hr => hr.le hle) (h.objs o)
  · by_cases hl : (obj o).len = none
    · have := (hnew o hl ho).2.2 b hbo
      exact ⟨by omega, this.2⟩
    · rw [(hold o hl).2.2] at hbo
      have := h.lt o b hl hbo
      exact ⟨this.1, Nat.lt_of_lt_of_le this.2 hb.size⟩
  · by_cases hl : (obj o).len = none
    · by_cases hl' : (obj o').len = none
      · exact hap o o' b hl hl' ho ho' h1 h2
      · exfalso
        have g1 := ((hnew o hl ho).2.2 b h1).1
        rw [(hold o' hl').2.2] at h2
        have g2 := (h.lt o' b hl' h2).2
        omega
    · by_cases hl' : (obj o').len = none
      · exfalso
        have g1 := ((hnew o' hl' ho').2.2 b h2).1
        rw [(hold o hl).2.2] at h1
        have g2 := (h.lt o b hl h1).2
        omega
      · rw [(hold o hl).2.2] at h1
        rw [(hold o' hl').2.2] at h2
        exact h.apart o o' b hl hl' h1 h2
  · by_cases hl : (obj o).len = none
    · exact (hnew o hl ho).2.1
    · rw [(hold o hl).2.2]; exact h.nodup o hl
  · obtain ⟨v, h1, h2⟩ := h.slots t x hx
    exact ⟨v, h1, h2.le hle⟩
/-- what is known stays known while an object is written -/
theorem Rep.write {W' : World} {obj' : Nat → AO} {ρ' : Nat → Value} {β' : Nat → List Nat} {o : Nat} {m m' : Nat} (hm : (obj o).len = some m) (hm' : (obj' o).len = some m') (hle : m ≤ m') (hρ : m' = m → ρ' o = ρ o)
    (hoth : ∀ o', o' ≠ o → obj' o' = obj o' ∧ ρ' o' = ρ o' ∧ β' o' = β o') (hI : ∀ b, (cxOf obj W ρ β).I b → (cxOf obj' W' ρ' β').I b ∧ ∀ p : Addr, p.block = b → W'.cell? p = W.cell? p) {c : AV} {u : Value} (hr : Rep (cxOf obj W ρ β) c u) : Rep (cxOf obj' W' ρ' β') c u := by
  have key : ∀ (o1 n m1 : Nat), (obj o1).len = some m1 → n ≤ m1 → ∃ m2, (obj' o1).len = some m2 ∧ n ≤ m2 ∧ (n = m2 → n = m1 ∧ ρ' o1 = ρ o1) := by
    intro o1 n m1 h1 hn
    by_cases e : o1 = o
    · subst e
      rw [hm] at h1
      injection h1 with h1
      subst h1
      exact ⟨m', hm', by omega, fun e => ⟨by omega, hρ (by omega)⟩⟩
    · exact ⟨m1, by rw [(hoth o1 e).1]; exact h1, hn, fun e' => ⟨e', (hoth o1 e).2.1⟩⟩
  induction hr with
  | any v => exact .any v
  | cel h => exact .cel h
  | lit v => exact .lit v
  | @box o1 off m1 b h1 hn h2 =>
    obtain ⟨m2, g1, g2, g3⟩ := key o1 1 m1 h1 hn
    exact .box g1 g2 (fun e => by
      obtain ⟨e1, e2⟩ := g3 e.symm
      rw [show (cxOf obj' W' ρ' β').ρ o1 = ρ o1 from e2]; exact h2 e1.symm)
  | @elt o1 n sz k off m1 b h1 hn h2 =>
    obtain ⟨m2, g1, g2, g3⟩ := key o1 n m1 h1 hn
    exact .elt g1 g2 (fun e => by
      obtain ⟨e1, e2⟩ := g3 e
      rw [show (cxOf obj' W' ρ' β').ρ o1 = ρ o1 from e2]; exact h2 e1)
  | @own o1 n m1 u h1 hn hs h2 =>
    obtain ⟨m2, g1, g2, g3⟩ := key o1 n m1 h1 hn
    exact .own g1 g2 hs (fun e => by
      obtain ⟨e1, e2⟩ := g3 e
      rw [show (cxOf obj' W' ρ' β').ρ o1 = ρ o1 from e2]; exact h2 e1)
  | sl h1 => exact .sl (Ty.rep_mono (fun b hb => (hI b hb).1) (fun p hp => (hI _ hp).2 p rfl) _ _ _ h1)
  | @rp cs ad us hI' hc _ ih => exact .rp us (fun hne => (hI _ (hI' hne)).1) (fun j hj => by rw [(hI _ (hI' (fun e => by subst e; simp at hj))).2 _ (block_of_add _ _)]; exact hc j hj) ih
  | agg hl _ ih => exact .agg hl ih
  | tup hl _ ih => exact .tup hl ih
  | fn hl _ ih => exact .fn hl ih
/-- an object is written, or has moved -/
theorem RelW.write (h : RelW w0 get obj a W ρ β) {W' : World} {obj' : Nat → AO} {ρ' : Nat → Value} {β' : Nat → List Nat} {o : Nat} {m m' : Nat} (hh : (obj o).held = true) (hm : (obj o).len = some m) (hm' : (obj' o).len = some m') (hle : m ≤ m') (hρ : m' = m → ρ' o = ρ o)
    (hoth : ∀ o', o' ≠ o → obj' o' = obj o' ∧ ρ' o' = ρ o' ∧ β' o' = β o') (hg : W.grownBy W' (ρ o).ownBlock) (hβ : ∀ b, b ∈ β' o → (b ∈ β o ∨ W.heap.size ≤ b) ∧ w0.heap.size ≤ b ∧ b < W'.heap.size) (hnd : (β' o).Nodup)
    (hown : (∀ c u, Rep (cxOf obj W ρ β) c u → Rep (cxOf obj' W' ρ' β') c u) → (obj' o).own (cxOf obj' W' ρ' β') w0.heap.size (ρ' o) (β' o)) :
    (∀ c u, Rep (cxOf obj W ρ β) c u → Rep (cxOf obj' W' ρ' β') c u) ∧ RelW w0 get obj' a W' ρ' β' := by
  have hln : (obj o).len ≠ none := by rw [hm]; simp
  have hhd := AO.head_in hh (h.objs o)
  have hI : ∀ b, (cxOf obj W ρ β).I b → (cxOf obj' W' ρ' β').I b ∧ ∀ p : Addr, p.block = b → W'.cell? p = W.cell? p := by
    intro b hb
    refine ⟨⟨Nat.lt_of_lt_of_le hb.1 hg.size, fun o' ho' hbo => ?_⟩, fun p hp => World.cell?_of_block (hg.block _ (by rw [hp]; exact hb.1) fun e => hb.2 o hln (by rw [← hp]; exact hhd _ e.symm))⟩
    by_cases e : o' = o
    · subst e
      rcases (hβ b hbo).1 with h1 | h1
      · exact hb.2 o' hln h1
      · have := hb.1; omega
    · rw [(hoth o' e).1] at ho'
      rw [(hoth o' e).2.2] at hbo
      exact hb.2 o' ho' hbo
  have hk : ∀ c u, Rep (cxOf obj W ρ β) c u → Rep (cxOf obj' W' ρ' β') c u := fun c u hr => Rep.write hm hm' hle hρ hoth hI hr
  refine ⟨hk, h.below.grown hg h.below.size (fun k hk => (h.lt o k hln (hhd k hk)).1), fun o' => ?_, fun o' b ho' hbo => ?_, fun o1 o2 b h1 h2 g1 g2 => ?_, fun o' ho' => ?_, fun t x hx => ?_, h.defers⟩
  · by_cases e : o' = o
    · subst e; exact hown hk
    · rw [(hoth o' e).1, (hoth o' e).2.1, (hoth o' e).2.2]
      by_cases hl : (obj o').len = none
      · cases he : obj o' with
        | dead => trivial
        | _ => rw [he] at hl; simp [AO.len] at hl
      · exact AO.own_mono (Nat.le_refl _) (fun b hb => hg.block b (h.lt o' b hl hb).2 (fun e' => e (h.apart o' o b hl hln hb (hhd _ e'.symm)))) hk (h.objs o')
  · by_cases e : o' = o
    · subst e; exact (hβ b hbo).2
    · rw [(hoth o' e).1] at ho'
      rw [(hoth o' e).2.2] at hbo
      exact ⟨(h.lt o' b ho' hbo).1, Nat.lt_of_lt_of_le (h.lt o' b ho' hbo).2 hg.size⟩
  · by_cases e1 : o1 = o
    · by_cases e2 : o2 = o
      · rw [e1, e2]
      · exfalso
        subst e1
        rw [(hoth o2 e2).1] at h2
        rw [(hoth o2 e2).2.2] at g2
        rcases (hβ b g1).1 with h3 | h3
        · exact e2 (h.apart o2 o1 b h2 hln g2 h3)
        · have := (h.lt o2 b h2 g2).2; omega
    · rw [(hoth o1 e1).1] at h1
      rw [(hoth o1 e1).2.2] at g1
      by_cases e2 : o2 = o
      · exfalso
        subst e2
        rcases (hβ b g2).1 with h3 | h3
        · exact e1 (h.apart o1 o2 b h1 hln g1 h3)
        · have := (h.lt o1 b h1 g1).2; omega
      · rw [(hoth o2 e2).1] at h2
        rw [(hoth o2 e2).2.2] at g2
        exact h.apart o1 o2 b h1 h2 g1 g2
  · by_cases e : o' = o
    · subst e; exact hnd
    · rw [(hoth o' e).1] at ho'
      rw [(hoth o' e).2.2]; exact h.nodup o' ho'
  · obtain ⟨v, h1, h2⟩ := h.slots t x hx
    exact ⟨v, h1, hk _ _ h2⟩
end
end Go.Proofs.Ytgnnmifpfgpllaa
/- What an operation that touches no memory gives, on abstract values. -/
namespace Go.Proofs.Ytgnnmifpfgpllaa
open Go.RowKit
/-- what is known of a type -/
structure TI where
  agg : Bool
  zero : List Value
  flds : List (Nat × Nat × Bool)
  el : Option (TypeId × Ty × Nat)
  ik : Option IntKind
  str : Bool
/-- a bool's layout -/
def TI.bl (ti : TI) : Bool := match ti.zero, ti.agg with
  | [.bool false], false => true
  | _, _ => false
/-- a struct's or a scalar's layout -/
structure TI.ok (P : Program) (t : TypeId) (ti : TI) : Prop where
  info : ∃ i z, P.info? t = some i ∧ i.zero = some z ∧ z.cells.toList = ti.zero ∧ i.size = ti.zero.length
  und : ∃ d, P.underlying t = some d
  isAgg : ∀ w, (isAgg t).run P w = .ok ti.agg w
  flds : ti.flds ≠ [] → ∃ fs : Array Field, P.underlying t = some (.struct fs) ∧ fs.toList.map (fun f => (f.offset, (P.info? f.type).map (·.size))) = ti.flds.map (fun f => (f.1, some f.2.1)) ∧ ∀ (k : Nat) f g, fs[k]? = some f → ti.flds[k]? = some g → 0 < g.2.1 ∧ ∀ w, (Go.isAgg f.type).run P w = .ok g.2.2 w
  bld : ti.flds.isEmpty = false → ∀ (ps : List (Nat × Value)) cells w, Instr.fill (fun i => (ti.flds[i]?).map fun g => (g.1, g.2.1)) ti.zero.toArray ps = some cells → (Instr.build t ps.toArray).run P w = .ok (.agg cells) w
  el : ∀ e y b, ti.el = some (e, y, b) → P.underlying t = some (.slice e) ∧ ∃ i z, P.info? e = some i ∧ i.zero = some z ∧ i.size = y.sz ∧ i.bytes = b ∧ z.cells.size = y.sz ∧ 0 < y.sz ∧ ∀ W lo, y.own W lo y.dflt z.cells.toList []
  str : ti.str = true → P.underlying t = some .string
  bl : ti.bl = true → P.underlying t = some .bool
  ik : ∀ k, ti.ik = some k → (k = .i64 ∨ k = .u64) ∧ P.underlying t = some (.int k)
def AV.cells : AV → Option (List AV)
  | .agg cs => some cs
  | .lit (.agg a) => some (a.toList.map .lit)
  | .lit (.int k n) => some [.lit (.int k n)]
  | .lit (.bool b) => some [.lit (.bool b)]
  | .lit (.string s) => some [.lit (.string s)]
  | .lit (.slice a n c) => some [.lit (.slice a n c)]
  | .own o n => some [.own o n]
  | .cel => some [.cel]
  | .sl t xs => some [.sl t xs]
  | _ => none
def binAV : BinOp → Value → Value → Option (Prop × AV)
  | .add, .int .i64 a, .int .i64 b => some (-9223372036854775808 ≤ a + b ∧ a + b ≤ 9223372036854775807, .lit (.int .i64 (a + b)))
  | .sub, .int .i64 a, .int .i64 b => some (-9223372036854775808 ≤ a - b ∧ a - b ≤ 9223372036854775807, .lit (.int .i64 (a - b)))
  | .mul, .int .i64 a, .int .i64 b => some (-9223372036854775808 ≤ a * b ∧ a * b ≤ 9223372036854775807, .lit (.int .i64 (a * b)))
  | .quo, .int .i64 a, .int .i64 b => some (0 ≤ a ∧ 0 < b ∧ a ≤ 9223372036854775807, .lit (.int .i64 (a / b)))
  | .rem, .int .i64 a, .int .i64 b => some (0 ≤ a ∧ 0 < b, .lit (.int .i64 (a % b)))
  | .eql, .int .i64 a, .int .i64 b => some (True, .lit (.bool (a == b)))
  | .neq, .int .i64 a, .int .i64 b => some (True, .lit (.bool (a != b)))
  | .eql, .string a, .string b => some (True, .lit (.bool (a.toList == b.toList)))
  | .neq, .string a, .string b => some (True, .lit (.bool (!(a.toList == b.toList))))
  | .lss, .int .i64 a, .int .i64 b => some (True, .lit (.bool (decide (a < b))))
  | .leq, .int .i64 a, .int .i64 b => some (True, .lit (.bool (decide (a ≤ b))))
  | .gtr, .int .i64 a, .int .i64 b => some (True, .lit (.bool (decide (b < a))))
  | .geq, .int .i64 a, .int .i64 b => some (True, .lit (.bool (decide (b ≤ a))))
  | .and, .int .i64 a, .int .i64 b => some (0 ≤ a ∧ a ≤ 9223372036854775807 ∧ b = 1, .lit (.int .i64 (a % 2)))
  | .shl, .int .i64 a, .int _ b => some (0 ≤ a ∧ 0 ≤ b ∧ b ≤ 62 ∧ a * 2 ^ b.toNat ≤ 9223372036854775807, .lit (.int .i64 (a * 2 ^ b.toNat)))
  | .shr, .int .i64 a, .int _ b => some (0 ≤ a ∧ 0 ≤ b ∧ b ≤ 62, .lit (.int .i64 (a / 2 ^ b.toNat)))
  | _, _, _ => none
theorem binAV_sound {P : Program} {op : BinOp} {u v : Value} {c : Prop} {x : AV} (h : binAV op u v = some (c, x)) (hc : c) (t : TypeId) (o1 o2 : Operand) (w : World) :
    ∃ r, x = .lit r ∧ (do eqGuard op t o1 o2 u v; binOp op t u v : Sem Value).run P w = .ok r w := by
  unfold binAV at h
  split at h <;> (try cases h) <;> refine ⟨_, rfl, ?_⟩
  · have : IntKind.i64.wrap (_ : Int) = _ := IntWalk.i64_in _ hc
    simp [eqGuard, binOp, Op.intArith, this]
  · have : IntKind.i64.wrap (_ : Int) = _ := IntWalk.i64_in _ hc
    simp [eqGuard, binOp, Op.intArith, this]
  · have : IntKind.i64.wrap (_ : Int) = _ := IntWalk.i64_in _ hc
    simp [eqGuard, binOp, Op.intArith, this]
  · rename_i a b
    obtain ⟨h1, h2, h3⟩ := hc
    have hne : ¬ b = 0 := by omega
    have hq : a.tdiv b = a / b := Int.tdiv_eq_ediv_of_nonneg h1
    have hle : a / b ≤ a := Int.ediv_le_self _ h1
    have h0 : 0 ≤ a / b := Int.ediv_nonneg h1 (by omega)
    have : IntKind.i64.wrap (a / b) = a / b := IntWalk.i64_in _ (by omega)
    simp [eqGuard, binOp, Op.intDiv, hne, hq, this]
  · rename_i a b
    obtain ⟨h1, h2⟩ := hc
    have hne : ¬ b = 0 := by omega
    have hq : a.tmod b = a % b := Int.tmod_eq_emod_of_nonneg h1
    simp [eqGuard, binOp, Op.intDiv, hne, hq]
  · simp [eqGuard, binOp, Op.intCmp]
  · simp [eqGuard, binOp, Op.intCmp]
  · simp [eqGuard, binOp, Op.stringOp]
  · simp [eqGuard, binOp, Op.stringOp]
  · simp [eqGuard, binOp, Op.intCmp]
  · simp [eqGuard, binOp, Op.intCmp]
  · simp [eqGuard, binOp, Op.intCmp]
  · simp [eqGuard, binOp, Op.intCmp]
  · rename_i a b
    obtain ⟨h1, h2, rfl⟩ := hc
    have := and_one a h1 h2
    have hr : (Op.intBits .and .i64 a 1).run P w = .ok (.int .i64 (a % 2)) w := by
      show Result.ok (Value.int .i64 (bits .and .i64 a 1)) w = _
      rw [this]
    simp [eqGuard, binOp, hr]
  · rename_i a k b
    obtain ⟨h1, h2, h3, h4⟩ := hc
    have hn : ¬ b < 0 := by omega
    have hm : min b.toNat 64 = b.toNat := by omega
    have hp : 0 ≤ a * 2 ^ b.toNat := Int.mul_nonneg h1 (Int.le_of_lt (Int.pow_pos (by omega)))
    have : IntKind.i64.wrap (a * 2 ^ b.toNat) = a * 2 ^ b.toNat := IntWalk.i64_in _ (by omega)
    simp [eqGuard, binOp, Op.shift, hn, IntKind.bits, hm, this]
  · rename_i a k b
    obtain ⟨h1, h2, h3⟩ := hc
    have hn : ¬ b < 0 := by omega
    have hm : min b.toNat 64 = b.toNat := by omega
    have hf : a.fdiv (2 ^ b.toNat) = a / 2 ^ b.toNat := Int.fdiv_eq_ediv_of_nonneg _ (Int.le_of_lt (Int.pow_pos (by omega)))
    simp [eqGuard, binOp, Op.shift, hn, IntKind.bits, hm, hf]
/-- cells with parts laid in -/
def fillAV (flds : List (Nat × Nat × Bool)) : List AV → List (Nat × AV) → Option (List AV)
  | cs, [] => some cs
  | cs, (i, v) :: r => match flds[i]? with
    | some (off, n, _) => match v.cells with
      | some vs => if vs.length = n ∧ off + n ≤ cs.length then fillAV flds (cs.take off ++ vs ++ cs.drop (off + n)) r else none
      | none => none
    | none => none
/-- an operation on abstract values that touches no memory: its condition, its value -/
def pureOp (Θ : TypeId → Option TI) (ev : Operand → Option AV) : Op → Option (Prop × AV)
  | .move x => (ev x).map fun v => (True, v)
  | .assign x => (ev x).map fun v => (True, v)
  | .pick c x y => match ev c, ev x, ev y with
    | some (.lit (.bool t)), some (.lit (.bool x)), some (.lit (.bool y)) => some (True, .lit (.bool (bif t then x else y)))
    | _, _, _ => none
  | .binOp op t x y _ => match ev x, ev y with
    | some (.lit (.bool a)), some (.lit (.bool b)) => match op, Θ t with
      | .eql, some ti => if ti.bl = true then some (True, .lit (.bool (a == b))) else none
      | .neq, some ti => if ti.bl = true then some (True, .lit (.bool (a != b))) else none
      | _, _ => none
    | some (.lit u), some (.lit v) => binAV op u v
    | some (.sl _ xs), some (.lit (.slice none 0 0)) => match op, Θ t with
      | .eql, some ti => if ti.el.isSome = true then some (0 < xs.length, .lit (.bool false)) else none
      | _, _ => none
    | _, _ => none
  | .unOp .neg _ x => match ev x with
    | some (.lit (.int .i64 a)) => some (-9223372036854775808 ≤ -a ∧ -a ≤ 9223372036854775807, .lit (.int .i64 (-a)))
    | _ => none
  | .unOp .not _ x => match ev x with
    | some (.lit (.bool a)) => some (True, .lit (.bool (!a)))
    | _ => none
  | .convert s d x => match Θ s, Θ d, ev x with
    | some _, some ti, some (.lit (.int _ a)) => match ti.ik with
      | some k => some (0 ≤ a ∧ a ≤ 9223372036854775807, .lit (.int k a))
      | none => none
    | _, _, _ => none
  | .field S x f => match Θ S, ev x with
    | some ti, some (.agg cs) => match ti.flds[f]? with
      | some (off, n, true) => if off + n ≤ cs.length then some (True, .agg ((cs.drop off).take n)) else none
      | some (off, _, false) => (cs[off]?).map fun c => (True, c)
      | none => none
    | _, _ => none
  | .build T parts => match Θ T, parts.toList.mapM fun p => (ev p.2).map fun v => (p.1, v) with
    | some ti, some ps => if ti.flds.isEmpty = false then (fillAV ti.flds (ti.zero.map .lit) ps).map fun cs => (True, .agg cs) else none
    | _, _ => none
  | .extract x i => match ev x with
    | some (.tup vs) => (vs[i]?).map fun v => (True, v)
    | _ => none
  | .fieldAddr S x f => match Θ S, ev x with
    | some ti, some p => match ti.flds[f]?, p with
      | some g, .box o off => some (True, .box o (off + g.1))
      | some g, .rp cs => if g.1 < cs.length then some (True, .rp (cs.drop g.1)) else none
      | some g, .elt o n sz k off => some (True, .elt o n sz k (off + g.1))
      | _, _ => none
    | _, _ => none
  | .indexAddr T x i => match Θ T, ev x, ev i with
    | some ti, some (.sl t xs), some (.lit (.int _ k)) => match ti.el with
      | some (_, y, _) => if y.sz = t.sz then some (0 ≤ k ∧ k < xs.length, .rp (t.cells (xs.getD k.toNat t.dflt))) else none
      | none => none
    | some ti, some (.own o n), some (.lit (.int _ k)) => match ti.el with
      | some (_, y, _) => some (0 ≤ k ∧ k < n, .elt o n y.sz k.toNat 0)
      | none => none
    | _, _, _ => none
  | .slice T x lo hi none => match Θ T, ev x, lo.map ev, hi.map ev with
    | some ti, some (.sl t xs), l, h => match ti.el, l, h with
      | some (_, y, _), none, some (some (.lit (.int _ b))) => if y.sz = t.sz then some (0 ≤ b ∧ b ≤ xs.length, .sl t (xs.take b.toNat)) else none
      | some (_, y, _), some (some (.lit (.int _ a))), none => if y.sz = t.sz then some (0 ≤ a ∧ a ≤ xs.length, .sl t (xs.drop a.toNat)) else none
      | some (_, y, _), some (some (.lit (.int _ a))), some (some (.lit (.int _ b))) => if y.sz = t.sz then some (0 ≤ a ∧ a ≤ b ∧ b ≤ xs.length, .sl t ((xs.take b.toNat).drop a.toNat)) else none
      | _, _, _ => none
    | _, _, _, _ => none
  | .makeFunc f first caps => if first = #[] then (caps.toList.mapM ev).map fun vs => (True, .fn f vs) else none
  | .call c => match c.callee, c.args.toList, c.argTypes.toList with
    | .builtin .len, [x], [T] => match Θ T, ev x with
      | some ti, some (.sl _ xs) => if ti.el.isSome = true then some (True, .lit (.int .i64 xs.length)) else none
      | some ti, some (.own _ n) => if ti.el.isSome = true then some (True, .lit (.int .i64 n)) else none
      | some ti, some (.lit (.slice none 0 0)) => if ti.el.isSome = true then some (True, .lit (.int .i64 0)) else none
      | some ti, some (.lit (.string s)) => if ti.str = true then some (True, .lit (.int .i64 s.size)) else none
      | _, _ => none
    | .builtin .min, [x, y], [_, _] => match ev x, ev y with
      | some (.lit (.int .i64 a)), some (.lit (.int .i64 b)) => some (True, .lit (.int .i64 (if b < a then b else a)))
      | _, _ => none
    | _, _, _ => none
  | _ => none
section
variable {P : Program} {Θ : TypeId → Option TI} {C : Cx} {a : Act} {ev : Operand → Option AV}
theorem drop_rp {cs : List AV} {u : Value} {k : Nat} (hk : k < cs.length) (h : Rep C (.rp cs) u) : ∃ ad, u = .pointer (some ad) ∧ Rep C (.rp (cs.drop k)) (.pointer (some (ad.add k))) := by
  cases h with
  | @rp _ ad us hI hc hr =>
    refine ⟨ad, rfl, .rp (fun j => us (k + j)) (fun _ => by rw [block_of_add]; exact hI (fun e => by subst e; simp at hk)) (fun j hj => ?_) (fun j c hj => ?_)⟩
    · rw [add_of_add]
      exact hc _ (by simp at hj; omega)
    · rw [List.getElem?_drop] at hj
      exact hr _ c hj
theorem run_fieldAt_any {S : TypeId} {ti : TI} (hok : ti.ok P S) {f : Nat} {g : Nat × Nat × Bool} (hg : ti.flds[f]? = some g) (ad : Addr) (w : World) :
    (Instr.fieldAt S (.pointer (some ad)) f).run P w = .ok (.pointer (some (ad.add g.1))) w := by
  have hne : ti.flds ≠ [] := fun e => by rw [e] at hg; simp at hg
  obtain ⟨fs, hu, hm, hpos⟩ := hok.flds hne
  have h1 : (fs.toList.map (fun f => (f.offset, (P.info? f.type).map (·.size))))[f]? = some (g.1, some g.2.1) := by
    rw [hm, List.getElem?_map, hg]; rfl
  rw [List.getElem?_map] at h1
  cases hf : fs[f]? with
  | none =>
    have : fs.toList[f]? = none := by simpa using hf
    rw [this] at h1; cases h1
  | some fd =>
    have : fs.toList[f]? = some fd := by simpa using hf
    rw [this] at h1
    simp only [Option.map_some, Option.some.injEq, Prod.mk.injEq] at h1
    obtain ⟨e1, e2⟩ := h1
    have h0 := (hpos f fd g hf hg).1
    cases hi : P.info? fd.type with
    | none => rw [hi] at e2; cases e2
    | some i =>
      rw [hi] at e2
      simp only [Option.map_some, Option.some.injEq] at e2
      have hz : ¬ i.size = 0 := by omega
      simp [Instr.fieldAt, Instr.sureAddr, run_underlying hu, hf, fieldPlace, sizeOf, typeInfo, hi, hz, e1]
theorem run_indexAt_any {T e : TypeId} {ti : TI} {y : Ty} {b : Nat} (hok : ti.ok P T) (he : ti.el = some (e, y, b)) (ad : Addr) (n c : Nat) (k : IntKind) (i : Int) (h0 : 0 ≤ i) (h1 : i < n) (w : World) :
    (Instr.indexAt T (.slice (some ad) n c) (.int k i)).run P w = .ok (.pointer (some (ad.add (i.toNat * y.sz)))) w := by
  obtain ⟨hu, i', z, hi, hz, hs, hb, hzs, h00, _⟩ := hok.el e y b he
  have hb2 : 0 ≤ i ∧ i < (n : Int) := ⟨h0, h1⟩
  simp [Instr.indexAt, asIntOf, run_underlying hu, sizeOf, typeInfo, hi, hs, hb2]
end
end Go.Proofs.Ytgnnmifpfgpllaa
/- An operation that touches no memory does what its abstract form says. -/
namespace Go.Proofs.Ytgnnmifpfgpllaa
open Go.RowKit
section
variable {P : Program} {Θ : TypeId → Option TI} {C : Cx} {a : Act} {ev : Operand → Option AV}
theorem mapM_reps (hev : ∀ x v, ev x = some v → Rep C v (a.eval x)) : ∀ (l : List Operand) (vs : List AV), l.mapM ev = some vs → Reps C vs (l.map a.eval)
  | [], vs, h => by
    simp at h; subst h; exact .nil
  | x :: l, vs, h => by
    simp only [List.mapM_cons, Option.bind_eq_bind, Option.bind_eq_some_iff, Option.pure_def, Option.some.injEq] at h
    obtain ⟨v, h1, vs', h2, rfl⟩ := h
    exact .cons (hev x v h1) (mapM_reps hev l vs' h2)
theorem cells_of_one {v : Value} (h : v.oneCell' = true) : v.cells.toList = [v] := by cases v <;> first | rfl | (simp [Value.oneCell'] at h)
theorem AV.cells_rep {x : AV} {u : Value} {cs : List AV} (h : Rep C x u) (hx : x.cells = some cs) : Reps C cs u.cells.toList ∧ (∀ c ∈ u.cells.toList, ∃ c' ∈ cs, Rep C c' c) := by
  have key : Reps C cs u.cells.toList := by
    cases h with
    | any v => simp [AV.cells] at hx
    | cel h1 =>
      simp [AV.cells] at hx; subst hx
      rw [cells_of_one h1]
      exact .cons (.cel h1) .nil
    | box => simp [AV.cells] at hx
    | elt => simp [AV.cells] at hx
    | rp => simp [AV.cells] at hx
    | tup => simp [AV.cells] at hx
    | fn => simp [AV.cells] at hx
    | agg hl hr =>
      simp [AV.cells] at hx; subst hx
      exact ⟨by simpa [Value.cells] using hl, fun j c u h1 h2 => hr j c u h1 (by simpa [Value.cells] using h2)⟩
    | own h1 hn hs h2 =>
      simp [AV.cells] at hx; subst hx
      obtain ⟨A, c, rfl, _⟩ := id hs
      exact .cons (.own h1 hn hs h2) .nil
    | sl h1 =>
      simp [AV.cells] at hx; subst hx
      obtain ⟨A, c, e, _⟩ := id h1
      simp at e; subst e
      exact .cons (.sl h1) .nil
    | lit =>
      cases u <;> simp [AV.cells] at hx <;> subst hx <;> first | exact .cons (.lit _) .nil | exact Reps.lits _
  refine ⟨key, fun c hc => ?_⟩
  obtain ⟨j, hj, e⟩ := List.getElem_of_mem hc
  have hj' : j < cs.length := by rw [← key.1]; exact hj
  exact ⟨cs[j], List.getElem_mem hj', key.2 j _ _ (List.getElem?_eq_getElem hj') (by rw [List.getElem?_eq_getElem hj, e])⟩
theorem run_v {s : Sem Value} {r : Value} {w w' : World} (h : s.run P w = .ok r w') : (do pure (Next.value (← s)) : Sem Next).run P w = .ok (.value r) w' := by
  rw [Sem.run_bind, h]; rfl
theorem set_run (vs : List Value) : ∀ (off k : Nat) (us : List Value), off + k + vs.length ≤ us.length →
    (vs.zipIdx k).foldl (fun (cs : Array Value) (x : Value × Nat) => cs.setIfInBounds (off + x.2) x.1) us.toArray = (us.take (off + k) ++ vs ++ us.drop (off + k + vs.length)).toArray := by
  induction vs with
  | nil => intro off k us _; simp
  | cons v vs ih =>
    intro off k us h
    have hlt : off + k < us.length := by simp only [List.length_cons] at h; omega
    simp only [List.zipIdx_cons, List.foldl_cons]
    have h1 : us.toArray.setIfInBounds (off + k) v = (us.set (off + k) v).toArray := by simp
    rw [h1, ih off (k + 1) (us.set (off + k) v) (by simp only [List.length_cons] at h; rw [List.length_set]; omega)]
    congr 1
    have e1 : (us.set (off + k) v).take (off + (k + 1)) = us.take (off + k) ++ [v] := by
      rw [show off + (k + 1) = off + k + 1 by omega, List.take_add_one, List.getElem?_set_self hlt, List.take_set_of_le (Nat.le_refl _)]; rfl
    have e2 : (us.set (off + k) v).drop (off + (k + 1) + vs.length) = us.drop (off + k + (v :: vs).length) := by
      rw [List.drop_set_of_lt (by omega)]
      congr 1
      simp only [List.length_cons]; omega
    rw [e1, e2]
    simp
theorem foldl_cells (u : Value) (off : Nat) (us : List Value) (h : off + u.cells.toList.length ≤ us.length) :
    (u.cells.zipIdx.foldl (fun cs x => match x with | (c, j) => cs.setIfInBounds (off + j) c) us.toArray) = (us.take off ++ u.cells.toList ++ us.drop (off + u.cells.toList.length)).toArray := by
  have := set_run u.cells.toList off 0 us (by simpa using h)
  simp only [Nat.add_zero] at this
  rw [← this]
  rw [← Array.foldl_toList, Array.toList_zipIdx]
theorem fill_reps {flds : List (Nat × Nat × Bool)} : ∀ (ps : List (Nat × AV)) (qs : List (Nat × Value)) (cs : List AV) (us : List Value) (cs' : List AV), fillAV flds cs ps = some cs' → Reps C cs us → qs.length = ps.length → (∀ (k : Nat) (p : Nat × AV) (q : Nat × Value), ps[k]? = some p → qs[k]? = some q → q.1 = p.1 ∧ Rep C p.2 q.2) →
    ∃ us', Instr.fill (fun i => (flds[i]?).map fun g => (g.1, g.2.1)) us.toArray qs = some us'.toArray ∧ Reps C cs' us'
  | [], qs, cs, us, cs', h, hr, hl, _ => by
    have : qs = [] := List.eq_nil_of_length_eq_zero hl
    subst this
    simp only [fillAV, Option.some.injEq] at h
    subst h
    exact ⟨us, rfl, hr⟩
  | (i, x) :: ps, [], cs, us, cs', h, hr, hl, _ => by simp at hl
  | (i, x) :: ps, (j, q) :: qs, cs, us, cs', h, hr, hl, hp => by
    obtain ⟨e1, e2⟩ := hp 0 _ _ rfl rfl
    simp only at e1 e2
    subst e1
    simp only [fillAV] at h
    split at h
    · rename_i off n ag hf
      split at h
      · rename_i vs hv
        split at h
        · rename_i hc
          have hk := (AV.cells_rep e2 hv).1
          have hcl : q.cells.size = n := by have := hk.1; rw [hc.1] at this; simpa using this
          have hu : off + q.cells.size ≤ us.length := by rw [hcl, hr.1]; exact hc.2
          have hn1 : ¬ (q.cells.size ≠ n ∨ us.toArray.size < off + q.cells.size) := by
            simp only [List.size_toArray]; omega
          have hfl := foldl_cells q off us (by simpa using hu)
          have hr2 : Reps C (cs.take off ++ vs ++ cs.drop (off + n)) (us.take off ++ q.cells.toList ++ us.drop (off + q.cells.toList.length)) := by
            have := hk.1
            rw [show q.cells.toList.length = n by simpa using hcl]
            exact ((hr.take off).append hk).append (hr.drop (off + n))
          obtain ⟨us', g1, g2⟩ := fill_reps ps qs _ _ cs' h hr2 (by simpa using hl) (fun k p q h1 h2 => hp (k + 1) p q (by simpa using h1) (by simpa using h2))
          refine ⟨us', ?_, g2⟩
          unfold Instr.fill
          simp only [hf, Option.map_some]
          rw [if_neg (by simp only [Bool.or_eq_true, decide_eq_true_eq]; simp only [List.size_toArray] at hn1 ⊢; omega)]
          rw [hfl]
          exact g1
        · cases h
      · cases h
    · cases h
theorem Ty.rep_sub {W : World} {I : Nat → Prop} {t : Ty} {xs : List t.den} {A : Option Addr} {c i j : Nat} (h : (Ty.list t).rep W I xs [.slice A xs.length c]) (hij : i ≤ j) (hj : j ≤ xs.length) :
    (Ty.list t).rep W I ((xs.take j).drop i) [.slice (if c = i then A else A.map (·.add (i * t.sz))) (j - i) (c - i)] := by
  obtain ⟨A', c', e, h1, h2, h3⟩ := h
  simp only [List.cons.injEq, and_true, Value.slice.injEq] at e
  obtain ⟨rfl, _, rfl⟩ := e
  have hlen : ((xs.take j).drop i).length = j - i := by simp; omega
  refine ⟨_, _, by rw [hlen], by rw [hlen]; omega, by rw [hlen]; omega, fun hpos => ?_⟩
  rw [hlen] at hpos
  obtain ⟨ad, rfl, hI, hc⟩ := h3 (by omega)
  rw [if_neg (by omega)]
  refine ⟨_, rfl, by rw [block_of_add]; exact hI, fun k x hk => ?_⟩
  rw [List.getElem?_drop, List.getElem?_take] at hk
  split at hk
  · obtain ⟨vs, g1, g2⟩ := hc _ _ hk
    refine ⟨vs, g1, fun l u hl => ?_⟩
    rw [add_of_add, ← g2 l u hl]
    congr 2
    rw [Nat.add_mul]; omega
  · cases hk
theorem run_sliceAt_any {T e : TypeId} {ti : TI} {y : Ty} {b : Nat} (hok : ti.ok P T) (he : ti.el = some (e, y, b)) (A : Option Addr) (n c : Nat) (lo hi : Option Value) (l m : Nat)
    (hlo : (lo = none ∧ l = 0) ∨ ∃ k i, lo = some (.int k i) ∧ 0 ≤ i ∧ i.toNat = l) (hhi : (hi = none ∧ m = n) ∨ ∃ k i, hi = some (.int k i) ∧ 0 ≤ i ∧ i.toNat = m) (hlm : l ≤ m) (hmc : m ≤ c) (w : World) :
    (Instr.sliceAt T (.slice A n c) lo hi none).run P w = .ok (.slice (if c = l then A else A.map (·.add (l * y.sz))) (m - l) (c - l)) w := by
  obtain ⟨hu, i', z, hi', hz, hs, hb, hzs, h00, _⟩ := hok.el e y b he
  have hL : (match lo with | some v => Instr.sliceBound v m .sliceB | none => pure 0 : Sem Nat).run P w = .ok l w := by
    rcases hlo with ⟨rfl, rfl⟩ | ⟨k, i, rfl, h0, rfl⟩
    · rfl
    · have : 0 ≤ i ∧ i ≤ (m : Int) := by omega
      simp [Instr.sliceBound, asIntOf, this]
  have hH : (match hi with | some v => Instr.sliceBound v c .sliceAcap | none => pure n : Sem Nat).run P w = .ok m w := by
    rcases hhi with ⟨rfl, rfl⟩ | ⟨k, i, rfl, h0, rfl⟩
    · rfl
    · have : 0 ≤ i ∧ i ≤ (c : Int) := by omega
      simp [Instr.sliceBound, asIntOf, this]
  have hB : (Instr.sliceBounds true n c lo hi none).run P w = .ok (l, m, c) w := by
    unfold Instr.sliceBounds
    cases hi with
    | none =>
      simp only at hH
      cases lo with
      | none => simp at hL hH; simp [hL, hH]
      | some v => simp at hH; simp only at hL; simp [hH, hL]
    | some v' =>
      simp only at hH
      cases lo with
      | none => simp at hL; simp [hL, hH]
      | some v => simp only at hL; simp [hH, hL]
  simp [Instr.sliceAt, Instr.slice, run_underlying hu, hB, sizeOf, typeInfo, hi', hs]
theorem pure_sound (hΘ : ∀ t ti, Θ t = some ti → ti.ok P t) (hev : ∀ x v, ev x = some v → Rep C v (a.eval x)) (o : Oper) {c : Prop} {x : AV} (h : pureOp Θ ev o.op = some (c, x)) (hc : c) (w : World) : ∃ v, (execOp a.eval o).run P w = .ok (.value v) w ∧ Rep C x v := by
  unfold pureOp at h
  split at h
  · rename_i y ho
    have hx : execOp a.eval o = pure (.value (a.eval y)) := by unfold execOp; rw [ho]
    rw [hx]
    cases hy : ev y with
    | none => rw [hy] at h; cases h
    | some v =>
      rw [hy] at h; cases h
      exact ⟨_, rfl, hev y _ hy⟩
  · rename_i y ho
    have hx : execOp a.eval o = pure (.value (a.eval y)) := by unfold execOp; rw [ho]
    rw [hx]
    cases hy : ev y with
    | none => rw [hy] at h; cases h
    | some v =>
      rw [hy] at h; cases h
      exact ⟨_, rfl, hev y _ hy⟩
  · rename_i y1 y2 y3 ho
    have hx : execOp a.eval o = (do pure (.value (if ← asBool (a.eval y1) then a.eval y2 else a.eval y3))) := by unfold execOp; rw [ho]
    rw [hx]
    split at h
    · rename_i t s r e1 e2 e3
      cases h
      have g1 := (hev _ _ e1).lit_eq
      have g2 := (hev _ _ e2).lit_eq
      have g3 := (hev _ _ e3).lit_eq
      refine ⟨_, ?_, .lit _⟩
      simp only [g1, g2, g3]
      cases t <;> simp [asBool]
    · cases h
  · rename_i op t y z t' ho
    have hx : execOp a.eval o = (do pure (.value (← (do eqGuard op t y z (a.eval y) (a.eval z); binOp op t (a.eval y) (a.eval z))))) := by unfold execOp; rw [ho]
    rw [hx]
    split at h
    · rename_i u v e1 e2
      have g1 := (hev _ _ e1).lit_eq
      have g2 := (hev _ _ e2).lit_eq
      split at h
      · rename_i ti e3
        split at h
        · rename_i hb
          cases h
          have hu := (hΘ _ _ e3).bl hb
          refine ⟨_, ?_, .lit _⟩
          simp only [g1, g2]
          refine run_v ?_
          simp [eqGuard, run_eql_bool w t u v hu]
        · cases h
      · rename_i ti e3
        split at h
        · rename_i hb
          cases h
          have hu := (hΘ _ _ e3).bl hb
          refine ⟨_, ?_, .lit _⟩
          simp only [g1, g2]
          refine run_v ?_
          simp [eqGuard, run_neq_bool w t u v hu, bne]
        · cases h
      · cases h
    · rename_i u v _ e1 e2
      obtain ⟨r, rfl, hr⟩ := binAV_sound (P := P) h hc t y z w
      refine ⟨r, ?_, .lit _⟩
      have g1 := (hev _ _ e1).lit_eq
      have g2 := (hev _ _ e2).lit_eq
      simp only [g1, g2]
      exact run_v hr
    · rename_i t0 xs e1 e2
      have g2 := (hev _ _ e2).lit_eq
      obtain ⟨A, c, q1, _, _, q4⟩ := (hev _ _ e1).sl_of
      simp only [List.cons.injEq, and_true] at q1
      split at h
      · rename_i ti e3
        split at h
        · rename_i hel
          cases h
          obtain ⟨⟨e, y', b⟩, hel⟩ := Option.isSome_iff_exists.1 hel
          obtain ⟨hu, _⟩ := (hΘ _ _ e3).el e y' b hel
          obtain ⟨ad, rfl, _⟩ := q4 hc
          refine ⟨.bool false, ?_, .lit _⟩
          rw [q1, g2]
          refine run_v ?_
          have hr := Lib.run_eql_slice_nil (P := P) w t e (some ad) xs.length c 0 0 hu
          simp [eqGuard, hr]
        · cases h
      · cases h
    · cases h
  · rename_i t y ho
    have hx : execOp a.eval o = (do pure (.value (← Op.unary .neg (a.eval y)))) := by unfold execOp; rw [ho]
    rw [hx]
    split at h
    · rename_i n e1
      cases h
      have g1 := (hev _ _ e1).lit_eq
      have hw : IntKind.i64.wrap (-n) = -n := IntWalk.i64_in _ hc
      refine ⟨_, ?_, .lit _⟩
      simp [g1, Op.unary, Op.intArith, hw]
    · cases h
  · rename_i t y ho
    have hx : execOp a.eval o = (do pure (.value (← Op.unary .not (a.eval y)))) := by unfold execOp; rw [ho]
    rw [hx]
    split at h
    · rename_i n e1
      cases h
      have g1 := (hev _ _ e1).lit_eq
      refine ⟨_, ?_, .lit _⟩
      simp [g1, Op.unary]
    · cases h
  · rename_i t d y ho
    have hx : execOp a.eval o = (do pure (.value (← convert t d (a.eval y)))) := by unfold execOp; rw [ho]
    rw [hx]
    split at h
    · rename_i tj ti k n e3 e0 e1
      split at h
      · rename_i kd ek
        cases h
        have g1 := (hev _ _ e1).lit_eq
        obtain ⟨hk, hu⟩ := (hΘ d ti e0).ik kd ek
        have hw : kd.wrap n = n := by
          rcases hk with rfl | rfl
          · exact IntWalk.i64_in _ (by omega)
          · exact IntWalk.u64_in _ (by omega)
        obtain ⟨ds, hs⟩ := (hΘ _ _ e3).und
        refine ⟨_, ?_, .lit _⟩
        simp [g1, convert, run_underlying hu, run_underlying hs, Conv.intToInt, hw]
      · cases h
    · cases h
  · rename_i S y f ho
    have hx : execOp a.eval o = (do pure (.value (← Instr.field S (a.eval y) f))) := by unfold execOp; rw [ho]
    rw [hx]
    split at h
    · rename_i ti cs e0 e1
      obtain ⟨us, e2, hr⟩ := (hev _ _ e1).agg_of
      have hok := hΘ _ _ e0
      have fact : ∀ g, ti.flds[f]? = some g → ∃ fs fd, P.underlying S = some (.struct fs) ∧ fs[f]? = some fd ∧ fd.offset = g.1 ∧ (∃ i, P.info? fd.type = some i ∧ i.size = g.2.1) ∧ ∀ w, (isAgg fd.type).run P w = .ok g.2.2 w := by
        intro g hg
        have hne : ti.flds ≠ [] := fun e => by rw [e] at hg; simp at hg
        obtain ⟨fs, hu, hm, hpos⟩ := hok.flds hne
        have h1 : (fs.toList.map (fun f => (f.offset, (P.info? f.type).map (·.size))))[f]? = some (g.1, some g.2.1) := by
          rw [hm, List.getElem?_map, hg]; rfl
        rw [List.getElem?_map] at h1
        cases hf : fs[f]? with
        | none =>
          have : fs.toList[f]? = none := by simpa using hf
          rw [this] at h1; cases h1
        | some fd =>
          have : fs.toList[f]? = some fd := by simpa using hf
          rw [this] at h1
          simp only [Option.map_some, Option.some.injEq, Prod.mk.injEq] at h1
          cases hi : P.info? fd.type with
          | none => rw [hi] at h1; cases h1.2
          | some i =>
            rw [hi] at h1
            exact ⟨fs, fd, hu, hf, h1.1, ⟨i, hi, by simpa using h1.2⟩, (hpos f fd g hf hg).2⟩
      split at h
      · rename_i off n hg
        split at h
        · rename_i hle
          cases h
          obtain ⟨fs, fd, hu, hf, ho', ⟨i, hi, hs⟩, hag⟩ := fact _ hg
          have hlen := hr.1
          refine ⟨.agg (((us.drop off).take n).toArray), ?_, .agg ((hr.drop off).take n).1 ((hr.drop off).take n).2⟩
          apply run_v
          simp only at ho' hs
          simp [Instr.field, run_underlying hu, hf, e2, asAgg, part, hag, sizeOf, typeInfo, hi, ho', hs]
        · cases h
      · rename_i off n hg
        cases hcs : cs[off]? with
        | none => rw [hcs] at h; cases h
        | some c =>
          rw [hcs] at h; cases h
          obtain ⟨fs, fd, hu, hf, ho', ⟨i, hi, hs⟩, hag⟩ := fact _ hg
          have hlt : off < us.length := by rw [hr.1]; exact (List.getElem?_eq_some_iff.1 hcs).1
          refine ⟨us[off], ?_, hr.2 off _ _ hcs (List.getElem?_eq_getElem hlt)⟩
          apply run_v
          simp only at ho' hs
          simp [Instr.field, run_underlying hu, hf, e2, asAgg, part, hag, ho', hlt]
      · cases h
    · cases h
  · rename_i T parts ho
    have hx : execOp a.eval o = (do pure (.value (← Instr.build T (parts.map fun (i, x) => (i, a.eval x))))) := by unfold execOp; rw [ho]
    rw [hx]
    split at h
    · rename_i ti ps e0 e1
      split at h
      rotate_left
      · cases h
      rename_i hne
      cases hfl : fillAV ti.flds (ti.zero.map .lit) ps with
      | none => rw [hfl] at h; cases h
      | some cs =>
        rw [hfl] at h; cases h
        have hps : ∀ (l : List (Nat × Operand)) (ps : List (Nat × AV)), (l.mapM fun p => (ev p.2).map fun v => (p.1, v)) = some ps → l.length = ps.length ∧ ∀ (k : Nat) p (q : Nat × Value), ps[k]? = some p → (l.map fun (x : Nat × Operand) => (x.1, a.eval x.2))[k]? = some q → q.1 = p.1 ∧ Rep C p.2 q.2 := by
          intro l
          induction l with
          | nil => intro ps h; simp at h; subst h; exact ⟨rfl, fun k p q h => by simp at h⟩
          | cons y l ih =>
            intro ps h
            simp only [List.mapM_cons, Option.bind_eq_bind, Option.bind_eq_some_iff, Option.pure_def, Option.some.injEq, Option.map_eq_some_iff] at h
            obtain ⟨_, ⟨v, h1, rfl⟩, ps', h2, rfl⟩ := h
            obtain ⟨g1, g2⟩ := ih ps' h2
            refine ⟨by simp [g1], fun k p q hk hq => ?_⟩
            cases k with
            | zero => simp at hk hq; subst hk hq; exact ⟨rfl, hev _ _ h1⟩
            | succ k => exact g2 k p q (by simpa using hk) (by simpa using hq)
        obtain ⟨g1, g2⟩ := hps _ _ e1
        obtain ⟨us', f1, f2⟩ := fill_reps (C := C) ps (parts.toList.map fun (x : Nat × Operand) => (x.1, a.eval x.2)) _ ti.zero cs hfl (Reps.lits _) (by simp [g1]) g2
        refine ⟨_, run_v (s := Instr.build T _) ?_, .agg f2.1 f2.2⟩
        have := (hΘ _ _ e0).bld hne _ _ w f1
        rw [← this]
        congr 2
        rw [← Array.toList_inj]
        simp
    · cases h
  · rename_i y i ho
    have hx : execOp a.eval o = (do pure (.value (← Instr.extract (a.eval y) i))) := by unfold execOp; rw [ho]
    rw [hx]
    split at h
    · rename_i vs e1
      obtain ⟨us, e2, hr⟩ := (hev _ _ e1).tup_of
      cases hv : vs[i]? with
      | none => rw [hv] at h; cases h
      | some v =>
        rw [hv] at h; cases h
        have hlt : i < us.length := by rw [hr.1]; exact (List.getElem?_eq_some_iff.1 hv).1
        refine ⟨us[i], ?_, hr.2 i _ _ hv (List.getElem?_eq_getElem hlt)⟩
        simp [e2, Instr.extract, hlt]
    · cases h
  · rename_i S y f ho
    have hx : execOp a.eval o = (do pure (.value (← Instr.fieldAt S (a.eval y) f))) := by unfold execOp; rw [ho]
    rw [hx]
    split at h
    · rename_i ti p e0 e1
      split at h
      · rename_i g o off eg
        cases h
        have hr := hev _ _ e1
        generalize hu : a.eval y = u at hr
        cases hr with
        | @box _ _ m b h1 hn h2 =>
          refine ⟨_, run_v (run_fieldAt_any (hΘ _ _ e0) eg _ w), ?_⟩
          rw [Addr.add_lit]
          exact .box h1 hn h2
      · rename_i g cs eg
        split at h
        · rename_i hlt
          cases h
          obtain ⟨ad, e2, hr⟩ := drop_rp hlt (hev _ _ e1)
          refine ⟨_, ?_, hr⟩
          rw [e2]
          exact run_v (run_fieldAt_any (hΘ _ _ e0) eg ad w)
        · cases h
      · rename_i g o n sz k off eg
        cases h
        have hr := hev _ _ e1
        generalize hu : a.eval y = u at hr
        cases hr with
        | @elt _ _ _ _ _ m b h1 hn h2 =>
          refine ⟨_, run_v (run_fieldAt_any (hΘ _ _ e0) eg _ w), ?_⟩
          rw [Addr.add_lit, Nat.add_assoc]
          exact .elt h1 hn h2
      · cases h
    · cases h
  · rename_i T y z ho
    have hx : execOp a.eval o = (do pure (.value (← Instr.indexAt T (a.eval y) (a.eval z)))) := by unfold execOp; rw [ho]
    rw [hx]
    split at h
    · rename_i ti t xs kd k e0 e1 e2
      split at h
      · rename_i e y' b hel
        split at h
        · rename_i hsz
          cases h
          obtain ⟨A, c, g1, g2, g3, g4⟩ := (hev _ _ e1).sl_of
          have hk : k.toNat < xs.length := by omega
          obtain ⟨ad, rfl, hI, hcell⟩ := g4 (by omega)
          simp only [List.cons.injEq, and_true] at g1
          rw [g1, (hev _ _ e2).lit_eq]
          obtain ⟨vs, f1, f2⟩ := hcell k.toNat _ (List.getElem?_eq_getElem hk)
          have hge : xs.getD k.toNat t.dflt = xs[k.toNat] := by rw [List.getD_eq_getElem?_getD, List.getElem?_eq_getElem hk]; rfl
          refine ⟨_, run_v (run_indexAt_any (hΘ _ _ e0) hel ad _ c kd k hc.1 hc.2 w), ?_⟩
          rw [hge, hsz]
          have hreps := Ty.cells_rep (C := C) t _ _ f1
          refine .rp (fun j => vs.getD j undef) (fun _ => by rw [block_of_add]; exact hI) (fun j hj => ?_) (fun j c' hj => ?_)
          · rw [add_of_add]
            have hj' : j < vs.length := by rw [hreps.1]; exact hj
            refine f2 j _ ?_
            rw [List.getD_eq_getElem?_getD, List.getElem?_eq_getElem hj']; rfl
          · have hj' : j < vs.length := by rw [hreps.1]; exact (List.getElem?_eq_some_iff.1 hj).1
            rw [List.getD_eq_getElem?_getD, List.getElem?_eq_getElem hj']
            exact hreps.2 j c' _ hj (List.getElem?_eq_getElem hj')
        · cases h
      · cases h
    · rename_i ti oo n kd k e0 e1 e2
      split at h
      · rename_i e y' b hel
        cases h
        have hr := hev _ _ e1
        rw [(hev _ _ e2).lit_eq]
        generalize hu : a.eval y = u at hr
        cases hr with
        | own h1 hn hs h2 =>
          obtain ⟨A, c, rfl, g2, g3⟩ := hs
          obtain ⟨g, rfl⟩ := g3 (by omega)
          refine ⟨_, run_v (run_indexAt_any (hΘ _ _ e0) hel _ _ c kd k hc.1 hc.2 w), ?_⟩
          rw [Addr.add_lit, Nat.zero_add]
          exact .elt (off := 0) h1 hn (fun e => ⟨c, (h2 e).symm⟩)
      · cases h
    · cases h
  · rename_i T y lo hi ho
    have hx : execOp a.eval o = (do pure (.value (← Instr.sliceAt T (a.eval y) (lo.map a.eval) (hi.map a.eval) none))) := by unfold execOp; rw [ho]; rfl
    rw [hx]
    split at h
    · rename_i ti t xs e0 e1
      have hs := (hev _ _ e1).sl_of
      obtain ⟨A, c, g1, g2, g3, _⟩ := id hs
      simp only [List.cons.injEq, and_true] at g1
      rw [g1] at hs ⊢
      split at h
      · rename_i e y' b kd n hel hl hh
        split at h
        · rename_i hsz
          cases h
          obtain ⟨z, rfl, hz⟩ : ∃ z, hi = some z ∧ ev z = some (.lit (.int kd n)) := by cases hi <;> simp_all
          have hlo : lo = none := by cases lo <;> simp_all
          subst hlo
          have hv := (hev _ _ hz).lit_eq
          refine ⟨_, run_v (run_sliceAt_any (hΘ _ _ e0) hel A xs.length c none (some (a.eval z)) 0 n.toNat (.inl ⟨rfl, rfl⟩) (.inr ⟨kd, n, by rw [hv], by omega, rfl⟩) (by omega) (by omega) w), ?_⟩
          rw [hsz]
          have := Ty.rep_sub hs (Nat.zero_le n.toNat) (by omega)
          exact .sl (by simpa using this)
        · cases h
      · rename_i e y' b kd n hel hl hh
        split at h
        · rename_i hsz
          cases h
          obtain ⟨z, rfl, hz⟩ : ∃ z, lo = some z ∧ ev z = some (.lit (.int kd n)) := by cases lo <;> simp_all
          have hhi : hi = none := by cases hi <;> simp_all
          subst hhi
          have hv := (hev _ _ hz).lit_eq
          refine ⟨_, run_v (run_sliceAt_any (hΘ _ _ e0) hel A xs.length c (some (a.eval z)) none n.toNat xs.length (.inr ⟨kd, n, by rw [hv], by omega, rfl⟩) (.inl ⟨rfl, rfl⟩) (by omega) (by omega) w), ?_⟩
          rw [hsz]
          have := Ty.rep_sub hs (show n.toNat ≤ xs.length by omega) (Nat.le_refl _)
          exact .sl (by simpa using this)
        · cases h
      · rename_i e y' b kd n kd' n' hel hl hh
        split at h
        · rename_i hsz
          cases h
          obtain ⟨z, rfl, hz⟩ : ∃ z, lo = some z ∧ ev z = some (.lit (.int kd n)) := by cases lo <;> simp_all
          obtain ⟨z', rfl, hz'⟩ : ∃ z, hi = some z ∧ ev z = some (.lit (.int kd' n')) := by cases hi <;> simp_all
          have hv := (hev _ _ hz).lit_eq
          have hv' := (hev _ _ hz').lit_eq
          refine ⟨_, run_v (run_sliceAt_any (hΘ _ _ e0) hel A xs.length c (some (a.eval z)) (some (a.eval z')) n.toNat n'.toNat (.inr ⟨kd, n, by rw [hv], by omega, rfl⟩) (.inr ⟨kd', n', by rw [hv'], by omega, rfl⟩) (by omega) (by omega) w), ?_⟩
          rw [hsz]
          exact .sl (Ty.rep_sub hs (by omega) (by omega))
        · cases h
      · cases h
    · cases h
  · rename_i f first caps ho
    have hx : execOp a.eval o = (do pure (.value (← Instr.makeFunc f (first.map a.eval) (caps.map a.eval)))) := by unfold execOp; rw [ho]
    rw [hx]
    split at h
    · rename_i hf
      subst hf
      cases hm : caps.toList.mapM ev with
      | none => rw [hm] at h; cases h
      | some vs =>
        rw [hm] at h; cases h
        have hr := mapM_reps (C := C) hev _ _ hm
        have e : caps.map a.eval = (caps.toList.map a.eval).toArray := by rw [← Array.toList_inj, Array.toList_map]
        have e0 : (#[] : Array Operand).map a.eval = #[] := by rw [← Array.toList_inj, Array.toList_map]; rfl
        rw [e, e0]
        exact ⟨_, run_v rfl, .fn hr.1 hr.2⟩
    · cases h
  · rename_i cl ho
    split at h
    · rename_i y T hcal hargs htys
      have hx : (execOp a.eval o).run P w = (do pure (Next.value (← Builtin.len_ cl.argTypes o.type #[a.eval y])) : Sem Next).run P w := by
        have ha : cl.args = #[y] := by rw [← Array.toList_inj]; simpa using hargs
        unfold execOp; rw [ho]
        simp only [resolve, hcal, ha, Sem.run_bind, Sem.run_pure, Result.andThen_ok]
        simp [invoke, builtin]
      rw [hx]
      have ht : cl.argTypes = #[T] := by rw [← Array.toList_inj]; simpa using htys
      rw [ht]
      split at h
      · rename_i ti t xs e0 e1
        split at h
        · rename_i hel
          cases h
          obtain ⟨⟨e, y', b⟩, hel⟩ := Option.isSome_iff_exists.1 hel
          obtain ⟨hu, _⟩ := (hΘ _ _ e0).el e y' b hel
          obtain ⟨A, c, g1, _⟩ := (hev _ _ e1).sl_of
          simp only [List.cons.injEq, and_true] at g1
          refine ⟨_, run_v (r := .int .i64 xs.length) ?_, .lit _⟩
          simp [Builtin.len_, run_underlying hu, g1, goInt]
        · cases h
      · rename_i ti oo n e0 e1
        split at h
        · rename_i hel
          cases h
          obtain ⟨⟨e, y', b⟩, hel⟩ := Option.isSome_iff_exists.1 hel
          obtain ⟨hu, _⟩ := (hΘ _ _ e0).el e y' b hel
          have hr := hev _ _ e1
          generalize hg : a.eval y = u at hr
          cases hr with
          | own h1 hn hs h2 =>
            obtain ⟨A, c, rfl, _⟩ := hs
            refine ⟨_, run_v (r := .int .i64 n) ?_, .lit _⟩
            simp [Builtin.len_, run_underlying hu, goInt]
        · cases h
      · rename_i ti e0 e1
        split at h
        · rename_i hel
          cases h
          obtain ⟨⟨e, y', b⟩, hel⟩ := Option.isSome_iff_exists.1 hel
          obtain ⟨hu, _⟩ := (hΘ _ _ e0).el e y' b hel
          refine ⟨_, run_v (r := .int .i64 0) ?_, .lit _⟩
          rw [(hev _ _ e1).lit_eq]
          simp [Builtin.len_, run_underlying hu, goInt]
        · cases h
      · rename_i ti s e0 e1
        split at h
        · rename_i hel
          cases h
          refine ⟨_, run_v (r := .int .i64 s.size) ?_, .lit _⟩
          rw [(hev _ _ e1).lit_eq]
          simp [Builtin.len_, run_underlying ((hΘ _ _ e0).str hel), goInt]
        · cases h
      · cases h
    · rename_i y z _ _ hcal hargs htys
      have hx : (execOp a.eval o).run P w = (do pure (Next.value (← Builtin.min_ cl.argTypes o.type #[a.eval y, a.eval z])) : Sem Next).run P w := by
        have ha : cl.args = #[y, z] := by rw [← Array.toList_inj]; simpa using hargs
        unfold execOp; rw [ho]
        simp only [resolve, hcal, ha, Sem.run_bind, Sem.run_pure, Result.andThen_ok]
        simp [invoke, builtin]
      rw [hx]
      split at h
      · rename_i u v e0 e1
        cases h
        have g1 := (hev _ _ e0).lit_eq
        have g2 := (hev _ _ e1).lit_eq
        rw [g1, g2]
        exact ⟨_, run_v (run_min_int2 (P := P) w cl.argTypes o.type .i64 .i64 u v), .lit _⟩
      · cases h
    · cases h
  · cases h
end
end Go.Proofs.Ytgnnmifpfgpllaa
