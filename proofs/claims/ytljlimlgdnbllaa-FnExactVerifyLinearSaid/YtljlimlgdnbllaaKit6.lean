/- Small lemmas: the rows of memory that a call owns, all in one list. -/
import Derived.Test.YtljlimlgdnbllaaKit5
set_option linter.all false
set_option linter.unusedVariables false
set_option linter.unusedSimpArgs false
namespace Go.Proofs.Ytljlimlgdnbllaa
open Go.RowKit
/-- a row of memory: the slice value, its element's type and size, how many, the cells -/
structure Rw where
  v : Value
  e : TypeId
  sz : Nat
  n : Nat
  cs : List Value
def Rw.own (W : World) (lo : Nat) (r : Rw) : Prop := W.ownsRow lo r.e r.sz r.v r.n r.cs
/-- rows of a call's own, no two in one block -/
def Mem (W : World) (lo : Nat) (l : List Rw) : Prop := (∀ r ∈ l, r.own W lo) ∧ l.Pairwise fun r s => apart r.v s.v
/-- a row of ints -/
def ir (v : Value) (xs : List Int) : Rw := ⟨v, 3, 1, xs.length, xs.map (Value.int .i64)⟩
theorem own_below {w w' : World} {lo : Nat} {e : TypeId} {sz n : Nat} {v : Value} {cs : List Value} (h : w.ownsRow lo e sz v n cs) (hb : Below w.heap.size w w') : w'.ownsRow lo e sz v n cs := by
  refine ⟨h.1, ?_⟩
  rcases h.2 with h2 | ⟨g, cap, cur, hv, hg, hh, r⟩
  · exact .inl h2
  · exact .inr ⟨g, cap, cur, hv, hg, (hb.block g (Array.getElem?_eq_some_iff.1 hh).1).trans hh, r⟩
theorem own_lo {w : World} {lo lo' : Nat} {e : TypeId} {sz n : Nat} {v : Value} {cs : List Value} (h : w.ownsRow lo e sz v n cs) (hl : lo' ≤ lo) : w.ownsRow lo' e sz v n cs := by
  refine ⟨h.1, ?_⟩
  rcases h.2 with h2 | ⟨g, cap, cur, hv, hg, r⟩
  · exact .inl h2
  · exact .inr ⟨g, cap, cur, hv, by omega, r⟩
theorem own_shape {w : World} {lo : Nat} {e : TypeId} {sz n : Nat} {v : Value} {cs : List Value} (h : w.ownsRow lo e sz v n cs) : ∃ A c, v = .slice A n c := by
  rcases h.2 with ⟨rfl, h2⟩ | ⟨g, cap, cur, rfl, _⟩
  · exact ⟨none, 0, by rw [h2]⟩
  · exact ⟨_, _, rfl⟩
theorem own_cap {w : World} {lo : Nat} {e : TypeId} {sz n m c : Nat} {A : Option Addr} {cs : List Value} (h : w.ownsRow lo e sz (.slice A m c) n cs) : m = n ∧ n ≤ c := by
  rcases h.2 with ⟨h1, h2⟩ | ⟨g, cap, cur, h1, _, _, h3, _⟩
  · injection h1 with _ e1 e2; omega
  · injection h1 with _ e1 e2; omega
theorem apart.comm {v u : Value} (h : apart v u) : apart u v := h.symm
theorem Mem.nil (W : World) (lo : Nat) : Mem W lo [] := ⟨fun _ h => by simp at h, .nil⟩
theorem Mem.below {w w' : World} {lo : Nat} {l : List Rw} (h : Mem w lo l) (hb : Below w.heap.size w w') : Mem w' lo l := ⟨fun r hr => own_below (h.1 r hr) hb, h.2⟩
theorem Mem.lo {w : World} {lo lo' : Nat} {l : List Rw} (h : Mem w lo l) (hl : lo' ≤ lo) : Mem w lo' l := ⟨fun r hr => own_lo (h.1 r hr) hl, h.2⟩
theorem Mem.set_ {w : World} {lo : Nat} {l : List Rw} (h : Mem w lo l) (p : Addr) (u : Value) (hp : p.block < lo) : Mem (w.setCell p u) lo l := ⟨fun r hr => ownsRow_setCell_below (h.1 r hr) hp u, h.2⟩
theorem Mem.get {w : World} {lo : Nat} {l : List Rw} (h : Mem w lo l) {r : Rw} (hr : r ∈ l) : r.own w lo := h.1 r hr
theorem Mem.perm {w : World} {lo : Nat} {l l' : List Rw} (h : Mem w lo l) (hp : l.Perm l') : Mem w lo l' :=
  ⟨fun r hr => h.1 r (hp.mem_iff.2 hr), (List.Perm.pairwise_iff (fun h => apart.comm h) hp).1 h.2⟩
theorem Mem.sub {w : World} {lo : Nat} {l l' : List Rw} (h : Mem w lo l) (hs : l'.Sublist l) : Mem w lo l' :=
  ⟨fun r hr => h.1 r (hs.subset hr), h.2.sublist hs⟩
theorem Mem.left {w : World} {lo : Nat} {l l' : List Rw} (h : Mem w lo (l ++ l')) : Mem w lo l := h.sub (List.sublist_append_left _ _)
theorem Mem.right {w : World} {lo : Nat} {l l' : List Rw} (h : Mem w lo (l ++ l')) : Mem w lo l' := h.sub (List.sublist_append_right _ _)
theorem Rw.lt {w : World} {lo : Nat} {r : Rw} (h : r.own w lo) : ∀ k, r.v.ownBlock = some k → lo ≤ k ∧ k < w.heap.size := World.ownsRow.lt h
theorem rows_apart {w w' : World} {lo lo' : Nat} {r s : Rw} (h : r.own w lo) (h' : s.own w' lo') (hle : w.heap.size ≤ lo') : apart r.v s.v := by
  unfold apart
  cases hv : r.v.ownBlock with
  | none => exact .inl rfl
  | some k =>
    refine .inr fun e => ?_
    have h1 := h.lt k hv
    have h2 := h'.lt k e.symm
    omega
/-- what was owned before a call, and what the call has made -/
theorem Mem.join {w w' : World} {lo : Nat} {l l' : List Rw} (h : Mem w lo l) (h' : Mem w' w.heap.size l') (hb : Below w.heap.size w w') (hl : lo ≤ w.heap.size) : Mem w' lo (l ++ l') := by
  refine ⟨fun r hr => ?_, List.pairwise_append.2 ⟨h.2, h'.2, fun r hr s hs => rows_apart (h.1 r hr) (h'.1 s hs) (Nat.le_refl _)⟩⟩
  rcases List.mem_append.1 hr with h1 | h1
  · exact own_below (h.1 r h1) hb
  · exact own_lo (h'.1 r h1) hl
theorem Mem.join' {w w1 w' : World} {lo lo' : Nat} {l l' : List Rw} (h : Mem w lo l) (h' : Mem w' lo' l') (hb : Below w.heap.size w w') (hl : lo ≤ lo') (hs : w.heap.size ≤ lo') : Mem w' lo (l ++ l') := by
  refine ⟨fun r hr => ?_, List.pairwise_append.2 ⟨h.2, h'.2, fun r hr s hs2 => rows_apart (h.1 r hr) (h'.1 s hs2) hs⟩⟩
  rcases List.mem_append.1 hr with h1 | h1
  · exact own_below (h.1 r h1) hb
  · exact own_lo (h'.1 r h1) hl
theorem Mem.one {w : World} {lo : Nat} {r : Rw} (h : r.own w lo) : Mem w lo [r] := ⟨fun s hs => by simp at hs; subst hs; exact h, by simp⟩
/-- one row is written, or has moved to a new block -/
theorem Mem.upd {w w' : World} {lo : Nat} {l1 l2 : List Rw} {r r' : Rw} (h : Mem w lo (l1 ++ r :: l2)) (hg : w.grownBy w' r.v.ownBlock) (hr : r'.own w' lo)
    (hv : r'.v.ownBlock = r.v.ownBlock ∨ r'.v.ownBlock = some w.heap.size) : Mem w' lo (l1 ++ r' :: l2) := by
  obtain ⟨h1, h2⟩ := h
  rw [List.pairwise_append] at h2
  obtain ⟨p1, p2, p3⟩ := h2
  rw [List.pairwise_cons] at p2
  have kept : ∀ s : Rw, s.own w lo → apart s.v r.v → s.own w' lo := fun s hs ha => World.ownsRow.kept hs hg ha
  have new : ∀ s : Rw, s.own w lo → apart s.v r.v → apart s.v r'.v := fun s hs ha => by
    rcases hv with hv | hv
    · unfold apart at ha ⊢; rw [hv]; exact ha
    · unfold apart
      cases hk : s.v.ownBlock with
      | none => exact .inl rfl
      | some k =>
        refine .inr fun e => ?_
        have := (hs.lt k hk).2
        rw [hv] at e; injection e with e; omega
  refine ⟨fun s hs => ?_, List.pairwise_append.2 ⟨p1, List.pairwise_cons.2 ⟨fun s hs => ?_, p2.2⟩, fun s hs t ht => ?_⟩⟩
  · rcases List.mem_append.1 hs with hs | hs
    · exact kept s (h1 s (by simp [hs])) (p3 s hs r (by simp))
    · rcases List.mem_cons.1 hs with rfl | hs
      · exact hr
      · exact kept s (h1 s (by simp [hs])) (p2.1 s hs).comm
  · exact (new s (h1 s (by simp [hs])) (p2.1 s hs).comm).comm
  · rcases List.mem_cons.1 ht with rfl | ht
    · exact new s (h1 s (by simp [hs])) (p3 s hs r (by simp))
    · exact p3 s hs t (by simp [ht])
theorem ir_own {w : World} {lo : Nat} {v : Value} {xs : List Int} : (ir v xs).own w lo = OI w lo v xs := rfl
theorem Mem.oi {w : World} {lo : Nat} {l : List Rw} {v : Value} {xs : List Int} (h : Mem w lo l) (hr : ir v xs ∈ l) : OI w lo v xs := h.1 _ hr
theorem Mem.ri {w : World} {lo : Nat} {l : List Rw} {A : Option Addr} {c : Nat} {xs : List Int} (h : Mem w lo l) (hr : ir (.slice A xs.length c) xs ∈ l) : RI w w.heap.size A xs := (h.oi hr).ri
theorem Mem.of_oi {w : World} {lo : Nat} {v : Value} {xs : List Int} (h : OI w lo v xs) : Mem w lo [ir v xs] := Mem.one h

/-! atoms: what one cell of a row of structs holds -/
inductive At where
  | i (n : Int)
  | b (x : Bool)
  | s (A : Option Addr) (c : Nat) (xs : List Int)
/-- the same without the addresses -/
inductive Da where
  | i (n : Int)
  | b (x : Bool)
  | s (xs : List Int)
  deriving DecidableEq
def At.val : At → Value
  | .i n => .int .i64 n
  | .b x => .bool x
  | .s A c xs => .slice A xs.length c
def At.da : At → Da
  | .i n => .i n
  | .b x => .b x
  | .s _ _ xs => .s xs
def At.rows : At → List Rw
  | .s A c xs => [ir (.slice A xs.length c) xs]
  | _ => []
def At.ok (W : World) (B : Nat) : At → Prop
  | .s A c xs => RI W B A xs ∧ xs.length ≤ c ∧ xs.length ≤ 1048576
  | _ => True
theorem At.ok.next {w w' : World} {a : At} (h : a.ok w w.heap.size) (hb : Below w.heap.size w w') : a.ok w' w'.heap.size := by
  cases a with
  | s A c xs => exact ⟨h.1.next hb, h.2⟩
  | _ => trivial
/-- a slice of structs that reads as rows of atoms -/
def RA (W : World) (B sz : Nat) (A : Option Addr) (l : List (List At)) : Prop := Reads W B sz A l.length (l.flatten.map At.val) ∧ (∀ r ∈ l, r.length = sz) ∧ ∀ r ∈ l, ∀ a ∈ r, a.ok W B
theorem RA.next {w w' : World} {sz : Nat} {A : Option Addr} {l : List (List At)} (h : RA w w.heap.size sz A l) (hb : Below w.heap.size w w') : RA w' w'.heap.size sz A l :=
  ⟨(Reads.below h.1 hb).more hb.size, h.2.1, fun r hr a ha => (h.2.2 r hr a ha).next hb⟩
theorem flatten_get {α : Type} {sz : Nat} : ∀ (l : List (List α)) (_ : ∀ r ∈ l, r.length = sz) (k j : Nat) (hk : k < l.length) (hj : j < sz), l.flatten[k * sz + j]? = (l[k])[j]?
  | r :: l, h, 0, j, _, hj => by
    have hr := h r (by simp)
    simp only [List.flatten_cons, Nat.zero_mul, Nat.zero_add, List.getElem_cons_zero]
    rw [List.getElem?_append_left (by omega)]
  | r :: l, h, k + 1, j, hk, hj => by
    have hr := h r (by simp)
    simp only [List.flatten_cons, List.getElem_cons_succ]
    rw [List.getElem?_append_right (by rw [hr, Nat.succ_mul]; omega), hr]
    rw [show (k + 1) * sz + j - sz = k * sz + j by rw [Nat.succ_mul]; omega]
    exact flatten_get l (fun r hr => h r (by simp [hr])) k j (by simpa using hk) hj
theorem RA.at_ {W : World} {B sz : Nat} {A : Option Addr} {l : List (List At)} {k : Nat} (h : RA W B sz A l) (hk : k < l.length) :
    ∃ ad, A = some ad ∧ ad.block < B ∧ ∀ (j : Nat) (a : At), (l[k])[j]? = some a → W.cell? (ad.add (k * sz + j)) = some a.val := by
  obtain ⟨ad, e, hb, hc⟩ := h.1.2 (by omega)
  refine ⟨ad, e, hb, fun j a ha => hc _ _ ?_⟩
  have hlen := h.2.1 l[k] (List.getElem_mem hk)
  have hj : j < sz := by
    have := (List.getElem?_eq_some_iff.1 ha).1
    omega
  rw [List.getElem?_map, flatten_get l h.2.1 k j hk hj, ha]; rfl
theorem RA.ok {W : World} {B sz : Nat} {A : Option Addr} {l : List (List At)} {k : Nat} (h : RA W B sz A l) (hk : k < l.length) {a : At} (ha : a ∈ l[k]) : a.ok W B := h.2.2 _ (List.getElem_mem hk) a ha
/-- the rows that a slice of structs owns -/
def srow (v : Value) (e : TypeId) (sz : Nat) (l : List (List At)) : List Rw := ⟨v, e, sz, l.length, l.flatten.map At.val⟩ :: l.flatten.flatMap At.rows
theorem Mem.ra {w : World} {lo : Nat} {m : List Rw} {A : Option Addr} {c : Nat} {e : TypeId} {sz : Nat} {l : List (List At)} (h : Mem w lo m) (hm : ∀ r ∈ srow (.slice A l.length c) e sz l, r ∈ m) (hl : ∀ r ∈ l, r.length = sz) (hx : ∀ r ∈ l, ∀ a ∈ r, ∀ A c xs, a = At.s A c xs → xs.length ≤ 1048576) : RA w w.heap.size sz A l := by
  refine ⟨Reads.of_own (h.1 _ (hm _ (List.mem_cons_self ..))), hl, fun r hr a ha => ?_⟩
  cases a with
  | s A c xs =>
    have ho : OI w lo (.slice A xs.length c) xs := h.oi (hm _ (List.mem_cons_of_mem _ (List.mem_flatMap.2 ⟨.s A c xs, List.mem_flatten.2 ⟨r, hr, ha⟩, by simp [At.rows]⟩)))
    exact ⟨ho.ri, ho.cap rfl, hx r hr _ ha A c xs rfl⟩
  | _ => trivial
/-- the data of rows of atoms -/
def das (l : List (List At)) : List (List Da) := l.map (·.map At.da)
end Go.Proofs.Ytljlimlgdnbllaa
