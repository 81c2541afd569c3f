import Derived.Test.YtgnnmifpfgpllaaZKit
import Derived.Deep.RegionHeld3
import Derived.Deep.RegionLawGrows
/- A region that draws its order, walked once: each operation by a contract of its own that no order disturbs. -/
set_option linter.all false
set_option linter.unusedVariables false
set_option linter.unusedSimpArgs false
namespace Go.Proofs.Ytgnnmifpfgpllaa
open Go.RowKit
/-- the frame with the operations' values put in, in the text's order -/
def fillB : List (Option Tmp) → Nat → Act → (Nat → Value) → Act
  | [], _, a, _ => a
  | d :: l, i, a, x => fillB l (i + 1) (a.put d (x i)) x
/-- what an operation waits for: the slots' values, and what is known of them -/
def depsOK (R : Nat → Value → World → Prop) (ds : List (Option Tmp)) (a : Act) (w : World) : List Edge → Prop
  | [] => True
  | e :: l => (Region.binds .any e = true → match ds[e.on]? with | some (some k) => ∃ v, a.tmps[k]? = some v ∧ R e.on v w | _ => True) ∧ depsOK R ds a w l
theorem depsOK_of {R : Nat → Value → World → Prop} {ds : List (Option Tmp)} {a : Act} {w : World} : ∀ {l : List Edge}, (∀ e ∈ l, Region.binds .any e = true → ∀ k, ds[e.on]? = some (some k) → ∃ v, a.tmps[k]? = some v ∧ R e.on v w) → depsOK R ds a w l
  | [], _ => trivial
  | e :: _, h => ⟨fun hb => by
      split
      · rename_i k hk; exact h e (by simp) hb k hk
      · trivial, depsOK_of fun e he => h e (by simp [he])⟩
theorem depsOK_congr {R R' : Nat → Value → World → Prop} {ds : List (Option Tmp)} {a : Act} {w : World} {n : Nat} (hR : ∀ j, j < n → R' j = R j) : ∀ {l : List Edge} (_ : ∀ e ∈ l, Region.binds .any e = true → e.on < n) (_ : depsOK R' ds a w l), depsOK R ds a w l
  | [], _, _ => trivial
  | e :: l, hl, h => ⟨fun hb => by rw [← hR e.on (hl e (by simp) hb)]; exact h.1 hb, depsOK_congr hR (fun e he => hl e (by simp [he])) h.2⟩
def unl (n : Nat) (listed : Array Bool) : Nat := (List.range n).countP fun i => !listed.getD i true
theorem countP_lt {α : Type} {p q : α → Bool} : ∀ {l : List α} {a : α}, a ∈ l → (∀ b, q b = true → p b = true) → p a = true → q a = false → l.countP q < l.countP p
  | b :: l, a, h, hqp, hp, hq => by
    have hle : l.countP q ≤ l.countP p := List.countP_mono_left fun b _ => hqp b
    rw [List.countP_cons, List.countP_cons]
    rcases List.mem_cons.1 h with rfl | h
    · rw [hp, hq]; simp; omega
    · have := countP_lt h hqp hp hq
      by_cases hb : q b = true
      · rw [if_pos hb, if_pos (hqp b hb)]; omega
      · rw [if_neg hb]; split <;> omega
theorem getD_set_self {l : Array Bool} {i : Nat} (h : l.getD i true = false) : (l.setIfInBounds i true).getD i false = true := by
  have hi : i < l.size := by
    rcases Nat.lt_or_ge i l.size with h1 | h1
    · exact h1
    · have h2 : ¬ i < l.size := by omega
      simp [Array.getD, h2] at h
  simp [Array.getD, hi]
theorem getD_set_oth {l : Array Bool} {i j : Nat} (d : Bool) (h : j ≠ i) : (l.setIfInBounds i true).getD j d = l.getD j d := by
  simp only [Array.getD_eq_getD_getElem?]
  rw [Array.getElem?_setIfInBounds_ne (Ne.symm h)]
/-- a frame that differs from a0 in the region's own slots alone -/
structure Fits (a0 : Act) (ds : List (Option Tmp)) (a : Act) : Prop where
  defers : a.defers = a0.defers
  size : a.tmps.size = a0.tmps.size
  base : ∀ (k : Tmp) v, a0.tmps[k]? = some v → ds.contains (some k) = false → a.tmps[k]? = some v
theorem Fits.put {a0 a : Act} {ds : List (Option Tmp)} (h : Fits a0 ds a) {d : Option Tmp} (hd : d ∈ ds) (v : Value) : Fits a0 ds (a.put d v) := by
  cases d with
  | none => exact h
  | some k =>
    refine ⟨h.defers, by simp [Act.put, h.size], fun j u hj hn => ?_⟩
    have hne : k ≠ j := fun e => by
      subst e
      rw [List.contains_iff_mem.2 hd] at hn; cases hn
    simp only [Act.put]
    rw [Array.getElem?_setIfInBounds_ne hne]
    exact h.base j u hj hn
theorem fillB_eq (a : Act) (x : Nat → Value) : ∀ (l : List (Option Tmp)) (i : Nat) (a' : Act), a'.defers = a.defers → a'.tmps.size = a.tmps.size → (∀ k : Tmp, some k ∉ l → a'.tmps[k]? = a.tmps[k]?) → (∀ j (k : Tmp), l[j]? = some (some k) → x (i + j) = (a.tmps[k]?).getD undef) → fillB l i a' x = a
  | [], i, a', hd, hs, hb, _ => by
    unfold fillB
    have : a'.tmps = a.tmps := by
      apply Array.ext_getElem?
      intro k; exact hb k (by simp)
    cases a; cases a'; simp at *; exact ⟨this, hd⟩
  | d :: l, i, a', hd, hs, hb, hx => by
    unfold fillB
    refine fillB_eq a x l (i + 1) (a'.put d (x i)) ?_ ?_ ?_ ?_
    · cases d <;> exact hd
    · cases d with
      | none => exact hs
      | some k => simp [Act.put, hs]
    · intro k hk
      cases d with
      | none => exact hb k (by simp [hk])
      | some j =>
        by_cases e : j = k
        · subst e
          have h0 := hx 0 j (by simp)
          simp only [Nat.add_zero] at h0
          simp only [Act.put]
          rcases Nat.lt_or_ge j a'.tmps.size with h1 | h1
          · rw [Array.getElem?_setIfInBounds_self_of_lt h1, h0, Array.getElem?_eq_getElem (by omega)]; rfl
          · rw [Array.getElem?_eq_none (by simpa using h1), Array.getElem?_eq_none (by omega)]
        · simp only [Act.put]
          rw [Array.getElem?_setIfInBounds_ne e]
          exact hb k (by simp [hk]; exact fun h => e h.symm)
    · intro j k hj
      have := hx (j + 1) k (by simpa using hj)
      rw [show i + 1 + j = i + (j + 1) by omega]; exact this
def distinctB (ds : List (Option Tmp)) : Bool := (List.range ds.length).all fun i => (List.range i).all fun j => match ds[i]?, ds[j]? with | some (some a), some (some b) => a != b | _, _ => true
theorem distinct_of {ds : List (Option Tmp)} (h : distinctB ds = true) {i j : Nat} {k : Tmp} (hi : ds[i]? = some (some k)) (hj : ds[j]? = some (some k)) : i = j := by
  have key : ∀ i j : Nat, j < i → ds[i]? = some (some k) → ds[j]? = some (some k) → False := by
    intro i j hlt hi hj
    have hil := (List.getElem?_eq_some_iff.1 hi).1
    have h1 := List.all_eq_true.1 (List.all_eq_true.1 h i (List.mem_range.2 hil)) j (List.mem_range.2 hlt)
    rw [hi, hj] at h1
    simp at h1
  rcases Nat.lt_trichotomy i j with h1 | h1 | h1
  · exact (key j i h1 hj hi).elim
  · exact h1
  · exact (key i j h1 hi hj).elim
section
variable {P : Program} {ops : Array Oper} {Q : Exit → Act → World → Prop} {S : World → Prop} {R : Nat → Value → World → Prop} {a0 : Act} {ds : List (Option Tmp)}
/-- what an operation does, in whatever order -/
def RelOp (P : Program) (ops : Array Oper) (Q : Exit → Act → World → Prop) (S : World → Prop) (a0 : Act) (ds : List (Option Tmp)) (R : Nat → Value → World → Prop) (o : Oper) (r : Value → World → Prop) : Prop :=
  ∀ a w, S w → (∀ (k : Tmp) v, a0.tmps[k]? = some v → ds.contains (some k) = false → a.tmps[k]? = some v) → depsOK R ds a w o.after.toList → ∀ K : Act → World → Prop, (∀ v w', r v w' → Below w.heap.size w w' → K (a.put o.dst v) w') →
    if Region.wanted o (yielded ops a.tmps) = true then Oper.wp P o a w K Q else K (a.put o.dst undef) w
/-- what an operation does that makes rows -/
def RelOpF (P : Program) (ops : Array Oper) (Q : Exit → Act → World → Prop) (S : World → Prop) (a0 : Act) (ds : List (Option Tmp)) (R : Nat → Value → World → Prop) (o : Oper) (r : Value → List Rw → Prop) : Prop :=
  ∀ a w, S w → (∀ (k : Tmp) v, a0.tmps[k]? = some v → ds.contains (some k) = false → a.tmps[k]? = some v) → depsOK R ds a w o.after.toList → ∀ K : Act → World → Prop, (∀ v w' ys, r v ys → Mem w' w.heap.size ys → Below w.heap.size w w' → K (a.put o.dst v) w') →
    if Region.wanted o (yielded ops a.tmps) = true then Oper.wp P o a w K Q else K (a.put o.dst undef) w
/-- a value with rows of its own -/
def hasR (lo : Nat) (r : Value → List Rw → Prop) : Value → World → Prop := fun v W => ∃ ys, r v ys ∧ Mem W lo ys
theorem stable_hasR (lo : Nat) (r : Value → List Rw → Prop) : ∀ v w w', hasR lo r v w → Below w.heap.size w w' → hasR lo r v w' := fun _ _ _ ⟨ys, h1, h2⟩ hb => ⟨ys, h1, h2.below hb⟩
/-- what an operation does that looks at rows of the region's own: they are apart -/
def RelOpA (P : Program) (ops : Array Oper) (Q : Exit → Act → World → Prop) (S : World → Prop) (a0 : Act) (ds : List (Option Tmp)) (lo : Nat) (F : Nat → Bool) (G : Nat → Value → List Rw → Prop) (R : Nat → Value → World → Prop) (o : Oper) (r : Value → World → Prop) : Prop :=
  ∀ a w, S w → (∀ (k : Tmp) v, a0.tmps[k]? = some v → ds.contains (some k) = false → a.tmps[k]? = some v) → depsOK R ds a w o.after.toList →
    (∃ y : Nat → List Rw, (∀ (i : Nat) (k : Tmp) (v : Value), F i = true → ds[i]? = some (some k) → a.tmps[k]? = some v → (o.after.any fun e => Region.binds .any e && e.on == i) = true → G i v (y i) ∧ Mem w lo (y i)) ∧
      (∀ i j, F i = true → F j = true → i ≠ j → (o.after.any fun e => Region.binds .any e && e.on == i) = true → (o.after.any fun e => Region.binds .any e && e.on == j) = true → ∀ r ∈ y i, ∀ s ∈ y j, apart r.v s.v)) →
    ∀ K : Act → World → Prop, (∀ v w', r v w' → Below w.heap.size w w' → K (a.put o.dst v) w') →
    if Region.wanted o (yielded ops a.tmps) = true then Oper.wp P o a w K Q else K (a.put o.dst undef) w
theorem RelOpA.congr {P : Program} {ops : Array Oper} {Q : Exit → Act → World → Prop} {S : World → Prop} {a0 : Act} {ds : List (Option Tmp)} {lo : Nat} {F F' : Nat → Bool} {G G' : Nat → Value → List Rw → Prop} {R R' : Nat → Value → World → Prop} {o : Oper} {r : Value → World → Prop} {n : Nat} (h : RelOpA P ops Q S a0 ds lo F G R o r)
    (hord : ∀ e ∈ o.after, Region.binds .any e = true → e.on < n) (hR : ∀ j, j < n → R' j = R j) (hF : ∀ j, j < n → F' j = F j) (hG : ∀ j, j < n → G' j = G j) : RelOpA P ops Q S a0 ds lo F' G' R' o r := by
  have hlt : ∀ i, (o.after.any fun e => Region.binds .any e && e.on == i) = true → i < n := by
    intro i h1
    obtain ⟨e, he, h3⟩ := Array.any_eq_true'.1 h1
    simp at h3
    rw [← h3.2]; exact hord e he h3.1
  intro a w hS hb hd ⟨y, hy, hap⟩ K hK
  refine h a w hS hb (depsOK_congr hR (fun e he => hord e (by simpa using he)) hd) ⟨y, fun i k v f1 d1 e1 a1 => ?_, fun i j f1 f2 hne a1 a2 => ?_⟩ K hK
  · have := hy i k v (by rw [hF i (hlt i a1)]; exact f1) d1 e1 a1
    rwa [hG i (hlt i a1)] at this
  · exact hap i j (by rw [hF i (hlt i a1)]; exact f1) (by rw [hF j (hlt j a2)]; exact f2) hne a1 a2
/-- an operation's value in a frame -/
def slotv (ds : List (Option Tmp)) (a : Act) (j : Nat) : Value := match ds[j]? with | some (some k) => (a.tmps[k]?).getD undef | _ => undef
/-- an operation whose value is a function of those that it waits for -/
def RelOpE (P : Program) (ops : Array Oper) (Q : Exit → Act → World → Prop) (S : World → Prop) (a0 : Act) (ds : List (Option Tmp)) (R : Nat → Value → World → Prop) (o : Oper) (js : List Nat) (f : List Value → Value) (r : Value → World → Prop) : Prop :=
  ∀ a w, S w → (∀ (k : Tmp) v, a0.tmps[k]? = some v → ds.contains (some k) = false → a.tmps[k]? = some v) → depsOK R ds a w o.after.toList → ∀ K : Act → World → Prop, (r (f (js.map (slotv ds a))) w → K (a.put o.dst (f (js.map (slotv ds a)))) w) →
    if Region.wanted o (yielded ops a.tmps) = true then Oper.wp P o a w K Q else K (a.put o.dst undef) w
/-- the operations that wait for all that stand before them -/
def TailWp (P : Program) (ops : Array Oper) (Q : Exit → Act → World → Prop) : List Oper → Act → World → Prop
  | [], a, w => Q .normal a w
  | o :: l, a, w => ∀ K : Act → World → Prop, (∀ a w, TailWp P ops Q l a w → K a w) → if Region.wanted o (yielded ops a.tmps) = true then Oper.wp P o a w K Q else K (a.put o.dst undef) w
theorem unl_set {n : Nat} {listed : Array Bool} {i : Nat} (hsz : listed.size = n) (hlt : i < n) (h1 : listed.getD i true = false) : unl n (listed.setIfInBounds i true) < unl n listed := by
  unfold unl
  refine countP_lt (List.mem_range.2 hlt) (fun b hb => ?_) (by rw [h1]; rfl) ?_
  · by_cases hbi : b = i
    · subst hbi; rw [h1]; rfl
    · rwa [getD_set_oth true hbi] at hb
  · have h2 := getD_set_self h1
    have : (listed.setIfInBounds i true).getD i true = true := by
      simp [Array.getD, hsz, hlt] at h2 ⊢
    rw [this]; rfl
theorem getD_tf {l : Array Bool} {i : Nat} (h : i < l.size) : l.getD i true = l.getD i false := by simp [Array.getD, h]
theorem unl_zero {n : Nat} {listed : Array Bool} (hsz : listed.size = n) (h : unl n listed ≤ 0) : ∀ i, i < n → listed.getD i false = true := by
  intro i hi
  have h0 : unl n listed = 0 := by omega
  unfold unl at h0
  rw [List.countP_eq_zero] at h0
  have := h0 i (List.mem_range.2 hi)
  rw [getD_tf (by omega)] at this
  simpa using this
theorem ready_nil {listed : Array Bool} (hsz : listed.size = ops.size) (h : ∀ i, i < ops.size → listed.getD i false = true) : Region.ready .any ops listed = [] := by
  rw [List.eq_nil_iff_forall_not_mem]
  intro i hi
  obtain ⟨h1, o, ho, _⟩ := mem_ready.1 hi
  have hlt : i < ops.size := (Array.getElem?_eq_some_iff.1 ho).1
  rw [getD_tf (by omega), h i hlt] at h1; cases h1
theorem tail_any (n : Nat) (htn : ∀ (i : Nat) (o : Oper), ops[i]? = some o → ∀ e ∈ o.after, Region.binds .any e = true → e.on < i) (htail : ∀ (i : Nat) (o : Oper), ops[i]? = some o → n ≤ i → ∀ j, j < i → ∃ e ∈ o.after, Region.binds .any e = true ∧ e.on = j) :
    ∀ (fuel t : Nat) (listed : Array Bool) (a : Act) (w : World), n ≤ t → t ≤ ops.size → listed.size = ops.size → unl ops.size listed ≤ fuel → (∀ i, i < t → listed.getD i false = true) → (∀ i, t ≤ i → listed.getD i false = false) →
      TailWp P ops Q (ops.toList.drop t) a w → wpAny P .any ops Q fuel listed a w := by
  intro fuel
  induction fuel with
  | zero =>
    intro t listed a w hn ht hsz hu h1 h2 hT
    have hall := unl_zero hsz hu
    have e : t = ops.size := by
      rcases Nat.lt_or_ge t ops.size with h | h
      · have := hall t h; rw [h2 t (Nat.le_refl _)] at this; cases this
      · omega
    subst e
    rw [List.drop_of_length_le (by simp)] at hT
    exact ⟨ready_nil hsz hall, hT⟩
  | succ fuel ih =>
    intro t listed a w hn ht hsz hu h1 h2 hT
    refine ⟨fun hr => ?_, fun i hi => ?_⟩
    · rcases Nat.lt_or_ge t ops.size with h | h
      · exfalso
        have hmem : t ∈ Region.ready .any ops listed := mem_ready.2 ⟨by rw [getD_tf (by omega)]; exact h2 t (Nat.le_refl _), ops[t], Array.getElem?_eq_getElem h, fun e he hb => ?_⟩
        · rw [hr] at hmem; cases hmem
        · exact h1 e.on (htn t ops[t] (Array.getElem?_eq_getElem h) e he hb)
      · rw [List.drop_of_length_le (by simp; omega)] at hT
        exact hT
    · obtain ⟨hi1, o, ho, hdep⟩ := mem_ready.1 hi
      have hlt : i < ops.size := (Array.getElem?_eq_some_iff.1 ho).1
      have hit : i = t := by
        rcases Nat.lt_trichotomy i t with h | h | h
        · rw [getD_tf (by omega), h1 i h] at hi1; cases hi1
        · exact h
        · obtain ⟨e, he, hb, hon⟩ := htail i o ho (by omega) t h
          have := hdep e he hb
          rw [hon, h2 t (Nat.le_refl _)] at this; cases this
      subst hit
      have hd : ops.toList.drop i = o :: ops.toList.drop (i + 1) := by
        rw [List.drop_eq_getElem_cons (by simpa using hlt)]
        congr 1
        rw [Array.getElem?_eq_getElem hlt] at ho
        injection ho
      rw [hd] at hT
      have hgo := hT (wpAny P .any ops Q fuel (listed.setIfInBounds i true)) fun a w h => ih (i + 1) _ a w (by omega) (by omega) (by simpa using hsz) (by have := unl_set hsz hlt hi1; omega)
        (fun j hj => by
          rcases Nat.lt_or_eq_of_le (Nat.le_of_lt_succ hj) with h3 | h3
          · rw [getD_set_oth false (by omega)]; exact h1 j h3
          · subst h3; exact getD_set_self hi1)
        (fun j hj => by rw [getD_set_oth false (by omega)]; exact h2 j (by omega)) h
      unfold wpOp
      simp only [ho]
      split
      · rename_i hw
        rw [if_pos hw] at hgo
        exact .inl hgo
      · rename_i hw
        rw [if_neg hw] at hgo
        exact hgo
end
def eqV (V : Value) : Value → World → Prop := fun v _ => v = V
def relStable (r : Value → World → Prop) : Prop := ∀ v w w', r v w → Below w.heap.size w w' → r v w'
theorem stable_eq (V : Value) : relStable (eqV V) := fun _ _ _ h _ => h
def updG (G : Nat → Value → List Rw → Prop) (i : Nat) (r : Value → List Rw → Prop) : Nat → Value → List Rw → Prop := fun j => if j = i then r else G j
def updE (E : Nat → Option (List Nat × (List Value → Value))) (i : Nat) (r : Option (List Nat × (List Value → Value))) : Nat → Option (List Nat × (List Value → Value)) := fun j => if j = i then r else E j
def updF (F : Nat → Bool) (i : Nat) (b : Bool) : Nat → Bool := fun j => if j = i then b else F j
def updR (R : Nat → Value → World → Prop) (i : Nat) (r : Value → World → Prop) : Nat → Value → World → Prop := fun j => if j = i then r else R j
section
variable (P : Program) (ops : Array Oper) (Q : Exit → Act → World → Prop) (S : World → Prop) (a0 : Act) (ds : List (Option Tmp)) (w0 : World)
/-- the operations that are left, the facts on the values so far -/
def Chain : (Nat → Bool) → (Nat → Value → List Rw → Prop) → (Nat → Option (List Nat × (List Value → Value))) → (Nat → Value → World → Prop) → Nat → Nat → List Oper → Prop
  | F, G, E, R, 0, _, l => ∀ x w, S w → Below w0.heap.size w0 w → (∀ i k, ds[i]? = some (some k) → R i (x i) w) →
      ∀ y : Nat → List Rw, (∀ i k, F i = true → ds[i]? = some (some k) → G i (x i) (y i) ∧ Mem w w0.heap.size (y i)) → (∀ i j, i < ds.length → j < ds.length → F i = true → F j = true → i ≠ j → ∀ r ∈ y i, ∀ s ∈ y j, apart r.v s.v) → (∀ i js f, i < ds.length → E i = some (js, f) → x i = f (js.map x)) → TailWp P ops Q l (fillB ds 0 a0 x) w
  | _, _, _, _, _ + 1, _, [] => False
  | F, G, E, R, m + 1, i, o :: l => (∃ r, relStable r ∧ (RelOp P ops Q S a0 ds R o r ∨ RelOpA P ops Q S a0 ds w0.heap.size F G R o r) ∧ Chain (updF F i false) G (updE E i none) (updR R i r) m (i + 1) l) ∨
      (∃ r, RelOpF P ops Q S a0 ds R o r ∧ Chain (updF F i true) (updG G i r) (updE E i none) (updR R i (hasR w0.heap.size r)) m (i + 1) l) ∨
      (∃ js f r, (relStable r ∧ (js.all fun j => o.after.any fun e => Region.binds .any e && e.on == j) = true ∧ o.dst ≠ none ∧ RelOpE P ops Q S a0 ds R o js f r) ∧ Chain (updF F i false) G (updE E i (some (js, f))) (updR R i r) m (i + 1) l)
end
section
variable {P : Program} {ops : Array Oper} {Q : Exit → Act → World → Prop} {S : World → Prop} {a0 : Act} {ds : List (Option Tmp)} {w0 : World} {F : Nat → Bool} {G : Nat → Value → List Rw → Prop} {E : Nat → Option (List Nat × (List Value → Value))} {R : Nat → Value → World → Prop} {m i : Nat} {o : Oper} {l : List Oper}
theorem Chain.rel (r : Value → World → Prop) (hs : relStable r) (h : RelOp P ops Q S a0 ds R o r) (hc : Chain P ops Q S a0 ds w0 (updF F i false) G (updE E i none) (updR R i r) m (i + 1) l) : Chain P ops Q S a0 ds w0 F G E R (m + 1) i (o :: l) := .inl ⟨r, hs, .inl h, hc⟩
theorem Chain.looks (r : Value → World → Prop) (hs : relStable r) (h : RelOpA P ops Q S a0 ds w0.heap.size F G R o r) (hc : Chain P ops Q S a0 ds w0 (updF F i false) G (updE E i none) (updR R i r) m (i + 1) l) : Chain P ops Q S a0 ds w0 F G E R (m + 1) i (o :: l) := .inl ⟨r, hs, .inr h, hc⟩
theorem Chain.fresh (r : Value → List Rw → Prop) (h : RelOpF P ops Q S a0 ds R o r) (hc : Chain P ops Q S a0 ds w0 (updF F i true) (updG G i r) (updE E i none) (updR R i (hasR w0.heap.size r)) m (i + 1) l) : Chain P ops Q S a0 ds w0 F G E R (m + 1) i (o :: l) := .inr (.inl ⟨r, h, hc⟩)
theorem Chain.fn (js : List Nat) (f : List Value → Value) (r : Value → World → Prop) (hs : relStable r) (hj : (js.all fun j => o.after.any fun e => Region.binds .any e && e.on == j) = true) (hd : o.dst ≠ none) (h : RelOpE P ops Q S a0 ds R o js f r) (hc : Chain P ops Q S a0 ds w0 (updF F i false) G (updE E i (some (js, f))) (updR R i r) m (i + 1) l) : Chain P ops Q S a0 ds w0 F G E R (m + 1) i (o :: l) := .inr (.inr ⟨js, f, r, ⟨hs, hj, hd, h⟩, hc⟩)
theorem Chain.det {V : Value} (h : RelOp P ops Q S a0 ds R o (eqV V)) (hc : Chain P ops Q S a0 ds w0 (updF F i false) G (updE E i none) (updR R i (eqV V)) m (i + 1) l) : Chain P ops Q S a0 ds w0 F G E R (m + 1) i (o :: l) := .inl ⟨_, stable_eq V, .inl h, hc⟩
end
section
variable {P : Program} {ops : Array Oper} {Q : Exit → Act → World → Prop} {S : World → Prop} {a0 : Act} {ds : List (Option Tmp)} {w0 : World}
theorem Chain.out (hord : ∀ (i : Nat) (o : Oper), ops[i]? = some o → ∀ e ∈ o.after, Region.binds .any e = true → e.on < i) : ∀ (m : Nat) (l : List Oper) (F : Nat → Bool) (G : Nat → Value → List Rw → Prop) (E : Nat → Option (List Nat × (List Value → Value))) (R : Nat → Value → World → Prop) (i : Nat) (_ : ∀ j, l[j]? = ops[i + j]?) (_ : Chain P ops Q S a0 ds w0 F G E R m i l) (_ : ∀ j, relStable (R j)),
    ∃ (F' : Nat → Bool) (G' : Nat → Value → List Rw → Prop) (E' : Nat → Option (List Nat × (List Value → Value))) (R' : Nat → Value → World → Prop), (∀ j, j < i → R' j = R j ∧ F' j = F j ∧ G' j = G j ∧ E' j = E j) ∧ (∀ j, relStable (R' j)) ∧
      (∀ j o, i ≤ j → j < i + m → ops[j]? = some o → (F' j = false ∧ E' j = none ∧ RelOp P ops Q S a0 ds R' o (R' j)) ∨ ((∀ v w ys, G' j v ys → Mem w w0.heap.size ys → R' j v w) ∧ E' j = none ∧ RelOpF P ops Q S a0 ds R' o (G' j)) ∨ (F' j = false ∧ E' j = none ∧ RelOpA P ops Q S a0 ds w0.heap.size F' G' R' o (R' j)) ∨
        (F' j = false ∧ (∃ js f, E' j = some (js, f) ∧ (js.all fun j => o.after.any fun e => Region.binds .any e && e.on == j) = true ∧ o.dst ≠ none ∧ RelOpE P ops Q S a0 ds R' o js f (R' j)))) ∧
      (∀ x w, S w → Below w0.heap.size w0 w → (∀ i k, ds[i]? = some (some k) → R' i (x i) w) → ∀ y : Nat → List Rw, (∀ i k, F' i = true → ds[i]? = some (some k) → G' i (x i) (y i) ∧ Mem w w0.heap.size (y i)) → (∀ i j, i < ds.length → j < ds.length → F' i = true → F' j = true → i ≠ j → ∀ r ∈ y i, ∀ s ∈ y j, apart r.v s.v) → (∀ i js f, i < ds.length → E' i = some (js, f) → x i = f (js.map x)) → TailWp P ops Q (l.drop m) (fillB ds 0 a0 x) w)
  | 0, l, F, G, E, R, i, hl, h, hs => ⟨F, G, E, R, fun _ _ => ⟨rfl, rfl, rfl, rfl⟩, hs, fun j o hj hj2 ho => by omega, by cases l <;> exact h⟩
  | m + 1, [], F, G, E, R, i, hl, h, hs => h.elim
  | m + 1, o :: l, F, G, E, R, i, hl, .inl ⟨r, hr, h1, hc⟩, hs => by
    obtain ⟨F', G', E', R', a, b, c, d⟩ := Chain.out hord m l (updF F i false) (G) (updE E i none) (updR R i r) (i + 1) (fun j => by
      have := hl (j + 1)
      rw [show i + 1 + j = i + (j + 1) by omega, ← this]; simp) hc (fun j => by unfold updR; split; exact hr; exact hs j)
    have e0 : ∀ j, j < i → R' j = R j := fun j hj => by rw [(a j (by omega)).1]; unfold updR; rw [if_neg (by omega)]
    have f0 : ∀ j, j < i → F' j = F j := fun j hj => by rw [(a j (by omega)).2.1]; unfold updF; rw [if_neg (by omega)]
    have g0 : ∀ j, j < i → G' j = G j := fun j hj => by rw [(a j (by omega)).2.2.1]
    have h0 : ∀ j, j < i → E' j = E j := fun j hj => by rw [(a j (by omega)).2.2.2]; unfold updE; rw [if_neg (by omega)]
    have ei := (a i (by omega)).1
    have fi := (a i (by omega)).2.1
    have gi := (a i (by omega)).2.2.1
    have hi := (a i (by omega)).2.2.2
    unfold updR at ei
    unfold updF at fi
    unfold updE at hi
    rw [if_pos rfl] at ei fi hi
    refine ⟨F', G', E', R', fun j hj => ⟨e0 j hj, f0 j hj, g0 j hj, h0 j hj⟩, b, fun j o' hj hj2 ho => ?_, by simpa using d⟩
    rcases Nat.lt_or_eq_of_le hj with h2 | h2
    · exact c j o' h2 (by omega) ho
    · subst h2
      have h3 := hl 0
      simp only [List.getElem?_cons_zero, Nat.add_zero] at h3
      rw [ho] at h3
      injection h3 with h3
      subst h3
      rw [ei]
      rcases h1 with h1 | h1
      · refine .inl ⟨fi, hi, ?_⟩
        intro a w hS hb hd K hK
        exact h1 a w hS hb (depsOK_congr e0 (fun e he => hord i _ ho e (by simpa using he)) hd) K hK
      · exact .inr (.inr (.inl ⟨fi, hi, h1.congr (hord i _ ho) e0 f0 g0⟩))
  | m + 1, o :: l, F, G, E, R, i, hl, .inr (.inl ⟨r, h1, hc⟩), hs => by
    obtain ⟨F', G', E', R', a, b, c, d⟩ := Chain.out hord m l (updF F i true) (updG G i r) (updE E i none) (updR R i (hasR w0.heap.size r)) (i + 1) (fun j => by
      have := hl (j + 1)
      rw [show i + 1 + j = i + (j + 1) by omega, ← this]; simp) hc (fun j => by unfold updR; split; exact stable_hasR _ _; exact hs j)
    have e0 : ∀ j, j < i → R' j = R j := fun j hj => by rw [(a j (by omega)).1]; unfold updR; rw [if_neg (by omega)]
    have f0 : ∀ j, j < i → F' j = F j := fun j hj => by rw [(a j (by omega)).2.1]; unfold updF; rw [if_neg (by omega)]
    have g0 : ∀ j, j < i → G' j = G j := fun j hj => by rw [(a j (by omega)).2.2.1]; unfold updG; rw [if_neg (by omega)]
    have h0 : ∀ j, j < i → E' j = E j := fun j hj => by rw [(a j (by omega)).2.2.2]; unfold updE; rw [if_neg (by omega)]
    have ei := (a i (by omega)).1
    have fi := (a i (by omega)).2.1
    have gi := (a i (by omega)).2.2.1
    have hi := (a i (by omega)).2.2.2
    unfold updR at ei
    unfold updF at fi
    unfold updE at hi
    rw [if_pos rfl] at ei fi hi
    refine ⟨F', G', E', R', fun j hj => ⟨e0 j hj, f0 j hj, g0 j hj, h0 j hj⟩, b, fun j o' hj hj2 ho => ?_, by simpa using d⟩
    rcases Nat.lt_or_eq_of_le hj with h2 | h2
    · exact c j o' h2 (by omega) ho
    · subst h2
      have h3 := hl 0
      simp only [List.getElem?_cons_zero, Nat.add_zero] at h3
      rw [ho] at h3
      injection h3 with h3
      subst h3
      unfold updG at gi
      rw [if_pos rfl] at gi
      refine .inr (.inl ⟨fun v w ys h4 h5 => by rw [ei]; exact ⟨ys, gi ▸ h4, h5⟩, hi, ?_⟩)
      rw [gi]
      intro a w hS hb hd K hK
      exact h1 a w hS hb (depsOK_congr e0 (fun e he => hord i _ ho e (by simpa using he)) hd) K hK
  | m + 1, o :: l, F, G, E, R, i, hl, .inr (.inr ⟨js, f, r, ⟨hr, h4, h5, h1⟩, hc⟩), hs => by
    obtain ⟨F', G', E', R', a, b, c, d⟩ := Chain.out hord m l (updF F i false) (G) (updE E i (some (js, f))) (updR R i r) (i + 1) (fun j => by
      have := hl (j + 1)
      rw [show i + 1 + j = i + (j + 1) by omega, ← this]; simp) hc (fun j => by unfold updR; split; exact hr; exact hs j)
    have e0 : ∀ j, j < i → R' j = R j := fun j hj => by rw [(a j (by omega)).1]; unfold updR; rw [if_neg (by omega)]
    have f0 : ∀ j, j < i → F' j = F j := fun j hj => by rw [(a j (by omega)).2.1]; unfold updF; rw [if_neg (by omega)]
    have g0 : ∀ j, j < i → G' j = G j := fun j hj => by rw [(a j (by omega)).2.2.1]
    have h0 : ∀ j, j < i → E' j = E j := fun j hj => by rw [(a j (by omega)).2.2.2]; unfold updE; rw [if_neg (by omega)]
    have ei := (a i (by omega)).1
    have fi := (a i (by omega)).2.1
    have gi := (a i (by omega)).2.2.1
    have hi := (a i (by omega)).2.2.2
    unfold updR at ei
    unfold updF at fi
    unfold updE at hi
    rw [if_pos rfl] at ei fi hi
    refine ⟨F', G', E', R', fun j hj => ⟨e0 j hj, f0 j hj, g0 j hj, h0 j hj⟩, b, fun j o' hj hj2 ho => ?_, by simpa using d⟩
    rcases Nat.lt_or_eq_of_le hj with h2 | h2
    · exact c j o' h2 (by omega) ho
    · subst h2
      have h3 := hl 0
      simp only [List.getElem?_cons_zero, Nat.add_zero] at h3
      rw [ho] at h3
      injection h3 with h3
      subst h3
      refine .inr (.inr (.inr ⟨fi, js, f, hi, h4, h5, ?_⟩))
      rw [ei]
      intro a w hS hb hd K hK
      exact h1 a w hS hb (depsOK_congr e0 (fun e he => hord i _ ho e (by simpa using he)) hd) K hK
end
/-- a full slice of ints that a region makes -/
def isF (n : Nat) (l : List Int) : Value → World → Prop := fun v W => ∃ A, v = .slice A n n ∧ RI W W.heap.size A l
theorem stable_isF (n : Nat) (l : List Int) : relStable (isF n l) := fun _ _ _ ⟨A, h1, h2⟩ hb => ⟨A, h1, h2.next hb⟩
theorem Mem.mk3 {W : World} {lo : Nat} {r1 r2 r3 : Rw} (h1 : r1.own W lo) (h2 : r2.own W lo) (h3 : r3.own W lo) (p12 : apart r1.v r2.v) (p13 : apart r1.v r3.v) (p23 : apart r2.v r3.v) : Mem W lo [r1, r2, r3] :=
  ⟨fun r hr => by simp only [List.mem_cons, List.not_mem_nil, or_false] at hr; rcases hr with rfl | rfl | rfl <;> assumption, by simp [p12, p13, p23]⟩
/-- a proof's three rows -/
def pRows (A1 : Option Addr) (c1 : Nat) (A2 : Option Addr) (c2 : Nat) (A3 : Option Addr) (c3 : Nat) (R : List Int × List Int × List Int) : List Rw := [ir (.slice A1 R.1.length c1) R.1, ir (.slice A2 R.2.1.length c2) R.2.1, ir (.slice A3 R.2.2.length c3) R.2.2]
/-- what a function that hands back a proof and whether there is one says -/
def RetP (w : World) (R : (List Int × List Int × List Int) × Bool) (e : Ending) (w' : World) : Prop :=
  ∃ A1 c1 A2 c2 A3 c3, e = .returned (.tuple #[.agg #[.slice A1 R.1.1.length c1, .slice A2 R.1.2.1.length c2, .slice A3 R.1.2.2.length c3], .bool R.2]) ∧ Mem w' w.heap.size (pRows A1 c1 A2 c2 A3 c3 R.1) ∧ Below w.heap.size w w'
theorem RetP.nil {w w' : World} {R : (List Int × List Int × List Int) × Bool} (hR : R = (([], [], []), false)) (hb : Below w.heap.size w w') : RetP w R (.returned (.tuple #[.agg #[.slice none 0 0, .slice none 0 0, .slice none 0 0], .bool false])) w' := by
  subst hR
  exact ⟨none, 0, none, 0, none, 0, rfl, Mem.mk3 (OI.nil _ _) (OI.nil _ _) (OI.nil _ _) (.inl rfl) (.inl rfl) (.inl rfl), hb⟩
end Go.Proofs.Ytgnnmifpfgpllaa
