import Derived.Lib.SlicesCompact
/- Plain mathematics: numbers put into sorted lists, sorted lists without repeats. -/
set_option linter.all false
set_option linter.unusedVariables false
set_option linter.unusedSimpArgs false
namespace M
/-- a number put into a sorted list, once -/
def putL (v : Int) : List Int → List Int
  | [] => [v]
  | x :: l => if x < v then x :: putL v l else if x = v then x :: l else v :: x :: l
theorem putL_mem {v y : Int} : ∀ xs : List Int, y ∈ putL v xs ↔ y = v ∨ y ∈ xs
  | [] => by simp [putL]
  | x :: l => by
    have ih := putL_mem (v := v) (y := y) l
    rw [putL]; split
    · rw [List.mem_cons, ih, List.mem_cons]
      constructor
      · rintro (h | h | h)
        · exact .inr (.inl h)
        · exact .inl h
        · exact .inr (.inr h)
      · rintro (h | h | h)
        · exact .inr (.inl h)
        · exact .inl h
        · exact .inr (.inr h)
    · split
      · rename_i h1 h2; subst h2
        constructor
        · exact .inr
        · rintro (h | h)
          · exact h ▸ List.mem_cons_self
          · exact h
      · exact List.mem_cons
theorem putL_sorted {v : Int} : ∀ xs : List Int, xs.Pairwise (· < ·) → (putL v xs).Pairwise (· < ·)
  | [], _ => by simp [putL]
  | x :: l, h => by
    obtain ⟨h1, h2⟩ := List.pairwise_cons.1 h
    rw [putL]; split
    · rename_i hx
      refine List.pairwise_cons.2 ⟨fun y hy => ?_, putL_sorted l h2⟩
      rcases (putL_mem l).1 hy with rfl | hy
      · exact hx
      · exact h1 y hy
    · split
      · exact h
      · rename_i a b
        refine List.pairwise_cons.2 ⟨fun y hy => ?_, h⟩
        rcases List.mem_cons.1 hy with rfl | hy
        · omega
        · have := h1 y hy; omega
def putsL (l : List Int) : List Int := l.foldl (fun acc x => putL x acc) []
theorem putsL_app (l : List Int) (x : Int) : putsL (l ++ [x]) = putL x (putsL l) := by simp [putsL, List.foldl_append]
theorem putsF (l : List Int) : ∀ acc : List Int, acc.Pairwise (· < ·) → (l.foldl (fun acc x => putL x acc) acc).Pairwise (· < ·) ∧ ∀ y, y ∈ l.foldl (fun acc x => putL x acc) acc ↔ y ∈ l ∨ y ∈ acc := by
  induction l with
  | nil => intro acc h; exact ⟨h, fun y => by simp⟩
  | cons x l ih =>
    intro acc h
    obtain ⟨h1, h2⟩ := ih (putL x acc) (putL_sorted acc h)
    refine ⟨h1, fun y => ?_⟩
    rw [List.foldl_cons, h2, putL_mem, List.mem_cons]
    constructor
    · rintro (h | h | h)
      · exact .inl (.inr h)
      · exact .inl (.inl h)
      · exact .inr h
    · rintro ((h | h) | h)
      · exact .inr (.inl h)
      · exact .inl h
      · exact .inr (.inr h)
theorem putsL_ok (l : List Int) : (putsL l).Pairwise (· < ·) ∧ ∀ y, y ∈ putsL l ↔ y ∈ l := by
  have := putsF l [] .nil
  exact ⟨this.1, fun y => by rw [putsL, this.2]; simp⟩
/-- strictly ascending lists of the same numbers are one -/
theorem ssort_ext : ∀ {a b : List Int}, a.Pairwise (· < ·) → b.Pairwise (· < ·) → (∀ x, x ∈ a ↔ x ∈ b) → a = b
  | [], [], _, _, _ => rfl
  | [], y :: b, _, _, h => absurd ((h y).2 List.mem_cons_self) (by simp)
  | x :: a, [], _, _, h => absurd ((h x).1 List.mem_cons_self) (by simp)
  | x :: a, y :: b, ha, hb, h => by
    obtain ⟨a1, a2⟩ := List.pairwise_cons.1 ha
    obtain ⟨b1, b2⟩ := List.pairwise_cons.1 hb
    have e : x = y := by
      rcases List.mem_cons.1 ((h x).1 List.mem_cons_self) with e | h1
      · exact e
      · rcases List.mem_cons.1 ((h y).2 List.mem_cons_self) with e | h2
        · exact e.symm
        · have := a1 y h2; have := b1 x h1; omega
    subst e
    rw [ssort_ext a2 b2 fun z => ?_]
    have hz := h z
    rw [List.mem_cons, List.mem_cons] at hz
    constructor
    · intro h1
      rcases hz.1 (.inr h1) with e | h2
      · have := a1 z h1; omega
      · exact h2
    · intro h1
      rcases hz.2 (.inr h1) with e | h2
      · have := b1 z h1; omega
      · exact h2
open Go.Lib in
theorem cpt_ok {d : Array Int} (hd : ∀ j, j + 1 < d.size → d[j]! ≤ d[j + 1]!) : ∀ m, m ≤ d.size → (compactUpTo d m).Pairwise (· < ·) ∧ (∀ x, x ∈ compactUpTo d m ↔ ∃ j, j < m ∧ d[j]! = x) ∧ ∀ x ∈ compactUpTo d m, x ≤ d[m - 1]!
  | 0, _ => by simp [compactUpTo]
  | m + 1, hm => by
    obtain ⟨h1, h2, h3⟩ := cpt_ok hd m (by omega)
    rw [compactUpTo_succ]
    have hstep : 0 < m → d[m - 1]! ≤ d[m]! := fun h0 => by
      have := hd (m - 1) (by omega)
      rwa [show m - 1 + 1 = m by omega] at this
    cases hk : keeps d m with
    | true =>
      rw [if_pos rfl]
      have hlt : ∀ x ∈ compactUpTo d m, x < d[m]! := fun x hx => by
        have := h3 x hx
        obtain ⟨j, hj, _⟩ := (h2 x).1 hx
        have h5 := hstep (by omega)
        simp only [keeps, decide_eq_true_eq] at hk
        rcases hk with hk | hk
        · omega
        · omega
      refine ⟨List.pairwise_append.2 ⟨h1, by simp, fun x hx y hy => ?_⟩, fun x => ?_, fun x hx => ?_⟩
      · rw [List.mem_singleton] at hy; subst hy; exact hlt x hx
      · rw [List.mem_append, h2, List.mem_singleton]
        constructor
        · rintro (⟨j, hj, e⟩ | e)
          · exact ⟨j, by omega, e⟩
          · exact ⟨m, by omega, e.symm⟩
        · rintro ⟨j, hj, e⟩
          by_cases hjm : j = m
          · subst hjm; exact .inr e.symm
          · exact .inl ⟨j, by omega, e⟩
      · show x ≤ d[m]!
        rcases List.mem_append.1 hx with hx | hx
        · exact Int.le_of_lt (hlt x hx)
        · rw [List.mem_singleton] at hx; subst hx; exact Int.le_refl _
    | false =>
      rw [if_neg (by simp), List.append_nil]
      have hm0 : 0 < m ∧ d[m]! = d[m - 1]! := by
        simp only [keeps, decide_eq_false_iff_not, not_or, Classical.not_not, ne_eq] at hk
        exact ⟨by omega, hk.2⟩
      refine ⟨h1, fun x => ?_, fun x hx => ?_⟩
      · rw [h2]
        constructor
        · rintro ⟨j, hj, e⟩; exact ⟨j, by omega, e⟩
        · rintro ⟨j, hj, e⟩
          by_cases hjm : j = m
          · subst hjm; exact ⟨j - 1, by omega, by rw [← hm0.2]; exact e⟩
          · exact ⟨j, by omega, e⟩
      · show x ≤ d[m]!
        rw [hm0.2]; exact h3 x hx
def srtL (xs : List Int) : List Int := xs.mergeSort fun x y => decide (x ≤ y)
def cptL (xs : List Int) : List Int := Go.Lib.compactUpTo xs.toArray xs.toArray.size
theorem srtL_mem {x : Int} {xs : List Int} : x ∈ srtL xs ↔ x ∈ xs := List.mem_mergeSort
theorem srtL_len {xs : List Int} : (srtL xs).length = xs.length := List.length_mergeSort ..
theorem srtL_sorted (xs : List Int) : (srtL xs).Pairwise (· ≤ ·) := by
  have := List.pairwise_mergeSort (le := fun x y : Int => decide (x ≤ y)) (fun a b c h1 h2 => by simp only [decide_eq_true_eq] at *; omega) (fun a b => by simp only [Bool.or_eq_true, decide_eq_true_eq]; omega) xs
  exact this.imp fun h => by simpa using h
theorem getB {xs : List Int} {j : Nat} (h : j < xs.length) : xs.toArray[j]! = xs[j] := by simp [h]
theorem cptL_ok {xs : List Int} (h : xs.Pairwise (· ≤ ·)) : (cptL xs).Pairwise (· < ·) ∧ ∀ x, x ∈ cptL xs ↔ x ∈ xs := by
  obtain ⟨h1, h2, _⟩ := cpt_ok (d := xs.toArray) (fun j hj => by
    have hj' : j + 1 < xs.length := by simpa using hj
    rw [getB (by omega), getB hj']
    exact List.pairwise_iff_getElem.1 h j (j + 1) (by omega) hj' (by omega)) xs.toArray.size (Nat.le_refl _)
  refine ⟨h1, fun x => ?_⟩
  unfold cptL
  rw [h2, List.mem_iff_getElem]
  constructor
  · rintro ⟨j, hj, e⟩
    have hj' : j < xs.length := by simpa using hj
    exact ⟨j, hj', by rw [← getB hj']; exact e⟩
  · rintro ⟨j, hj, e⟩
    exact ⟨j, by simpa using hj, by rw [getB hj]; exact e⟩
theorem cptL_len (xs : List Int) : (cptL xs).length ≤ xs.length := by
  unfold cptL Go.Lib.compactUpTo
  rw [List.length_map]
  exact Nat.le_trans (List.length_filter_le _ _) (by simp)
/-- sorted and freed of repeats: the same as put in one by one -/
theorem cpt_puts (l : List Int) : cptL (srtL l) = putsL l := by
  obtain ⟨h1, h2⟩ := cptL_ok (srtL_sorted l)
  obtain ⟨h3, h4⟩ := putsL_ok l
  exact ssort_ext h1 h3 fun x => by rw [h2, h4, srtL_mem]
end M
