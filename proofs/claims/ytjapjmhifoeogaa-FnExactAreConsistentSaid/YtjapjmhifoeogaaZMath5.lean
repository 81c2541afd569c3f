import Derived.Test.YtjapjmhifoeogaaZD24
/- Plain mathematics: shares of one polynomial. -/
set_option linter.all false
set_option linter.unusedVariables false
set_option linter.unusedSimpArgs false
namespace Go.Proofs.Ytjapjmhifoeogaa
open Go.RowKit
theorem ei_end {a m : Int} : ∀ (n : Nat) (r nn x o : Int), nn.toNat ≤ n → M.EI a m r nn x o → ∃ r' x' o', M.EI a m r' 0 x' o'
  | n, r, nn, x, o, hn, h => by
    by_cases h0 : 0 < nn
    · have hs := h.step h0
      have h1 := Int.emod_lt_of_pos r h0
      have h2 := Int.mul_ediv_add_emod r nn
      rw [Int.mul_comm] at h2
      match n with
      | 0 => omega
      | n + 1 => exact ei_end n _ _ _ _ (by omega) hs
    · have : nn = 0 := by have := h.n0; omega
      subst this
      exact ⟨r, x, o, h⟩
theorem inv_mul {a q : Int} (hq : M.Prime q) (h0 : 0 < a) (ha : a < q) : a * M.invm a q % q = 1 := by
  have h2 := hq.1
  obtain ⟨r, x, o, h⟩ := ei_end q.toNat q a 0 1 (by omega) (M.EI.start h2 (by omega) ha)
  have hr := h.done_prime hq h0 ha
  have hi := h.done_inv h2 hr
  rw [M.invm_eq hi]
  exact hi.2.2
theorem prodF_0 {q x : Int} : ∀ l : List Int, prodF q x l 0 = 0
  | [] => rfl
  | b :: l => by simp only [prodF, Int.zero_mul, Int.zero_emod]; exact prodF_0 l
theorem prodF_hit {q x : Int} : ∀ (l : List Int) (u : Int), x ∈ l → prodF q x l u = 0
  | [], _, h => by simp at h
  | b :: l, u, h => by
    simp only [prodF]
    by_cases e : x = b
    · subst e
      simp only [Int.sub_self, Int.zero_emod, Int.mul_zero]
      exact prodF_0 l
    · exact prodF_hit l _ (by rcases List.mem_cons.1 h with h | h; exact absurd h e; exact h)
theorem mem_others {xs : List Int} {i j : Nat} (hj : j < xs.length) (h : j ≠ i) : xs.getD j 0 ∈ others xs i := by
  have hx : xs.getD j 0 = xs[j] := by rw [List.getD_eq_getElem?_getD, List.getElem?_eq_getElem hj]; rfl
  rw [hx]
  refine List.mem_append.2 ?_
  rcases Nat.lt_or_ge j i with h1 | h1
  · exact .inl (List.mem_take_iff_getElem.2 ⟨j, by omega, by simp⟩)
  · refine .inr (List.mem_drop_iff_getElem.2 ⟨j - (i + 1), by omega, ?_⟩)
    congr 1; omega
theorem lag_delta {q : Int} {xs : List Int} (h : PtsOK q xs) {i j : Nat} (hi : i < xs.length) (hj : j < xs.length) : lagC q xs (xs.getD j 0) i = if i = j then 1 else 0 := by
  have h2 : 2 ≤ q := by have := h.big; omega
  by_cases e : i = j
  · subst e
    rw [if_pos rfl]
    have hb := prodF_bd (x := xs.getD i 0) h2 (others xs i) 1 (by omega)
    have hn := h.nz hi
    rw [Int.emod_eq_of_lt hb.1 hb.2] at hn
    exact inv_mul h.pr (by omega) hb.2
  · rw [if_neg e]
    have := prodF_hit (q := q) (others xs i) 1 (mem_others hj (fun e' => e e'.symm))
    simp only [lagC, this, Int.zero_mul, Int.zero_emod]
theorem dot_zero {q : Int} {a b : List Int} : ∀ (n k : Nat) (o : Int), a.length - k ≤ n → a.length ≤ b.length → (0 ≤ o ∧ o < q) → (∀ i, k ≤ i → i < a.length → a.getD i 0 = 0) → dotF q (a.drop k) (b.drop k) o = o
  | n, k, o, hn, hl, ho, hz => by
    rcases Nat.lt_or_ge k a.length with h | h
    · match n with
      | 0 => omega
      | n + 1 =>
        rw [dotF_at h (by omega), hz k (Nat.le_refl _) h]
        have : (o + 0 * b.getD k 0) % q = o := by rw [Int.zero_mul, Int.add_zero]; exact Int.emod_eq_of_lt ho.1 ho.2
        rw [this]
        exact dot_zero n (k + 1) o (by omega) hl ho fun i h1 h2 => hz i (by omega) h2
    · rw [List.drop_of_length_le h]; simp [dotF]
theorem dot_one {q : Int} {a b : List Int} {j : Nat} (hj : j < a.length) (hl : a.length ≤ b.length) (hq : 2 ≤ q) (h1 : a.getD j 0 = 1) (hz : ∀ i, i < a.length → i ≠ j → a.getD i 0 = 0) : ∀ (n k : Nat) (o : Int), j - k ≤ n → k ≤ j → (0 ≤ o ∧ o < q) → dotF q (a.drop k) (b.drop k) o = (o + b.getD j 0) % q
  | n, k, o, hn, hk, ho => by
    by_cases e : k = j
    · subst e
      rw [dotF_at hj (by omega), h1, Int.one_mul]
      exact dot_zero a.length (k + 1) _ (by omega) hl (emod_bd (by omega)) fun i h2 h3 => hz i h3 (by omega)
    · match n with
      | 0 => omega
      | n + 1 =>
        rw [dotF_at (by omega) (by omega), hz k (by omega) e]
        have : (o + 0 * b.getD k 0) % q = o := by rw [Int.zero_mul, Int.add_zero]; exact Int.emod_eq_of_lt ho.1 ho.2
        rw [this]
        exact dot_one hj hl hq h1 hz n (k + 1) o (by omega) (by omega) ho
/-- the first trustees -/
def ptsN (n : Nat) : List Int := (List.range n).map fun (i : Nat) => (i : Int) + 1
theorem ptsN_len {n : Nat} : (ptsN n).length = n := by simp [ptsN]
theorem ptsN_step {n : Nat} : ptsN n ++ [(n : Int) + 1] = ptsN (n + 1) := by simp [ptsN, List.range_succ]
theorem ptsN_get {n i : Nat} (h : i < n) : (ptsN n).getD i 0 = (i : Int) + 1 := by simp [ptsN, List.getD_eq_getElem?_getD, h]
theorem ptsN_nd : ∀ n : Nat, (ptsN n).Nodup
  | 0 => by simp [ptsN]
  | n + 1 => by
    rw [← ptsN_step, List.nodup_append]
    refine ⟨ptsN_nd n, by simp, fun a ha b hb e => ?_⟩
    simp only [List.mem_singleton] at hb
    obtain ⟨i, hi, rfl⟩ := List.mem_map.1 ha
    rw [List.mem_range] at hi
    omega
theorem ptsN_ok {q : Int} (hq : M.Prime q) (h : 7 < q ∧ q ≤ 2000000000) {n : Nat} (hn : n ≤ 7) : PtsOK q (ptsN n) := by
  refine ⟨hq, h, by rw [ptsN_len]; exact hn, fun x hx => ?_, ?_⟩
  · obtain ⟨i, hi, rfl⟩ := List.mem_map.1 hx
    rw [List.mem_range] at hi; omega
  · exact ptsN_nd n
noncomputable def chkB (q : Int) (n : Nat) (shares : List Int) (i : Nat) : Bool := dotF q (lagL q (ptsN n) ((i : Int) + 1) n) (shares.take n) 0 == shares.getD i 0
noncomputable def chkN (q : Int) (n : Nat) (shares : List Int) (k : Nat) : Bool := (List.range k).all (chkB q n shares)
noncomputable def consB (q : Int) (n : Nat) (shares : List Int) : Bool := chkN q n shares shares.length
theorem lagL_get {q x : Int} {xs : List Int} {n i : Nat} (h : i < n) : (lagL q xs x n).getD i 0 = lagC q xs x i := by simp [lagL, List.getD_eq_getElem?_getD, h]
theorem chk_lt {q : Int} (hq : M.Prime q) (h : 7 < q ∧ q ≤ 2000000000) {n : Nat} (hn : n ≤ 7) {shares : List Int} (hl : n ≤ shares.length) (hb : ∀ x ∈ shares, 0 ≤ x ∧ x < q) {i : Nat} (hi : i < n) : chkB q n shares i = true := by
  have hP := ptsN_ok hq h hn
  have hx : ((i : Int) + 1) = (ptsN n).getD i 0 := (ptsN_get hi).symm
  unfold chkB
  rw [beq_iff_eq, hx]
  have hg : ∀ j, j < n → (lagL q (ptsN n) ((ptsN n).getD i 0) n).getD j 0 = if j = i then 1 else 0 := fun j hj => by
    rw [lagL_get hj, lag_delta hP (by rw [ptsN_len]; exact hj) (by rw [ptsN_len]; exact hi)]
  have hd := dot_one (q := q) (a := lagL q (ptsN n) ((ptsN n).getD i 0) n) (b := shares.take n) (j := i) (by rw [lagL_len]; exact hi) (by rw [lagL_len, List.length_take]; omega) (by omega) (by rw [hg i hi, if_pos rfl]) (fun j hj hne => by rw [lagL_len] at hj; rw [hg j hj, if_neg hne]) i 0 0 (by omega) (Nat.zero_le _) (by omega)
  rw [List.drop_zero, List.drop_zero] at hd
  rw [hd]
  have e : (shares.take n).getD i 0 = shares.getD i 0 := by simp [List.getD_eq_getElem?_getD, List.getElem?_take, hi]
  rw [e, Int.zero_add]
  have := getD_bd' hb (k := i) (by omega)
  exact Int.emod_eq_of_lt this.1 this.2
theorem chkN_t {q : Int} {n k : Nat} {shares : List Int} (h : chkN q n shares k = true) (h2 : chkB q n shares k = true) : chkN q n shares (k + 1) = true := by
  unfold chkN at h ⊢; rw [List.range_succ, List.all_append, h]; simp [h2]
theorem chkN_small {q : Int} (hq : M.Prime q) (h : 7 < q ∧ q ≤ 2000000000) {n : Nat} (hn : n ≤ 7) {shares : List Int} (hl : n ≤ shares.length) (hb : ∀ x ∈ shares, 0 ≤ x ∧ x < q) : chkN q n shares n = true := List.all_eq_true.2 fun i hi => chk_lt hq h hn hl hb (List.mem_range.1 hi)
theorem cons_f {q : Int} {n k : Nat} {shares : List Int} (hk : k < shares.length) (h : chkB q n shares k = false) : consB q n shares = false := by
  unfold consB chkN
  rw [List.all_eq_false]
  exact ⟨k, List.mem_range.2 hk, by rw [h]; decide⟩
/-- as many points as are taken -/
def nT (t : Int) (shares : List Int) : Nat := (if (shares.length : Int) < t then (shares.length : Int) else t).toNat
theorem nT_eq {t : Int} {shares : List Int} (h : 0 ≤ t) : (if (shares.length : Int) < t then (shares.length : Int) else t) = (nT t shares : Nat) := by unfold nT; split <;> omega
theorem nT_le {t : Int} {shares : List Int} (h : 1 ≤ t ∧ t ≤ 7) : nT t shares ≤ 7 ∧ nT t shares ≤ shares.length ∧ (shares.length ≤ t → nT t shares = shares.length) ∧ (t < shares.length → (nT t shares : Int) = t) := by
  unfold nT; split <;> refine ⟨by omega, by omega, fun _ => by omega, fun _ => by omega⟩
/-- different numbers of trustees are seven at most -/
theorem pigeon : ∀ (n : Nat) (xs : List Int), xs.Nodup → (∀ x ∈ xs, 1 ≤ x ∧ x ≤ n) → xs.length ≤ n
  | 0, xs, _, hb => by
    cases xs with
    | nil => simp
    | cons x l => have := hb x (by simp); omega
  | n + 1, xs, hn, hb => by
    by_cases h : ((n : Int) + 1) ∈ xs
    · have h1 := pigeon n (xs.erase ((n : Int) + 1)) (hn.erase _) fun x hx => by
        have h2 := hb x (List.mem_of_mem_erase hx)
        have h3 : x ≠ (n : Int) + 1 := fun e => by rw [e] at hx; exact (List.Nodup.not_mem_erase hn) hx
        omega
      rw [List.length_erase_of_mem h] at h1
      omega
    · have := pigeon n xs hn fun x hx => by
        have h2 := hb x hx
        have h3 : x ≠ (n : Int) + 1 := fun e => h (e ▸ hx)
        omega
      omega
def difB (xs : List Int) : Bool := decide xs.Nodup
theorem hasN_iff {n : Int} {xs : List Int} : hasN n xs = true ↔ n ∈ xs := by simp [hasN]
theorem dif_next {xs : List Int} {k : Nat} (hk : k < xs.length) (h : (xs.take k).Nodup) (hh : hasN (xs.getD k 0) (xs.take k) = false) : (xs.take (k + 1)).Nodup := by
  rw [take_at 0 hk, List.nodup_append]
  refine ⟨h, by simp, fun a ha b hb e => ?_⟩
  simp only [List.mem_singleton] at hb
  subst e hb
  have := hasN_iff.2 ha
  rw [hh] at this; cases this
theorem dif_bad {xs : List Int} {k : Nat} (hk : k < xs.length) (hh : hasN (xs.getD k 0) (xs.take k) = true) : difB xs = false := by
  refine decide_eq_false fun hn => ?_
  have h1 := hasN_iff.1 hh
  have h2 : (xs.take (k + 1)).Nodup := hn.sublist (List.take_sublist _ _)
  rw [take_at 0 hk, List.nodup_append] at h2
  exact h2.2.2 _ h1 _ (by simp) rfl
theorem dif_end {xs : List Int} (h : (xs.take xs.length).Nodup) : difB xs = true := by rw [List.take_length] at h; exact decide_eq_true h
end Go.Proofs.Ytjapjmhifoeogaa
