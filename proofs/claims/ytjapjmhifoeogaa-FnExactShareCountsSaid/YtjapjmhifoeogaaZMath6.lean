import Derived.Test.YtjapjmhifoeogaaZMath4
import Derived.Test.YtjapjmhifoeogaaZAL
import Derived.Test.YtjapjmhifoeogaaZB4
import Derived.Shelf.SlicesE.Delete
import Derived.Lib.OwnBridge
import Derived.Test.YtjapjmhifoeogaaZD23
/- Digits: every list of digits once, in two orders; tallies. -/
set_option linter.all false
set_option linter.unusedVariables false
set_option linter.unusedSimpArgs false
namespace Go.Proofs.Ytjapjmhifoeogaa
def sumN (f : Nat → Int) : Nat → Int
  | 0 => 0
  | n + 1 => sumN f n + f n
theorem sumN_congr {f g : Nat → Int} : ∀ n : Nat, (∀ i, i < n → f i = g i) → sumN f n = sumN g n
  | 0, _ => rfl
  | n + 1, h => by rw [sumN, sumN, sumN_congr n fun i hi => h i (by omega), h n (by omega)]
theorem sumN_add {f g : Nat → Int} : ∀ n : Nat, sumN (fun i => f i + g i) n = sumN f n + sumN g n
  | 0 => rfl
  | n + 1 => by rw [sumN, sumN, sumN, sumN_add n]; omega
theorem sumN_zero : ∀ n : Nat, sumN (fun _ => 0) n = 0
  | 0 => rfl
  | n + 1 => by rw [sumN, sumN_zero n]; rfl
theorem sumN_swap {f : Nat → Nat → Int} {m : Nat} : ∀ n : Nat, sumN (fun i => sumN (f i) m) n = sumN (fun j => sumN (fun i => f i j) n) m
  | 0 => by
    have : sumN (fun j => sumN (fun i => f i j) 0) m = sumN (fun _ => 0) m := sumN_congr m fun _ _ => rfl
    rw [this, sumN_zero]; rfl
  | n + 1 => by
    rw [sumN, sumN_swap n, ← sumN_add]
    exact sumN_congr m fun _ _ => rfl
theorem sumN_app {f : Nat → Int} {a : Nat} : ∀ b : Nat, sumN f (a + b) = sumN f a + sumN (fun j => f (a + j)) b
  | 0 => by simp [sumN]
  | b + 1 => by rw [← Nat.add_assoc, sumN, sumN_app b, sumN]; omega
theorem sumN_mul {f : Nat → Int} {b : Nat} : ∀ a : Nat, sumN f (a * b) = sumN (fun i => sumN (fun j => f (i * b + j)) b) a
  | 0 => by simp [sumN]
  | a + 1 => by rw [Nat.succ_mul, sumN_app, sumN_mul a, sumN]
theorem sumN_bd {f : Nat → Int} : ∀ n : Nat, (∀ i, i < n → 0 ≤ f i ∧ f i ≤ 1) → 0 ≤ sumN f n ∧ sumN f n ≤ n
  | 0, _ => ⟨Int.le_refl _, Int.le_refl _⟩
  | n + 1, h => by
    have h1 := sumN_bd n fun i hi => h i (by omega)
    have h2 := h n (by omega)
    rw [sumN]; omega
/-- the digits of a number, the least first -/
def digs (q : Nat) : Nat → Nat → List Int
  | 0, _ => []
  | t + 1, n => ((n % q : Nat) : Int) :: digs q t (n / q)
theorem digs_len {q : Nat} : ∀ t n : Nat, (digs q t n).length = t
  | 0, _ => rfl
  | t + 1, n => by rw [digs, List.length_cons, digs_len]
theorem digs_bd {q : Nat} (hq : 0 < q) : ∀ t n : Nat, ∀ x ∈ digs q t n, 0 ≤ x ∧ x < (q : Int)
  | 0, _, x, hx => by cases hx
  | t + 1, n, x, hx => by
    rw [digs] at hx
    rcases List.mem_cons.1 hx with rfl | hx
    · have := Nat.mod_lt n hq; omega
    · exact digs_bd hq t _ x hx
theorem digs_snoc {q : Nat} : ∀ t n : Nat, digs q t n ++ [((n / q ^ t % q : Nat) : Int)] = digs q (t + 1) n
  | 0, n => by simp [digs]
  | t + 1, n => by
    rw [digs, List.cons_append, digs, ← digs_snoc t (n / q), Nat.div_div_eq_div_mul, Nat.pow_succ, Nat.mul_comm q]
theorem digs_zero {q : Nat} : ∀ t : Nat, digs q t 0 = List.replicate t 0
  | 0 => rfl
  | t + 1 => by rw [digs, Nat.zero_div, digs_zero t, List.replicate_succ]; simp
/-- a sum over all lists of digits -/
def allL (q : Nat) : Nat → (List Int → Int) → Int
  | 0, h => h []
  | t + 1, h => sumN (fun d => allL q t (fun l => h ((d : Int) :: l))) q
theorem allL_digs {q : Nat} : ∀ (t : Nat) (h : List Int → Int), sumN (fun n => h (digs q t n)) (q ^ t) = allL q t h
  | 0, h => by simp [sumN, allL, digs]
  | t + 1, h => by
    rw [Nat.pow_succ, sumN_mul, sumN_swap, allL]
    refine sumN_congr q fun j hj => ?_
    rw [← allL_digs t]
    refine sumN_congr _ fun i hi => ?_
    have h1 : (i * q + j) % q = j := by rw [Nat.mul_comm, Nat.mul_add_mod, Nat.mod_eq_of_lt hj]
    have h2 : (i * q + j) / q = i := by rw [Nat.mul_comm, Nat.mul_add_div (by omega), Nat.div_eq_of_lt hj, Nat.add_zero]
    rw [digs, h1, h2]
theorem allL_last {q : Nat} : ∀ (t : Nat) (h : List Int → Int), allL q (t + 1) h = sumN (fun d => allL q t (fun l => h (l ++ [(d : Int)]))) q
  | 0, h => rfl
  | t + 1, h => by
    rw [allL]
    have : ∀ d : Nat, allL q (t + 1) (fun l => h ((d : Int) :: l)) = sumN (fun e => allL q t (fun l => h ((d : Int) :: (l ++ [(e : Int)])))) q := fun d => allL_last t _
    rw [sumN_congr q fun i _ => this i, sumN_swap]
    refine sumN_congr q fun j _ => ?_
    rfl
theorem allL_rev {q : Nat} : ∀ (t : Nat) (h : List Int → Int), allL q t (fun l => h l.reverse) = allL q t h
  | 0, h => rfl
  | t + 1, h => by
    rw [allL_last t h, allL]
    refine sumN_congr q fun d _ => ?_
    rw [← allL_rev t (fun l => h (l ++ [(d : Int)]))]
    congr 1
    funext l
    rw [List.reverse_cons]
def hdN (l : List Int) : Nat := (l.getD 0 0).toNat
/-- how many of the first n lists pass, by their first digit -/
def tal (q : Nat) (ok : List Int → Bool) (D : Nat → List Int) : Nat → List Int
  | 0 => List.replicate q 0
  | n + 1 => if ok (D n) = true then (tal q ok D n).set (hdN (D n)) ((tal q ok D n).getD (hdN (D n)) 0 + 1) else tal q ok D n
theorem tal_len {q : Nat} {ok : List Int → Bool} {D : Nat → List Int} : ∀ n : Nat, (tal q ok D n).length = q
  | 0 => by simp [tal]
  | n + 1 => by rw [tal]; split <;> simp [tal_len n]
theorem getD_set' {xs : List Int} {i j : Nat} {v : Int} (h : i < xs.length) : (xs.set i v).getD j 0 = if i = j then v else xs.getD j 0 := by
  simp only [List.getD_eq_getElem?_getD, List.getElem?_set]
  by_cases e : i = j
  · subst e; simp [h]
  · simp [e]
theorem tal_at {q : Nat} {ok : List Int → Bool} {D : Nat → List Int} (hD : ∀ n, hdN (D n) < q) {s : Nat} (hs : s < q) : ∀ n : Nat, (tal q ok D n).getD s 0 = sumN (fun m => if ok (D m) = true ∧ hdN (D m) = s then 1 else 0) n
  | 0 => by simp [tal, sumN, List.getD_eq_getElem?_getD, List.getElem?_replicate, hs]
  | n + 1 => by
    rw [tal, sumN, ← tal_at hD hs n]
    by_cases h1 : ok (D n) = true
    · rw [if_pos h1, getD_set' (by rw [tal_len]; exact hD n)]
      by_cases h2 : hdN (D n) = s
      · rw [if_pos h2, if_pos ⟨h1, h2⟩, h2]
      · rw [if_neg h2, if_neg (fun h => h2 h.2)]; omega
    · rw [if_neg h1, if_neg (fun h => h1 h.1)]; omega
theorem tal_bd {q : Nat} {ok : List Int → Bool} {D : Nat → List Int} (hD : ∀ n, hdN (D n) < q) {s n : Nat} (hs : s < q) : 0 ≤ (tal q ok D n).getD s 0 ∧ (tal q ok D n).getD s 0 ≤ n := by
  rw [tal_at hD hs]
  exact sumN_bd n fun i _ => by split <;> omega
theorem hdN_lt {q : Nat} (hq : 0 < q) {l : List Int} (h : ∀ x ∈ l, 0 ≤ x ∧ x < (q : Int)) : hdN l < q := by
  unfold hdN
  cases l with
  | nil => simpa using hq
  | cons x l => have := h x (by simp); simp; omega
theorem tal_eq {q t : Nat} {ok : List Int → Bool} (hq : 0 < q) : tal q ok (fun n => (digs q t n).reverse) (q ^ t) = tal q ok (digs q t) (q ^ t) := by
  have hb : ∀ n, ∀ x ∈ digs q t n, 0 ≤ x ∧ x < (q : Int) := digs_bd hq t
  have hD1 : ∀ n, hdN (digs q t n) < q := fun n => hdN_lt hq (hb n)
  have hD2 : ∀ n, hdN ((digs q t n).reverse) < q := fun n => hdN_lt hq fun x hx => hb n x (List.mem_reverse.1 hx)
  refine List.ext_getElem (by rw [tal_len, tal_len]) fun s h1 h2 => ?_
  have hs : s < q := by rw [tal_len] at h1; exact h1
  have e1 := tal_at (ok := ok) hD2 hs (q ^ t)
  have e2 := tal_at (ok := ok) hD1 hs (q ^ t)
  have e3 := allL_digs (q := q) t (fun l => if ok l.reverse = true ∧ hdN l.reverse = s then 1 else 0)
  have e4 := allL_digs (q := q) t (fun l => if ok l = true ∧ hdN l = s then 1 else 0)
  have e5 := allL_rev (q := q) t (fun l => if ok l = true ∧ hdN l = s then 1 else 0)
  have e6 := e1.trans (e3.trans (e5.trans (e4.symm.trans e2.symm)))
  simpa [List.getD_eq_getElem?_getD, List.getElem?_eq_getElem h1, List.getElem?_eq_getElem h2] using e6
/-- the next list: the last digit first -/
def nxt (q : Int) : List Int → Nat → List Int × Bool
  | xs, 0 => (xs, false)
  | xs, i + 1 => if xs.getD i 0 < q - 1 then (xs.set i (xs.getD i 0 + 1), true) else nxt q (xs.set i 0) i
theorem nxt_app {q : Int} {r : List Int} : ∀ (i : Nat) (l : List Int), i ≤ l.length → nxt q (l ++ r) i = ((nxt q l i).1 ++ r, (nxt q l i).2)
  | 0, l, _ => rfl
  | i + 1, l, h => by
    have e : (l ++ r).getD i 0 = l.getD i 0 := by
      simp [List.getD_eq_getElem?_getD, List.getElem?_append_left (show i < l.length by omega)]
    have e2 : ∀ v, (l ++ r).set i v = l.set i v ++ r := fun v => List.set_append_left _ _ (by omega)
    rw [nxt, nxt, e, e2, e2]
    split
    · rfl
    · exact nxt_app i _ (by rw [List.length_set]; omega)
theorem nxt_digs {q : Nat} (hq : 0 < q) : ∀ t n : Nat, n < q ^ t → (n + 1 < q ^ t → nxt q (digs q t n).reverse t = ((digs q t (n + 1)).reverse, true)) ∧ (n + 1 = q ^ t → (nxt q (digs q t n).reverse t).2 = false)
  | 0, n, h => by
    rw [Nat.pow_zero] at *
    exact ⟨fun h2 => by omega, fun _ => rfl⟩
  | t + 1, n, h => by
    have hd : n / q < q ^ t := by rw [Nat.pow_succ] at h; exact Nat.div_lt_of_lt_mul (by rw [Nat.mul_comm]; exact h)
    obtain ⟨i1, i2⟩ := nxt_digs hq t (n / q) hd
    have hml := Nat.mod_lt n hq
    have hdm := Nat.div_add_mod n q
    have hg : ((digs q t (n / q)).reverse ++ [((n % q : Nat) : Int)]).getD t 0 = ((n % q : Nat) : Int) := by
      simp [List.getD_eq_getElem?_getD, digs_len]
    have hs : ∀ v, ((digs q t (n / q)).reverse ++ [((n % q : Nat) : Int)]).set t v = (digs q t (n / q)).reverse ++ [v] := fun v => by
      rw [List.set_append_right _ _ (by simp [digs_len])]; simp [digs_len]
    rw [digs, List.reverse_cons, nxt, hg, hs, hs]
    by_cases hlt : ((n % q : Nat) : Int) < (q : Int) - 1
    · have e1 : (n + 1) % q = n % q + 1 := by
        have : n + 1 = q * (n / q) + (n % q + 1) := by omega
        rw [this, Nat.mul_add_mod, Nat.mod_eq_of_lt (by omega)]
      have e2 : (n + 1) / q = n / q := by
        have : n + 1 = q * (n / q) + (n % q + 1) := by omega
        rw [this, Nat.mul_add_div hq, Nat.div_eq_of_lt (a := n % q + 1) (by omega), Nat.add_zero]
      rw [if_pos hlt]
      refine ⟨fun _ => by rw [digs, e1, e2, List.reverse_cons]; simp, fun h2 => ?_⟩
      exfalso
      have : (n + 1) % q = 0 := by rw [h2, Nat.pow_succ]; exact Nat.mul_mod_left _ _
      omega
    · have em : n % q = q - 1 := by omega
      have hn1 : n + 1 = q * (n / q + 1) := by rw [Nat.mul_add, Nat.mul_one]; omega
      have e1 : (n + 1) % q = 0 := by rw [hn1, Nat.mul_mod_right]
      have e2 : (n + 1) / q = n / q + 1 := by rw [hn1, Nat.mul_div_cancel_left _ hq]
      rw [if_neg hlt, nxt_app t _ (by simp [digs_len])]
      refine ⟨fun h2 => ?_, fun h2 => ?_⟩
      · have h3 : n / q + 1 < q ^ t := by
          rw [hn1, Nat.pow_succ, Nat.mul_comm (q ^ t)] at h2
          exact Nat.lt_of_mul_lt_mul_left h2
        rw [i1 h3, digs, e1, e2, List.reverse_cons]
        simp
      · have h3 : n / q + 1 = q ^ t := by
          rw [hn1, Nat.pow_succ, Nat.mul_comm (q ^ t)] at h2
          exact Nat.eq_of_mul_eq_mul_left hq h2
        exact i2 h3
end Go.Proofs.Ytjapjmhifoeogaa
