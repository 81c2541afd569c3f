import Derived.Test.YtjapjmhifoeogaaZN1
/- Plain mathematics: an element's powers below the order differ; how many answers there are. -/
set_option linter.all false
set_option linter.unusedVariables false
set_option linter.unusedSimpArgs false
namespace M
theorem ord_descent {p x : Int} {q : Nat} (hpr : ∀ d : Nat, 2 ≤ d → d < q → ¬ d ∣ q) (hq : cg p (x ^ q) 1) : ∀ n k : Nat, k ≤ n → 0 < k → k < q → cg p (x ^ k) 1 → cg p x 1
  | 0, k, h, h0, _, _ => by omega
  | n + 1, k, h, h0, hk, hx => by
    rcases Nat.lt_or_ge k 2 with h2 | h2
    · obtain rfl : k = 1 := by omega
      rw [Int.pow_succ, Int.pow_zero, Int.one_mul] at hx
      exact hx
    · have hr : q % k ≠ 0 := fun e => hpr k h2 hk (Nat.dvd_of_mod_eq_zero e)
      have hlt : q % k < k := Nat.mod_lt _ h0
      refine ord_descent hpr hq n (q % k) (by omega) (by omega) (by omega) ?_
      have e : x ^ q = (x ^ k) ^ (q / k) * x ^ (q % k) := by
        rw [← Int.pow_mul, ← Int.pow_add, Nat.div_add_mod]
      have h1 : cg p (x ^ q) (1 * x ^ (q % k)) := by
        rw [e]; exact cg.mul (cg.one_pow hx _) cg.rfl'
      rw [Int.one_mul] at h1
      exact h1.symm'.trans' hq
theorem prime_nat {q : Int} (h : Prime q) : ∀ d : Nat, 2 ≤ d → d < q.toNat → ¬ d ∣ q.toNat := fun d h2 hd hv => by
  refine h.2 (d : Int) (by omega) (by omega) ?_
  obtain ⟨c, hc⟩ := hv
  exact ⟨(c : Int), by have := h.1; have h3 : ((q.toNat : Nat) : Int) = q := by omega
                       rw [← h3, hc]; simp⟩
theorem gpw_one_imp {p q x d : Int} (hp : 3 ≤ p) (hq : Prime q) (h : elem p q x) (h0 : 0 < d) (hd : d < q) (h1 : gpw p q x d = 1) : x = 1 := by
  have h2 := hq.1
  have hc : cg p (x ^ d.toNat) 1 := by
    have := gpw_cg p q x d
    rw [h1, Int.emod_eq_of_lt (by omega) hd] at this
    exact this.symm'
  have h3 := ord_descent (prime_nat hq) (h.ord hp) d.toNat d.toNat (Nat.le_refl _) (by omega) (by omega) hc
  exact h3.eq ⟨by have := h.1.1; omega, h.1.2⟩ ⟨by omega, by omega⟩
theorem gpw_inj' {p q x a b : Int} (hp : 3 ≤ p) (hq : Prime q) (h : elem p q x) (hx : x ≠ 1) (ha : 0 ≤ a) (hab : a < b) (hb : b < q) : gpw p q x a ≠ gpw p q x b := fun e => by
  have h2 := hq.1
  refine hx (gpw_one_imp (d := b - a) hp hq h (by omega) (by omega) ?_)
  have e1 : cg p (gpw p q x a * gpw p q x (b - a)) (gpw p q x b) := by
    have := gpw_add hp h2 h a (b - a)
    rwa [show a + (b - a) = b by omega] at this
  have e2 := gpw_neg hp h2 h a
  have e3 : cg p (gpw p q x (b - a)) 1 := by
    have k1 : cg p (gpw p q x (-a) * (gpw p q x a * gpw p q x (b - a))) (gpw p q x (-a) * gpw p q x b) := cg.mul cg.rfl' e1
    have k2 : cg p (gpw p q x (-a) * gpw p q x b) 1 := by rw [← e, Int.mul_comm]; exact e2
    have k3 : cg p (gpw p q x (-a) * (gpw p q x a * gpw p q x (b - a))) (1 * gpw p q x (b - a)) := by
      rw [← Int.mul_assoc, Int.mul_comm (gpw p q x (-a))]; exact cg.mul e2 cg.rfl'
    rw [Int.one_mul] at k3
    exact k3.symm'.trans' (k1.trans' k2)
  exact e3.eq (gpw_lt hp) ⟨by omega, by omega⟩
theorem gpw_inj {p q x a b : Int} (hp : 3 ≤ p) (hq : Prime q) (h : elem p q x) (hx : x ≠ 1) (ha : 0 ≤ a ∧ a < q) (hb : 0 ≤ b ∧ b < q) (e : gpw p q x a = gpw p q x b) : a = b := by
  rcases Int.lt_trichotomy a b with h1 | h1 | h1
  · exact absurd e (gpw_inj' hp hq h hx ha.1 h1 hb.2)
  · exact h1
  · exact absurd e.symm (gpw_inj' hp hq h hx hb.1 h1 ha.2)
/-- the numbers below n for which f holds, counted -/
def cnt (f : Int → Bool) : Nat → Int
  | 0 => 0
  | n + 1 => cnt f n + if f n then 1 else 0
def anyB (f : Int → Bool) : Nat → Bool
  | 0 => false
  | n + 1 => anyB f n || f n
theorem cnt_none {f : Int → Bool} : ∀ n : Nat, (∀ k : Nat, k < n → f k = false) → cnt f n = 0
  | 0, _ => rfl
  | n + 1, h => by rw [cnt, cnt_none n fun k hk => h k (by omega), h n (by omega)]; rfl
theorem cnt_one {f : Int → Bool} : ∀ n : Nat, (∀ j k : Nat, j < n → k < n → f j = true → f k = true → j = k) → cnt f n = if anyB f n then 1 else 0
  | 0, _ => rfl
  | n + 1, h => by
    rw [cnt, anyB]
    cases hf : f n with
    | false => rw [cnt_one n fun j k hj hk => h j k (by omega) (by omega)]; simp
    | true =>
      rw [cnt_none n fun k hk => by
        cases hk2 : f k with
        | false => rfl
        | true => have := h k n (by omega) (by omega) hk2 hf; omega]
      simp
theorem cnt_lt {f : Int → Bool} : ∀ n : Nat, 0 ≤ cnt f n ∧ cnt f n ≤ n
  | 0 => by simp [cnt]
  | n + 1 => by have := cnt_lt (f := f) n; rw [cnt]; split <;> omega
theorem anyB_true {f : Int → Bool} : ∀ n : Nat, anyB f n = true ↔ ∃ k : Nat, k < n ∧ f k = true
  | 0 => by simp [anyB]
  | n + 1 => by
    rw [anyB, Bool.or_eq_true, anyB_true n]
    constructor
    · rintro (⟨k, hk, h⟩ | h)
      · exact ⟨k, by omega, h⟩
      · exact ⟨n, by omega, h⟩
    · rintro ⟨k, hk, h⟩
      rcases Nat.lt_or_ge k n with h2 | h2
      · exact .inl ⟨k, h2, h⟩
      · obtain rfl : k = n := by omega
        exact .inr h
/-- a count of pairs -/
def cnt2 (f : Int → Int → Bool) (m : Nat) : Nat → Int
  | 0 => 0
  | n + 1 => cnt2 f m n + cnt (f n) m
theorem cnt2_any {f : Int → Int → Bool} {m : Nat} : ∀ n : Nat, (∀ c : Nat, c < n → ∀ j k : Nat, j < m → k < m → f c j = true → f c k = true → j = k) → cnt2 f m n = cnt (fun c => anyB (f c) m) n
  | 0, _ => rfl
  | n + 1, h => by rw [cnt2, cnt, cnt2_any n fun c hc => h c (by omega), cnt_one m (h n (by omega))]
theorem cnt2_lt {f : Int → Int → Bool} {m : Nat} : ∀ n : Nat, 0 ≤ cnt2 f m n ∧ cnt2 f m n ≤ n * m
  | 0 => by simp [cnt2]
  | n + 1 => by
    have := cnt2_lt (f := f) (m := m) n
    have h2 := cnt_lt (f := f n) m
    rw [cnt2]
    have : ((n + 1 : Nat) : Int) * m = n * m + m := by rw [Int.natCast_add, Int.add_mul]; simp
    omega
end M
