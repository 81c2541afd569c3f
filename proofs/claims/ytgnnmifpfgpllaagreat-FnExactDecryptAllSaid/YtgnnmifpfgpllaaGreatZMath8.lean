/- Plain mathematics: logarithms by search. -/
import Derived.Test.YtgnnmifpfgpllaaGreatZN1
/- Plain mathematics: an element's powers below the order differ; how many answers there are. -/
set_option linter.all false
set_option linter.unusedVariables false
set_option linter.unusedSimpArgs false
namespace M
theorem ord_descent {p x : Int} {q : Nat} (hpr : ∀ d : Nat, 2 ≤ d → d < q → ¬ d ∣ q) (hq : cg p (x ^ q) 1) : ∀ n k : Nat, k ≤ n → 0 < k → k < q → cg p (x ^ k) 1 → cg p x 1
  | 0, k, h, h0, _, _ => by omega
  | n + 1, k, h, h0, hk, hx => by
    rcases Nat.lt_or_ge k 2 with h2 | h2
    · obtain rfl : k = 1 := by omega
      rw [Int.pow_succ, Int.pow_zero, Int.one_mul] at hx
      exact hx
    · have hr : q % k ≠ 0 := fun e => hpr k h2 hk (Nat.dvd_of_mod_eq_zero e)
      have hlt : q % k < k := Nat.mod_lt _ h0
      refine ord_descent hpr hq n (q % k) (by omega) (by omega) (by omega) ?_
      have e : x ^ q = (x ^ k) ^ (q / k) * x ^ (q % k) := by
        rw [← Int.pow_mul, ← Int.pow_add, Nat.div_add_mod]
      have h1 : cg p (x ^ q) (1 * x ^ (q % k)) := by
        rw [e]; exact cg.mul (cg.one_pow hx _) cg.rfl'
      rw [Int.one_mul] at h1
      exact h1.symm'.trans' hq
theorem prime_nat {q : Int} (h : Prime q) : ∀ d : Nat, 2 ≤ d → d < q.toNat → ¬ d ∣ q.toNat := fun d h2 hd hv => by
  refine h.2 (d : Int) (by omega) (by omega) ?_
  obtain ⟨c, hc⟩ := hv
  exact ⟨(c : Int), by have := h.1; have h3 : ((q.toNat : Nat) : Int) = q := by omega
                       rw [← h3, hc]; simp⟩
theorem gpw_one_imp {p q x d : Int} (hp : 3 ≤ p) (hq : Prime q) (h : elem p q x) (h0 : 0 < d) (hd : d < q) (h1 : gpw p q x d = 1) : x = 1 := by
  have h2 := hq.1
  have hc : cg p (x ^ d.toNat) 1 := by
    have := gpw_cg p q x d
    rw [h1, Int.emod_eq_of_lt (by omega) hd] at this
    exact this.symm'
  have h3 := ord_descent (prime_nat hq) (h.ord hp) d.toNat d.toNat (Nat.le_refl _) (by omega) (by omega) hc
  exact h3.eq ⟨by have := h.1.1; omega, h.1.2⟩ ⟨by omega, by omega⟩
/-- the numbers below n for which f holds, counted -/
def cnt (f : Int → Bool) : Nat → Int
  | 0 => 0
  | n + 1 => cnt f n + if f n then 1 else 0
end M

set_option linter.all false
set_option linter.unusedVariables false
set_option linter.unusedSimpArgs false
namespace M
/-- the first number below n with a property, or -1 -/
def lgN (P : Nat → Bool) : Nat → Int
  | 0 => -1
  | n + 1 => if 0 ≤ lgN P n then lgN P n else if P n = true then (n : Int) else -1
theorem lg_next {P : Nat → Bool} {k : Nat} (h : lgN P k = -1) (hp : P k = false) : lgN P (k + 1) = -1 := by
  rw [lgN, h, if_neg (by omega), hp, if_neg (by simp)]
theorem lg_at {P : Nat → Bool} {k : Nat} (h : lgN P k = -1) (hp : P k = true) : lgN P (k + 1) = k := by
  rw [lgN, h, if_neg (by omega), hp, if_pos rfl]
theorem lg_up {P : Nat → Bool} : ∀ {m n : Nat}, m ≤ n → 0 ≤ lgN P m → lgN P n = lgN P m
  | m, n, h, h0 => by
    induction n with
    | zero => obtain rfl : m = 0 := by omega
              rfl
    | succ n ih =>
      by_cases e : m = n + 1
      · rw [e]
      · rw [lgN, ih (by omega), if_pos h0]
theorem lg_hit {P : Nat → Bool} {k n : Nat} (h : lgN P k = -1) (hp : P k = true) (hk : k < n) : lgN P n = k := by
  rw [lg_up (m := k + 1) (by omega) (by rw [lg_at h hp]; omega), lg_at h hp]
theorem gpw_one {p q g : Int} (hG : Grp p q g) : gpw p q g 1 = g := by
  have := hG.q2
  rw [gpw_eq_pw (by omega) (by omega)]
  show g ^ 1 % p = g
  rw [Int.pow_succ, Int.pow_zero, Int.one_mul]
  exact Int.emod_eq_of_lt (by have := hG.g2; omega) hG.gp
theorem gpw_up {p q g : Int} (hG : Grp p q g) (k : Nat) : gpw p q g (k : Int) * g % p = gpw p q g ((k + 1 : Nat) : Int) := by
  have h := gpw_add hG.p3 hG.q2 hG.gen (k : Int) 1
  rw [gpw_one hG] at h
  have e : ((k + 1 : Nat) : Int) = (k : Int) + 1 := by omega
  rw [e]
  unfold cg at h
  rw [h]
  have h3 := gpw_lt (p := p) (q := q) (x := g) (e := (k : Int) + 1) hG.p3
  exact Int.emod_eq_of_lt h3.1 h3.2
theorem gpw_full {p q g : Int} (hp : 3 ≤ p) (hq : 2 ≤ q) {k : Nat} (hk : (k : Int) = q) : gpw p q g (k : Int) = 1 := by
  rw [← gpw_mod, hk, Int.emod_self]
  exact gpw_zero hp
theorem gpw_not {p q g : Int} (hG : Grp p q g) {k : Nat} (h0 : 0 < k) (hk : (k : Int) < q) : gpw p q g (k : Int) ≠ 1 := fun h => by
  have := gpw_one_imp hG.p3 hG.pq hG.gen (by omega) hk h
  have := hG.g2
  omega
theorem elem_one {p q : Int} (hp : 3 ≤ p) : elem p q 1 := elem.mk' hp (by omega) (by rw [Int.one_pow]; exact cg.rfl')
theorem mulL_el {p q : Int} (hp : 3 ≤ p) (hq : 2 ≤ q) {l : List Int} (h : ∀ x ∈ l, elem p q x) : elem p q (mulL p l) := mulL_elem hp hq l 1 (elem_one hp) h
end M
