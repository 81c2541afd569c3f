/- Plain mathematics: residues, powers, primes, inverses, groups. -/
set_option linter.all false
set_option linter.unusedVariables false
set_option linter.unusedSimpArgs false
namespace M

def cg (m a b : Int) : Prop := a % m = b % m

theorem cg.rfl' {m a : Int} : cg m a a := by unfold cg; rfl
theorem cg.of_eq {m a b : Int} (h : a = b) : cg m a b := by rw [h]; exact cg.rfl'
theorem cg.symm' {m a b : Int} (h : cg m a b) : cg m b a := Eq.symm h
theorem cg.trans' {m a b c : Int} (h : cg m a b) (k : cg m b c) : cg m a c := Eq.trans h k
theorem cg.mul {m a b c d : Int} (h : cg m a b) (k : cg m c d) : cg m (a * c) (b * d) := by
  unfold cg at *; rw [Int.mul_emod, h, k, ← Int.mul_emod]
theorem cg.add {m a b c d : Int} (h : cg m a b) (k : cg m c d) : cg m (a + c) (b + d) := by
  unfold cg at *; rw [Int.add_emod, h, k, ← Int.add_emod]
theorem cg.sub {m a b c d : Int} (h : cg m a b) (k : cg m c d) : cg m (a - c) (b - d) := by
  unfold cg at *; rw [Int.sub_emod, h, k, ← Int.sub_emod]
theorem cg.pow {m a b : Int} (h : cg m a b) : ∀ n : Nat, cg m (a ^ n) (b ^ n)
  | 0 => by rw [Int.pow_zero, Int.pow_zero]; exact cg.rfl'
  | n + 1 => by rw [Int.pow_succ, Int.pow_succ]; exact (cg.pow h n).mul h
theorem cg.md {m a : Int} : cg m (a % m) a := Int.emod_emod_of_dvd a (Int.dvd_refl m)
theorem cg.eq {m a b : Int} (h : cg m a b) (ha : 0 ≤ a ∧ a < m) (hb : 0 ≤ b ∧ b < m) : a = b := by
  unfold cg at h; rwa [Int.emod_eq_of_lt ha.1 ha.2, Int.emod_eq_of_lt hb.1 hb.2] at h
theorem cg.one_pow {m a : Int} (h : cg m a 1) (n : Nat) : cg m (a ^ n) 1 := by
  have := cg.pow h n; rwa [Int.one_pow] at this

/-- a ^ e mod m -/
def pw (a e m : Int) : Int := a ^ e.toNat % m

theorem sq_pow (a : Int) (k : Nat) : a ^ (2 * k) = (a * a) ^ k := by
  rw [Int.pow_mul, show a ^ 2 = a * a from by rw [Int.pow_succ, Int.pow_succ, Int.pow_zero, Int.one_mul]]
theorem pw_step0 (out a m : Int) (e : Nat) (h : e % 2 = 0) : (out * (a * a % m) ^ (e / 2)) % m = (out * a ^ e) % m := by
  have h1 : cg m ((a * a % m) ^ (e / 2)) (a ^ e) := by
    refine (cg.pow cg.md _).trans' (cg.of_eq ?_)
    rw [← sq_pow]; congr 1; omega
  exact cg.mul cg.rfl' h1
theorem pw_step1 (out a m : Int) (e : Nat) (h : e % 2 = 1) : (out * a % m * (a * a % m) ^ (e / 2)) % m = (out * a ^ e) % m := by
  have h1 : cg m ((a * a % m) ^ (e / 2)) ((a * a) ^ (e / 2)) := cg.pow cg.md _
  have : a ^ e = a * (a * a) ^ (e / 2) := by
    rw [← sq_pow, Int.mul_comm, ← Int.pow_succ]; congr 1; omega
  rw [this, ← Int.mul_assoc]
  exact cg.mul cg.md h1

theorem pw_start (a e m : Int) : (1 % m * a ^ e.toNat) % m = pw a e m := by
  have : cg m (1 % m * a ^ e.toNat) (a ^ e.toNat) := (cg.mul cg.md cg.rfl').trans' (cg.of_eq (Int.one_mul _))
  exact this
theorem pw_round1 (o a m e : Int) (h0 : 0 ≤ e) (h : e % 2 = 1) : (o * a % m * (a * a % m) ^ (e / 2).toNat) % m = (o * a ^ e.toNat) % m := by
  rw [show (e / 2).toNat = e.toNat / 2 by omega]; exact pw_step1 o a m e.toNat (by omega)
theorem pw_round0 (o a m e : Int) (h0 : 0 ≤ e) (h : e % 2 = 0) : (o * (a * a % m) ^ (e / 2).toNat) % m = (o * a ^ e.toNat) % m := by
  rw [show (e / 2).toNat = e.toNat / 2 by omega]; exact pw_step0 o a m e.toNat (by omega)
theorem pw_end {o a' e' m v : Int} (h : (o * a' ^ e'.toNat) % m = v) (he : e' ≤ 0) (ho : 0 ≤ o ∧ o < m) : o = v := by
  rw [show e'.toNat = 0 by omega, Int.pow_zero, Int.mul_one, Int.emod_eq_of_lt ho.1 ho.2] at h; exact h
theorem pw_lt (a e m : Int) (hm : 0 < m) : 0 ≤ pw a e m ∧ pw a e m < m := ⟨Int.emod_nonneg _ (by omega), Int.emod_lt_of_pos _ hm⟩
/-- products of residues fit -/
theorem mul_fit {a b m : Int} (ha : 0 ≤ a ∧ a < m) (hb : 0 ≤ b ∧ b < m) (hm : m ≤ 2000000000) : 0 ≤ a * b ∧ a * b < 4000000000000000000 := by
  refine ⟨Int.mul_nonneg ha.1 hb.1, ?_⟩
  have h1 : a * b ≤ 1999999999 * b := Int.mul_le_mul_of_nonneg_right (by omega) hb.1
  omega

/-! primes -/
def Prime (n : Int) : Prop := 2 ≤ n ∧ ∀ d : Int, 2 ≤ d → d < n → ¬ d ∣ n

theorem prime_of_trial {n : Int} (h2 : 2 ≤ n) (h : ∀ d : Int, 2 ≤ d → d * d ≤ n → ¬ d ∣ n) : Prime n := by
  refine ⟨h2, fun d hd hdn hdvd => ?_⟩
  obtain ⟨k, hk⟩ := hdvd
  have hk0 : 0 < k := by
    rcases Int.lt_or_le 0 k with hk0 | hk0
    · exact hk0
    · have : d * k ≤ 0 := Int.mul_nonpos_of_nonneg_of_nonpos (by omega) hk0
      omega
  have hk1 : 2 ≤ k := by
    rcases Int.lt_or_le k 2 with hk1 | hk1
    · have : k = 1 := by omega
      subst this; omega
    · exact hk1
  rcases Int.lt_or_le d k with hlt | hge
  · refine h d hd ?_ ⟨k, hk⟩
    rw [hk]; exact Int.mul_le_mul_of_nonneg_left (by omega) (by omega)
  · refine h k hk1 ?_ ⟨d, by rw [hk, Int.mul_comm]⟩
    rw [hk]; exact Int.mul_le_mul_of_nonneg_right (by omega) (by omega)
theorem prime_odd_trial {n : Int} (h2 : 2 ≤ n) (ho : n % 2 ≠ 0 ∨ n = 2) (h : ∀ d : Int, 3 ≤ d → d % 2 = 1 → d * d ≤ n → ¬ d ∣ n) : Prime n := by
  refine prime_of_trial h2 fun d hd hdd hdvd => ?_
  by_cases he : d % 2 = 1
  · exact h d (by omega) he hdd hdvd
  · have h2d : (2 : Int) ∣ d := by omega
    have : (2 : Int) ∣ n := Int.dvd_trans h2d hdvd
    rcases ho with ho | ho
    · omega
    · subst ho
      have := Int.mul_le_mul hd hd (by omega) (by omega)
      omega

/-! inverses -/
def isInv (a m x : Int) : Prop := 0 ≤ x ∧ x < m ∧ a * x % m = 1
theorem isInv_unique {a m x y : Int} (hx : isInv a m x) (hy : isInv a m y) : x = y := by
  have hm : 1 < m := by
    have h := hx.2.2
    rcases Int.lt_or_le 1 m with h1 | h1
    · exact h1
    · have : m = 1 := by have := hx.1; have := hx.2.1; omega
      subst this; omega
  have h1 : cg m (a * x) 1 := by unfold cg; rw [hx.2.2, Int.emod_eq_of_lt (by omega) hm]
  have h2 : cg m (a * y) 1 := by unfold cg; rw [hy.2.2, Int.emod_eq_of_lt (by omega) hm]
  have h3 : cg m (x * (a * y)) x := (cg.mul cg.rfl' h2).trans' (cg.of_eq (Int.mul_one x))
  have h4 : cg m (y * (a * x)) y := (cg.mul cg.rfl' h1).trans' (cg.of_eq (Int.mul_one y))
  have h5 : x * (a * y) = y * (a * x) := by rw [Int.mul_left_comm, Int.mul_left_comm y a x, Int.mul_comm x y]
  exact cg.eq (h3.symm'.trans' ((cg.of_eq h5).trans' h4)) ⟨hx.1, hx.2.1⟩ ⟨hy.1, hy.2.1⟩
open Classical in
noncomputable def invm (a m : Int) : Int := if h : ∃ x, isInv a m x then Classical.choose h else 0
theorem invm_eq {a m x : Int} (h : isInv a m x) : invm a m = x := by
  have hex : ∃ x, isInv a m x := ⟨x, h⟩
  unfold invm; rw [dif_pos hex]
  exact isInv_unique (Classical.choose_spec hex) h
theorem invm_none {a m : Int} (h : ¬ ∃ x, isInv a m x) : invm a m = 0 := by unfold invm; rw [dif_neg h]

structure EI (a m r n x o : Int) : Prop where
  n0 : 0 ≤ n
  r0 : 0 < r
  rm : r ≤ m
  nm : n ≤ m
  gcd : Int.gcd r n = Int.gcd a m
  hr : cg m r (x * a)
  hn : cg m n (o * a)
  xs : -m ≤ x ∧ x ≤ m
  sgn : (x ≤ 0 ∧ 0 ≤ o ∧ r * o - n * x = m) ∨ (0 ≤ x ∧ o ≤ 0 ∧ n * x - r * o = m)

theorem le_mul_of_pos {a b : Int} (h : 1 ≤ a) (hb : 0 ≤ b) : b ≤ a * b := by
  have := Int.mul_le_mul_of_nonneg_right h hb; omega
/-- the second coefficient is small while r is positive -/
theorem EI.o_small {a m r n x o : Int} (h : EI a m r n x o) : -m ≤ o ∧ o ≤ m := by
  have hr := h.r0; have hn := h.n0
  rcases h.sgn with ⟨h1, h2, h3⟩ | ⟨h1, h2, h3⟩
  · have h4 := le_mul_of_pos (show 1 ≤ r by omega) h2
    have h5 : n * x ≤ 0 := Int.mul_nonpos_of_nonneg_of_nonpos hn h1
    omega
  · have h4 := le_mul_of_pos (show 1 ≤ r by omega) (show 0 ≤ -o by omega)
    have h5 : 0 ≤ n * x := Int.mul_nonneg hn h1
    rw [Int.mul_neg] at h4
    omega
theorem EI.step {a m r n x o : Int} (h : EI a m r n x o) (hn : 0 < n) : EI a m n (r - r / n * n) o (x - r / n * o) := by
  have hmod : r - r / n * n = r % n := by have := Int.mul_ediv_add_emod r n; rw [Int.mul_comm] at this; omega
  have hq : 0 ≤ r / n := Int.ediv_nonneg (by have := h.r0; omega) (by omega)
  have hlt := Int.emod_lt_of_pos r hn
  have hge := Int.emod_nonneg r (show n ≠ 0 by omega)
  refine ⟨by omega, hn, h.nm, by have := h.nm; omega, ?_, h.hn, ?_, h.o_small, ?_⟩
  · rw [Int.gcd_sub_mul_right_right, Int.gcd_comm]; exact h.gcd
  · refine (h.hr.sub (cg.mul (m := m) (a := r / n) cg.rfl' h.hn)).trans' (cg.of_eq ?_)
    rw [Int.sub_mul, Int.mul_assoc]
  · rcases h.sgn with ⟨h1, h2, h3⟩ | ⟨h1, h2, h3⟩
    · have h4 : 0 ≤ r / n * o := Int.mul_nonneg hq h2
      refine .inr ⟨h2, by omega, ?_⟩
      rw [Int.sub_mul, Int.mul_sub, Int.mul_left_comm n (r / n) o, Int.mul_assoc]; omega
    · have h4 : r / n * o ≤ 0 := Int.mul_nonpos_of_nonneg_of_nonpos hq h2
      refine .inl ⟨h2, by omega, ?_⟩
      rw [Int.sub_mul, Int.mul_sub, Int.mul_left_comm n (r / n) o, Int.mul_assoc]; omega
theorem EI.done_inv {a m r x o : Int} (hm : 2 ≤ m) (h : EI a m r 0 x o) (hr : r = 1) : isInv a m (x % m) := by
  refine ⟨Int.emod_nonneg _ (by omega), Int.emod_lt_of_pos _ (by omega), ?_⟩
  have h1 : cg m (a * (x % m)) 1 := by
    refine (cg.mul cg.rfl' cg.md).trans' ?_
    rw [Int.mul_comm, ← hr]; exact h.hr.symm'
  unfold cg at h1; rw [h1, Int.emod_eq_of_lt (by omega) (by omega)]
theorem EI.done_none {a m r x o : Int} (h : EI a m r 0 x o) (hr : r ≠ 1) : ¬ ∃ y, isInv a m y := by
  rintro ⟨y, _, _, hy⟩
  have hg : (Int.gcd a m : Int) = r := by
    rw [← h.gcd, Int.gcd_zero_right]; have := h.r0; omega
  have h1 : r ∣ a := hg ▸ Int.gcd_dvd_left ..
  have h2 : r ∣ m := hg ▸ Int.gcd_dvd_right ..
  have h3 : r ∣ 1 := by
    rw [← hy, Int.emod_def]
    exact Int.dvd_sub (Int.dvd_mul_of_dvd_left h1) (Int.dvd_mul_of_dvd_left h2)
  have := Int.le_of_dvd (by omega) h3
  have := h.r0
  omega
/-- what impl.inverse hands back -/
theorem EI.result {a m r x o : Int} (hm : 2 ≤ m) (h : EI a m r 0 x o) : invm a m = if r = 1 then x % m else 0 := by
  by_cases hr : r = 1
  · rw [if_pos hr]; exact invm_eq (h.done_inv hm hr)
  · rw [if_neg hr]; exact invm_none (h.done_none hr)


/-! groups -/
structure Grp (p q g : Int) : Prop where
  p3 : 3 ≤ p
  pM : p ≤ 2000000000
  q2 : 2 ≤ q
  qp : q < p
  dv : (p - 1) % q = 0
  g2 : 2 ≤ g
  gp : g < p
  pp : Prime p
  pq : Prime q
  go : pw g q p = 1

def elem (p q x : Int) : Prop := (1 ≤ x ∧ x < p) ∧ pw x q p = 1
instance (p q x : Int) : Decidable (elem p q x) := by unfold elem; infer_instance

theorem elem.mk' {p q x : Int} (hp : 3 ≤ p) (hx : 1 ≤ x ∧ x < p) (h : cg p (x ^ q.toNat) 1) : elem p q x := by
  refine ⟨hx, ?_⟩
  unfold pw; unfold cg at h; rw [h, Int.emod_eq_of_lt (by omega) (by omega)]
/-- gr.pow -/
def gpw (p q x e : Int) : Int := pw x (e % q) p
theorem gpw_lt {p q x e : Int} (hp : 3 ≤ p) : 0 ≤ gpw p q x e ∧ gpw p q x e < p := pw_lt _ _ _ (by omega)
theorem elem.one {p q : Int} (hp : 3 ≤ p) : elem p q 1 := elem.mk' hp ⟨by omega, by omega⟩ (by rw [Int.one_pow]; exact cg.rfl')
theorem tmod_fix (n m : Int) (hm : 1 ≤ m ∧ m ≤ 2000000000) : -m < n.tmod m ∧ n.tmod m < m ∧ (n.tmod m + m).tmod m = n % m := by
  have h1 : n.tmod m < m := Int.tmod_lt_of_pos n (by omega)
  have h2 : -m < n.tmod m := by
    rcases Int.lt_or_le n 0 with hn | hn
    · have h4 := Int.neg_tmod (-n) m
      rw [Int.neg_neg] at h4
      have h5 : (-n).tmod m < m := Int.tmod_lt_of_pos _ (by omega)
      omega
    · rw [Int.tmod_eq_emod_of_nonneg hn]; have := Int.emod_nonneg n (show m ≠ 0 by omega); omega
  refine ⟨h2, h1, ?_⟩
  rw [Int.tmod_eq_emod_of_nonneg (by omega), Int.add_emod_right, Int.emod_def, Int.emod_def]
  have h3 : n.tmod m = n - m * n.tdiv m := Int.tmod_def n m
  have h4 : cg m (n.tmod m) n := by
    unfold cg
    rw [h3, Int.sub_mul_emod_self_left]
  unfold cg at h4
  rw [← Int.emod_def, ← Int.emod_def]; exact h4

open Classical in
noncomputable def primeB (n : Int) : Bool := decide (Prime n)
open Classical in
theorem primeB_t {n : Int} (h : Prime n) : primeB n = true := by unfold primeB; exact decide_eq_true h
open Classical in
theorem primeB_f {n : Int} (h : ¬ Prime n) : primeB n = false := by unfold primeB; exact decide_eq_false h
open Classical in
theorem primeB_of {n : Int} (h : primeB n = true) : Prime n := by unfold primeB at h; exact of_decide_eq_true h
theorem not_prime_small {n : Int} (h : n < 2) : ¬ Prime n := fun hp => by have := hp.1; omega
theorem not_prime_dvd {n d : Int} (hd : 2 ≤ d) (hlt : d < n) (h : n % d = 0) : ¬ Prime n := fun hp => hp.2 d hd hlt (Int.dvd_of_emod_eq_zero h)
theorem not_prime_even {n : Int} (h : n % 2 = 0) (h2 : n ≠ 2) : ¬ Prime n := fun hp => by
  have := hp.1; exact hp.2 2 (by omega) (by omega) (by omega)
theorem lt_of_sq {d n : Int} (hd : 2 ≤ d) (h : d * d ≤ n) : d < n := by
  have := Int.mul_le_mul_of_nonneg_right hd (show 0 ≤ d by omega); omega
theorem prime_of_odd_loop {n d : Int} (h2 : 2 ≤ n) (ho : n % 2 ≠ 0 ∨ n = 2) (hn : n < d * d) (hd : 3 ≤ d) (h : ∀ k : Int, 3 ≤ k → k < d → k % 2 = 1 → ¬ k ∣ n) : Prime n := by
  refine prime_odd_trial h2 ho fun k hk hk2 hkk => h k hk ?_ hk2
  rcases Int.lt_or_le k d with h1 | h1
  · exact h1
  · have := Int.mul_le_mul h1 h1 (by omega) (by omega); omega
theorem prime_of_loop {n d : Int} (h2 : 2 ≤ n) (hn : n < d * d) (hd : 2 ≤ d) (h : ∀ k : Int, 2 ≤ k → k < d → ¬ k ∣ n) : Prime n := by
  refine prime_of_trial h2 fun k hk hkk => h k hk ?_
  rcases Int.lt_or_le k d with h1 | h1
  · exact h1
  · have := Int.mul_le_mul h1 h1 (by omega) (by omega); omega
theorem sq_small {d : Int} (h0 : 0 ≤ d) (h : d ≤ 50000) : d * d ≤ 2500000000 := by
  have := Int.mul_le_mul h h h0 (by omega); omega
theorem sq_bound {d n : Int} (h : d * d ≤ n) (hn : n ≤ 2000000000) (h0 : 0 ≤ d) : d ≤ 44721 := by
  rcases Int.lt_or_le 44721 d with h1 | h1
  · have := Int.mul_le_mul (show (44722 : Int) ≤ d by omega) (show (44722 : Int) ≤ d by omega) (by omega) h0; omega
  · exact h1
open Classical in
noncomputable def goodB (p q g : Int) : Bool := decide (Grp p q g)
open Classical in
theorem goodB_of {p q g : Int} (h : goodB p q g = true) : Grp p q g := by unfold goodB at h; exact of_decide_eq_true h
open Classical in
theorem goodB_not {p q g : Int} (h : ¬ Grp p q g) : goodB p q g = false := by unfold goodB; exact decide_eq_false h
open Classical in
theorem goodB_mk {p q g : Int} (h : Grp p q g) : goodB p q g = true := by unfold goodB; exact decide_eq_true h
theorem goodB_iff {p q g : Int} {b : Bool} (h : b = true ↔ Grp p q g) : goodB p q g = b := by
  cases b with
  | true => exact goodB_mk (h.1 rfl)
  | false => exact goodB_not fun hg => by have := h.2 hg; cases this
end M
