import Derived.Test.YtgnnmifpfgpllaaZN1
/- Plain mathematics: products of powers of two, Horner. -/
set_option linter.all false
set_option linter.unusedVariables false
set_option linter.unusedSimpArgs false
namespace M
/-- products of powers, from the first -/
def rpI (p q : Int) (bits : List Int) : Nat → Int
  | 0 => 1
  | k + 1 => mulL p [rpI p q bits k, gpw p q (bits.getD k 0) (1 * 2 ^ k)]
/-- squares and products, from the last -/
def hor (p : Int) : List Int → Int
  | [] => 1
  | b :: r => mulL p [hor p r, hor p r, b]
def prd : List Int → Nat → Int
  | [], _ => 1
  | b :: r, j => b ^ (2 ^ j) * prd r (j + 1)
def hpl : List Int → Int
  | [] => 1
  | b :: r => hpl r * hpl r * b
theorem prd_hpl : ∀ (l : List Int) (j : Nat), prd l j = hpl l ^ (2 ^ j)
  | [], j => by rw [prd, hpl, Int.one_pow]
  | b :: r, j => by
    rw [prd, prd_hpl r (j + 1), hpl, Nat.pow_succ, Nat.mul_comm (2 ^ j) 2, sq_pow]
    generalize hpl r * hpl r = x
    rw [Int.mul_pow, Int.mul_comm]
theorem mulL2_cg {p a b : Int} : cg p (mulL p [a, b]) (a * b) := by
  show cg p (1 * a % p * b % p) (a * b)
  refine cg.md.trans' (cg.mul (cg.md.trans' ?_) cg.rfl')
  rw [Int.one_mul]; exact cg.rfl'
theorem mulL3_cg {p a b c : Int} : cg p (mulL p [a, b, c]) (a * b * c) := by
  show cg p (1 * a % p * b % p * c % p) (a * b * c)
  refine cg.md.trans' (cg.mul (cg.md.trans' (cg.mul (cg.md.trans' ?_) cg.rfl')) cg.rfl')
  rw [Int.one_mul]; exact cg.rfl'
theorem gpw_two {p q x : Int} {k : Nat} (h : (2 : Int) ^ k < q) : cg p (gpw p q x (1 * 2 ^ k)) (x ^ (2 ^ k)) := by
  have h0 : (0 : Int) ≤ 1 * 2 ^ k := by rw [Int.one_mul]; exact Int.pow_nonneg (by decide)
  rw [gpw_eq_pw h0 (by rw [Int.one_mul]; exact h)]
  refine (pw_cg _ _ _).trans' (cg.of_eq ?_)
  congr 1
  rw [Int.one_mul]
  have : ((2 : Int) ^ k) = ((2 ^ k : Nat) : Int) := by rw [Int.natCast_pow]; rfl
  rw [this, Int.toNat_natCast]
theorem rpI_cg {p q : Int} {bits : List Int} : ∀ (k : Nat), k ≤ bits.length → (∀ j : Nat, j < k → (2 : Int) ^ j < q) → cg p (rpI p q bits k * prd (bits.drop k) k) (prd bits 0)
  | 0, _, _ => by rw [rpI, Int.one_mul, List.drop_zero]; exact cg.rfl'
  | k + 1, hk, hq => by
    have ih := rpI_cg (p := p) (q := q) (bits := bits) k (by omega) (fun j hj => hq j (by omega))
    have hd : bits.drop k = bits.getD k 0 :: bits.drop (k + 1) := by
      rw [List.drop_eq_getElem_cons (by omega)]
      simp [List.getD_eq_getElem?_getD, List.getElem?_eq_getElem (show k < bits.length by omega)]
    rw [hd, prd] at ih
    rw [rpI]
    refine (cg.mul (mulL2_cg.trans' (cg.mul cg.rfl' (gpw_two (hq k (by omega))))) cg.rfl').trans' ?_
    rwa [Int.mul_assoc]
theorem hor_cg {p : Int} : ∀ l : List Int, cg p (hor p l) (hpl l)
  | [] => cg.rfl'
  | b :: r => by
    rw [hor, hpl]
    exact mulL3_cg.trans' (cg.mul (cg.mul (hor_cg r) (hor_cg r)) cg.rfl')
theorem rpI_bd {p q : Int} (hp : 3 ≤ p) {bits : List Int} : ∀ k, 0 ≤ rpI p q bits k ∧ rpI p q bits k < p
  | 0 => by rw [rpI]; omega
  | k + 1 => by rw [rpI]; exact mulL_lt (by omega) _
theorem hor_bd {p : Int} (hp : 3 ≤ p) : ∀ l : List Int, 0 ≤ hor p l ∧ hor p l < p
  | [] => by rw [hor]; omega
  | b :: r => by rw [hor]; exact mulL_lt (by omega) _
theorem rpI_hor {p q : Int} (hp : 3 ≤ p) {bits : List Int} (hq : ∀ j : Nat, j < bits.length → (2 : Int) ^ j < q) : rpI p q bits bits.length = hor p bits := by
  refine cg.eq (m := p) ?_ (rpI_bd hp _) (hor_bd hp _)
  have h := rpI_cg (p := p) (q := q) (bits := bits) bits.length (Nat.le_refl _) hq
  rw [List.drop_length, prd, Int.mul_one, prd_hpl bits 0] at h
  rw [show (2 : Nat) ^ 0 = 1 from rfl, Int.pow_succ, Int.pow_zero, Int.one_mul] at h
  exact h.trans' (hor_cg bits).symm'
theorem two_lt {q : Int} {n : Nat} (h : (2 : Int) ^ n < q) {j : Nat} (hj : j < n) : (2 : Int) ^ j < q := by
  have e : ∀ m : Nat, ((2 : Int) ^ m) = ((2 ^ m : Nat) : Int) := fun m => by rw [Int.natCast_pow]; rfl
  have h1 : (2 : Nat) ^ j ≤ 2 ^ n := Nat.pow_le_pow_right (by omega) (by omega)
  rw [e] at *
  omega
end M
