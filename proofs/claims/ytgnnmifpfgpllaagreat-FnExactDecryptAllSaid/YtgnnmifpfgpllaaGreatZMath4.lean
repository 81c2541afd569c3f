import Derived.Test.YtgnnmifpfgpllaaGreatZD21
/- Plain mathematics: values of products of polynomials, basis polynomials. -/
set_option linter.all false
set_option linter.unusedVariables false
set_option linter.unusedSimpArgs false
namespace Go.Proofs.YtgnnmifpfgpllaaGreat
open Go.RowKit
theorem cg_emod {m a : Int} : M.cg m (a % m) a := M.cg.md
theorem ev_cons {q x a : Int} {l : List Int} : M.cg q (evL q x (a :: l)) (evL q x l * x + a) := M.cg.md
theorem ev_set {q x : Int} : ∀ (out : List Int) (j : Nat) (v : Int), j < out.length → M.cg q (evL q x (out.set j v)) (evL q x out + (v - out.getD j 0) * x ^ j)
  | [], j, v, h => by simp at h
  | a :: l, 0, v, _ => by
    rw [List.set_cons_zero]
    refine ev_cons.trans' ?_
    have h1 : M.cg q (evL q x (a :: l) + (v - (a :: l).getD 0 0) * x ^ 0) ((evL q x l * x + a) + (v - a)) := (ev_cons.add (M.cg.of_eq (by simp)))
    exact (h1.trans' (M.cg.of_eq (by omega))).symm'
  | a :: l, j + 1, v, h => by
    rw [List.set_cons_succ]
    have ih := ev_set (q := q) (x := x) l j v (by simpa using h)
    refine ev_cons.trans' ?_
    have h1 : M.cg q (evL q x (l.set j v) * x + a) ((evL q x l + (v - l.getD j 0) * x ^ j) * x + a) := (ih.mul M.cg.rfl').add M.cg.rfl'
    have h2 : M.cg q (evL q x (a :: l) + (v - (a :: l).getD (j + 1) 0) * x ^ (j + 1)) ((evL q x l * x + a) + (v - l.getD j 0) * x ^ (j + 1)) := ev_cons.add (M.cg.of_eq (by simp))
    refine h1.trans' (M.cg.trans' (M.cg.of_eq ?_) h2.symm')
    rw [Int.pow_succ]; grind
theorem ev_in {q a x : Int} {i : Nat} : ∀ (g : List Int) (k : Nat) (out : List Int), i + k + g.length ≤ out.length → M.cg q (evL q x (mulIn q a i g k out)) (evL q x out + a * x ^ (i + k) * evL q x g)
  | [], k, out, _ => by
    simp only [mulIn, evL]
    exact M.cg.of_eq (by simp)
  | b :: l, k, out, h => by
    simp only [List.length_cons] at h
    have ih := ev_in (q := q) (a := a) (x := x) (i := i) l (k + 1) (out.set (i + k) ((out.getD (i + k) 0 + a * b) % q)) (by rw [List.length_set]; omega)
    refine ih.trans' ?_
    have h1 := ev_set (q := q) (x := x) out (i + k) ((out.getD (i + k) 0 + a * b) % q) (by omega)
    have h2 : M.cg q ((out.getD (i + k) 0 + a * b) % q - out.getD (i + k) 0) (a * b) := (cg_emod.sub M.cg.rfl').trans' (M.cg.of_eq (by omega))
    have h3 : M.cg q (evL q x out + ((out.getD (i + k) 0 + a * b) % q - out.getD (i + k) 0) * x ^ (i + k) + a * x ^ (i + (k + 1)) * evL q x l) (evL q x out + a * b * x ^ (i + k) + a * x ^ (i + (k + 1)) * evL q x l) := (M.cg.add M.cg.rfl' (h2.mul M.cg.rfl')).add M.cg.rfl'
    have h4 : M.cg q (evL q x out + a * x ^ (i + k) * evL q x (b :: l)) (evL q x out + a * x ^ (i + k) * (evL q x l * x + b)) := M.cg.add M.cg.rfl' (M.cg.mul M.cg.rfl' ev_cons)
    refine (h1.add M.cg.rfl').trans' (h3.trans' (M.cg.trans' (M.cg.of_eq ?_) h4.symm'))
    rw [show i + (k + 1) = i + k + 1 by omega, Int.pow_succ]; grind
theorem ev_out {q x : Int} (hq : 2 ≤ q) {g : List Int} : ∀ (f : List Int) (i : Nat) (out : List Int), (∀ y ∈ out, 0 ≤ y ∧ y < q) → i + f.length + g.length ≤ out.length + 1 → M.cg q (evL q x (mulOut q g f i out)) (evL q x out + x ^ i * evL q x f * evL q x g)
  | [], i, out, _, _ => by
    simp only [mulOut, evL]
    exact M.cg.of_eq (by simp)
  | a :: l, i, out, hb, h => by
    simp only [List.length_cons] at h
    have hok := mulIn_ok (a := a) hq (i := i) g 0 out hb
    have ih := ev_out (q := q) (x := x) hq (g := g) l (i + 1) (mulIn q a i g 0 out) hok.2 (by rw [hok.1]; omega)
    refine ih.trans' ?_
    have h1 := ev_in (q := q) (a := a) (x := x) (i := i) g 0 out (by omega)
    have h4 : M.cg q (evL q x out + x ^ i * evL q x (a :: l) * evL q x g) (evL q x out + x ^ i * (evL q x l * x + a) * evL q x g) := M.cg.add M.cg.rfl' (M.cg.mul (M.cg.mul M.cg.rfl' ev_cons) M.cg.rfl')
    refine (h1.add M.cg.rfl').trans' (M.cg.trans' (M.cg.of_eq ?_) h4.symm')
    rw [Nat.add_zero, Int.pow_succ]; grind
theorem ev_repl {q x : Int} (hq : 2 ≤ q) : ∀ n : Nat, evL q x (List.replicate n 0) = 0
  | 0 => rfl
  | n + 1 => by
    rw [List.replicate_succ]
    show (evL q x (List.replicate n 0) * x + 0) % q = 0
    rw [ev_repl hq n]; simp
theorem ev_mul {q x : Int} (hq : 2 ≤ q) {f g : List Int} (hf : 0 < f.length) (hg : 0 < g.length) : evL q x (mulP q f g) = evL q x f * evL q x g % q := by
  have h := ev_out (q := q) (x := x) hq (g := g) f 0 _ (repl_bd (n := f.length + g.length - 1) hq) (by rw [List.length_replicate]; omega)
  rw [ev_repl hq] at h
  have h2 : M.cg q (evL q x (mulP q f g)) (evL q x f * evL q x g % q) := h.trans' ((M.cg.of_eq (by simp)).trans' cg_emod.symm')
  exact h2.eq (evL_bd hq _) (emod_bd (by omega))
/-- products of differences -/
def prodF (q x : Int) : List Int → Int → Int
  | [], u => u
  | b :: l, u => prodF q x l (u * ((x - b) % q) % q)
theorem prodF_bd {q x : Int} (hq : 2 ≤ q) : ∀ (l : List Int) (u : Int), 0 ≤ u ∧ u < q → 0 ≤ prodF q x l u ∧ prodF q x l u < q
  | [], u, h => h
  | b :: l, u, _ => prodF_bd hq l _ (emod_bd (by omega))
/-- the polynomial of some roots -/
def rootsF (q : Int) : List Int → List Int → List Int
  | [], o => o
  | r :: l, o => rootsF q l (mulP q o [(-r) % q, 1])
theorem ev_root {q x r : Int} (hq : 2 ≤ q) : evL q x [(-r) % q, 1] = (x - r) % q := by
  have h : M.cg q (evL q x [(-r) % q, 1]) ((x - r) % q) := by
    refine ev_cons.trans' ?_
    have h1 : M.cg q (evL q x [1]) 1 := by
      refine ev_cons.trans' (M.cg.of_eq ?_)
      simp [evL]
    have h2 : M.cg q (evL q x [1] * x + (-r) % q) (1 * x + -r) := (h1.mul M.cg.rfl').add cg_emod
    exact h2.trans' ((M.cg.of_eq (by omega)).trans' cg_emod.symm')
  exact h.eq (evL_bd hq _) (emod_bd (by omega))
theorem rootsF_ok {q : Int} (hq : 2 ≤ q) : ∀ (l o : List Int), 0 < o.length → (∀ y ∈ o, 0 ≤ y ∧ y < q) → (rootsF q l o).length = o.length + l.length ∧ ∀ y ∈ rootsF q l o, 0 ≤ y ∧ y < q
  | [], o, _, h => ⟨rfl, h⟩
  | r :: l, o, h0, h => by
    have hm := mulP_ok hq (f := o) (g := [(-r) % q, 1])
    have := rootsF_ok hq l (mulP q o [(-r) % q, 1]) (by rw [hm.1]; simp <;> omega) hm.2
    rw [hm.1] at this
    simp only [List.length_cons, List.length_nil] at this ⊢
    exact ⟨by rw [rootsF, this.1]; omega, this.2⟩
theorem ev_roots {q x : Int} (hq : 2 ≤ q) : ∀ (l o : List Int), 0 < o.length → evL q x (rootsF q l o) = prodF q x l (evL q x o)
  | [], _, _ => rfl
  | r :: l, o, h0 => by
    have hm := mulP_ok hq (f := o) (g := [(-r) % q, 1])
    show evL q x (rootsF q l (mulP q o [(-r) % q, 1])) = prodF q x l (evL q x o * ((x - r) % q) % q)
    rw [ev_roots hq l _ (by rw [hm.1]; simp <;> omega), ev_mul hq h0 (by simp), ev_root hq]
theorem ev_one {q x : Int} (hq : 2 ≤ q) : evL q x [1] = 1 := by
  have h : M.cg q (evL q x [1]) 1 := ev_cons.trans' (M.cg.of_eq (by simp [evL]))
  exact h.eq (evL_bd hq _) (by omega)
/-- the other points -/
def others (xs : List Int) (i : Nat) : List Int := xs.take i ++ xs.drop (i + 1)
noncomputable def lagC (q : Int) (xs : List Int) (x : Int) (i : Nat) : Int := prodF q x (others xs i) 1 * M.invm (prodF q (xs.getD i 0) (others xs i) 1) q % q
noncomputable def lagL (q : Int) (xs : List Int) (x : Int) (n : Nat) : List Int := (List.range n).map (lagC q xs x)
theorem lagL_step {q x : Int} {xs : List Int} {k : Nat} : lagL q xs x k ++ [lagC q xs x k] = lagL q xs x (k + 1) := by simp [lagL, List.range_succ]
theorem lagL_len {q x : Int} {xs : List Int} {k : Nat} : (lagL q xs x k).length = k := by simp [lagL]
theorem lagC_bd {q x : Int} (hq : 2 ≤ q) {xs : List Int} {i : Nat} : 0 ≤ lagC q xs x i ∧ lagC q xs x i < q := emod_bd (by omega)
theorem lagL_bd {q x : Int} (hq : 2 ≤ q) {xs : List Int} {k : Nat} : ∀ y ∈ lagL q xs x k, 0 ≤ y ∧ y < q := fun y hy => by
  obtain ⟨i, _, rfl⟩ := List.mem_map.1 hy
  exact lagC_bd hq
noncomputable def basP (q : Int) (xs : List Int) (i : Nat) : List Int := mulP q (rootsF q (others xs i) [1]) [M.invm (evL q (xs.getD i 0) (rootsF q (others xs i) [1])) q]
theorem invm_bd {q a : Int} (hq : 2 ≤ q) : 0 ≤ M.invm a q ∧ M.invm a q < q := M.invm_lt (by omega)
theorem bas_ev {q x : Int} (hq : 2 ≤ q) {xs : List Int} {i : Nat} : evL q x (basP q xs i) = lagC q xs x i := by
  have h0 := rootsF_ok hq (others xs i) [1] (by simp) (by simp <;> omega)
  rw [basP, ev_mul hq (by rw [h0.1]; simp <;> omega) (by simp), ev_roots hq _ _ (by simp), ev_roots hq _ _ (by simp), ev_one hq, ev_one hq]
  have hc : evL q x [M.invm (prodF q (xs.getD i 0) (others xs i) 1) q] = M.invm (prodF q (xs.getD i 0) (others xs i) 1) q := by
    have h : M.cg q (evL q x [M.invm (prodF q (xs.getD i 0) (others xs i) 1) q]) (M.invm (prodF q (xs.getD i 0) (others xs i) 1) q) := ev_cons.trans' (M.cg.of_eq (by simp [evL]))
    exact h.eq (evL_bd hq _) (invm_bd hq)
  rw [hc]; rfl
/-- the same products, one place passed over -/
def prodG (q x : Int) (i : Nat) : List Int → Nat → Int → Int
  | [], _, u => u
  | b :: l, j, u => if j = i then prodG q x i l (j + 1) u else prodG q x i l (j + 1) (u * ((x - b) % q) % q)
theorem prodG_past {q x : Int} {i : Nat} : ∀ (l : List Int) (j : Nat) (u : Int), i < j → prodG q x i l j u = prodF q x l u
  | [], _, _, _ => rfl
  | b :: l, j, u, h => by
    simp only [prodG, prodF, if_neg (show ¬ j = i by omega)]
    exact prodG_past l (j + 1) _ (by omega)
theorem prodG_eq {q x : Int} {i : Nat} : ∀ (l : List Int) (j : Nat) (u : Int), j ≤ i → prodG q x i l j u = prodF q x (others l (i - j)) u
  | [], _, _, _ => by simp [prodG, others, prodF]
  | b :: l, j, u, h => by
    simp only [prodG]
    by_cases e : j = i
    · subst e
      rw [if_pos rfl, prodG_past l (j + 1) u (by omega), Nat.sub_self]
      simp [others]
    · rw [if_neg e, prodG_eq l (j + 1) _ (by omega)]
      have : i - j = (i - (j + 1)) + 1 := by omega
      rw [this]
      simp only [others, List.take_succ_cons, List.drop_succ_cons, List.cons_append, prodF]
/-- products that are not 0 -/
theorem nz_mul {q a b : Int} (hq : M.Prime q) (ha : a % q ≠ 0) (hb : b % q ≠ 0) : a * b % q ≠ 0 := fun h => by
  have h2 := hq.1
  have hg := M.prime_gcd hq (a := a % q) (by have := Int.emod_nonneg a (show q ≠ 0 by omega); omega) (Int.emod_lt_of_pos a (by omega))
  have h3 : q ∣ a % q * b := Int.dvd_of_emod_eq_zero (by rw [Int.mul_emod, Int.emod_emod_of_dvd a (Int.dvd_refl q), ← Int.mul_emod]; exact h)
  have h4 : q.natAbs ∣ (a % q).natAbs * b.natAbs := by rw [← Int.natAbs_mul]; exact Int.natAbs_dvd_natAbs.2 h3
  have h5 : Nat.Coprime q.natAbs (a % q).natAbs := by rw [Nat.coprime_comm]; exact hg
  have h6 : q.natAbs ∣ b.natAbs := h5.dvd_of_dvd_mul_left h4
  exact hb (Int.emod_eq_zero_of_dvd (Int.natAbs_dvd_natAbs.1 h6))
theorem prodF_nz {q x : Int} (hq : M.Prime q) : ∀ (l : List Int) (u : Int), u % q ≠ 0 → (∀ b ∈ l, (x - b) % q ≠ 0) → prodF q x l u % q ≠ 0
  | [], _, h, _ => h
  | b :: l, u, h, hb => by
    refine prodF_nz hq l _ ?_ fun c hc => hb c (by simp [hc])
    rw [Int.emod_emod_of_dvd _ (Int.dvd_refl q)]
    refine nz_mul hq h ?_
    rw [Int.emod_emod_of_dvd _ (Int.dvd_refl q)]
    exact hb b (by simp)
/-- points of trustees -/
structure PtsOK (q : Int) (xs : List Int) : Prop where
  pr : M.Prime q
  big : 7 < q ∧ q ≤ 2000000000
  len : xs.length ≤ 7
  bd : ∀ x ∈ xs, 1 ≤ x ∧ x ≤ 7
  nd : xs.Nodup
theorem others_mem {xs : List Int} {i : Nat} {b : Int} (h : b ∈ others xs i) : b ∈ xs := by
  rcases List.mem_append.1 h with h | h
  · exact List.mem_of_mem_take h
  · exact List.mem_of_mem_drop h
theorem others_ne {xs : List Int} {i : Nat} (hn : xs.Nodup) (hi : i < xs.length) {b : Int} (h : b ∈ others xs i) : xs.getD i 0 ≠ b := by
  have e : xs = xs.take i ++ xs.getD i 0 :: xs.drop (i + 1) := by rw [← drop_at 0 hi, List.take_append_drop]
  rw [e, List.nodup_append] at hn
  obtain ⟨_, h2, h3⟩ := hn
  rw [List.nodup_cons] at h2
  intro e2
  rcases List.mem_append.1 h with h | h
  · exact h3 b h _ (by simp) e2.symm
  · exact h2.1 (e2 ▸ h)
theorem PtsOK.nz {q : Int} {xs : List Int} (h : PtsOK q xs) {i : Nat} (hi : i < xs.length) : prodF q (xs.getD i 0) (others xs i) 1 % q ≠ 0 := by
  refine prodF_nz h.pr _ _ (by rw [Int.emod_eq_of_lt (by omega) (by have := h.big; omega)]; omega) fun b hb => ?_
  have h1 := h.bd _ (getD_in 0 hi)
  have h2 := h.bd _ (others_mem hb)
  have h3 := others_ne h.nd hi hb
  have h4 := h.big.1
  intro h0
  have := Int.dvd_of_emod_eq_zero h0
  obtain ⟨c, hc⟩ := this
  have : c = 0 := by
    rcases Int.lt_trichotomy c 0 with h5 | h5 | h5
    · have : q * c ≤ q * (-1) := Int.mul_le_mul_of_nonneg_left (by omega) (by omega)
      omega
    · exact h5
    · have : q * 1 ≤ q * c := Int.mul_le_mul_of_nonneg_left (by omega) (by omega)
      omega
  subst this
  omega
theorem others_len {xs : List Int} {i : Nat} (h : i < xs.length) : (others xs i).length = xs.length - 1 := by simp [others]; omega
end Go.Proofs.YtgnnmifpfgpllaaGreat
