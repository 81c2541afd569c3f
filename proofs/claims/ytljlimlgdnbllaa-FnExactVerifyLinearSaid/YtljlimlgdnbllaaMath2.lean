/- Plain mathematics: products, digests, polynomials' values. -/
import Derived.Test.YtljlimlgdnbllaaMath
set_option linter.all false
set_option linter.unusedVariables false
set_option linter.unusedSimpArgs false
namespace M

/-! products -/
def mulL (p : Int) (l : List Int) : Int := l.foldl (fun o x => o * x % p) 1
theorem foldl_mul_lt {p : Int} (hp : 2 ≤ p) : ∀ (l : List Int) (o : Int), 0 ≤ o ∧ o < p → 0 ≤ l.foldl (fun o x => o * x % p) o ∧ l.foldl (fun o x => o * x % p) o < p
  | [], _, h => h
  | x :: l, o, _ => foldl_mul_lt hp l (o * x % p) ⟨Int.emod_nonneg _ (by omega), Int.emod_lt_of_pos _ (by omega)⟩
theorem mulL_lt {p : Int} (hp : 2 ≤ p) (l : List Int) : 0 ≤ mulL p l ∧ mulL p l < p := foldl_mul_lt hp l 1 (by omega)
theorem mulL_two {p a b : Int} (ha : 0 ≤ a ∧ a < p) : mulL p [a, b] = a * b % p := by
  show 1 * a % p * b % p = a * b % p
  rw [Int.one_mul, Int.emod_eq_of_lt ha.1 ha.2]
theorem mulL_snoc (p : Int) (l : List Int) (x : Int) : mulL p (l ++ [x]) = mulL p l * x % p := by unfold mulL; rw [List.foldl_append]; rfl
theorem mulL_elem {p q : Int} (hp : 3 ≤ p) (hq : 2 ≤ q) : ∀ (l : List Int) (o : Int), elem p q o → (∀ x ∈ l, elem p q x) → elem p q (l.foldl (fun o x => o * x % p) o)
  | [], _, ho, _ => ho
  | x :: l, o, ho, h => mulL_elem hp hq l _ (ho.mul' hp hq (h x (by simp))) fun y hy => h y (by simp [hy])

/-- gr.powers -/
def powL (p q : Int) : Int → List Int → List Int → Int
  | o, x :: l, e :: es => powL p q (o * gpw p q x e % p) l es
  | o, _, _ => o
theorem powL_lt {p q : Int} (hp : 2 ≤ p) : ∀ (l es : List Int) (o : Int), 0 ≤ o ∧ o < p → 0 ≤ powL p q o l es ∧ powL p q o l es < p
  | x :: l, e :: es, o, _ => powL_lt hp l es _ ⟨Int.emod_nonneg _ (by omega), Int.emod_lt_of_pos _ (by omega)⟩
  | [], _, o, h => by unfold powL; exact h
  | _ :: _, [], o, h => by unfold powL; exact h
theorem powL_take {p q : Int} : ∀ (l es : List Int) (o : Int) (k : Nat) (hk : k < l.length) (hk' : k < es.length), powL p q o (l.take (k + 1)) (es.take (k + 1)) = powL p q o (l.take k) (es.take k) * gpw p q l[k] es[k] % p
  | x :: l, e :: es, o, 0, _, _ => by simp [powL]
  | x :: l, e :: es, o, k + 1, hk, hk' => by
    simp only [List.take_succ_cons, powL, List.getElem_cons_succ]
    exact powL_take l es _ k (by simpa using hk) (by simpa using hk')
theorem powL_full {p q : Int} : ∀ (l es : List Int) (o : Int), l.length ≤ es.length → powL p q o l (es.take l.length) = powL p q o l es
  | [], es, o, _ => by unfold powL; simp
  | x :: l, e :: es, o, h => by
    simp only [List.length_cons, List.take_succ_cons, powL]
    exact powL_full l es _ (by simpa using h)
  | x :: l, [], o, h => by simp at h
theorem powL_elem {p q : Int} (hp : 3 ≤ p) (hq : 2 ≤ q) : ∀ (l es : List Int) (o : Int), elem p q o → (∀ x ∈ l, elem p q x) → elem p q (powL p q o l es)
  | x :: l, e :: es, o, ho, h => by
    unfold powL
    exact powL_elem hp hq l es _ (ho.mul' hp hq ((h x (by simp)).gpw' hp hq e)) fun y hy => h y (by simp [hy])
  | [], _, o, ho, _ => by unfold powL; exact ho
  | _ :: _, [], o, ho, _ => by unfold powL; exact ho
theorem gpw_pred {p q x : Int} (hq : 2 ≤ q) : pw x (q - 1) p = gpw p q x (-1) := by
  unfold gpw; rw [show (-1 : Int) % q = q - 1 from by
    rw [Int.emod_def]; have : (-1 : Int) / q = -1 := by
      rw [Int.ediv_eq_iff_of_pos (by omega)]; omega
    rw [this]; omega]

/-! digests -/
def hs (s b : Int) : Int := (48271 * s + b + 1) % 2147483647
def ht (t b : Int) : Int := (69621 * t + b + 1) % 2147483647
def hab (st : Int × Int) (x : Int) : Int × Int := (hs (hs st.1 (x % 2147483648)) (x / 2147483648), ht (ht st.2 (x % 2147483648)) (x / 2147483648))
def hfold (l : List Int) : Int × Int := l.foldl hab (1, 2)
def hashL (l : List Int) : Int := (hfold ((l.length : Int) :: l)).1 * 2147483648 + (hfold ((l.length : Int) :: l)).2
theorem hs_lt (s b : Int) : 0 ≤ hs s b ∧ hs s b < 2147483647 := by unfold hs; omega
theorem ht_lt (s b : Int) : 0 ≤ ht s b ∧ ht s b < 2147483647 := by unfold ht; omega
theorem hab_lt (st : Int × Int) (x : Int) : (0 ≤ (hab st x).1 ∧ (hab st x).1 < 2147483647) ∧ (0 ≤ (hab st x).2 ∧ (hab st x).2 < 2147483647) := ⟨hs_lt _ _, ht_lt _ _⟩
theorem hfold_snoc (l : List Int) (x : Int) : hfold (l ++ [x]) = hab (hfold l) x := by unfold hfold; rw [List.foldl_append]; rfl
theorem hfold_lt (l : List Int) : (0 ≤ (hfold l).1 ∧ (hfold l).1 < 2147483647) ∧ (0 ≤ (hfold l).2 ∧ (hfold l).2 < 2147483647) := by
  rcases List.eq_nil_or_concat l with rfl | ⟨l', x, rfl⟩
  · unfold hfold; simp
  · rw [List.concat_eq_append, hfold_snoc]; exact hab_lt _ _
theorem hashL_lt (l : List Int) : 0 ≤ hashL l ∧ hashL l ≤ 4611686018427387903 := by
  have := hfold_lt ((l.length : Int) :: l); unfold hashL; omega
def lab (s : List UInt8) (l : List Int) : List Int := (s.length : Int) :: (s.map fun b => (b.toNat : Int)) ++ l
def chal (p q g : Int) (s : List UInt8) (l : List Int) : Int := hashL (lab s (p :: q :: g :: l)) % q
theorem chal_lt {p q g : Int} (hq : 2 ≤ q) (s : List UInt8) (l : List Int) : 0 ≤ chal p q g s l ∧ chal p q g s l < q := ⟨Int.emod_nonneg _ (by omega), Int.emod_lt_of_pos _ (by omega)⟩
end M
