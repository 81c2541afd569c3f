import Derived.Test.YtgnnmifpfgpllaaGreatZMath
import Derived.Test.YtgnnmifpfgpllaaGreatZKit
import Derived.Deep.RegionHeld3
/- Plain mathematics: products, digests, polynomials' values. -/
set_option linter.all false
set_option linter.unusedVariables false
set_option linter.unusedSimpArgs false
namespace M

/-! products -/
def mulL (p : Int) (l : List Int) : Int := l.foldl (fun o x => o * x % p) 1
theorem foldl_mul_lt {p : Int} (hp : 2 ≤ p) : ∀ (l : List Int) (o : Int), 0 ≤ o ∧ o < p → 0 ≤ l.foldl (fun o x => o * x % p) o ∧ l.foldl (fun o x => o * x % p) o < p
  | [], _, h => h
  | x :: l, o, _ => foldl_mul_lt hp l (o * x % p) ⟨Int.emod_nonneg _ (by omega), Int.emod_lt_of_pos _ (by omega)⟩
theorem mulL_lt {p : Int} (hp : 2 ≤ p) (l : List Int) : 0 ≤ mulL p l ∧ mulL p l < p := foldl_mul_lt hp l 1 (by omega)
theorem mulL_two {p a b : Int} (ha : 0 ≤ a ∧ a < p) : mulL p [a, b] = a * b % p := by
  show 1 * a % p * b % p = a * b % p
  rw [Int.one_mul, Int.emod_eq_of_lt ha.1 ha.2]
theorem mulL_snoc (p : Int) (l : List Int) (x : Int) : mulL p (l ++ [x]) = mulL p l * x % p := by unfold mulL; rw [List.foldl_append]; rfl
/-- gr.powers -/
def powL (p q : Int) : Int → List Int → List Int → Int
  | o, x :: l, e :: es => powL p q (o * gpw p q x e % p) l es
  | o, _, _ => o
theorem powL_lt {p q : Int} (hp : 2 ≤ p) : ∀ (l es : List Int) (o : Int), 0 ≤ o ∧ o < p → 0 ≤ powL p q o l es ∧ powL p q o l es < p
  | x :: l, e :: es, o, _ => powL_lt hp l es _ ⟨Int.emod_nonneg _ (by omega), Int.emod_lt_of_pos _ (by omega)⟩
  | [], _, o, h => by unfold powL; exact h
  | _ :: _, [], o, h => by unfold powL; exact h
theorem powL_take {p q : Int} : ∀ (l es : List Int) (o : Int) (k : Nat) (hk : k < l.length) (hk' : k < es.length), powL p q o (l.take (k + 1)) (es.take (k + 1)) = powL p q o (l.take k) (es.take k) * gpw p q l[k] es[k] % p
  | x :: l, e :: es, o, 0, _, _ => by simp [powL]
  | x :: l, e :: es, o, k + 1, hk, hk' => by
    simp only [List.take_succ_cons, powL, List.getElem_cons_succ]
    exact powL_take l es _ k (by simpa using hk) (by simpa using hk')
theorem powL_full {p q : Int} : ∀ (l es : List Int) (o : Int), l.length ≤ es.length → powL p q o l (es.take l.length) = powL p q o l es
  | [], es, o, _ => by unfold powL; simp
  | x :: l, e :: es, o, h => by
    simp only [List.length_cons, List.take_succ_cons, powL]
    exact powL_full l es _ (by simpa using h)
  | x :: l, [], o, h => by simp at h
/-! digests -/
def hs (s b : Int) : Int := (48271 * s + b + 1) % 2147483647
def ht (t b : Int) : Int := (69621 * t + b + 1) % 2147483647
def hab (st : Int × Int) (x : Int) : Int × Int := (hs (hs st.1 (x % 2147483648)) (x / 2147483648), ht (ht st.2 (x % 2147483648)) (x / 2147483648))
def hfold (l : List Int) : Int × Int := l.foldl hab (1, 2)
def hashL (l : List Int) : Int := (hfold ((l.length : Int) :: l)).1 * 2147483648 + (hfold ((l.length : Int) :: l)).2
theorem hs_lt (s b : Int) : 0 ≤ hs s b ∧ hs s b < 2147483647 := by unfold hs; omega
theorem ht_lt (s b : Int) : 0 ≤ ht s b ∧ ht s b < 2147483647 := by unfold ht; omega
theorem hab_lt (st : Int × Int) (x : Int) : (0 ≤ (hab st x).1 ∧ (hab st x).1 < 2147483647) ∧ (0 ≤ (hab st x).2 ∧ (hab st x).2 < 2147483647) := ⟨hs_lt _ _, ht_lt _ _⟩
theorem hfold_snoc (l : List Int) (x : Int) : hfold (l ++ [x]) = hab (hfold l) x := by unfold hfold; rw [List.foldl_append]; rfl
theorem hfold_lt (l : List Int) : (0 ≤ (hfold l).1 ∧ (hfold l).1 < 2147483647) ∧ (0 ≤ (hfold l).2 ∧ (hfold l).2 < 2147483647) := by
  rcases List.eq_nil_or_concat l with rfl | ⟨l', x, rfl⟩
  · unfold hfold; simp
  · rw [List.concat_eq_append, hfold_snoc]; exact hab_lt _ _
theorem hashL_lt (l : List Int) : 0 ≤ hashL l ∧ hashL l ≤ 4611686018427387903 := by
  have := hfold_lt ((l.length : Int) :: l); unfold hashL; omega
def lab (s : List UInt8) (l : List Int) : List Int := (s.length : Int) :: (s.map fun b => (b.toNat : Int)) ++ l
def chal (p q g : Int) (s : List UInt8) (l : List Int) : Int := hashL (lab s (p :: q :: g :: l)) % q
theorem chal_lt {p q g : Int} (hq : 2 ≤ q) (s : List UInt8) (l : List Int) : 0 ≤ chal p q g s l ∧ chal p q g s l < q := ⟨Int.emod_nonneg _ (by omega), Int.emod_lt_of_pos _ (by omega)⟩
end M

namespace Go.Proofs.YtgnnmifpfgpllaaGreat
open Go.RowKit
set_option maxHeartbeats 400000 in
theorem power_any (a e m : Int) (w : World) (hm : 1 ≤ m ∧ m ≤ 2000000000) (ha : 0 ≤ a ∧ a < m) (he : e ≤ 9223372036854775807) :
    Calls Tryz.prog 83 #[.int .i64 a, .int .i64 e, .int .i64 m] w fun en w' => en = .returned (.int .i64 (M.pw a e m)) ∧ w = w' := by
  obtain ⟨hm1, hm2⟩ := hm
  obtain ⟨ha1, ha2⟩ := ha
  go_enter Tryz.func83, Tryz.ntmps83
  go_wp2
  go_loop [0, 1, 7] (fun A E O => ∃ a' e' o : Int, 0 ≤ a' ∧ a' < m ∧ 0 ≤ o ∧ o < m ∧ e' ≤ 9223372036854775807 ∧ A = .int .i64 a' ∧ E = .int .i64 e' ∧ O = .int .i64 o ∧ (o * a' ^ e'.toNat) % m = M.pw a e m) (fun _ E _ => (intOf E).toNat)
  case atStart => exact ⟨a, e, 1 % m, ha1, ha2, Int.emod_nonneg _ (by omega), Int.emod_lt_of_pos _ (by omega), he, rfl, rfl, rfl, M.pw_start a e m⟩
  case round =>
    obtain ⟨a', e', o, h1, h2, h3, h4, h5, rfl, rfl, rfl, hr⟩ := hrel
    have HR := Lib.hid hr; clear hr
    obtain ⟨q3, q4⟩ := M.mul_fit ⟨h3, h4⟩ ⟨h1, h2⟩ hm2
    obtain ⟨q5, q6⟩ := M.mul_fit ⟨h1, h2⟩ ⟨h1, h2⟩ hm2
    go_wp2
    · go_round
      have hb : (bits BinOp.and IntKind.i64 e' 1 == 1) = true := by assumption
      have he' : 0 < e' := by assumption
      rw [and_one e' (by omega) h5] at hb
      have hb' : e' % 2 = 1 := by simpa using hb
      case rel => exact ⟨_, _, _, Int.emod_nonneg _ (by omega), Int.emod_lt_of_pos _ (by omega), Int.emod_nonneg _ (by omega), Int.emod_lt_of_pos _ (by omega), by omega, rfl, rfl, rfl, (M.pw_round1 o a' m e' (by omega) hb').trans HR.out⟩
      case measure => simp [intOf]; omega
    · go_round
      have hb : (bits BinOp.and IntKind.i64 e' 1 == 1) = false := by assumption
      have he' : 0 < e' := by assumption
      rw [and_one e' (by omega) h5] at hb
      have hb' : e' % 2 = 0 := by have : e' % 2 ≠ 1 := by simpa using hb
                                  omega
      case rel => exact ⟨_, _, _, Int.emod_nonneg _ (by omega), Int.emod_lt_of_pos _ (by omega), h3, h4, by omega, rfl, rfl, rfl, (M.pw_round0 o a' m e' (by omega) hb').trans HR.out⟩
      case measure => simp [intOf]; omega
    · go_ret
      exact ⟨ret_int (M.pw_end HR.out (by omega) ⟨h3, h4⟩), rfl⟩
end Go.Proofs.YtgnnmifpfgpllaaGreat

namespace Go.Proofs.YtgnnmifpfgpllaaGreat
open Go.RowKit
set_option maxHeartbeats 400000 in
theorem indexInts (fn : Nat) (fs cs : Array Value) (p : Int → Bool) (A : Option Addr) (c : Nat) (xs : List Int) (w : World) (heg : ∀ args w, (callFunc fn args).run Tryz.prog w = .ok (.enter fn args) w)
    (hx : RI w w.heap.size A xs) (hl : xs.length ≤ 9223372036854775807)
    (hf : ∀ x ∈ xs, ∀ W, Below w.heap.size w W → Calls Tryz.prog fn (fs ++ #[.int .i64 x] ++ cs) W fun e W' => e = .returned (.bool (p x)) ∧ Below W.heap.size W W') :
    Calls Tryz.prog 143 #[.slice A xs.length c, .func (.func fn) fs cs] w fun en w' => en = .returned (.int .i64 (idx p xs)) ∧ Below w.heap.size w w' := by
  go_enter Tryz.func143, Tryz.ntmps143
  go_wp2
  go_loopw [5, 8] (fun i5 i W => ∃ k : Nat, k ≤ xs.length ∧ i = .int .i64 k ∧ Below w.heap.size w W ∧ ∀ j (h : j < xs.length), j < k → p xs[j] = false) (fun _ i _ => xs.length - (intOf i).toNat)
  case atStart => exact ⟨0, by omega, rfl, Below.refl _ _, fun j h hj => by omega⟩
  case round =>
    obtain ⟨k, hk, rfl, hb, hn⟩ := hrel
    have HN := Lib.hid hn; clear hn
    by_cases hlt : k < xs.length
    · obtain ⟨ad, rfl, had, hc⟩ := (hx.below hb).at_ hlt
      have HX := Lib.hid hx; clear hx
      have hfk := Lib.hid (hf xs[k] (List.getElem_mem hlt))
      clear hf
      go_wp2_with fail
      refine (hfk.out _ hb).mono ?_
      rintro e w1 ⟨rfl, hb1⟩
      have hb2 := hb.trans (hb1.mono hb.size)
      by_cases hp : p xs[k] = true
      · go_wp2
        go_ret
        exact ⟨ret_int (idx_hit hlt hp fun j hj => HN.out j (by omega) hj).symm, hb2⟩
      · have hp' : p xs[k] = false := by simpa using hp
        clear hp
        go_wp2
        go_roundw
        case rel => exact ⟨k + 1, by omega, by go_num, hb2, fun j h hj => by
          rcases Nat.lt_or_eq_of_le (Nat.le_of_lt_succ hj) with h1 | rfl
          · exact HN.out j h h1
          · exact hp'⟩
        case measure => simp [intOf]; omega
    · have HX := Lib.hid hx; clear hx
      clear hf
      go_wp2
      go_ret
      exact ⟨ret_int (idx_miss fun j h => HN.out j h (by omega)).symm, hb⟩
end Go.Proofs.YtgnnmifpfgpllaaGreat

/- Walks of the number layer: ranges, residues, inverses, primes. -/
namespace Go.Proofs.YtgnnmifpfgpllaaGreat
open Go.RowKit
def inr (n lo hi : Int) : Bool := decide (lo ≤ n ∧ n ≤ hi)
theorem inr_t {n lo hi : Int} (h : inr n lo hi = true) : lo ≤ n ∧ n ≤ hi := by unfold inr at h; exact of_decide_eq_true h
theorem inr_f {n lo hi : Int} (h : inr n lo hi = false) : ¬ (lo ≤ n ∧ n ≤ hi) := by unfold inr at h; exact of_decide_eq_false h
theorem inr_mk {n lo hi : Int} (h : lo ≤ n ∧ n ≤ hi) : inr n lo hi = true := by unfold inr; exact decide_eq_true h
theorem inr_not {n lo hi : Int} (h : ¬ (lo ≤ n ∧ n ≤ hi)) : inr n lo hi = false := by unfold inr; exact decide_eq_false h
theorem within_any (n lo hi : Int) (w : World) :
    Calls Tryz.prog 59 #[.int .i64 n, .int .i64 lo, .int .i64 hi] w fun en w' => en = .returned (.bool (inr n lo hi)) ∧ w = w' := by
  go_enter Tryz.func59, Tryz.ntmps59
  go_wp2
  · go_ret
    exact ⟨ret_bool (by unfold inr; exact decide_eq_decide.2 ⟨fun h => ⟨by assumption, h⟩, fun h => h.2⟩), rfl⟩
  · go_ret
    exact ⟨ret_bool (inr_not fun h => by omega).symm, rfl⟩
theorem l1In_any (n lo hi : Int) (w : World) :
    Calls Tryz.prog 32 #[.int .i64 n, .int .i64 lo, .int .i64 hi] w fun en w' => en = .returned (.bool (inr n lo hi)) ∧ w = w' := by
  go_enter Tryz.func32, Tryz.ntmps32
  go_wp2
  · go_ret
    exact ⟨ret_bool (by unfold inr; exact decide_eq_decide.2 ⟨fun h => ⟨by assumption, h⟩, fun h => h.2⟩), rfl⟩
  · go_ret
    exact ⟨ret_bool (inr_not fun h => by omega).symm, rfl⟩
theorem mod_any (n m : Int) (w : World) (hm : 1 ≤ m ∧ m ≤ 2000000000) (hn : -9000000000000000000 ≤ n ∧ n ≤ 9000000000000000000) :
    Calls Tryz.prog 119 #[.int .i64 n, .int .i64 m] w fun en w' => en = .returned (.int .i64 (n % m)) ∧ w = w' := by
  obtain ⟨hm1, hm2⟩ := hm
  obtain ⟨hn1, hn2⟩ := hn
  go_enter Tryz.func119, Tryz.ntmps119
  go_wp2
  go_ret
  obtain ⟨h1, h2, h3⟩ := M.tmod_fix n m ⟨hm1, hm2⟩
  exact ⟨ret_int (by rw [show wrap64 (n.tmod m + m) = n.tmod m + m from by unfold wrap64; omega]; exact h3), rfl⟩
theorem nMod_any (n m : Int) (w : World) (hm : 1 ≤ m ∧ m ≤ 2000000000) (hn : -9000000000000000000 ≤ n ∧ n ≤ 9000000000000000000) :
    Calls Tryz.prog 115 #[.int .i64 n, .int .i64 m] w fun en w' => en = .returned (.int .i64 (n % m)) ∧ w = w' := by
  obtain ⟨hm1, hm2⟩ := hm
  obtain ⟨hn1, hn2⟩ := hn
  go_enter Tryz.func115, Tryz.ntmps115
  go_wp2
  go_ret
  obtain ⟨h1, h2, h3⟩ := M.tmod_fix n m ⟨hm1, hm2⟩
  exact ⟨ret_int (by rw [show wrap64 (n.tmod m + m) = n.tmod m + m from by unfold wrap64; omega]; exact h3), rfl⟩
theorem isModulus_any (n : Int) (w : World) :
    Calls Tryz.prog 134 #[.int .i64 n] w fun en w' => en = .returned (.bool (inr n 2 2000000000)) ∧ w = w' := by
  go_enter Tryz.func134, Tryz.ntmps134
  go_wp2_with (go_at_call 59; refine (within_any _ _ _ _).mono ?_; rintro e w' ⟨rfl, rfl⟩)
  go_ret
  exact ⟨rfl, rfl⟩
set_option maxHeartbeats 400000 in
theorem isPrime_loop (n : Int) (w : World) (h2 : 2 ≤ n) (hM : n ≤ 2000000000) (ho : n % 2 ≠ 0 ∨ n = 2) :
    Calls Tryz.prog 108 #[.int .i64 n] w fun en w' => en = .returned (.bool (M.primeB n)) ∧ w = w' := by
  have hi := inr_mk ⟨h2, hM⟩
  have HO := Lib.hid ho
  have hcase : (n % 2 = 0 ∧ (n != 2) = false) ∨ (¬ n % 2 = 0) := by
    rcases ho with h | h
    · exact .inr h
    · exact .inl ⟨by omega, by simp [h]⟩
  clear ho
  go_enter Tryz.func108, Tryz.ntmps108
  rcases hcase with ⟨_, _⟩ | hodd
  all_goals go_wp2_with (go_at_call 134; refine (isModulus_any _ _).mono ?_; rintro e w' ⟨rfl, rfl⟩)
  all_goals
    go_loop [3] (fun D => ∃ d : Int, D = .int .i64 d ∧ 3 ≤ d ∧ d ≤ 50000 ∧ d % 2 = 1 ∧ ∀ k : Int, 3 ≤ k → k < d → k % 2 = 1 → ¬ k ∣ n) (fun D => (50000 - intOf D).toNat)
    case atStart => exact ⟨3, rfl, by omega, by omega, by omega, fun k a b => by omega⟩
    case round =>
      obtain ⟨d, rfl, hd1, hd2, hd3, hk⟩ := hrel
      have HK := Lib.hid hk; clear hk
      have HD3 := Lib.hid hd3; clear hd3
      have hsq := M.sq_small (show 0 ≤ d by omega) hd2
      have hsq0 : 0 ≤ d * d := Int.mul_nonneg (by omega) (by omega)
      go_wp2
      · go_ret
        have h3 : d * d ≤ n := by assumption
        have h4 : (n % d == 0) = true := by assumption
        exact ⟨ret_bool (M.primeB_f (M.not_prime_dvd (by omega) (M.lt_of_sq (by omega) h3) (by simpa using h4))).symm, rfl⟩
      · have h3 : d * d ≤ n := by assumption
        have h4 : (n % d == 0) = false := by assumption
        have hd5 := M.sq_bound h3 hM (by omega)
        go_round
        case rel => exact ⟨d + 2, rfl, by omega, by omega, by have := HD3.out; omega, fun k a b c => by
          by_cases hkd : k < d
          · exact HK.out k a hkd c
          · have : k = d := by have := HD3.out; omega
            subst this
            intro hdv; have := Int.emod_eq_zero_of_dvd hdv; simp [this] at h4⟩
        case measure => simp [intOf]; omega
      · go_ret
        have h3 : n < d * d := by assumption
        exact ⟨ret_bool (M.primeB_t (M.prime_of_odd_loop h2 HO.out h3 hd1 HK.out)).symm, rfl⟩
theorem isPrime_any (n : Int) (w : World) :
    Calls Tryz.prog 108 #[.int .i64 n] w fun en w' => en = .returned (.bool (decide (n ≤ 2000000000) && M.primeB n)) ∧ w = w' := by
  by_cases hin : 2 ≤ n ∧ n ≤ 2000000000
  · by_cases ho : n % 2 ≠ 0 ∨ n = 2
    · refine (isPrime_loop n w hin.1 hin.2 ho).mono ?_
      rintro e w' ⟨rfl, rfl⟩
      exact ⟨ret_bool (by simp [hin.2]), rfl⟩
    · obtain ⟨h1, h2⟩ : n % 2 = 0 ∧ n ≠ 2 := ⟨by omega, by omega⟩
      have hi := inr_mk hin
      have hp := Lib.hid (M.primeB_f (M.not_prime_even h1 h2))
      have h3 : (n != 2) = true := by simpa using h2
      obtain ⟨hin1, hin2⟩ := hin
      clear h2 ho
      go_enter Tryz.func108, Tryz.ntmps108
      go_wp2_with (go_at_call 134; refine (isModulus_any _ _).mono ?_; rintro e w' ⟨rfl, rfl⟩)
      go_ret
      exact ⟨ret_bool (by rw [hp.out]; simp), rfl⟩
  · have hi := inr_not hin
    have hp : (decide (n ≤ 2000000000) && M.primeB n) = false := by
      by_cases h : n < 2
      · rw [M.primeB_f (M.not_prime_small h)]; simp
      · have : ¬ n ≤ 2000000000 := by omega
        simp [this]
    have HP := Lib.hid hp
    clear hp hin
    go_enter Tryz.func108, Tryz.ntmps108
    go_wp2_with (go_at_call 134; refine (isModulus_any _ _).mono ?_; rintro e w' ⟨rfl, rfl⟩)
    go_ret
    exact ⟨ret_bool HP.out.symm, rfl⟩
set_option maxHeartbeats 400000 in
theorem nPrime_any (n : Int) (w : World) (hM : n ≤ 2000000000) :
    Calls Tryz.prog 110 #[.int .i64 n] w fun en w' => en = .returned (.bool (M.primeB n)) ∧ w = w' := by
  by_cases h2 : 2 ≤ n
  · go_enter Tryz.func110, Tryz.ntmps110
    go_wp2
    go_loop [3] (fun D => ∃ d : Int, D = .int .i64 d ∧ 2 ≤ d ∧ d ≤ 50000 ∧ ∀ k : Int, 2 ≤ k → k < d → ¬ k ∣ n) (fun D => (50000 - intOf D).toNat)
    case atStart => exact ⟨2, rfl, by omega, by omega, fun k a b => by omega⟩
    case round =>
      obtain ⟨d, rfl, hd1, hd2, hk⟩ := hrel
      have HK := Lib.hid hk; clear hk
      have hsq := M.sq_small (show 0 ≤ d by omega) hd2
      have hsq0 : 0 ≤ d * d := Int.mul_nonneg (by omega) (by omega)
      go_wp2
      · go_ret
        have h3 : d * d ≤ n := by assumption
        have h4 : (n % d == 0) = true := by assumption
        exact ⟨ret_bool (M.primeB_f (M.not_prime_dvd (by omega) (M.lt_of_sq (by omega) h3) (by simpa using h4))).symm, rfl⟩
      · have h3 : d * d ≤ n := by assumption
        have h4 : (n % d == 0) = false := by assumption
        have hd5 := M.sq_bound h3 hM (by omega)
        go_round
        case rel => exact ⟨d + 1, rfl, by omega, by omega, fun k a b => by
          by_cases hkd : k < d
          · exact HK.out k a hkd
          · have : k = d := by omega
            subst this
            intro hdv; have := Int.emod_eq_zero_of_dvd hdv; simp [this] at h4⟩
        case measure => simp [intOf]; omega
      · go_ret
        have h3 : n < d * d := by assumption
        exact ⟨ret_bool (M.primeB_t (M.prime_of_loop h2 h3 hd1 HK.out)).symm, rfl⟩
  · have hp := Lib.hid (M.primeB_f (M.not_prime_small (n := n) (by omega)))
    have h3 : n < 2 := by omega
    clear h2
    go_enter Tryz.func110, Tryz.ntmps110
    go_wp2
    go_ret
    exact ⟨ret_bool hp.out.symm, rfl⟩
set_option maxHeartbeats 400000 in
theorem nPower_any (a e m : Int) (w : World) (hm : 1 ≤ m ∧ m ≤ 2000000000) (ha : 0 ≤ a ∧ a < m) (he : e ≤ 9223372036854775807) :
    Calls Tryz.prog 79 #[.int .i64 a, .int .i64 e, .int .i64 m] w fun en w' => en = .returned (.int .i64 (M.pw a e m)) ∧ w = w' := by
  obtain ⟨hm1, hm2⟩ := hm
  obtain ⟨ha1, ha2⟩ := ha
  go_enter Tryz.func79, Tryz.ntmps79
  go_wp2
  go_loop [0, 1, 7] (fun A E O => ∃ a' e' o : Int, 0 ≤ a' ∧ a' < m ∧ 0 ≤ o ∧ o < m ∧ e' ≤ 9223372036854775807 ∧ A = .int .i64 a' ∧ E = .int .i64 e' ∧ O = .int .i64 o ∧ (o * a' ^ e'.toNat) % m = M.pw a e m) (fun _ E _ => (intOf E).toNat)
  case atStart => exact ⟨a, e, 1 % m, ha1, ha2, Int.emod_nonneg _ (by omega), Int.emod_lt_of_pos _ (by omega), he, rfl, rfl, rfl, M.pw_start a e m⟩
  case round =>
    obtain ⟨a', e', o, h1, h2, h3, h4, h5, rfl, rfl, rfl, hr⟩ := hrel
    have HR := Lib.hid hr; clear hr
    obtain ⟨q3, q4⟩ := M.mul_fit ⟨h3, h4⟩ ⟨h1, h2⟩ hm2
    obtain ⟨q5, q6⟩ := M.mul_fit ⟨h1, h2⟩ ⟨h1, h2⟩ hm2
    go_wp2
    · go_round
      have hb : (e' % 2 == 1) = true := by assumption
      have hb' : e' % 2 = 1 := by simpa using hb
      have he' : 0 < e' := by assumption
      case rel => exact ⟨_, _, _, Int.emod_nonneg _ (by omega), Int.emod_lt_of_pos _ (by omega), Int.emod_nonneg _ (by omega), Int.emod_lt_of_pos _ (by omega), by omega, rfl, rfl, rfl, (M.pw_round1 o a' m e' (by omega) hb').trans HR.out⟩
      case measure => simp [intOf]; omega
    · go_round
      have hb : (e' % 2 == 1) = false := by assumption
      have hb' : ¬ e' % 2 = 1 := by simpa using hb
      have he' : 0 < e' := by assumption
      case rel => exact ⟨_, _, _, Int.emod_nonneg _ (by omega), Int.emod_lt_of_pos _ (by omega), h3, h4, by omega, rfl, rfl, rfl, (M.pw_round0 o a' m e' (by omega) (by omega)).trans HR.out⟩
      case measure => simp [intOf]; omega
    · go_ret
      exact ⟨ret_int (M.pw_end HR.out (by omega) ⟨h3, h4⟩), rfl⟩
end Go.Proofs.YtgnnmifpfgpllaaGreat

/- Walks of the group layer: lists that fulfil something, elements, exponents, powers, products. -/
namespace Go.Proofs.YtgnnmifpfgpllaaGreat
open Go.RowKit
theorem containsInts (fn : Nat) (fs cs : Array Value) (p : Int → Bool) (A : Option Addr) (c : Nat) (xs : List Int) (w : World) (heg : ∀ args w, (callFunc fn args).run Tryz.prog w = .ok (.enter fn args) w)
    (hx : RI w w.heap.size A xs) (hl : xs.length ≤ 9223372036854775807)
    (hf : ∀ x ∈ xs, ∀ W, Below w.heap.size w W → Calls Tryz.prog fn (fs ++ #[.int .i64 x] ++ cs) W fun e W' => e = .returned (.bool (p x)) ∧ Below W.heap.size W W') :
    Calls Tryz.prog 135 #[.slice A xs.length c, .func (.func fn) fs cs] w fun en w' => en = .returned (.bool (xs.any p)) ∧ Below w.heap.size w w' := by
  have H := Lib.hid (indexInts fn fs cs p A c xs w heg hx hl hf)
  clear heg hx hl hf
  go_enter Tryz.func135, Tryz.ntmps135
  go_wp2_with fail
  refine H.out.mono ?_
  rintro e w' ⟨rfl, hb⟩
  go_wp2
  go_ret
  exact ⟨ret_bool (idx_ge p xs), hb⟩
theorem areAll_any (fn : Nat) (fs cs : Array Value) (p : Int → Bool) (A : Option Addr) (c : Nat) (xs : List Int) (w : World) (heg : ∀ args w, (callFunc fn args).run Tryz.prog w = .ok (.enter fn args) w)
    (hx : RI w w.heap.size A xs) (hl : xs.length ≤ 9223372036854775807)
    (hf : ∀ x ∈ xs, ∀ W, Below w.heap.size w W → Calls Tryz.prog fn (fs ++ #[.int .i64 x] ++ cs) W fun e W' => e = .returned (.bool (p x)) ∧ Below W.heap.size W W') :
    Calls Tryz.prog 109 #[.slice A xs.length c, .func (.func fn) fs cs] w fun en w' => en = .returned (.bool (xs.all p)) ∧ Below w.heap.size w w' := by
  have hmf : ∀ (fn : Fn) (first cap : Array Value) (w : World), (Instr.makeFunc fn first cap).run Tryz.prog w = .ok (.func fn first cap) w := fun _ _ _ _ => rfl
  have heg2 : ∀ args w, (callFunc 136 args).run Tryz.prog w = .ok (.enter 136 args) w := enters_of Tryz.func136 (by kernel_rfl) rfl
  have hx2 := hx.new (.cells #[.func (.func fn) fs cs] 74)
  have hf2 : ∀ x ∈ xs, ∀ W, Below (w.alloc (.cells #[.func (.func fn) fs cs] 74)).heap.size (w.alloc (.cells #[.func (.func fn) fs cs] 74)) W →
      Calls Tryz.prog 136 (#[] ++ #[.int .i64 x] ++ #[.pointer (some ⟨w.heap.size, 0, none⟩)]) W fun e W' => e = .returned (.bool (!p x)) ∧ Below W.heap.size W W' := by
    intro x hxm W hb
    have hc : W.cell? ⟨w.heap.size, 0, none⟩ = some (.func (.func fn) fs cs) := by
      rw [hb.cell (p := ⟨w.heap.size, 0, none⟩) (by simp), cell_new]; rfl
    have hfx := Lib.hid (hf x hxm W ((below_new w _).trans (hb.mono (by simp))))
    clear hf hx hx2 hb
    show Calls Tryz.prog 136 #[.int .i64 x, .pointer (some ⟨w.heap.size, 0, none⟩)] W _
    go_enter Tryz.func136, Tryz.ntmps136
    go_wp2_with fail
    refine hfx.out.mono ?_
    rintro e w' ⟨rfl, hb⟩
    go_wp2
    go_ret
    exact ⟨rfl, hb⟩
  have H := Lib.hid (containsInts 136 #[] #[.pointer (some ⟨w.heap.size, 0, none⟩)] (fun x => !p x) A c xs _ heg2 hx2 hl hf2)
  clear hf hf2 hx hx2 heg heg2
  go_enter Tryz.func109, Tryz.ntmps109
  go_wp2_with fail
  refine H.out.mono ?_
  rintro e w' ⟨rfl, hb⟩
  go_wp2
  go_ret
  exact ⟨ret_bool (List.not_any_eq_all_not ..  |>.trans (by simp)), bnext (below_new w _) hb⟩
set_option maxHeartbeats 400000 in
theorem l1All_any (A : Option Addr) (c : Nat) (xs : List Int) (lo hi : Int) (w : World) (hx : RI w w.heap.size A xs) (hl : xs.length ≤ 9223372036854775807) :
    Calls Tryz.prog 137 #[.slice A xs.length c, .int .i64 lo, .int .i64 hi] w fun en w' => en = .returned (.bool (xs.all fun x => inr x lo hi)) ∧ w = w' := by
  go_enter Tryz.func137, Tryz.ntmps137
  go_wp2
  go_loop [11, 8] (fun I _ => ∃ k : Nat, k ≤ xs.length ∧ I = .int .i64 k ∧ ∀ j (h : j < xs.length), j < k → inr xs[j] lo hi = true) (fun I _ => xs.length - (intOf I).toNat)
  case atStart => exact ⟨0, by omega, rfl, fun j h hj => by omega⟩
  case round =>
    obtain ⟨k, hk, rfl, hn⟩ := hrel
    have HN := Lib.hid hn; clear hn
    by_cases hlt : k < xs.length
    · obtain ⟨ad, rfl, had, hc⟩ := hx.at_ hlt
      have HX := Lib.hid hx; clear hx
      by_cases hp : inr xs[k] lo hi = true
      · go_wp2_with (go_at_call 32; refine (l1In_any _ _ _ _).mono ?_; rintro e w' ⟨rfl, rfl⟩)
        go_round
        case rel => exact ⟨k + 1, by omega, by go_num, fun j h hj => by
          rcases Nat.lt_or_eq_of_le (Nat.le_of_lt_succ hj) with h1 | rfl
          · exact HN.out j h h1
          · exact hp⟩
        case measure => simp [intOf]; omega
      · have hp' : inr xs[k] lo hi = false := by simpa using hp
        clear hp
        go_wp2_with (go_at_call 32; refine (l1In_any _ _ _ _).mono ?_; rintro e w' ⟨rfl, rfl⟩)
        go_ret
        exact ⟨ret_bool (List.all_eq_false.2 ⟨_, List.getElem_mem hlt, by simp [hp']⟩).symm, rfl⟩
    · have HX := Lib.hid hx; clear hx
      go_wp2
      go_ret
      exact ⟨ret_bool (List.all_eq_true.2 fun x hx => by
        obtain ⟨j, hj, rfl⟩ := List.getElem_of_mem hx
        exact HN.out j hj (by omega)).symm, rfl⟩
theorem inr_exp {q e : Int} (h : inr e 0 (q - 1) = true) : 0 ≤ e ∧ e < q := by have := inr_t h; omega
def expsB (q : Int) (l : List Int) : Bool := l.all fun e => inr e 0 (q - 1)
theorem expsB_mem {q : Int} {l : List Int} (h : expsB q l = true) {e : Int} (he : e ∈ l) : 0 ≤ e ∧ e < q := inr_exp (List.all_eq_true.1 h e he)
theorem isExp_any (p q g e : Int) (w : World) (hq : -9000000000000000000 ≤ q ∧ q ≤ 9000000000000000000) :
    Calls Tryz.prog 116 #[.agg #[.int .i64 p, .int .i64 q, .int .i64 g], .int .i64 e] w fun en w' => en = .returned (.bool (inr e 0 (q - 1))) ∧ Below w.heap.size w w' := by
  obtain ⟨hq1, hq2⟩ := hq
  go_enter Tryz.func116, Tryz.ntmps116
  go_wp2_with (go_at_call 59; refine (within_any _ _ _ _).mono ?_; rintro e w' ⟨rfl, rfl⟩)
  go_ret
  exact ⟨rfl, below_new w _⟩
theorem exp_any (p q g n : Int) (w : World) (hq : 1 ≤ q ∧ q ≤ 2000000000) (hn : -9000000000000000000 ≤ n ∧ n ≤ 9000000000000000000) :
    Calls Tryz.prog 89 #[.agg #[.int .i64 p, .int .i64 q, .int .i64 g], .int .i64 n] w fun en w' => en = .returned (.int .i64 (n % q)) ∧ Below w.heap.size w w' := by
  go_enter Tryz.func89, Tryz.ntmps89
  go_wp2_with (go_at_call 119; refine (mod_any _ _ _ hq hn).mono ?_; rintro e w' ⟨rfl, rfl⟩)
  go_ret
  exact ⟨rfl, below_new w _⟩
theorem areExps_any (p q g : Int) (A : Option Addr) (c : Nat) (xs : List Int) (w : World) (hq : -9000000000000000000 ≤ q ∧ q ≤ 9000000000000000000) (hx : RI w w.heap.size A xs) (hl : xs.length ≤ 9223372036854775807) :
    Calls Tryz.prog 84 #[.agg #[.int .i64 p, .int .i64 q, .int .i64 g], .slice A xs.length c] w fun en w' => en = .returned (.bool (expsB q xs)) ∧ Below w.heap.size w w' := by
  have hmf : ∀ (fn : Fn) (first cap : Array Value) (w : World), (Instr.makeFunc fn first cap).run Tryz.prog w = .ok (.func fn first cap) w := fun _ _ _ _ => rfl
  have heg : ∀ args w, (callFunc 116 args).run Tryz.prog w = .ok (.enter 116 args) w := enters_of Tryz.func116 (by kernel_rfl) rfl
  have H := Lib.hid (areAll_any 116 #[.agg #[.int .i64 p, .int .i64 q, .int .i64 g]] #[] (fun e => inr e 0 (q - 1)) A c xs (w.alloc (.cells #[.int .i64 p, .int .i64 q, .int .i64 g] 31)) heg (hx.new _) hl fun x _ W _ => isExp_any p q g x W hq)
  clear hx heg
  go_enter Tryz.func84, Tryz.ntmps84
  go_wp2_with fail
  refine H.out.mono ?_
  rintro e w' ⟨rfl, hb⟩
  go_wp2
  go_ret
  exact ⟨rfl, bnext (below_new w _) hb⟩
theorem gExps_any (p q g : Int) (A : Option Addr) (c : Nat) (xs : List Int) (w : World) (hq : -9000000000000000000 ≤ q ∧ q ≤ 9000000000000000000) (hx : RI w w.heap.size A xs) (hl : xs.length ≤ 9223372036854775807) :
    Calls Tryz.prog 112 #[.agg #[.int .i64 p, .int .i64 q, .int .i64 g], .slice A xs.length c] w fun en w' => en = .returned (.bool (expsB q xs)) ∧ Below w.heap.size w w' := by
  have H := Lib.hid (l1All_any A c xs 0 (q - 1) (w.alloc (.cells #[.int .i64 p, .int .i64 q, .int .i64 g] 31)) (hx.new _) hl)
  obtain ⟨hq1, hq2⟩ := hq
  clear hx
  go_enter Tryz.func112, Tryz.ntmps112
  go_wp2_with fail
  refine H.out.mono ?_
  rintro e w' ⟨rfl, rfl⟩
  go_wp2
  go_ret
  exact ⟨rfl, below_new w _⟩
end Go.Proofs.YtgnnmifpfgpllaaGreat

/- Walks of the group layer: valid groups. -/
namespace Go.Proofs.YtgnnmifpfgpllaaGreat
open Go.RowKit
theorem good_lemma {p q g : Int} (g1 : 3 ≤ p) (g2 : p ≤ 2000000000) (g3 : 2 ≤ q) (g4 : q ≤ p - 1) (g5 : 2 ≤ g) (g6 : g ≤ p - 1) {b : Bool}
    (h : b = true ↔ ((p - 1) % q = 0 ∧ M.primeB p = true ∧ M.primeB q = true ∧ M.pw g q p = 1)) : M.goodB p q g = b :=
  M.goodB_iff (h.trans ⟨fun ⟨a, b, c, d⟩ => ⟨g1, g2, g3, by omega, a, g5, by omega, M.primeB_of b, M.primeB_of c, d⟩, fun hg => ⟨hg.dv, M.primeB_t hg.pp, M.primeB_t hg.pq, hg.go⟩⟩)
theorem way1 {D A B : Prop} {x q : Int} (h : D) (hA : A) (hB : q ≤ 2000000000 ∧ B) : (x == 1) = true ↔ D ∧ A ∧ B ∧ x = 1 := by simp [h, hA, hB.2]
theorem way2 {D A B : Prop} {x q : Int} (h : q ≤ 2000000000) (hB : ¬ (q ≤ 2000000000 ∧ B)) : false = true ↔ D ∧ A ∧ B ∧ x = 1 := by
  have : ¬ B := fun hb => hB ⟨h, hb⟩
  simp [this]
theorem way3 {D A B : Prop} {x : Int} (h : ¬ A) : false = true ↔ D ∧ A ∧ B ∧ x = 1 := by simp [h]
theorem way4 {D A B : Prop} {x : Int} (h : ¬ D) : false = true ↔ D ∧ A ∧ B ∧ x = 1 := by simp [h]
theorem way5 {D B : Prop} {a : Bool} {x : Int} (h : D) (hx : x = 1) (hB : B) : a = true ↔ D ∧ a = true ∧ B ∧ x = 1 := by simp [h, hx, hB]
theorem way6 {D A B : Prop} {x : Int} (h : ¬ B) : false = true ↔ D ∧ A ∧ B ∧ x = 1 := by simp [h]
theorem way7 {D A B : Prop} {x : Int} (h : ¬ x = 1) : false = true ↔ D ∧ A ∧ B ∧ x = 1 := by simp [h]
theorem bad1 {p q g : Int} (h : inr p 3 2000000000 = false) : M.goodB p q g = false := M.goodB_not fun hg => inr_f h ⟨hg.p3, hg.pM⟩
theorem bad2 {p q g : Int} (h : inr q 2 (p - 1) = false) : M.goodB p q g = false := M.goodB_not fun hg => inr_f h ⟨hg.q2, by have := hg.qp; omega⟩
theorem bad3 {p q g : Int} (h : inr g 2 (p - 1) = false) : M.goodB p q g = false := M.goodB_not fun hg => inr_f h ⟨hg.g2, by have := hg.gp; omega⟩
set_option maxHeartbeats 800000 in
theorem isValidGroup_any (p q g : Int) (w : World) :
    Calls Tryz.prog 72 #[.agg #[.int .i64 p, .int .i64 q, .int .i64 g]] w fun en w' => en = .returned (.bool (M.goodB p q g)) ∧ Below w.heap.size w w' := by
  by_cases h1 : inr p 3 2000000000 = true
  · obtain ⟨g1, g2⟩ := inr_t h1
    by_cases h2 : inr q 2 (p - 1) = true
    · obtain ⟨g3, g4⟩ := inr_t h2
      by_cases h4 : inr g 2 (p - 1) = true
      · obtain ⟨g5, g6⟩ := inr_t h4
        go_enter Tryz.func72, Tryz.ntmps72
        go_wp2_with (first | (go_at_call 59; refine (within_any _ _ _ _).mono ?_; rintro e w' ⟨rfl, rfl⟩) | (go_at_call 108; refine (isPrime_any _ _).mono ?_; rintro e w' ⟨rfl, rfl⟩) | (go_at_call 83; refine (power_any _ _ _ _ (by omega) (by omega) (by omega)).mono ?_; rintro e w' ⟨rfl, rfl⟩))
        all_goals go_ret
        all_goals refine ⟨ret_bool (good_lemma g1 g2 g3 g4 g5 g6 ?_).symm, below_new w _⟩
        all_goals first
          | exact way1 (by assumption) (by assumption) (by assumption)
          | exact way2 (q := q) (by omega) (by assumption)
          | exact way3 (by assumption)
          | exact way4 (by assumption)
          | exact way5 (by assumption) (by assumption) (by assumption)
          | exact way6 (by assumption)
          | exact way7 (by assumption)
      · have h4' : inr g 2 (p - 1) = false := by simpa using h4
        have hB := Lib.hid (bad3 (q := q) h4')
        clear h4
        go_enter Tryz.func72, Tryz.ntmps72
        go_wp2_with (first | (go_at_call 59; refine (within_any _ _ _ _).mono ?_; rintro e w' ⟨rfl, rfl⟩) | (go_at_call 108; refine (isPrime_any _ _).mono ?_; rintro e w' ⟨rfl, rfl⟩) | (go_at_call 83; refine (power_any _ _ _ _ (by omega) (by omega) (by omega)).mono ?_; rintro e w' ⟨rfl, rfl⟩))
        all_goals go_ret
        all_goals exact ⟨ret_bool hB.out.symm, below_new w _⟩
    · have h2' : inr q 2 (p - 1) = false := by simpa using h2
      have hB := Lib.hid (bad2 (g := g) h2')
      clear h2
      go_enter Tryz.func72, Tryz.ntmps72
      go_wp2_with (first | (go_at_call 59; refine (within_any _ _ _ _).mono ?_; rintro e w' ⟨rfl, rfl⟩) | (go_at_call 108; refine (isPrime_any _ _).mono ?_; rintro e w' ⟨rfl, rfl⟩) | (go_at_call 83; refine (power_any _ _ _ _ (by omega) (by omega) (by omega)).mono ?_; rintro e w' ⟨rfl, rfl⟩))
      all_goals go_ret
      all_goals exact ⟨ret_bool hB.out.symm, below_new w _⟩
  · have h1' : inr p 3 2000000000 = false := by simpa using h1
    have hB := Lib.hid (bad1 (q := q) (g := g) h1')
    clear h1
    go_enter Tryz.func72, Tryz.ntmps72
    go_wp2_with (first | (go_at_call 59; refine (within_any _ _ _ _).mono ?_; rintro e w' ⟨rfl, rfl⟩) | (go_at_call 108; refine (isPrime_any _ _).mono ?_; rintro e w' ⟨rfl, rfl⟩) | (go_at_call 83; refine (power_any _ _ _ _ (by omega) (by omega) (by omega)).mono ?_; rintro e w' ⟨rfl, rfl⟩))
    all_goals go_ret
    all_goals exact ⟨ret_bool hB.out.symm, below_new w _⟩
set_option maxHeartbeats 800000 in
theorem l2Good_any (p q g : Int) (w : World) :
    Calls Tryz.prog 75 #[.agg #[.int .i64 p, .int .i64 q, .int .i64 g]] w fun en w' => en = .returned (.bool (M.goodB p q g)) ∧ Below w.heap.size w w' := by
  by_cases h1 : inr p 3 2000000000 = true
  · obtain ⟨g1, g2⟩ := inr_t h1
    by_cases h2 : inr q 2 (p - 1) = true
    · obtain ⟨g3, g4⟩ := inr_t h2
      by_cases h4 : inr g 2 (p - 1) = true
      · obtain ⟨g5, g6⟩ := inr_t h4
        go_enter Tryz.func75, Tryz.ntmps75
        go_wp2_with (first | (go_at_call 32; refine (l1In_any _ _ _ _).mono ?_; rintro e w' ⟨rfl, rfl⟩) | (go_at_call 110; refine (nPrime_any _ _ (by omega)).mono ?_; rintro e w' ⟨rfl, rfl⟩) | (go_at_call 79; refine (nPower_any _ _ _ _ (by omega) (by omega) (by omega)).mono ?_; rintro e w' ⟨rfl, rfl⟩))
        all_goals go_ret
        all_goals refine ⟨ret_bool (good_lemma g1 g2 g3 g4 g5 g6 ?_).symm, below_new w _⟩
        all_goals first
          | exact way1 (by assumption) (by assumption) (by assumption)
          | exact way2 (q := q) (by omega) (by assumption)
          | exact way3 (by assumption)
          | exact way4 (by assumption)
          | exact way5 (by assumption) (by assumption) (by assumption)
          | exact way6 (by assumption)
          | exact way7 (by assumption)
      · have h4' : inr g 2 (p - 1) = false := by simpa using h4
        have hB := Lib.hid (bad3 (q := q) h4')
        clear h4
        go_enter Tryz.func75, Tryz.ntmps75
        go_wp2_with (first | (go_at_call 32; refine (l1In_any _ _ _ _).mono ?_; rintro e w' ⟨rfl, rfl⟩) | (go_at_call 110; refine (nPrime_any _ _ (by omega)).mono ?_; rintro e w' ⟨rfl, rfl⟩) | (go_at_call 79; refine (nPower_any _ _ _ _ (by omega) (by omega) (by omega)).mono ?_; rintro e w' ⟨rfl, rfl⟩))
        all_goals go_ret
        all_goals exact ⟨ret_bool hB.out.symm, below_new w _⟩
    · have h2' : inr q 2 (p - 1) = false := by simpa using h2
      have hB := Lib.hid (bad2 (g := g) h2')
      clear h2
      go_enter Tryz.func75, Tryz.ntmps75
      go_wp2_with (first | (go_at_call 32; refine (l1In_any _ _ _ _).mono ?_; rintro e w' ⟨rfl, rfl⟩) | (go_at_call 110; refine (nPrime_any _ _ (by omega)).mono ?_; rintro e w' ⟨rfl, rfl⟩) | (go_at_call 79; refine (nPower_any _ _ _ _ (by omega) (by omega) (by omega)).mono ?_; rintro e w' ⟨rfl, rfl⟩))
      all_goals go_ret
      all_goals exact ⟨ret_bool hB.out.symm, below_new w _⟩
  · have h1' : inr p 3 2000000000 = false := by simpa using h1
    have hB := Lib.hid (bad1 (q := q) (g := g) h1')
    clear h1
    go_enter Tryz.func75, Tryz.ntmps75
    go_wp2_with (first | (go_at_call 32; refine (l1In_any _ _ _ _).mono ?_; rintro e w' ⟨rfl, rfl⟩) | (go_at_call 110; refine (nPrime_any _ _ (by omega)).mono ?_; rintro e w' ⟨rfl, rfl⟩) | (go_at_call 79; refine (nPower_any _ _ _ _ (by omega) (by omega) (by omega)).mono ?_; rintro e w' ⟨rfl, rfl⟩))
    all_goals go_ret
    all_goals exact ⟨ret_bool hB.out.symm, below_new w _⟩
end Go.Proofs.YtgnnmifpfgpllaaGreat

/- Walks of the group layer: elements, powers, products. -/
namespace Go.Proofs.YtgnnmifpfgpllaaGreat
open Go.RowKit
def elemB (p q x : Int) : Bool := decide (M.elem p q x)
theorem elemB_t {p q x : Int} (h : elemB p q x = true) : M.elem p q x := by unfold elemB at h; exact of_decide_eq_true h
theorem elemB_mk {p q x : Int} (h : M.elem p q x) : elemB p q x = true := by unfold elemB; exact decide_eq_true h
theorem elemB_eq {p q x : Int} {b : Bool} (h : b = true ↔ M.elem p q x) : elemB p q x = b := by
  cases b with
  | true => exact elemB_mk (h.1 rfl)
  | false => unfold elemB; exact decide_eq_false fun hg => by have := h.2 hg; cases this
theorem elem_bd {p q x : Int} (h : M.elem p q x) : 0 ≤ x ∧ x < p := ⟨by have := h.1.1; omega, h.1.2⟩
def elemsB (p q : Int) (l : List Int) : Bool := l.all fun x => elemB p q x
theorem elemsB_mem {p q : Int} {l : List Int} (h : elemsB p q l = true) {x : Int} (hx : x ∈ l) : M.elem p q x := elemB_t (List.all_eq_true.1 h x hx)
set_option maxHeartbeats 400000 in
theorem has_any (p q g x : Int) (hG : M.Grp p q g) (w : World) :
    Calls Tryz.prog 60 #[.agg #[.int .i64 p, .int .i64 q, .int .i64 g], .int .i64 x] w fun en w' => en = .returned (.bool (elemB p q x)) ∧ Below w.heap.size w w' := by
  have g1 := hG.q2
  have g2 := hG.qp
  have g3 := hG.p3
  have g4 := hG.pM
  clear hG
  have hB0 : Below (w.alloc (.cells #[.int .i64 p, .int .i64 q, .int .i64 g] 31)).heap.size (w.alloc (.cells #[.int .i64 p, .int .i64 q, .int .i64 g] 31)) (w.alloc (.cells #[.int .i64 p, .int .i64 q, .int .i64 g] 31)) := Below.refl _ _
  have hT0 : Below w.heap.size w (w.alloc (.cells #[.int .i64 p, .int .i64 q, .int .i64 g] 31)) := by repeat (first | exact Below.refl _ _ | refine bnew ?_ _)
  go_enter Tryz.func60, Tryz.ntmps60
  go_wp2_with fail
  refine (within_any _ _ _ _).mono ?_
  rintro e1 w1 ⟨rfl, rfl⟩
  rcases Bool.eq_false_or_eq_true (inr x 1 (p - 1)) with h | h
  rotate_left
  · go_wp2
    go_ret
    exact ⟨ret_bool (elemB_eq ⟨fun hh => (Bool.noConfusion hh), fun hh => absurd ⟨hh.1.1, by have := hh.1.2; omega⟩ (inr_f h)⟩).symm, hT0⟩
  obtain ⟨x1, x2⟩ := inr_t h
  go_wp2_with fail
  refine (power_any _ _ _ _ (by omega) (by omega) (by omega)).mono ?_
  rintro e2 w2 ⟨rfl, rfl⟩
  go_wp2
  go_ret
  exact ⟨ret_bool (elemB_eq ⟨fun hh => ⟨by omega, by simpa using hh⟩, fun hh => by simpa using hh.2⟩).symm, hT0⟩
set_option maxHeartbeats 400000 in
theorem hasAll_any (p q g : Int) (hG : M.Grp p q g) (A : Option Addr) (c : Nat) (xs : List Int) (hl : xs.length ≤ 9223372036854775807) (w : World) (hx : RI w w.heap.size A xs) :
    Calls Tryz.prog 73 #[.agg #[.int .i64 p, .int .i64 q, .int .i64 g], .slice A xs.length c] w fun en w' => en = .returned (.bool (elemsB p q xs)) ∧ Below w.heap.size w w' := by
  have hmf : ∀ (fn : Fn) (first cap : Array Value) (w : World), (Instr.makeFunc fn first cap).run Tryz.prog w = .ok (.func fn first cap) w := fun _ _ _ _ => rfl
  have heg : ∀ args w, (callFunc 60 args).run Tryz.prog w = .ok (.enter 60 args) w := enters_of Tryz.func60 (by kernel_rfl) rfl
  have H := Lib.hid (areAll_any 60 #[.agg #[.int .i64 p, .int .i64 q, .int .i64 g]] #[] (fun x => elemB p q x) A c xs (w.alloc (.cells #[.int .i64 p, .int .i64 q, .int .i64 g] 31)) heg (hx.new _) hl fun x _ W _ => has_any p q g x hG W)
  clear hx heg hG
  have hB0 : Below (w.alloc (.cells #[.int .i64 p, .int .i64 q, .int .i64 g] 31)).heap.size (w.alloc (.cells #[.int .i64 p, .int .i64 q, .int .i64 g] 31)) (w.alloc (.cells #[.int .i64 p, .int .i64 q, .int .i64 g] 31)) := Below.refl _ _
  have hT0 : Below w.heap.size w (w.alloc (.cells #[.int .i64 p, .int .i64 q, .int .i64 g] 31)) := by repeat (first | exact Below.refl _ _ | refine bnew ?_ _)
  go_enter Tryz.func73, Tryz.ntmps73
  go_wp2_with fail
  refine (H.out).mono ?_
  rintro e1 w1 ⟨rfl, hb1⟩
  have hB1 : Below (w.alloc (.cells #[.int .i64 p, .int .i64 q, .int .i64 g] 31)).heap.size (w.alloc (.cells #[.int .i64 p, .int .i64 q, .int .i64 g] 31)) w1 := bnext (by repeat (first | exact hB0 | refine bnew ?_ _ | refine Below.drew ?_ | refine Below.drewN ?_ _)) hb1
  have hT1 : Below w.heap.size w w1 := bnext (by repeat (first | exact hT0 | refine bnew ?_ _ | refine Below.drew ?_ | refine Below.drewN ?_ _)) hb1
  obtain ⟨hc1, hf1⟩ := bcell hB1
  go_wp2
  go_ret
  exact ⟨rfl, hT1⟩
set_option maxHeartbeats 400000 in
theorem gIs_any (p q g : Int) (hG : M.Grp p q g) (A : Option Addr) (c : Nat) (xs : List Int) (hl : xs.length ≤ 9223372036854775807) (w : World) (hx : RI w w.heap.size A xs) :
    Calls Tryz.prog 54 #[.agg #[.int .i64 p, .int .i64 q, .int .i64 g], .slice A xs.length c] w fun en w' => en = .returned (.bool (elemsB p q xs)) ∧ Below w.heap.size w w' := by
  have g1 := hG.q2
  have g2 := hG.qp
  have g3 := hG.p3
  have g4 := hG.pM
  clear hG
  have hx2 := hx.new (.cells #[.int .i64 p, .int .i64 q, .int .i64 g] 31)
  clear hx
  go_enter Tryz.func54, Tryz.ntmps54
  go_wp2
  go_loop [6, 9] (fun _ I => ∃ k : Nat, k ≤ xs.length ∧ I = .int .i64 k ∧ ∀ j (h : j < xs.length), j < k → M.elem p q xs[j]) (fun _ I => xs.length - (intOf I).toNat)
  case atStart => exact ⟨0, by omega, rfl, fun j h hj => by omega⟩
  case round =>
    obtain ⟨k, hk, rfl, hn⟩ := hrel
    have HN := Lib.hid hn; clear hn
    by_cases hlt : k < xs.length
    · obtain ⟨ad, rfl, had, hc⟩ := hx2.at_ hlt
      have HX := Lib.hid hx2; clear hx2
      rcases Bool.eq_false_or_eq_true (inr xs[k] 1 (p - 1)) with h | h
      rotate_left
      · go_wp2_with (first | (go_at_call 32; refine (l1In_any _ _ _ _).mono ?_; rintro e w' ⟨rfl, rfl⟩))
        go_ret
        exact ⟨ret_bool (List.all_eq_false.2 ⟨_, List.getElem_mem hlt, by
          have hne : ¬ M.elem p q xs[k] := fun hh => absurd ⟨hh.1.1, by have := hh.1.2; omega⟩ (inr_f h)
          intro h9; exact hne (elemB_t h9)⟩).symm, below_new w _⟩
      · obtain ⟨x1, x2⟩ := inr_t h
        rcases Bool.eq_false_or_eq_true (M.pw xs[k] q p != 1) with h9 | h9
        · go_wp2_with (first | (go_at_call 32; refine (l1In_any _ _ _ _).mono ?_; rintro e w' ⟨rfl, rfl⟩) | (go_at_call 79; refine (nPower_any _ _ _ _ (by omega) (by omega) (by omega)).mono ?_; rintro e w' ⟨rfl, rfl⟩))
          go_ret
          exact ⟨ret_bool (List.all_eq_false.2 ⟨_, List.getElem_mem hlt, by
            have hne : ¬ M.elem p q xs[k] := fun hh => by have := hh.2; simp [this] at h9
            intro h9; exact hne (elemB_t h9)⟩).symm, below_new w _⟩
        · go_wp2_with (first | (go_at_call 32; refine (l1In_any _ _ _ _).mono ?_; rintro e w' ⟨rfl, rfl⟩) | (go_at_call 79; refine (nPower_any _ _ _ _ (by omega) (by omega) (by omega)).mono ?_; rintro e w' ⟨rfl, rfl⟩))
          go_round
          case rel => exact ⟨k + 1, by omega, by go_num, fun j h hj => by
            rcases Nat.lt_or_eq_of_le (Nat.le_of_lt_succ hj) with h1 | rfl
            · exact HN.out j h h1
            · exact ⟨⟨by omega, by omega⟩, by simpa using h9⟩⟩
          case measure => simp [intOf]; omega
    · have HX := Lib.hid hx2; clear hx2
      go_wp2
      go_ret
      exact ⟨ret_bool (List.all_eq_true.2 fun x hx => by
        obtain ⟨j, hj, rfl⟩ := List.getElem_of_mem hx
        exact elemB_mk (HN.out j hj (by omega))).symm, below_new w _⟩
set_option maxHeartbeats 400000 in
theorem pow_any (p q g x e : Int) (hG : M.Grp p q g) (hx : 0 ≤ x ∧ x < p) (he : -9000000000000000000 ≤ e ∧ e ≤ 9000000000000000000) (w : World) :
    Calls Tryz.prog 88 #[.agg #[.int .i64 p, .int .i64 q, .int .i64 g], .int .i64 x, .int .i64 e] w fun en w' => en = .returned (.int .i64 (M.gpw p q x e)) ∧ Below w.heap.size w w' := by
  have g1 := hG.q2
  have g2 := hG.qp
  have g3 := hG.p3
  have g4 := hG.pM
  clear hG
  have hB0 : Below (w.alloc (.cells #[.int .i64 p, .int .i64 q, .int .i64 g] 31)).heap.size (w.alloc (.cells #[.int .i64 p, .int .i64 q, .int .i64 g] 31)) (w.alloc (.cells #[.int .i64 p, .int .i64 q, .int .i64 g] 31)) := Below.refl _ _
  have hT0 : Below w.heap.size w (w.alloc (.cells #[.int .i64 p, .int .i64 q, .int .i64 g] 31)) := by repeat (first | exact Below.refl _ _ | refine bnew ?_ _)
  go_enter Tryz.func88, Tryz.ntmps88
  have h1 := Int.emod_nonneg e (show q ≠ 0 by omega)
  have h2 := Int.emod_lt_of_pos e (show 0 < q by omega)
  go_wp2_with fail
  go_region_held3 (fun W' => W'.cell? ⟨w.heap.size, 0, none⟩ = some (.int .i64 p) ∧ W'.cell? ⟨w.heap.size, 1, none⟩ = some (.int .i64 q) ∧ W'.cell? ⟨w.heap.size, 2, none⟩ = some (.int .i64 g) ∧ Below w.heap.size w W') ((go_split_ands; refine ⟨?_, ?_, ?_, ?_⟩; (first | with_reducible exact cell_keep (by with_reducible assumption) (by with_reducible assumption) | with_reducible exact cell_keep (below_new _ _) (by with_reducible assumption) | (with_reducible refine cell_set _ ?_ (by simp); (repeat with_reducible refine cell_set _ ?_ (by simp)); with_reducible assumption) | with_reducible exact cell_drew (by with_reducible assumption) | go_keep); (first | with_reducible exact cell_keep (by with_reducible assumption) (by with_reducible assumption) | with_reducible exact cell_keep (below_new _ _) (by with_reducible assumption) | (with_reducible refine cell_set _ ?_ (by simp); (repeat with_reducible refine cell_set _ ?_ (by simp)); with_reducible assumption) | with_reducible exact cell_drew (by with_reducible assumption) | go_keep); (first | with_reducible exact cell_keep (by with_reducible assumption) (by with_reducible assumption) | with_reducible exact cell_keep (below_new _ _) (by with_reducible assumption) | (with_reducible refine cell_set _ ?_ (by simp); (repeat with_reducible refine cell_set _ ?_ (by simp)); with_reducible assumption) | with_reducible exact cell_drew (by with_reducible assumption) | go_keep); (repeat (first | with_reducible assumption | with_reducible refine bnext ?_ (by with_reducible assumption) | with_reducible refine bnew ?_ _ | with_reducible refine below_set _ ?_ (by simp) | with_reducible refine Below.drew ?_ | with_reducible refine Below.drewN ?_ _)); done)) (first | (go_at_call 119; refine (mod_any _ _ _ (by omega) he).mono ?_; rintro e9 w9 ⟨rfl, rfl⟩) | (go_at_call 83; refine (power_any _ _ _ _ (by omega) hx (by omega)).mono ?_; rintro e9 w9 ⟨rfl, rfl⟩))
  go_wp2
  go_ret
  exact ⟨rfl, by first | exact (by assumption : _ ∧ _ ∧ _ ∧ _).2.2.2 | assumption⟩
set_option maxHeartbeats 400000 in
theorem gExp_any (p q g x e : Int) (hG : M.Grp p q g) (hx : 0 ≤ x ∧ x < p) (he : -9000000000000000000 ≤ e ∧ e ≤ 9000000000000000000) (w : World) :
    Calls Tryz.prog 82 #[.agg #[.int .i64 p, .int .i64 q, .int .i64 g], .int .i64 x, .int .i64 e] w fun en w' => en = .returned (.int .i64 (M.gpw p q x e)) ∧ Below w.heap.size w w' := by
  have g1 := hG.q2
  have g2 := hG.qp
  have g3 := hG.p3
  have g4 := hG.pM
  clear hG
  have hB0 : Below (w.alloc (.cells #[.int .i64 p, .int .i64 q, .int .i64 g] 31)).heap.size (w.alloc (.cells #[.int .i64 p, .int .i64 q, .int .i64 g] 31)) (w.alloc (.cells #[.int .i64 p, .int .i64 q, .int .i64 g] 31)) := Below.refl _ _
  have hT0 : Below w.heap.size w (w.alloc (.cells #[.int .i64 p, .int .i64 q, .int .i64 g] 31)) := by repeat (first | exact Below.refl _ _ | refine bnew ?_ _)
  go_enter Tryz.func82, Tryz.ntmps82
  have h1 := Int.emod_nonneg e (show q ≠ 0 by omega)
  have h2 := Int.emod_lt_of_pos e (show 0 < q by omega)
  go_wp2_with fail
  go_region_held3 (fun W' => W'.cell? ⟨w.heap.size, 0, none⟩ = some (.int .i64 p) ∧ W'.cell? ⟨w.heap.size, 1, none⟩ = some (.int .i64 q) ∧ W'.cell? ⟨w.heap.size, 2, none⟩ = some (.int .i64 g) ∧ Below w.heap.size w W') ((go_split_ands; refine ⟨?_, ?_, ?_, ?_⟩; (first | with_reducible exact cell_keep (by with_reducible assumption) (by with_reducible assumption) | with_reducible exact cell_keep (below_new _ _) (by with_reducible assumption) | (with_reducible refine cell_set _ ?_ (by simp); (repeat with_reducible refine cell_set _ ?_ (by simp)); with_reducible assumption) | with_reducible exact cell_drew (by with_reducible assumption) | go_keep); (first | with_reducible exact cell_keep (by with_reducible assumption) (by with_reducible assumption) | with_reducible exact cell_keep (below_new _ _) (by with_reducible assumption) | (with_reducible refine cell_set _ ?_ (by simp); (repeat with_reducible refine cell_set _ ?_ (by simp)); with_reducible assumption) | with_reducible exact cell_drew (by with_reducible assumption) | go_keep); (first | with_reducible exact cell_keep (by with_reducible assumption) (by with_reducible assumption) | with_reducible exact cell_keep (below_new _ _) (by with_reducible assumption) | (with_reducible refine cell_set _ ?_ (by simp); (repeat with_reducible refine cell_set _ ?_ (by simp)); with_reducible assumption) | with_reducible exact cell_drew (by with_reducible assumption) | go_keep); (repeat (first | with_reducible assumption | with_reducible refine bnext ?_ (by with_reducible assumption) | with_reducible refine bnew ?_ _ | with_reducible refine below_set _ ?_ (by simp) | with_reducible refine Below.drew ?_ | with_reducible refine Below.drewN ?_ _)); done)) (first | (go_at_call 115; refine (nMod_any _ _ _ (by omega) he).mono ?_; rintro e9 w9 ⟨rfl, rfl⟩) | (go_at_call 79; refine (nPower_any _ _ _ _ (by omega) hx (by omega)).mono ?_; rintro e9 w9 ⟨rfl, rfl⟩))
  go_wp2
  go_ret
  exact ⟨rfl, by first | exact (by assumption : _ ∧ _ ∧ _ ∧ _).2.2.2 | assumption⟩
end Go.Proofs.YtgnnmifpfgpllaaGreat

/- Walks of the group layer: products, powers. -/
namespace Go.Proofs.YtgnnmifpfgpllaaGreat
open Go.RowKit
theorem RI.lit2 (w : World) (a b : Int) (t : TypeId) {n : Nat} (hn : n = w.heap.size) : RI (w.alloc (.cells #[.int .i64 a, .int .i64 b] t)) (w.alloc (.cells #[.int .i64 a, .int .i64 b] t)).heap.size (some ⟨n, 0, none⟩) [a, b] := RI.lit w [a, b] t hn
theorem mulL_bd {p : Int} (hp : 3 ≤ p) (l : List Int) : 0 ≤ M.mulL p l ∧ M.mulL p l < p := M.mulL_lt (by omega) l
set_option maxHeartbeats 400000 in
theorem mul_any (p q g : Int) (hG : M.Grp p q g) (A : Option Addr) (c : Nat) (xs : List Int) (hl : xs.length ≤ 9223372036854775807) (w : World) (hx : RI w w.heap.size A xs) (hb : ∀ x ∈ xs, 0 ≤ x ∧ x < p) :
    Calls Tryz.prog 68 #[.agg #[.int .i64 p, .int .i64 q, .int .i64 g], .slice A xs.length c] w fun en w' => en = .returned (.int .i64 (M.mulL p xs)) ∧ Below w.heap.size w w' := by
  have g3 := hG.p3
  have g4 := hG.pM
  clear hG
  have hx2 := hx.new (.cells #[.int .i64 p, .int .i64 q, .int .i64 g] 31)
  have HB := Lib.hid hb
  clear hx hb
  go_enter Tryz.func68, Tryz.ntmps68
  go_wp2
  go_loop [5, 7, 10] (fun O _ I => ∃ k : Nat, k ≤ xs.length ∧ I = .int .i64 k ∧ O = .int .i64 (M.mulL p (xs.take k))) (fun _ _ I => xs.length - (intOf I).toNat)
  case atStart => exact ⟨0, by omega, rfl, rfl⟩
  case round =>
    obtain ⟨k, hk, rfl, rfl⟩ := hrel
    obtain ⟨o1, o2⟩ := mulL_bd g3 (xs.take k)
    by_cases hlt : k < xs.length
    · obtain ⟨ad, rfl, had, hc⟩ := hx2.at_ hlt
      have HX := Lib.hid hx2; clear hx2
      obtain ⟨b1, b2⟩ := HB.out xs[k] (List.getElem_mem hlt)
      obtain ⟨q1, q2⟩ := M.mul_fit ⟨o1, o2⟩ ⟨b1, b2⟩ g4
      have HE := Lib.hid (show M.mulL p (xs.take (k + 1)) = M.mulL p (xs.take k) * xs[k] % p by rw [List.take_succ_eq_append_getElem hlt, M.mulL_snoc])
      go_wp2
      go_round
      case rel => exact ⟨k + 1, by omega, by go_num, by rw [HE.out]⟩
      case measure => simp [intOf]; omega
    · have HX := Lib.hid hx2; clear hx2
      go_wp2
      go_ret
      exact ⟨ret_int (by rw [List.take_of_length_le (by omega)]), below_new w _⟩
theorem mul2_any (p q g a b : Int) (hG : M.Grp p q g) (ha : 0 ≤ a ∧ a < p) (hb : 0 ≤ b ∧ b < p) (A : Option Addr) (c : Nat) (w : World) (hx : RI w w.heap.size A [a, b]) :
    Calls Tryz.prog 68 #[.agg #[.int .i64 p, .int .i64 q, .int .i64 g], .slice A 2 c] w fun en w' => en = .returned (.int .i64 (a * b % p)) ∧ Below w.heap.size w w' :=
  (mul_any p q g hG A c [a, b] (by simp) w hx (by intro x h; simp at h; rcases h with rfl | rfl <;> assumption)).mono fun _ _ ⟨h1, h2⟩ => ⟨h1.trans (ret_int (M.mulL_two ha)), h2⟩
set_option maxHeartbeats 400000 in
theorem gMul_any (p q g : Int) (hG : M.Grp p q g) (A : Option Addr) (c : Nat) (xs : List Int) (hl : xs.length ≤ 9223372036854775807) (w : World) (hx : RI w w.heap.size A xs) (hb : ∀ x ∈ xs, 0 ≤ x ∧ x < p) :
    Calls Tryz.prog 81 #[.agg #[.int .i64 p, .int .i64 q, .int .i64 g], .slice A xs.length c] w fun en w' => en = .returned (.int .i64 (M.mulL p xs)) ∧ Below w.heap.size w w' := by
  have g3 := hG.p3
  have g4 := hG.pM
  clear hG
  have hx2 := hx.new (.cells #[.int .i64 p, .int .i64 q, .int .i64 g] 31)
  have HB := Lib.hid hb
  clear hx hb
  go_enter Tryz.func81, Tryz.ntmps81
  go_wp2
  go_loop [5, 7, 10] (fun O _ I => ∃ k : Nat, k ≤ xs.length ∧ I = .int .i64 k ∧ O = .int .i64 (M.mulL p (xs.take k))) (fun _ _ I => xs.length - (intOf I).toNat)
  case atStart => exact ⟨0, by omega, rfl, rfl⟩
  case round =>
    obtain ⟨k, hk, rfl, rfl⟩ := hrel
    obtain ⟨o1, o2⟩ := mulL_bd g3 (xs.take k)
    by_cases hlt : k < xs.length
    · obtain ⟨ad, rfl, had, hc⟩ := hx2.at_ hlt
      have HX := Lib.hid hx2; clear hx2
      obtain ⟨b1, b2⟩ := HB.out xs[k] (List.getElem_mem hlt)
      obtain ⟨q1, q2⟩ := M.mul_fit ⟨o1, o2⟩ ⟨b1, b2⟩ g4
      have HE := Lib.hid (show M.mulL p (xs.take (k + 1)) = M.mulL p (xs.take k) * xs[k] % p by rw [List.take_succ_eq_append_getElem hlt, M.mulL_snoc])
      go_wp2
      go_round
      case rel => exact ⟨k + 1, by omega, by go_num, by rw [HE.out]⟩
      case measure => simp [intOf]; omega
    · have HX := Lib.hid hx2; clear hx2
      go_wp2
      go_ret
      exact ⟨ret_int (by rw [List.take_of_length_le (by omega)]), below_new w _⟩
theorem gMul2_any (p q g a b : Int) (hG : M.Grp p q g) (ha : 0 ≤ a ∧ a < p) (hb : 0 ≤ b ∧ b < p) (A : Option Addr) (c : Nat) (w : World) (hx : RI w w.heap.size A [a, b]) :
    Calls Tryz.prog 81 #[.agg #[.int .i64 p, .int .i64 q, .int .i64 g], .slice A 2 c] w fun en w' => en = .returned (.int .i64 (a * b % p)) ∧ Below w.heap.size w w' :=
  (gMul_any p q g hG A c [a, b] (by simp) w hx (by intro x h; simp at h; rcases h with rfl | rfl <;> assumption)).mono fun _ _ ⟨h1, h2⟩ => ⟨h1.trans (ret_int (M.mulL_two ha)), h2⟩
set_option maxHeartbeats 800000 in
theorem powers_any (p q g : Int) (hG : M.Grp p q g) (A E : Option Addr) (c d : Nat) (xs es : List Int) (hl : xs.length ≤ 9223372036854775807) (hle : xs.length ≤ es.length) (w : World) (hx : RI w w.heap.size A xs) (he : RI w w.heap.size E es) (hb : ∀ x ∈ xs, 0 ≤ x ∧ x < p) (hbe : ∀ e ∈ es, 0 ≤ e ∧ e < q) :
    Calls Tryz.prog 70 #[.agg #[.int .i64 p, .int .i64 q, .int .i64 g], .slice A xs.length c, .slice E es.length d] w fun en w' => en = .returned (.int .i64 (M.powL p q 1 xs es)) ∧ Below w.heap.size w w' := by
  have g1 := hG.q2
  have g2 := hG.qp
  have g3 := hG.p3
  have g4 := hG.pM
  have HG := Lib.hid hG
  clear hG
  have HB := Lib.hid hb
  have HE := Lib.hid hbe
  clear hb hbe
  go_enter Tryz.func70, Tryz.ntmps70
  go_wp2
  go_loopw [7, 8, 9, 12] (fun O _ _ I W => ∃ k : Nat, k ≤ xs.length ∧ I = .int .i64 k ∧ O = .int .i64 (M.powL p q 1 (xs.take k) (es.take k)) ∧ Below (w.alloc (.cells #[.int .i64 p, .int .i64 q, .int .i64 g] 31)).heap.size (w.alloc (.cells #[.int .i64 p, .int .i64 q, .int .i64 g] 31)) W) (fun _ _ _ I _ => xs.length - (intOf I).toNat)
  case atStart => exact ⟨0, by omega, rfl, by unfold M.powL; rfl, Below.refl _ _⟩
  case round =>
    obtain ⟨k, hk, rfl, rfl, hB⟩ := hrel
    obtain ⟨o1, o2⟩ := M.powL_lt (p := p) (q := q) (by omega) (xs.take k) (es.take k) 1 (by omega)
    have hT := bnext (below_new w (.cells #[.int .i64 p, .int .i64 q, .int .i64 g] 31)) hB
    obtain ⟨hcc, hff⟩ := bcell hB
    by_cases hlt : k < xs.length
    · obtain ⟨ad, rfl, had, hc⟩ := (hx.next hT).at_ hlt
      obtain ⟨ad2, rfl, had2, hc2⟩ := (he.next hT).at_ (show k < es.length by omega)
      have HX := Lib.hid hx; clear hx
      have HY := Lib.hid he; clear he
      obtain ⟨b1, b2⟩ := HB.out xs[k] (List.getElem_mem hlt)
      obtain ⟨b3, b4⟩ := HE.out (es[k]'(by omega)) (List.getElem_mem (by omega))
      obtain ⟨b5, b6⟩ := M.gpw_lt (p := p) (q := q) (x := xs[k]) (e := es[k]'(by omega)) g3
      obtain ⟨q1, q2⟩ := M.mul_fit ⟨o1, o2⟩ ⟨b5, b6⟩ g4
      have HR := Lib.hid (M.powL_take (p := p) (q := q) xs es 1 k hlt (by omega))
      have hq1 : IntKind.i64.wrap (M.powL p q 1 (xs.take k) (es.take k) * M.gpw p q xs[k] (es[k]'(by omega))) = M.powL p q 1 (xs.take k) (es.take k) * M.gpw p q xs[k] (es[k]'(by omega)) := IntWalk.i64_in _ (by omega)
      have hq2 : (M.powL p q 1 (xs.take k) (es.take k) * M.gpw p q xs[k] (es[k]'(by omega))).tmod p = M.powL p q 1 (xs.take k) (es.take k) * M.gpw p q xs[k] (es[k]'(by omega)) % p := Int.tmod_eq_emod_of_nonneg q1
      have hq3 : (p == 0) = false := by simp; omega
      have hq4 : ¬ p = 0 := by omega
      have i1 : (0 : Int) ≤ (k : Int) := by omega
      have i2 : (k : Int) < (es.length : Int) := by omega
      have i3 : k < es.length := by omega
      go_wp2_with fail
      go_region_held3 (fun W' => W'.cell? ⟨w.heap.size, 0, none⟩ = some (.int .i64 p) ∧ W'.cell? ⟨w.heap.size, 1, none⟩ = some (.int .i64 q) ∧ W'.cell? ⟨w.heap.size, 2, none⟩ = some (.int .i64 g) ∧ W'.cell? (ad2.add k) = some (.int .i64 (es[k]'i3)) ∧ Below (w.alloc (.cells #[.int .i64 p, .int .i64 q, .int .i64 g] 31)).heap.size (w.alloc (.cells #[.int .i64 p, .int .i64 q, .int .i64 g] 31)) W') ((go_split_ands; refine ⟨?_, ?_, ?_, ?_, ?_⟩; (first | with_reducible exact cell_keep (by with_reducible assumption) (by with_reducible assumption) | with_reducible exact cell_keep (below_new _ _) (by with_reducible assumption) | (with_reducible refine cell_set _ ?_ (by simp); (repeat with_reducible refine cell_set _ ?_ (by simp)); with_reducible assumption) | with_reducible exact cell_drew (by with_reducible assumption) | go_keep); (first | with_reducible exact cell_keep (by with_reducible assumption) (by with_reducible assumption) | with_reducible exact cell_keep (below_new _ _) (by with_reducible assumption) | (with_reducible refine cell_set _ ?_ (by simp); (repeat with_reducible refine cell_set _ ?_ (by simp)); with_reducible assumption) | with_reducible exact cell_drew (by with_reducible assumption) | go_keep); (first | with_reducible exact cell_keep (by with_reducible assumption) (by with_reducible assumption) | with_reducible exact cell_keep (below_new _ _) (by with_reducible assumption) | (with_reducible refine cell_set _ ?_ (by simp); (repeat with_reducible refine cell_set _ ?_ (by simp)); with_reducible assumption) | with_reducible exact cell_drew (by with_reducible assumption) | go_keep); (first | with_reducible exact cell_keep (by with_reducible assumption) (by with_reducible assumption) | with_reducible exact cell_keep (below_new _ _) (by with_reducible assumption) | (with_reducible refine cell_set _ ?_ (by simp); (repeat with_reducible refine cell_set _ ?_ (by simp)); with_reducible assumption) | with_reducible exact cell_drew (by with_reducible assumption) | go_keep); (repeat (first | with_reducible assumption | with_reducible refine bnext ?_ (by with_reducible assumption) | with_reducible refine bnew ?_ _ | with_reducible refine below_set _ ?_ (by simp) | with_reducible refine Below.drew ?_ | with_reducible refine Below.drewN ?_ _)); done)) (first | (go_at_call 88; refine (pow_any _ _ _ _ _ HG.out ⟨b1, b2⟩ (by omega) _).mono ?_; rintro e9 w9 ⟨rfl, hb9⟩) | (go_at_call 68; refine (mul2_any _ _ _ _ _ HG.out ⟨o1, o2⟩ ⟨b5, b6⟩ _ _ _ (RI.lit2 _ _ _ _ (by simp))).mono ?_; rintro e9 w9 ⟨rfl, hb9⟩))
      go_wp2
      go_roundw
      case rel => exact ⟨k + 1, by omega, by go_num, by rw [HR.out], by first | exact (by assumption : _ ∧ _ ∧ _ ∧ _ ∧ _).2.2.2.2 | assumption⟩
      case measure => simp [intOf]; omega
    · have HX := Lib.hid hx; clear hx
      have HY := Lib.hid he; clear he
      go_wp2
      go_ret
      exact ⟨ret_int (by rw [show k = xs.length by omega, List.take_length]; exact M.powL_full xs es 1 hle), hT⟩
set_option maxHeartbeats 800000 in
theorem gProd_any (p q g : Int) (hG : M.Grp p q g) (A E : Option Addr) (c d : Nat) (xs es : List Int) (hl : xs.length ≤ 9223372036854775807) (hle : xs.length ≤ es.length) (w : World) (hx : RI w w.heap.size A xs) (he : RI w w.heap.size E es) (hb : ∀ x ∈ xs, 0 ≤ x ∧ x < p) (hbe : ∀ e ∈ es, 0 ≤ e ∧ e < q) :
    Calls Tryz.prog 103 #[.agg #[.int .i64 p, .int .i64 q, .int .i64 g], .slice A xs.length c, .slice E es.length d] w fun en w' => en = .returned (.int .i64 (M.powL p q 1 xs es)) ∧ Below w.heap.size w w' := by
  have g1 := hG.q2
  have g2 := hG.qp
  have g3 := hG.p3
  have g4 := hG.pM
  have HG := Lib.hid hG
  clear hG
  have HB := Lib.hid hb
  have HE := Lib.hid hbe
  clear hb hbe
  go_enter Tryz.func103, Tryz.ntmps103
  go_wp2
  go_loopw [7, 8, 9, 12] (fun O _ _ I W => ∃ k : Nat, k ≤ xs.length ∧ I = .int .i64 k ∧ O = .int .i64 (M.powL p q 1 (xs.take k) (es.take k)) ∧ Below (w.alloc (.cells #[.int .i64 p, .int .i64 q, .int .i64 g] 31)).heap.size (w.alloc (.cells #[.int .i64 p, .int .i64 q, .int .i64 g] 31)) W) (fun _ _ _ I _ => xs.length - (intOf I).toNat)
  case atStart => exact ⟨0, by omega, rfl, by unfold M.powL; rfl, Below.refl _ _⟩
  case round =>
    obtain ⟨k, hk, rfl, rfl, hB⟩ := hrel
    obtain ⟨o1, o2⟩ := M.powL_lt (p := p) (q := q) (by omega) (xs.take k) (es.take k) 1 (by omega)
    have hT := bnext (below_new w (.cells #[.int .i64 p, .int .i64 q, .int .i64 g] 31)) hB
    obtain ⟨hcc, hff⟩ := bcell hB
    by_cases hlt : k < xs.length
    · obtain ⟨ad, rfl, had, hc⟩ := (hx.next hT).at_ hlt
      obtain ⟨ad2, rfl, had2, hc2⟩ := (he.next hT).at_ (show k < es.length by omega)
      have HX := Lib.hid hx; clear hx
      have HY := Lib.hid he; clear he
      obtain ⟨b1, b2⟩ := HB.out xs[k] (List.getElem_mem hlt)
      obtain ⟨b3, b4⟩ := HE.out (es[k]'(by omega)) (List.getElem_mem (by omega))
      obtain ⟨b5, b6⟩ := M.gpw_lt (p := p) (q := q) (x := xs[k]) (e := es[k]'(by omega)) g3
      obtain ⟨q1, q2⟩ := M.mul_fit ⟨o1, o2⟩ ⟨b5, b6⟩ g4
      have HR := Lib.hid (M.powL_take (p := p) (q := q) xs es 1 k hlt (by omega))
      have hq1 : IntKind.i64.wrap (M.powL p q 1 (xs.take k) (es.take k) * M.gpw p q xs[k] (es[k]'(by omega))) = M.powL p q 1 (xs.take k) (es.take k) * M.gpw p q xs[k] (es[k]'(by omega)) := IntWalk.i64_in _ (by omega)
      have hq2 : (M.powL p q 1 (xs.take k) (es.take k) * M.gpw p q xs[k] (es[k]'(by omega))).tmod p = M.powL p q 1 (xs.take k) (es.take k) * M.gpw p q xs[k] (es[k]'(by omega)) % p := Int.tmod_eq_emod_of_nonneg q1
      have hq3 : (p == 0) = false := by simp; omega
      have hq4 : ¬ p = 0 := by omega
      have i1 : (0 : Int) ≤ (k : Int) := by omega
      have i2 : (k : Int) < (es.length : Int) := by omega
      have i3 : k < es.length := by omega
      go_wp2_with fail
      go_region_held3 (fun W' => W'.cell? ⟨w.heap.size, 0, none⟩ = some (.int .i64 p) ∧ W'.cell? ⟨w.heap.size, 1, none⟩ = some (.int .i64 q) ∧ W'.cell? ⟨w.heap.size, 2, none⟩ = some (.int .i64 g) ∧ W'.cell? (ad2.add k) = some (.int .i64 (es[k]'i3)) ∧ Below (w.alloc (.cells #[.int .i64 p, .int .i64 q, .int .i64 g] 31)).heap.size (w.alloc (.cells #[.int .i64 p, .int .i64 q, .int .i64 g] 31)) W') ((go_split_ands; refine ⟨?_, ?_, ?_, ?_, ?_⟩; (first | with_reducible exact cell_keep (by with_reducible assumption) (by with_reducible assumption) | with_reducible exact cell_keep (below_new _ _) (by with_reducible assumption) | (with_reducible refine cell_set _ ?_ (by simp); (repeat with_reducible refine cell_set _ ?_ (by simp)); with_reducible assumption) | with_reducible exact cell_drew (by with_reducible assumption) | go_keep); (first | with_reducible exact cell_keep (by with_reducible assumption) (by with_reducible assumption) | with_reducible exact cell_keep (below_new _ _) (by with_reducible assumption) | (with_reducible refine cell_set _ ?_ (by simp); (repeat with_reducible refine cell_set _ ?_ (by simp)); with_reducible assumption) | with_reducible exact cell_drew (by with_reducible assumption) | go_keep); (first | with_reducible exact cell_keep (by with_reducible assumption) (by with_reducible assumption) | with_reducible exact cell_keep (below_new _ _) (by with_reducible assumption) | (with_reducible refine cell_set _ ?_ (by simp); (repeat with_reducible refine cell_set _ ?_ (by simp)); with_reducible assumption) | with_reducible exact cell_drew (by with_reducible assumption) | go_keep); (first | with_reducible exact cell_keep (by with_reducible assumption) (by with_reducible assumption) | with_reducible exact cell_keep (below_new _ _) (by with_reducible assumption) | (with_reducible refine cell_set _ ?_ (by simp); (repeat with_reducible refine cell_set _ ?_ (by simp)); with_reducible assumption) | with_reducible exact cell_drew (by with_reducible assumption) | go_keep); (repeat (first | with_reducible assumption | with_reducible refine bnext ?_ (by with_reducible assumption) | with_reducible refine bnew ?_ _ | with_reducible refine below_set _ ?_ (by simp) | with_reducible refine Below.drew ?_ | with_reducible refine Below.drewN ?_ _)); done)) (first | (go_at_call 82; refine (gExp_any _ _ _ _ _ HG.out ⟨b1, b2⟩ (by omega) _).mono ?_; rintro e9 w9 ⟨rfl, hb9⟩))
      go_wp2
      go_roundw
      case rel => exact ⟨k + 1, by omega, by go_num, by rw [HR.out], by first | exact (by assumption : _ ∧ _ ∧ _ ∧ _ ∧ _).2.2.2.2 | assumption⟩
      case measure => simp [intOf]; omega
    · have HX := Lib.hid hx; clear hx
      have HY := Lib.hid he; clear he
      go_wp2
      go_ret
      exact ⟨ret_int (by rw [show k = xs.length by omega, List.take_length]; exact M.powL_full xs es 1 hle), hT⟩
end Go.Proofs.YtgnnmifpfgpllaaGreat
