import Derived.Test.YtjapjmhifoeogaaZMath
import Derived.Test.YtjapjmhifoeogaaZKit
import Derived.Deep.RegionHeld3
/- Plain mathematics: products, digests, polynomials' values. -/
set_option linter.all false
set_option linter.unusedVariables false
set_option linter.unusedSimpArgs false
namespace M

/-! products -/
def mulL (p : Int) (l : List Int) : Int := l.foldl (fun o x => o * x % p) 1
theorem foldl_mul_lt {p : Int} (hp : 2 ≤ p) : ∀ (l : List Int) (o : Int), 0 ≤ o ∧ o < p → 0 ≤ l.foldl (fun o x => o * x % p) o ∧ l.foldl (fun o x => o * x % p) o < p
  | [], _, h => h
  | x :: l, o, _ => foldl_mul_lt hp l (o * x % p) ⟨Int.emod_nonneg _ (by omega), Int.emod_lt_of_pos _ (by omega)⟩
theorem mulL_lt {p : Int} (hp : 2 ≤ p) (l : List Int) : 0 ≤ mulL p l ∧ mulL p l < p := foldl_mul_lt hp l 1 (by omega)
/-! digests -/
def hs (s b : Int) : Int := (48271 * s + b + 1) % 2147483647
def ht (t b : Int) : Int := (69621 * t + b + 1) % 2147483647
def hab (st : Int × Int) (x : Int) : Int × Int := (hs (hs st.1 (x % 2147483648)) (x / 2147483648), ht (ht st.2 (x % 2147483648)) (x / 2147483648))
def hfold (l : List Int) : Int × Int := l.foldl hab (1, 2)
def hashL (l : List Int) : Int := (hfold ((l.length : Int) :: l)).1 * 2147483648 + (hfold ((l.length : Int) :: l)).2
theorem hs_lt (s b : Int) : 0 ≤ hs s b ∧ hs s b < 2147483647 := by unfold hs; omega
theorem ht_lt (s b : Int) : 0 ≤ ht s b ∧ ht s b < 2147483647 := by unfold ht; omega
theorem hab_lt (st : Int × Int) (x : Int) : (0 ≤ (hab st x).1 ∧ (hab st x).1 < 2147483647) ∧ (0 ≤ (hab st x).2 ∧ (hab st x).2 < 2147483647) := ⟨hs_lt _ _, ht_lt _ _⟩
theorem hfold_snoc (l : List Int) (x : Int) : hfold (l ++ [x]) = hab (hfold l) x := by unfold hfold; rw [List.foldl_append]; rfl
theorem hfold_lt (l : List Int) : (0 ≤ (hfold l).1 ∧ (hfold l).1 < 2147483647) ∧ (0 ≤ (hfold l).2 ∧ (hfold l).2 < 2147483647) := by
  rcases List.eq_nil_or_concat l with rfl | ⟨l', x, rfl⟩
  · unfold hfold; simp
  · rw [List.concat_eq_append, hfold_snoc]; exact hab_lt _ _
theorem hashL_lt (l : List Int) : 0 ≤ hashL l ∧ hashL l ≤ 4611686018427387903 := by
  have := hfold_lt ((l.length : Int) :: l); unfold hashL; omega
def lab (s : List UInt8) (l : List Int) : List Int := (s.length : Int) :: (s.map fun b => (b.toNat : Int)) ++ l
def chal (p q g : Int) (s : List UInt8) (l : List Int) : Int := hashL (lab s (p :: q :: g :: l)) % q
theorem chal_lt {p q g : Int} (hq : 2 ≤ q) (s : List UInt8) (l : List Int) : 0 ≤ chal p q g s l ∧ chal p q g s l < q := ⟨Int.emod_nonneg _ (by omega), Int.emod_lt_of_pos _ (by omega)⟩
end M

namespace Go.Proofs.Ytjapjmhifoeogaa
open Go.RowKit
set_option maxHeartbeats 400000 in
theorem power_any (a e m : Int) (w : World) (hm : 1 ≤ m ∧ m ≤ 2000000000) (ha : 0 ≤ a ∧ a < m) (he : e ≤ 9223372036854775807) :
    Calls Try.prog 127 #[.int .i64 a, .int .i64 e, .int .i64 m] w fun en w' => en = .returned (.int .i64 (M.pw a e m)) ∧ w = w' := by
  obtain ⟨hm1, hm2⟩ := hm
  obtain ⟨ha1, ha2⟩ := ha
  go_enter Try.func127, Try.ntmps127
  go_wp2
  go_loop [0, 1, 7] (fun A E O => ∃ a' e' o : Int, 0 ≤ a' ∧ a' < m ∧ 0 ≤ o ∧ o < m ∧ e' ≤ 9223372036854775807 ∧ A = .int .i64 a' ∧ E = .int .i64 e' ∧ O = .int .i64 o ∧ (o * a' ^ e'.toNat) % m = M.pw a e m) (fun _ E _ => (intOf E).toNat)
  case atStart => exact ⟨a, e, 1 % m, ha1, ha2, Int.emod_nonneg _ (by omega), Int.emod_lt_of_pos _ (by omega), he, rfl, rfl, rfl, M.pw_start a e m⟩
  case round =>
    obtain ⟨a', e', o, h1, h2, h3, h4, h5, rfl, rfl, rfl, hr⟩ := hrel
    have HR := Lib.hid hr; clear hr
    obtain ⟨q3, q4⟩ := M.mul_fit ⟨h3, h4⟩ ⟨h1, h2⟩ hm2
    obtain ⟨q5, q6⟩ := M.mul_fit ⟨h1, h2⟩ ⟨h1, h2⟩ hm2
    go_wp2
    · go_round
      have hb : (bits BinOp.and IntKind.i64 e' 1 == 1) = true := by assumption
      have he' : 0 < e' := by assumption
      rw [and_one e' (by omega) h5] at hb
      have hb' : e' % 2 = 1 := by simpa using hb
      case rel => exact ⟨_, _, _, Int.emod_nonneg _ (by omega), Int.emod_lt_of_pos _ (by omega), Int.emod_nonneg _ (by omega), Int.emod_lt_of_pos _ (by omega), by omega, rfl, rfl, rfl, (M.pw_round1 o a' m e' (by omega) hb').trans HR.out⟩
      case measure => simp [intOf]; omega
    · go_round
      have hb : (bits BinOp.and IntKind.i64 e' 1 == 1) = false := by assumption
      have he' : 0 < e' := by assumption
      rw [and_one e' (by omega) h5] at hb
      have hb' : e' % 2 = 0 := by have : e' % 2 ≠ 1 := by simpa using hb
                                  omega
      case rel => exact ⟨_, _, _, Int.emod_nonneg _ (by omega), Int.emod_lt_of_pos _ (by omega), h3, h4, by omega, rfl, rfl, rfl, (M.pw_round0 o a' m e' (by omega) hb').trans HR.out⟩
      case measure => simp [intOf]; omega
    · go_ret
      exact ⟨ret_int (M.pw_end HR.out (by omega) ⟨h3, h4⟩), rfl⟩
end Go.Proofs.Ytjapjmhifoeogaa

namespace Go.Proofs.Ytjapjmhifoeogaa
open Go.RowKit
set_option maxHeartbeats 400000 in
theorem indexInts (fn : Nat) (fs cs : Array Value) (p : Int → Bool) (A : Option Addr) (c : Nat) (xs : List Int) (w : World) (heg : ∀ args w, (callFunc fn args).run Try.prog w = .ok (.enter fn args) w)
    (hx : RI w w.heap.size A xs) (hl : xs.length ≤ 9223372036854775807)
    (hf : ∀ x ∈ xs, ∀ W, Below w.heap.size w W → Calls Try.prog fn (fs ++ #[.int .i64 x] ++ cs) W fun e W' => e = .returned (.bool (p x)) ∧ Below W.heap.size W W') :
    Calls Try.prog 153 #[.slice A xs.length c, .func (.func fn) fs cs] w fun en w' => en = .returned (.int .i64 (idx p xs)) ∧ Below w.heap.size w w' := by
  go_enter Try.func153, Try.ntmps153
  go_wp2
  go_loopw [5, 8] (fun i5 i W => ∃ k : Nat, k ≤ xs.length ∧ i = .int .i64 k ∧ Below w.heap.size w W ∧ ∀ j (h : j < xs.length), j < k → p xs[j] = false) (fun _ i _ => xs.length - (intOf i).toNat)
  case atStart => exact ⟨0, by omega, rfl, Below.refl _ _, fun j h hj => by omega⟩
  case round =>
    obtain ⟨k, hk, rfl, hb, hn⟩ := hrel
    have HN := Lib.hid hn; clear hn
    by_cases hlt : k < xs.length
    · obtain ⟨ad, rfl, had, hc⟩ := (hx.below hb).at_ hlt
      have HX := Lib.hid hx; clear hx
      have hfk := Lib.hid (hf xs[k] (List.getElem_mem hlt))
      clear hf
      go_wp2_with fail
      refine (hfk.out _ hb).mono ?_
      rintro e w1 ⟨rfl, hb1⟩
      have hb2 := hb.trans (hb1.mono hb.size)
      by_cases hp : p xs[k] = true
      · go_wp2
        go_ret
        exact ⟨ret_int (idx_hit hlt hp fun j hj => HN.out j (by omega) hj).symm, hb2⟩
      · have hp' : p xs[k] = false := by simpa using hp
        clear hp
        go_wp2
        go_roundw
        case rel => exact ⟨k + 1, by omega, by go_num, hb2, fun j h hj => by
          rcases Nat.lt_or_eq_of_le (Nat.le_of_lt_succ hj) with h1 | rfl
          · exact HN.out j h h1
          · exact hp'⟩
        case measure => simp [intOf]; omega
    · have HX := Lib.hid hx; clear hx
      clear hf
      go_wp2
      go_ret
      exact ⟨ret_int (idx_miss fun j h => HN.out j h (by omega)).symm, hb⟩
end Go.Proofs.Ytjapjmhifoeogaa

/- Walks of the number layer: ranges, residues, inverses, primes. -/
namespace Go.Proofs.Ytjapjmhifoeogaa
open Go.RowKit
def inr (n lo hi : Int) : Bool := decide (lo ≤ n ∧ n ≤ hi)
theorem inr_t {n lo hi : Int} (h : inr n lo hi = true) : lo ≤ n ∧ n ≤ hi := by unfold inr at h; exact of_decide_eq_true h
theorem inr_f {n lo hi : Int} (h : inr n lo hi = false) : ¬ (lo ≤ n ∧ n ≤ hi) := by unfold inr at h; exact of_decide_eq_false h
theorem inr_mk {n lo hi : Int} (h : lo ≤ n ∧ n ≤ hi) : inr n lo hi = true := by unfold inr; exact decide_eq_true h
theorem inr_not {n lo hi : Int} (h : ¬ (lo ≤ n ∧ n ≤ hi)) : inr n lo hi = false := by unfold inr; exact decide_eq_false h
theorem within_any (n lo hi : Int) (w : World) :
    Calls Try.prog 73 #[.int .i64 n, .int .i64 lo, .int .i64 hi] w fun en w' => en = .returned (.bool (inr n lo hi)) ∧ w = w' := by
  go_enter Try.func73, Try.ntmps73
  go_wp2
  · go_ret
    exact ⟨ret_bool (by unfold inr; exact decide_eq_decide.2 ⟨fun h => ⟨by assumption, h⟩, fun h => h.2⟩), rfl⟩
  · go_ret
    exact ⟨ret_bool (inr_not fun h => by omega).symm, rfl⟩
theorem l1In_any (n lo hi : Int) (w : World) :
    Calls Try.prog 69 #[.int .i64 n, .int .i64 lo, .int .i64 hi] w fun en w' => en = .returned (.bool (inr n lo hi)) ∧ w = w' := by
  go_enter Try.func69, Try.ntmps69
  go_wp2
  · go_ret
    exact ⟨ret_bool (by unfold inr; exact decide_eq_decide.2 ⟨fun h => ⟨by assumption, h⟩, fun h => h.2⟩), rfl⟩
  · go_ret
    exact ⟨ret_bool (inr_not fun h => by omega).symm, rfl⟩
theorem isModulus_any (n : Int) (w : World) :
    Calls Try.prog 147 #[.int .i64 n] w fun en w' => en = .returned (.bool (inr n 2 2000000000)) ∧ w = w' := by
  go_enter Try.func147, Try.ntmps147
  go_wp2_with (go_at_call 73; refine (within_any _ _ _ _).mono ?_; rintro e w' ⟨rfl, rfl⟩)
  go_ret
  exact ⟨rfl, rfl⟩
set_option maxHeartbeats 400000 in
theorem isPrime_loop (n : Int) (w : World) (h2 : 2 ≤ n) (hM : n ≤ 2000000000) (ho : n % 2 ≠ 0 ∨ n = 2) :
    Calls Try.prog 126 #[.int .i64 n] w fun en w' => en = .returned (.bool (M.primeB n)) ∧ w = w' := by
  have hi := inr_mk ⟨h2, hM⟩
  have HO := Lib.hid ho
  have hcase : (n % 2 = 0 ∧ (n != 2) = false) ∨ (¬ n % 2 = 0) := by
    rcases ho with h | h
    · exact .inr h
    · exact .inl ⟨by omega, by simp [h]⟩
  clear ho
  go_enter Try.func126, Try.ntmps126
  rcases hcase with ⟨_, _⟩ | hodd
  all_goals go_wp2_with (go_at_call 147; refine (isModulus_any _ _).mono ?_; rintro e w' ⟨rfl, rfl⟩)
  all_goals
    go_loop [3] (fun D => ∃ d : Int, D = .int .i64 d ∧ 3 ≤ d ∧ d ≤ 50000 ∧ d % 2 = 1 ∧ ∀ k : Int, 3 ≤ k → k < d → k % 2 = 1 → ¬ k ∣ n) (fun D => (50000 - intOf D).toNat)
    case atStart => exact ⟨3, rfl, by omega, by omega, by omega, fun k a b => by omega⟩
    case round =>
      obtain ⟨d, rfl, hd1, hd2, hd3, hk⟩ := hrel
      have HK := Lib.hid hk; clear hk
      have HD3 := Lib.hid hd3; clear hd3
      have hsq := M.sq_small (show 0 ≤ d by omega) hd2
      have hsq0 : 0 ≤ d * d := Int.mul_nonneg (by omega) (by omega)
      go_wp2
      · go_ret
        have h3 : d * d ≤ n := by assumption
        have h4 : (n % d == 0) = true := by assumption
        exact ⟨ret_bool (M.primeB_f (M.not_prime_dvd (by omega) (M.lt_of_sq (by omega) h3) (by simpa using h4))).symm, rfl⟩
      · have h3 : d * d ≤ n := by assumption
        have h4 : (n % d == 0) = false := by assumption
        have hd5 := M.sq_bound h3 hM (by omega)
        go_round
        case rel => exact ⟨d + 2, rfl, by omega, by omega, by have := HD3.out; omega, fun k a b c => by
          by_cases hkd : k < d
          · exact HK.out k a hkd c
          · have : k = d := by have := HD3.out; omega
            subst this
            intro hdv; have := Int.emod_eq_zero_of_dvd hdv; simp [this] at h4⟩
        case measure => simp [intOf]; omega
      · go_ret
        have h3 : n < d * d := by assumption
        exact ⟨ret_bool (M.primeB_t (M.prime_of_odd_loop h2 HO.out h3 hd1 HK.out)).symm, rfl⟩
theorem isPrime_any (n : Int) (w : World) :
    Calls Try.prog 126 #[.int .i64 n] w fun en w' => en = .returned (.bool (decide (n ≤ 2000000000) && M.primeB n)) ∧ w = w' := by
  by_cases hin : 2 ≤ n ∧ n ≤ 2000000000
  · by_cases ho : n % 2 ≠ 0 ∨ n = 2
    · refine (isPrime_loop n w hin.1 hin.2 ho).mono ?_
      rintro e w' ⟨rfl, rfl⟩
      exact ⟨ret_bool (by simp [hin.2]), rfl⟩
    · obtain ⟨h1, h2⟩ : n % 2 = 0 ∧ n ≠ 2 := ⟨by omega, by omega⟩
      have hi := inr_mk hin
      have hp := Lib.hid (M.primeB_f (M.not_prime_even h1 h2))
      have h3 : (n != 2) = true := by simpa using h2
      obtain ⟨hin1, hin2⟩ := hin
      clear h2 ho
      go_enter Try.func126, Try.ntmps126
      go_wp2_with (go_at_call 147; refine (isModulus_any _ _).mono ?_; rintro e w' ⟨rfl, rfl⟩)
      go_ret
      exact ⟨ret_bool (by rw [hp.out]; simp), rfl⟩
  · have hi := inr_not hin
    have hp : (decide (n ≤ 2000000000) && M.primeB n) = false := by
      by_cases h : n < 2
      · rw [M.primeB_f (M.not_prime_small h)]; simp
      · have : ¬ n ≤ 2000000000 := by omega
        simp [this]
    have HP := Lib.hid hp
    clear hp hin
    go_enter Try.func126, Try.ntmps126
    go_wp2_with (go_at_call 147; refine (isModulus_any _ _).mono ?_; rintro e w' ⟨rfl, rfl⟩)
    go_ret
    exact ⟨ret_bool HP.out.symm, rfl⟩
set_option maxHeartbeats 400000 in
theorem nPrime_any (n : Int) (w : World) (hM : n ≤ 2000000000) :
    Calls Try.prog 119 #[.int .i64 n] w fun en w' => en = .returned (.bool (M.primeB n)) ∧ w = w' := by
  by_cases h2 : 2 ≤ n
  · go_enter Try.func119, Try.ntmps119
    go_wp2
    go_loop [3] (fun D => ∃ d : Int, D = .int .i64 d ∧ 2 ≤ d ∧ d ≤ 50000 ∧ ∀ k : Int, 2 ≤ k → k < d → ¬ k ∣ n) (fun D => (50000 - intOf D).toNat)
    case atStart => exact ⟨2, rfl, by omega, by omega, fun k a b => by omega⟩
    case round =>
      obtain ⟨d, rfl, hd1, hd2, hk⟩ := hrel
      have HK := Lib.hid hk; clear hk
      have hsq := M.sq_small (show 0 ≤ d by omega) hd2
      have hsq0 : 0 ≤ d * d := Int.mul_nonneg (by omega) (by omega)
      go_wp2
      · go_ret
        have h3 : d * d ≤ n := by assumption
        have h4 : (n % d == 0) = true := by assumption
        exact ⟨ret_bool (M.primeB_f (M.not_prime_dvd (by omega) (M.lt_of_sq (by omega) h3) (by simpa using h4))).symm, rfl⟩
      · have h3 : d * d ≤ n := by assumption
        have h4 : (n % d == 0) = false := by assumption
        have hd5 := M.sq_bound h3 hM (by omega)
        go_round
        case rel => exact ⟨d + 1, rfl, by omega, by omega, fun k a b => by
          by_cases hkd : k < d
          · exact HK.out k a hkd
          · have : k = d := by omega
            subst this
            intro hdv; have := Int.emod_eq_zero_of_dvd hdv; simp [this] at h4⟩
        case measure => simp [intOf]; omega
      · go_ret
        have h3 : n < d * d := by assumption
        exact ⟨ret_bool (M.primeB_t (M.prime_of_loop h2 h3 hd1 HK.out)).symm, rfl⟩
  · have hp := Lib.hid (M.primeB_f (M.not_prime_small (n := n) (by omega)))
    have h3 : n < 2 := by omega
    clear h2
    go_enter Try.func119, Try.ntmps119
    go_wp2
    go_ret
    exact ⟨ret_bool hp.out.symm, rfl⟩
set_option maxHeartbeats 400000 in
theorem nPower_any (a e m : Int) (w : World) (hm : 1 ≤ m ∧ m ≤ 2000000000) (ha : 0 ≤ a ∧ a < m) (he : e ≤ 9223372036854775807) :
    Calls Try.prog 118 #[.int .i64 a, .int .i64 e, .int .i64 m] w fun en w' => en = .returned (.int .i64 (M.pw a e m)) ∧ w = w' := by
  obtain ⟨hm1, hm2⟩ := hm
  obtain ⟨ha1, ha2⟩ := ha
  go_enter Try.func118, Try.ntmps118
  go_wp2
  go_loop [0, 1, 7] (fun A E O => ∃ a' e' o : Int, 0 ≤ a' ∧ a' < m ∧ 0 ≤ o ∧ o < m ∧ e' ≤ 9223372036854775807 ∧ A = .int .i64 a' ∧ E = .int .i64 e' ∧ O = .int .i64 o ∧ (o * a' ^ e'.toNat) % m = M.pw a e m) (fun _ E _ => (intOf E).toNat)
  case atStart => exact ⟨a, e, 1 % m, ha1, ha2, Int.emod_nonneg _ (by omega), Int.emod_lt_of_pos _ (by omega), he, rfl, rfl, rfl, M.pw_start a e m⟩
  case round =>
    obtain ⟨a', e', o, h1, h2, h3, h4, h5, rfl, rfl, rfl, hr⟩ := hrel
    have HR := Lib.hid hr; clear hr
    obtain ⟨q3, q4⟩ := M.mul_fit ⟨h3, h4⟩ ⟨h1, h2⟩ hm2
    obtain ⟨q5, q6⟩ := M.mul_fit ⟨h1, h2⟩ ⟨h1, h2⟩ hm2
    go_wp2
    · go_round
      have hb : (e' % 2 == 1) = true := by assumption
      have hb' : e' % 2 = 1 := by simpa using hb
      have he' : 0 < e' := by assumption
      case rel => exact ⟨_, _, _, Int.emod_nonneg _ (by omega), Int.emod_lt_of_pos _ (by omega), Int.emod_nonneg _ (by omega), Int.emod_lt_of_pos _ (by omega), by omega, rfl, rfl, rfl, (M.pw_round1 o a' m e' (by omega) hb').trans HR.out⟩
      case measure => simp [intOf]; omega
    · go_round
      have hb : (e' % 2 == 1) = false := by assumption
      have hb' : ¬ e' % 2 = 1 := by simpa using hb
      have he' : 0 < e' := by assumption
      case rel => exact ⟨_, _, _, Int.emod_nonneg _ (by omega), Int.emod_lt_of_pos _ (by omega), h3, h4, by omega, rfl, rfl, rfl, (M.pw_round0 o a' m e' (by omega) (by omega)).trans HR.out⟩
      case measure => simp [intOf]; omega
    · go_ret
      exact ⟨ret_int (M.pw_end HR.out (by omega) ⟨h3, h4⟩), rfl⟩
end Go.Proofs.Ytjapjmhifoeogaa

/- Walks of the group layer: lists that fulfil something, elements, exponents, powers, products. -/
namespace Go.Proofs.Ytjapjmhifoeogaa
open Go.RowKit
theorem containsInts (fn : Nat) (fs cs : Array Value) (p : Int → Bool) (A : Option Addr) (c : Nat) (xs : List Int) (w : World) (heg : ∀ args w, (callFunc fn args).run Try.prog w = .ok (.enter fn args) w)
    (hx : RI w w.heap.size A xs) (hl : xs.length ≤ 9223372036854775807)
    (hf : ∀ x ∈ xs, ∀ W, Below w.heap.size w W → Calls Try.prog fn (fs ++ #[.int .i64 x] ++ cs) W fun e W' => e = .returned (.bool (p x)) ∧ Below W.heap.size W W') :
    Calls Try.prog 144 #[.slice A xs.length c, .func (.func fn) fs cs] w fun en w' => en = .returned (.bool (xs.any p)) ∧ Below w.heap.size w w' := by
  have H := Lib.hid (indexInts fn fs cs p A c xs w heg hx hl hf)
  clear heg hx hl hf
  go_enter Try.func144, Try.ntmps144
  go_wp2_with fail
  refine H.out.mono ?_
  rintro e w' ⟨rfl, hb⟩
  go_wp2
  go_ret
  exact ⟨ret_bool (idx_ge p xs), hb⟩
theorem areAll_any (fn : Nat) (fs cs : Array Value) (p : Int → Bool) (A : Option Addr) (c : Nat) (xs : List Int) (w : World) (heg : ∀ args w, (callFunc fn args).run Try.prog w = .ok (.enter fn args) w)
    (hx : RI w w.heap.size A xs) (hl : xs.length ≤ 9223372036854775807)
    (hf : ∀ x ∈ xs, ∀ W, Below w.heap.size w W → Calls Try.prog fn (fs ++ #[.int .i64 x] ++ cs) W fun e W' => e = .returned (.bool (p x)) ∧ Below W.heap.size W W') :
    Calls Try.prog 120 #[.slice A xs.length c, .func (.func fn) fs cs] w fun en w' => en = .returned (.bool (xs.all p)) ∧ Below w.heap.size w w' := by
  have hmf : ∀ (fn : Fn) (first cap : Array Value) (w : World), (Instr.makeFunc fn first cap).run Try.prog w = .ok (.func fn first cap) w := fun _ _ _ _ => rfl
  have heg2 : ∀ args w, (callFunc 145 args).run Try.prog w = .ok (.enter 145 args) w := enters_of Try.func145 (by kernel_rfl) rfl
  have hx2 := hx.new (.cells #[.func (.func fn) fs cs] 105)
  have hf2 : ∀ x ∈ xs, ∀ W, Below (w.alloc (.cells #[.func (.func fn) fs cs] 105)).heap.size (w.alloc (.cells #[.func (.func fn) fs cs] 105)) W →
      Calls Try.prog 145 (#[] ++ #[.int .i64 x] ++ #[.pointer (some ⟨w.heap.size, 0, none⟩)]) W fun e W' => e = .returned (.bool (!p x)) ∧ Below W.heap.size W W' := by
    intro x hxm W hb
    have hc : W.cell? ⟨w.heap.size, 0, none⟩ = some (.func (.func fn) fs cs) := by
      rw [hb.cell (p := ⟨w.heap.size, 0, none⟩) (by simp), cell_new]; rfl
    have hfx := Lib.hid (hf x hxm W ((below_new w _).trans (hb.mono (by simp))))
    clear hf hx hx2 hb
    show Calls Try.prog 145 #[.int .i64 x, .pointer (some ⟨w.heap.size, 0, none⟩)] W _
    go_enter Try.func145, Try.ntmps145
    go_wp2_with fail
    refine hfx.out.mono ?_
    rintro e w' ⟨rfl, hb⟩
    go_wp2
    go_ret
    exact ⟨rfl, hb⟩
  have H := Lib.hid (containsInts 145 #[] #[.pointer (some ⟨w.heap.size, 0, none⟩)] (fun x => !p x) A c xs _ heg2 hx2 hl hf2)
  clear hf hf2 hx hx2 heg heg2
  go_enter Try.func120, Try.ntmps120
  go_wp2_with fail
  refine H.out.mono ?_
  rintro e w' ⟨rfl, hb⟩
  go_wp2
  go_ret
  exact ⟨ret_bool (List.not_any_eq_all_not ..  |>.trans (by simp)), bnext (below_new w _) hb⟩
end Go.Proofs.Ytjapjmhifoeogaa

/- Walks of the group layer: valid groups. -/
namespace Go.Proofs.Ytjapjmhifoeogaa
open Go.RowKit
theorem good_lemma {p q g : Int} (g1 : 3 ≤ p) (g2 : p ≤ 2000000000) (g3 : 2 ≤ q) (g4 : q ≤ p - 1) (g5 : 2 ≤ g) (g6 : g ≤ p - 1) {b : Bool}
    (h : b = true ↔ ((p - 1) % q = 0 ∧ M.primeB p = true ∧ M.primeB q = true ∧ M.pw g q p = 1)) : M.goodB p q g = b :=
  M.goodB_iff (h.trans ⟨fun ⟨a, b, c, d⟩ => ⟨g1, g2, g3, by omega, a, g5, by omega, M.primeB_of b, M.primeB_of c, d⟩, fun hg => ⟨hg.dv, M.primeB_t hg.pp, M.primeB_t hg.pq, hg.go⟩⟩)
theorem way1 {D A B : Prop} {x q : Int} (h : D) (hA : A) (hB : q ≤ 2000000000 ∧ B) : (x == 1) = true ↔ D ∧ A ∧ B ∧ x = 1 := by simp [h, hA, hB.2]
theorem way2 {D A B : Prop} {x q : Int} (h : q ≤ 2000000000) (hB : ¬ (q ≤ 2000000000 ∧ B)) : false = true ↔ D ∧ A ∧ B ∧ x = 1 := by
  have : ¬ B := fun hb => hB ⟨h, hb⟩
  simp [this]
theorem way3 {D A B : Prop} {x : Int} (h : ¬ A) : false = true ↔ D ∧ A ∧ B ∧ x = 1 := by simp [h]
theorem way4 {D A B : Prop} {x : Int} (h : ¬ D) : false = true ↔ D ∧ A ∧ B ∧ x = 1 := by simp [h]
theorem way5 {D B : Prop} {a : Bool} {x : Int} (h : D) (hx : x = 1) (hB : B) : a = true ↔ D ∧ a = true ∧ B ∧ x = 1 := by simp [h, hx, hB]
theorem way6 {D A B : Prop} {x : Int} (h : ¬ B) : false = true ↔ D ∧ A ∧ B ∧ x = 1 := by simp [h]
theorem way7 {D A B : Prop} {x : Int} (h : ¬ x = 1) : false = true ↔ D ∧ A ∧ B ∧ x = 1 := by simp [h]
theorem bad1 {p q g : Int} (h : inr p 3 2000000000 = false) : M.goodB p q g = false := M.goodB_not fun hg => inr_f h ⟨hg.p3, hg.pM⟩
theorem bad2 {p q g : Int} (h : inr q 2 (p - 1) = false) : M.goodB p q g = false := M.goodB_not fun hg => inr_f h ⟨hg.q2, by have := hg.qp; omega⟩
theorem bad3 {p q g : Int} (h : inr g 2 (p - 1) = false) : M.goodB p q g = false := M.goodB_not fun hg => inr_f h ⟨hg.g2, by have := hg.gp; omega⟩
set_option maxHeartbeats 800000 in
theorem isValidGroup_any (p q g : Int) (w : World) :
    Calls Try.prog 72 #[.agg #[.int .i64 p, .int .i64 q, .int .i64 g]] w fun en w' => en = .returned (.bool (M.goodB p q g)) ∧ Below w.heap.size w w' := by
  by_cases h1 : inr p 3 2000000000 = true
  · obtain ⟨g1, g2⟩ := inr_t h1
    by_cases h2 : inr q 2 (p - 1) = true
    · obtain ⟨g3, g4⟩ := inr_t h2
      by_cases h4 : inr g 2 (p - 1) = true
      · obtain ⟨g5, g6⟩ := inr_t h4
        go_enter Try.func72, Try.ntmps72
        go_wp2_with (first | (go_at_call 73; refine (within_any _ _ _ _).mono ?_; rintro e w' ⟨rfl, rfl⟩) | (go_at_call 126; refine (isPrime_any _ _).mono ?_; rintro e w' ⟨rfl, rfl⟩) | (go_at_call 127; refine (power_any _ _ _ _ (by omega) (by omega) (by omega)).mono ?_; rintro e w' ⟨rfl, rfl⟩))
        all_goals go_ret
        all_goals refine ⟨ret_bool (good_lemma g1 g2 g3 g4 g5 g6 ?_).symm, below_new w _⟩
        all_goals first
          | exact way1 (by assumption) (by assumption) (by assumption)
          | exact way2 (q := q) (by omega) (by assumption)
          | exact way3 (by assumption)
          | exact way4 (by assumption)
          | exact way5 (by assumption) (by assumption) (by assumption)
          | exact way6 (by assumption)
          | exact way7 (by assumption)
      · have h4' : inr g 2 (p - 1) = false := by simpa using h4
        have hB := Lib.hid (bad3 (q := q) h4')
        clear h4
        go_enter Try.func72, Try.ntmps72
        go_wp2_with (first | (go_at_call 73; refine (within_any _ _ _ _).mono ?_; rintro e w' ⟨rfl, rfl⟩) | (go_at_call 126; refine (isPrime_any _ _).mono ?_; rintro e w' ⟨rfl, rfl⟩) | (go_at_call 127; refine (power_any _ _ _ _ (by omega) (by omega) (by omega)).mono ?_; rintro e w' ⟨rfl, rfl⟩))
        all_goals go_ret
        all_goals exact ⟨ret_bool hB.out.symm, below_new w _⟩
    · have h2' : inr q 2 (p - 1) = false := by simpa using h2
      have hB := Lib.hid (bad2 (g := g) h2')
      clear h2
      go_enter Try.func72, Try.ntmps72
      go_wp2_with (first | (go_at_call 73; refine (within_any _ _ _ _).mono ?_; rintro e w' ⟨rfl, rfl⟩) | (go_at_call 126; refine (isPrime_any _ _).mono ?_; rintro e w' ⟨rfl, rfl⟩) | (go_at_call 127; refine (power_any _ _ _ _ (by omega) (by omega) (by omega)).mono ?_; rintro e w' ⟨rfl, rfl⟩))
      all_goals go_ret
      all_goals exact ⟨ret_bool hB.out.symm, below_new w _⟩
  · have h1' : inr p 3 2000000000 = false := by simpa using h1
    have hB := Lib.hid (bad1 (q := q) (g := g) h1')
    clear h1
    go_enter Try.func72, Try.ntmps72
    go_wp2_with (first | (go_at_call 73; refine (within_any _ _ _ _).mono ?_; rintro e w' ⟨rfl, rfl⟩) | (go_at_call 126; refine (isPrime_any _ _).mono ?_; rintro e w' ⟨rfl, rfl⟩) | (go_at_call 127; refine (power_any _ _ _ _ (by omega) (by omega) (by omega)).mono ?_; rintro e w' ⟨rfl, rfl⟩))
    all_goals go_ret
    all_goals exact ⟨ret_bool hB.out.symm, below_new w _⟩
set_option maxHeartbeats 800000 in
theorem l2Good_any (p q g : Int) (w : World) :
    Calls Try.prog 60 #[.agg #[.int .i64 p, .int .i64 q, .int .i64 g]] w fun en w' => en = .returned (.bool (M.goodB p q g)) ∧ Below w.heap.size w w' := by
  by_cases h1 : inr p 3 2000000000 = true
  · obtain ⟨g1, g2⟩ := inr_t h1
    by_cases h2 : inr q 2 (p - 1) = true
    · obtain ⟨g3, g4⟩ := inr_t h2
      by_cases h4 : inr g 2 (p - 1) = true
      · obtain ⟨g5, g6⟩ := inr_t h4
        go_enter Try.func60, Try.ntmps60
        go_wp2_with (first | (go_at_call 69; refine (l1In_any _ _ _ _).mono ?_; rintro e w' ⟨rfl, rfl⟩) | (go_at_call 119; refine (nPrime_any _ _ (by omega)).mono ?_; rintro e w' ⟨rfl, rfl⟩) | (go_at_call 118; refine (nPower_any _ _ _ _ (by omega) (by omega) (by omega)).mono ?_; rintro e w' ⟨rfl, rfl⟩))
        all_goals go_ret
        all_goals refine ⟨ret_bool (good_lemma g1 g2 g3 g4 g5 g6 ?_).symm, below_new w _⟩
        all_goals first
          | exact way1 (by assumption) (by assumption) (by assumption)
          | exact way2 (q := q) (by omega) (by assumption)
          | exact way3 (by assumption)
          | exact way4 (by assumption)
          | exact way5 (by assumption) (by assumption) (by assumption)
          | exact way6 (by assumption)
          | exact way7 (by assumption)
      · have h4' : inr g 2 (p - 1) = false := by simpa using h4
        have hB := Lib.hid (bad3 (q := q) h4')
        clear h4
        go_enter Try.func60, Try.ntmps60
        go_wp2_with (first | (go_at_call 69; refine (l1In_any _ _ _ _).mono ?_; rintro e w' ⟨rfl, rfl⟩) | (go_at_call 119; refine (nPrime_any _ _ (by omega)).mono ?_; rintro e w' ⟨rfl, rfl⟩) | (go_at_call 118; refine (nPower_any _ _ _ _ (by omega) (by omega) (by omega)).mono ?_; rintro e w' ⟨rfl, rfl⟩))
        all_goals go_ret
        all_goals exact ⟨ret_bool hB.out.symm, below_new w _⟩
    · have h2' : inr q 2 (p - 1) = false := by simpa using h2
      have hB := Lib.hid (bad2 (g := g) h2')
      clear h2
      go_enter Try.func60, Try.ntmps60
      go_wp2_with (first | (go_at_call 69; refine (l1In_any _ _ _ _).mono ?_; rintro e w' ⟨rfl, rfl⟩) | (go_at_call 119; refine (nPrime_any _ _ (by omega)).mono ?_; rintro e w' ⟨rfl, rfl⟩) | (go_at_call 118; refine (nPower_any _ _ _ _ (by omega) (by omega) (by omega)).mono ?_; rintro e w' ⟨rfl, rfl⟩))
      all_goals go_ret
      all_goals exact ⟨ret_bool hB.out.symm, below_new w _⟩
  · have h1' : inr p 3 2000000000 = false := by simpa using h1
    have hB := Lib.hid (bad1 (q := q) (g := g) h1')
    clear h1
    go_enter Try.func60, Try.ntmps60
    go_wp2_with (first | (go_at_call 69; refine (l1In_any _ _ _ _).mono ?_; rintro e w' ⟨rfl, rfl⟩) | (go_at_call 119; refine (nPrime_any _ _ (by omega)).mono ?_; rintro e w' ⟨rfl, rfl⟩) | (go_at_call 118; refine (nPower_any _ _ _ _ (by omega) (by omega) (by omega)).mono ?_; rintro e w' ⟨rfl, rfl⟩))
    all_goals go_ret
    all_goals exact ⟨ret_bool hB.out.symm, below_new w _⟩
end Go.Proofs.Ytjapjmhifoeogaa

/- Walks of the group layer: elements, powers, products. -/
namespace Go.Proofs.Ytjapjmhifoeogaa
open Go.RowKit
end Go.Proofs.Ytjapjmhifoeogaa

/- Walks of the group layer: products, powers. -/
namespace Go.Proofs.Ytjapjmhifoeogaa
open Go.RowKit
end Go.Proofs.Ytjapjmhifoeogaa
