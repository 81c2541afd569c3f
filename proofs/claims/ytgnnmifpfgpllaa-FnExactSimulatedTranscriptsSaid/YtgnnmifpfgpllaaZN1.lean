import Derived.Test.YtgnnmifpfgpllaaZMath
import Derived.Test.YtgnnmifpfgpllaaZKit
import Derived.Deep.RegionHeld3
/- Plain mathematics: products, digests, polynomials' values. -/
set_option linter.all false
set_option linter.unusedVariables false
set_option linter.unusedSimpArgs false
namespace M

/-! products -/
def mulL (p : Int) (l : List Int) : Int := l.foldl (fun o x => o * x % p) 1
theorem foldl_mul_lt {p : Int} (hp : 2 ≤ p) : ∀ (l : List Int) (o : Int), 0 ≤ o ∧ o < p → 0 ≤ l.foldl (fun o x => o * x % p) o ∧ l.foldl (fun o x => o * x % p) o < p
  | [], _, h => h
  | x :: l, o, _ => foldl_mul_lt hp l (o * x % p) ⟨Int.emod_nonneg _ (by omega), Int.emod_lt_of_pos _ (by omega)⟩
theorem mulL_lt {p : Int} (hp : 2 ≤ p) (l : List Int) : 0 ≤ mulL p l ∧ mulL p l < p := foldl_mul_lt hp l 1 (by omega)
theorem mulL_two {p a b : Int} (ha : 0 ≤ a ∧ a < p) : mulL p [a, b] = a * b % p := by
  show 1 * a % p * b % p = a * b % p
  rw [Int.one_mul, Int.emod_eq_of_lt ha.1 ha.2]
theorem mulL_snoc (p : Int) (l : List Int) (x : Int) : mulL p (l ++ [x]) = mulL p l * x % p := by unfold mulL; rw [List.foldl_append]; rfl
/-! digests -/
def hs (s b : Int) : Int := (48271 * s + b + 1) % 2147483647
def ht (t b : Int) : Int := (69621 * t + b + 1) % 2147483647
def hab (st : Int × Int) (x : Int) : Int × Int := (hs (hs st.1 (x % 2147483648)) (x / 2147483648), ht (ht st.2 (x % 2147483648)) (x / 2147483648))
def hfold (l : List Int) : Int × Int := l.foldl hab (1, 2)
def hashL (l : List Int) : Int := (hfold ((l.length : Int) :: l)).1 * 2147483648 + (hfold ((l.length : Int) :: l)).2
def lab (s : List UInt8) (l : List Int) : List Int := (s.length : Int) :: (s.map fun b => (b.toNat : Int)) ++ l
def chal (p q g : Int) (s : List UInt8) (l : List Int) : Int := hashL (lab s (p :: q :: g :: l)) % q
theorem chal_lt {p q g : Int} (hq : 2 ≤ q) (s : List UInt8) (l : List Int) : 0 ≤ chal p q g s l ∧ chal p q g s l < q := ⟨Int.emod_nonneg _ (by omega), Int.emod_lt_of_pos _ (by omega)⟩
end M

namespace Go.Proofs.Ytgnnmifpfgpllaa
open Go.RowKit
set_option maxHeartbeats 400000 in
theorem power_any (a e m : Int) (w : World) (hm : 1 ≤ m ∧ m ≤ 2000000000) (ha : 0 ≤ a ∧ a < m) (he : e ≤ 9223372036854775807) :
    Calls Try.prog 84 #[.int .i64 a, .int .i64 e, .int .i64 m] w fun en w' => en = .returned (.int .i64 (M.pw a e m)) ∧ w = w' := by
  obtain ⟨hm1, hm2⟩ := hm
  obtain ⟨ha1, ha2⟩ := ha
  go_enter Try.func84, Try.ntmps84
  go_wp2
  go_loop [0, 1, 7] (fun A E O => ∃ a' e' o : Int, 0 ≤ a' ∧ a' < m ∧ 0 ≤ o ∧ o < m ∧ e' ≤ 9223372036854775807 ∧ A = .int .i64 a' ∧ E = .int .i64 e' ∧ O = .int .i64 o ∧ (o * a' ^ e'.toNat) % m = M.pw a e m) (fun _ E _ => (intOf E).toNat)
  case atStart => exact ⟨a, e, 1 % m, ha1, ha2, Int.emod_nonneg _ (by omega), Int.emod_lt_of_pos _ (by omega), he, rfl, rfl, rfl, M.pw_start a e m⟩
  case round =>
    obtain ⟨a', e', o, h1, h2, h3, h4, h5, rfl, rfl, rfl, hr⟩ := hrel
    have HR := Lib.hid hr; clear hr
    obtain ⟨q3, q4⟩ := M.mul_fit ⟨h3, h4⟩ ⟨h1, h2⟩ hm2
    obtain ⟨q5, q6⟩ := M.mul_fit ⟨h1, h2⟩ ⟨h1, h2⟩ hm2
    go_wp2
    · go_round
      have hb : (bits BinOp.and IntKind.i64 e' 1 == 1) = true := by assumption
      have he' : 0 < e' := by assumption
      rw [and_one e' (by omega) h5] at hb
      have hb' : e' % 2 = 1 := by simpa using hb
      case rel => exact ⟨_, _, _, Int.emod_nonneg _ (by omega), Int.emod_lt_of_pos _ (by omega), Int.emod_nonneg _ (by omega), Int.emod_lt_of_pos _ (by omega), by omega, rfl, rfl, rfl, (M.pw_round1 o a' m e' (by omega) hb').trans HR.out⟩
      case measure => simp [intOf]; omega
    · go_round
      have hb : (bits BinOp.and IntKind.i64 e' 1 == 1) = false := by assumption
      have he' : 0 < e' := by assumption
      rw [and_one e' (by omega) h5] at hb
      have hb' : e' % 2 = 0 := by have : e' % 2 ≠ 1 := by simpa using hb
                                  omega
      case rel => exact ⟨_, _, _, Int.emod_nonneg _ (by omega), Int.emod_lt_of_pos _ (by omega), h3, h4, by omega, rfl, rfl, rfl, (M.pw_round0 o a' m e' (by omega) hb').trans HR.out⟩
      case measure => simp [intOf]; omega
    · go_ret
      exact ⟨ret_int (M.pw_end HR.out (by omega) ⟨h3, h4⟩), rfl⟩
end Go.Proofs.Ytgnnmifpfgpllaa

namespace Go.Proofs.Ytgnnmifpfgpllaa
open Go.RowKit
set_option maxHeartbeats 400000 in
theorem indexInts (fn : Nat) (fs cs : Array Value) (p : Int → Bool) (A : Option Addr) (c : Nat) (xs : List Int) (w : World) (heg : ∀ args w, (callFunc fn args).run Try.prog w = .ok (.enter fn args) w)
    (hx : RI w w.heap.size A xs) (hl : xs.length ≤ 9223372036854775807)
    (hf : ∀ x ∈ xs, ∀ W, Below w.heap.size w W → Calls Try.prog fn (fs ++ #[.int .i64 x] ++ cs) W fun e W' => e = .returned (.bool (p x)) ∧ Below W.heap.size W W') :
    Calls Try.prog 116 #[.slice A xs.length c, .func (.func fn) fs cs] w fun en w' => en = .returned (.int .i64 (idx p xs)) ∧ Below w.heap.size w w' := by
  go_enter Try.func116, Try.ntmps116
  go_wp2
  go_loopw [5, 8] (fun i5 i W => ∃ k : Nat, k ≤ xs.length ∧ i = .int .i64 k ∧ Below w.heap.size w W ∧ ∀ j (h : j < xs.length), j < k → p xs[j] = false) (fun _ i _ => xs.length - (intOf i).toNat)
  case atStart => exact ⟨0, by omega, rfl, Below.refl _ _, fun j h hj => by omega⟩
  case round =>
    obtain ⟨k, hk, rfl, hb, hn⟩ := hrel
    have HN := Lib.hid hn; clear hn
    by_cases hlt : k < xs.length
    · obtain ⟨ad, rfl, had, hc⟩ := (hx.below hb).at_ hlt
      have HX := Lib.hid hx; clear hx
      have hfk := Lib.hid (hf xs[k] (List.getElem_mem hlt))
      clear hf
      go_wp2_with fail
      refine (hfk.out _ hb).mono ?_
      rintro e w1 ⟨rfl, hb1⟩
      have hb2 := hb.trans (hb1.mono hb.size)
      by_cases hp : p xs[k] = true
      · go_wp2
        go_ret
        exact ⟨ret_int (idx_hit hlt hp fun j hj => HN.out j (by omega) hj).symm, hb2⟩
      · have hp' : p xs[k] = false := by simpa using hp
        clear hp
        go_wp2
        go_roundw
        case rel => exact ⟨k + 1, by omega, by go_num, hb2, fun j h hj => by
          rcases Nat.lt_or_eq_of_le (Nat.le_of_lt_succ hj) with h1 | rfl
          · exact HN.out j h h1
          · exact hp'⟩
        case measure => simp [intOf]; omega
    · have HX := Lib.hid hx; clear hx
      clear hf
      go_wp2
      go_ret
      exact ⟨ret_int (idx_miss fun j h => HN.out j h (by omega)).symm, hb⟩
end Go.Proofs.Ytgnnmifpfgpllaa

/- Walks of the number layer: ranges, residues, inverses, primes. -/
namespace Go.Proofs.Ytgnnmifpfgpllaa
open Go.RowKit
def inr (n lo hi : Int) : Bool := decide (lo ≤ n ∧ n ≤ hi)
theorem inr_t {n lo hi : Int} (h : inr n lo hi = true) : lo ≤ n ∧ n ≤ hi := by unfold inr at h; exact of_decide_eq_true h
theorem inr_f {n lo hi : Int} (h : inr n lo hi = false) : ¬ (lo ≤ n ∧ n ≤ hi) := by unfold inr at h; exact of_decide_eq_false h
theorem inr_mk {n lo hi : Int} (h : lo ≤ n ∧ n ≤ hi) : inr n lo hi = true := by unfold inr; exact decide_eq_true h
theorem inr_not {n lo hi : Int} (h : ¬ (lo ≤ n ∧ n ≤ hi)) : inr n lo hi = false := by unfold inr; exact decide_eq_false h
theorem within_any (n lo hi : Int) (w : World) :
    Calls Try.prog 59 #[.int .i64 n, .int .i64 lo, .int .i64 hi] w fun en w' => en = .returned (.bool (inr n lo hi)) ∧ w = w' := by
  go_enter Try.func59, Try.ntmps59
  go_wp2
  · go_ret
    exact ⟨ret_bool (by unfold inr; exact decide_eq_decide.2 ⟨fun h => ⟨by assumption, h⟩, fun h => h.2⟩), rfl⟩
  · go_ret
    exact ⟨ret_bool (inr_not fun h => by omega).symm, rfl⟩
theorem l1In_any (n lo hi : Int) (w : World) :
    Calls Try.prog 57 #[.int .i64 n, .int .i64 lo, .int .i64 hi] w fun en w' => en = .returned (.bool (inr n lo hi)) ∧ w = w' := by
  go_enter Try.func57, Try.ntmps57
  go_wp2
  · go_ret
    exact ⟨ret_bool (by unfold inr; exact decide_eq_decide.2 ⟨fun h => ⟨by assumption, h⟩, fun h => h.2⟩), rfl⟩
  · go_ret
    exact ⟨ret_bool (inr_not fun h => by omega).symm, rfl⟩
theorem mod_any (n m : Int) (w : World) (hm : 1 ≤ m ∧ m ≤ 2000000000) (hn : -9000000000000000000 ≤ n ∧ n ≤ 9000000000000000000) :
    Calls Try.prog 89 #[.int .i64 n, .int .i64 m] w fun en w' => en = .returned (.int .i64 (n % m)) ∧ w = w' := by
  obtain ⟨hm1, hm2⟩ := hm
  obtain ⟨hn1, hn2⟩ := hn
  go_enter Try.func89, Try.ntmps89
  go_wp2
  go_ret
  obtain ⟨h1, h2, h3⟩ := M.tmod_fix n m ⟨hm1, hm2⟩
  exact ⟨ret_int (by rw [show wrap64 (n.tmod m + m) = n.tmod m + m from by unfold wrap64; omega]; exact h3), rfl⟩
theorem nMod_any (n m : Int) (w : World) (hm : 1 ≤ m ∧ m ≤ 2000000000) (hn : -9000000000000000000 ≤ n ∧ n ≤ 9000000000000000000) :
    Calls Try.prog 65 #[.int .i64 n, .int .i64 m] w fun en w' => en = .returned (.int .i64 (n % m)) ∧ w = w' := by
  obtain ⟨hm1, hm2⟩ := hm
  obtain ⟨hn1, hn2⟩ := hn
  go_enter Try.func65, Try.ntmps65
  go_wp2
  go_ret
  obtain ⟨h1, h2, h3⟩ := M.tmod_fix n m ⟨hm1, hm2⟩
  exact ⟨ret_int (by rw [show wrap64 (n.tmod m + m) = n.tmod m + m from by unfold wrap64; omega]; exact h3), rfl⟩
theorem isModulus_any (n : Int) (w : World) :
    Calls Try.prog 114 #[.int .i64 n] w fun en w' => en = .returned (.bool (inr n 2 2000000000)) ∧ w = w' := by
  go_enter Try.func114, Try.ntmps114
  go_wp2_with (go_at_call 59; refine (within_any _ _ _ _).mono ?_; rintro e w' ⟨rfl, rfl⟩)
  go_ret
  exact ⟨rfl, rfl⟩
set_option maxHeartbeats 400000 in
theorem isPrime_loop (n : Int) (w : World) (h2 : 2 ≤ n) (hM : n ≤ 2000000000) (ho : n % 2 ≠ 0 ∨ n = 2) :
    Calls Try.prog 103 #[.int .i64 n] w fun en w' => en = .returned (.bool (M.primeB n)) ∧ w = w' := by
  have hi := inr_mk ⟨h2, hM⟩
  have HO := Lib.hid ho
  have hcase : (n % 2 = 0 ∧ (n != 2) = false) ∨ (¬ n % 2 = 0) := by
    rcases ho with h | h
    · exact .inr h
    · exact .inl ⟨by omega, by simp [h]⟩
  clear ho
  go_enter Try.func103, Try.ntmps103
  rcases hcase with ⟨_, _⟩ | hodd
  all_goals go_wp2_with (go_at_call 114; refine (isModulus_any _ _).mono ?_; rintro e w' ⟨rfl, rfl⟩)
  all_goals
    go_loop [3] (fun D => ∃ d : Int, D = .int .i64 d ∧ 3 ≤ d ∧ d ≤ 50000 ∧ d % 2 = 1 ∧ ∀ k : Int, 3 ≤ k → k < d → k % 2 = 1 → ¬ k ∣ n) (fun D => (50000 - intOf D).toNat)
    case atStart => exact ⟨3, rfl, by omega, by omega, by omega, fun k a b => by omega⟩
    case round =>
      obtain ⟨d, rfl, hd1, hd2, hd3, hk⟩ := hrel
      have HK := Lib.hid hk; clear hk
      have HD3 := Lib.hid hd3; clear hd3
      have hsq := M.sq_small (show 0 ≤ d by omega) hd2
      have hsq0 : 0 ≤ d * d := Int.mul_nonneg (by omega) (by omega)
      go_wp2
      · go_ret
        have h3 : d * d ≤ n := by assumption
        have h4 : (n % d == 0) = true := by assumption
        exact ⟨ret_bool (M.primeB_f (M.not_prime_dvd (by omega) (M.lt_of_sq (by omega) h3) (by simpa using h4))).symm, rfl⟩
      · have h3 : d * d ≤ n := by assumption
        have h4 : (n % d == 0) = false := by assumption
        have hd5 := M.sq_bound h3 hM (by omega)
        go_round
        case rel => exact ⟨d + 2, rfl, by omega, by omega, by have := HD3.out; omega, fun k a b c => by
          by_cases hkd : k < d
          · exact HK.out k a hkd c
          · have : k = d := by have := HD3.out; omega
            subst this
            intro hdv; have := Int.emod_eq_zero_of_dvd hdv; simp [this] at h4⟩
        case measure => simp [intOf]; omega
      · go_ret
        have h3 : n < d * d := by assumption
        exact ⟨ret_bool (M.primeB_t (M.prime_of_odd_loop h2 HO.out h3 hd1 HK.out)).symm, rfl⟩
theorem isPrime_any (n : Int) (w : World) :
    Calls Try.prog 103 #[.int .i64 n] w fun en w' => en = .returned (.bool (decide (n ≤ 2000000000) && M.primeB n)) ∧ w = w' := by
  by_cases hin : 2 ≤ n ∧ n ≤ 2000000000
  · by_cases ho : n % 2 ≠ 0 ∨ n = 2
    · refine (isPrime_loop n w hin.1 hin.2 ho).mono ?_
      rintro e w' ⟨rfl, rfl⟩
      exact ⟨ret_bool (by simp [hin.2]), rfl⟩
    · obtain ⟨h1, h2⟩ : n % 2 = 0 ∧ n ≠ 2 := ⟨by omega, by omega⟩
      have hi := inr_mk hin
      have hp := Lib.hid (M.primeB_f (M.not_prime_even h1 h2))
      have h3 : (n != 2) = true := by simpa using h2
      obtain ⟨hin1, hin2⟩ := hin
      clear h2 ho
      go_enter Try.func103, Try.ntmps103
      go_wp2_with (go_at_call 114; refine (isModulus_any _ _).mono ?_; rintro e w' ⟨rfl, rfl⟩)
      go_ret
      exact ⟨ret_bool (by rw [hp.out]; simp), rfl⟩
  · have hi := inr_not hin
    have hp : (decide (n ≤ 2000000000) && M.primeB n) = false := by
      by_cases h : n < 2
      · rw [M.primeB_f (M.not_prime_small h)]; simp
      · have : ¬ n ≤ 2000000000 := by omega
        simp [this]
    have HP := Lib.hid hp
    clear hp hin
    go_enter Try.func103, Try.ntmps103
    go_wp2_with (go_at_call 114; refine (isModulus_any _ _).mono ?_; rintro e w' ⟨rfl, rfl⟩)
    go_ret
    exact ⟨ret_bool HP.out.symm, rfl⟩
set_option maxHeartbeats 400000 in
theorem nPrime_any (n : Int) (w : World) (hM : n ≤ 2000000000) :
    Calls Try.prog 94 #[.int .i64 n] w fun en w' => en = .returned (.bool (M.primeB n)) ∧ w = w' := by
  by_cases h2 : 2 ≤ n
  · go_enter Try.func94, Try.ntmps94
    go_wp2
    go_loop [3] (fun D => ∃ d : Int, D = .int .i64 d ∧ 2 ≤ d ∧ d ≤ 50000 ∧ ∀ k : Int, 2 ≤ k → k < d → ¬ k ∣ n) (fun D => (50000 - intOf D).toNat)
    case atStart => exact ⟨2, rfl, by omega, by omega, fun k a b => by omega⟩
    case round =>
      obtain ⟨d, rfl, hd1, hd2, hk⟩ := hrel
      have HK := Lib.hid hk; clear hk
      have hsq := M.sq_small (show 0 ≤ d by omega) hd2
      have hsq0 : 0 ≤ d * d := Int.mul_nonneg (by omega) (by omega)
      go_wp2
      · go_ret
        have h3 : d * d ≤ n := by assumption
        have h4 : (n % d == 0) = true := by assumption
        exact ⟨ret_bool (M.primeB_f (M.not_prime_dvd (by omega) (M.lt_of_sq (by omega) h3) (by simpa using h4))).symm, rfl⟩
      · have h3 : d * d ≤ n := by assumption
        have h4 : (n % d == 0) = false := by assumption
        have hd5 := M.sq_bound h3 hM (by omega)
        go_round
        case rel => exact ⟨d + 1, rfl, by omega, by omega, fun k a b => by
          by_cases hkd : k < d
          · exact HK.out k a hkd
          · have : k = d := by omega
            subst this
            intro hdv; have := Int.emod_eq_zero_of_dvd hdv; simp [this] at h4⟩
        case measure => simp [intOf]; omega
      · go_ret
        have h3 : n < d * d := by assumption
        exact ⟨ret_bool (M.primeB_t (M.prime_of_loop h2 h3 hd1 HK.out)).symm, rfl⟩
  · have hp := Lib.hid (M.primeB_f (M.not_prime_small (n := n) (by omega)))
    have h3 : n < 2 := by omega
    clear h2
    go_enter Try.func94, Try.ntmps94
    go_wp2
    go_ret
    exact ⟨ret_bool hp.out.symm, rfl⟩
set_option maxHeartbeats 400000 in
theorem nPower_any (a e m : Int) (w : World) (hm : 1 ≤ m ∧ m ≤ 2000000000) (ha : 0 ≤ a ∧ a < m) (he : e ≤ 9223372036854775807) :
    Calls Try.prog 79 #[.int .i64 a, .int .i64 e, .int .i64 m] w fun en w' => en = .returned (.int .i64 (M.pw a e m)) ∧ w = w' := by
  obtain ⟨hm1, hm2⟩ := hm
  obtain ⟨ha1, ha2⟩ := ha
  go_enter Try.func79, Try.ntmps79
  go_wp2
  go_loop [0, 1, 7] (fun A E O => ∃ a' e' o : Int, 0 ≤ a' ∧ a' < m ∧ 0 ≤ o ∧ o < m ∧ e' ≤ 9223372036854775807 ∧ A = .int .i64 a' ∧ E = .int .i64 e' ∧ O = .int .i64 o ∧ (o * a' ^ e'.toNat) % m = M.pw a e m) (fun _ E _ => (intOf E).toNat)
  case atStart => exact ⟨a, e, 1 % m, ha1, ha2, Int.emod_nonneg _ (by omega), Int.emod_lt_of_pos _ (by omega), he, rfl, rfl, rfl, M.pw_start a e m⟩
  case round =>
    obtain ⟨a', e', o, h1, h2, h3, h4, h5, rfl, rfl, rfl, hr⟩ := hrel
    have HR := Lib.hid hr; clear hr
    obtain ⟨q3, q4⟩ := M.mul_fit ⟨h3, h4⟩ ⟨h1, h2⟩ hm2
    obtain ⟨q5, q6⟩ := M.mul_fit ⟨h1, h2⟩ ⟨h1, h2⟩ hm2
    go_wp2
    · go_round
      have hb : (e' % 2 == 1) = true := by assumption
      have hb' : e' % 2 = 1 := by simpa using hb
      have he' : 0 < e' := by assumption
      case rel => exact ⟨_, _, _, Int.emod_nonneg _ (by omega), Int.emod_lt_of_pos _ (by omega), Int.emod_nonneg _ (by omega), Int.emod_lt_of_pos _ (by omega), by omega, rfl, rfl, rfl, (M.pw_round1 o a' m e' (by omega) hb').trans HR.out⟩
      case measure => simp [intOf]; omega
    · go_round
      have hb : (e' % 2 == 1) = false := by assumption
      have hb' : ¬ e' % 2 = 1 := by simpa using hb
      have he' : 0 < e' := by assumption
      case rel => exact ⟨_, _, _, Int.emod_nonneg _ (by omega), Int.emod_lt_of_pos _ (by omega), h3, h4, by omega, rfl, rfl, rfl, (M.pw_round0 o a' m e' (by omega) (by omega)).trans HR.out⟩
      case measure => simp [intOf]; omega
    · go_ret
      exact ⟨ret_int (M.pw_end HR.out (by omega) ⟨h3, h4⟩), rfl⟩
end Go.Proofs.Ytgnnmifpfgpllaa

/- Walks of the group layer: lists that fulfil something, elements, exponents, powers, products. -/
namespace Go.Proofs.Ytgnnmifpfgpllaa
open Go.RowKit
theorem containsInts (fn : Nat) (fs cs : Array Value) (p : Int → Bool) (A : Option Addr) (c : Nat) (xs : List Int) (w : World) (heg : ∀ args w, (callFunc fn args).run Try.prog w = .ok (.enter fn args) w)
    (hx : RI w w.heap.size A xs) (hl : xs.length ≤ 9223372036854775807)
    (hf : ∀ x ∈ xs, ∀ W, Below w.heap.size w W → Calls Try.prog fn (fs ++ #[.int .i64 x] ++ cs) W fun e W' => e = .returned (.bool (p x)) ∧ Below W.heap.size W W') :
    Calls Try.prog 108 #[.slice A xs.length c, .func (.func fn) fs cs] w fun en w' => en = .returned (.bool (xs.any p)) ∧ Below w.heap.size w w' := by
  have H := Lib.hid (indexInts fn fs cs p A c xs w heg hx hl hf)
  clear heg hx hl hf
  go_enter Try.func108, Try.ntmps108
  go_wp2_with fail
  refine H.out.mono ?_
  rintro e w' ⟨rfl, hb⟩
  go_wp2
  go_ret
  exact ⟨ret_bool (idx_ge p xs), hb⟩
theorem areAll_any (fn : Nat) (fs cs : Array Value) (p : Int → Bool) (A : Option Addr) (c : Nat) (xs : List Int) (w : World) (heg : ∀ args w, (callFunc fn args).run Try.prog w = .ok (.enter fn args) w)
    (hx : RI w w.heap.size A xs) (hl : xs.length ≤ 9223372036854775807)
    (hf : ∀ x ∈ xs, ∀ W, Below w.heap.size w W → Calls Try.prog fn (fs ++ #[.int .i64 x] ++ cs) W fun e W' => e = .returned (.bool (p x)) ∧ Below W.heap.size W W') :
    Calls Try.prog 88 #[.slice A xs.length c, .func (.func fn) fs cs] w fun en w' => en = .returned (.bool (xs.all p)) ∧ Below w.heap.size w w' := by
  have hmf : ∀ (fn : Fn) (first cap : Array Value) (w : World), (Instr.makeFunc fn first cap).run Try.prog w = .ok (.func fn first cap) w := fun _ _ _ _ => rfl
  have heg2 : ∀ args w, (callFunc 109 args).run Try.prog w = .ok (.enter 109 args) w := enters_of Try.func109 (by kernel_rfl) rfl
  have hx2 := hx.new (.cells #[.func (.func fn) fs cs] 70)
  have hf2 : ∀ x ∈ xs, ∀ W, Below (w.alloc (.cells #[.func (.func fn) fs cs] 70)).heap.size (w.alloc (.cells #[.func (.func fn) fs cs] 70)) W →
      Calls Try.prog 109 (#[] ++ #[.int .i64 x] ++ #[.pointer (some ⟨w.heap.size, 0, none⟩)]) W fun e W' => e = .returned (.bool (!p x)) ∧ Below W.heap.size W W' := by
    intro x hxm W hb
    have hc : W.cell? ⟨w.heap.size, 0, none⟩ = some (.func (.func fn) fs cs) := by
      rw [hb.cell (p := ⟨w.heap.size, 0, none⟩) (by simp), cell_new]; rfl
    have hfx := Lib.hid (hf x hxm W ((below_new w _).trans (hb.mono (by simp))))
    clear hf hx hx2 hb
    show Calls Try.prog 109 #[.int .i64 x, .pointer (some ⟨w.heap.size, 0, none⟩)] W _
    go_enter Try.func109, Try.ntmps109
    go_wp2_with fail
    refine hfx.out.mono ?_
    rintro e w' ⟨rfl, hb⟩
    go_wp2
    go_ret
    exact ⟨rfl, hb⟩
  have H := Lib.hid (containsInts 109 #[] #[.pointer (some ⟨w.heap.size, 0, none⟩)] (fun x => !p x) A c xs _ heg2 hx2 hl hf2)
  clear hf hf2 hx hx2 heg heg2
  go_enter Try.func88, Try.ntmps88
  go_wp2_with fail
  refine H.out.mono ?_
  rintro e w' ⟨rfl, hb⟩
  go_wp2
  go_ret
  exact ⟨ret_bool (List.not_any_eq_all_not ..  |>.trans (by simp)), bnext (below_new w _) hb⟩
set_option maxHeartbeats 400000 in
theorem l1All_any (A : Option Addr) (c : Nat) (xs : List Int) (lo hi : Int) (w : World) (hx : RI w w.heap.size A xs) (hl : xs.length ≤ 9223372036854775807) :
    Calls Try.prog 87 #[.slice A xs.length c, .int .i64 lo, .int .i64 hi] w fun en w' => en = .returned (.bool (xs.all fun x => inr x lo hi)) ∧ w = w' := by
  go_enter Try.func87, Try.ntmps87
  go_wp2
  go_loop [11, 8] (fun I _ => ∃ k : Nat, k ≤ xs.length ∧ I = .int .i64 k ∧ ∀ j (h : j < xs.length), j < k → inr xs[j] lo hi = true) (fun I _ => xs.length - (intOf I).toNat)
  case atStart => exact ⟨0, by omega, rfl, fun j h hj => by omega⟩
  case round =>
    obtain ⟨k, hk, rfl, hn⟩ := hrel
    have HN := Lib.hid hn; clear hn
    by_cases hlt : k < xs.length
    · obtain ⟨ad, rfl, had, hc⟩ := hx.at_ hlt
      have HX := Lib.hid hx; clear hx
      by_cases hp : inr xs[k] lo hi = true
      · go_wp2_with (go_at_call 57; refine (l1In_any _ _ _ _).mono ?_; rintro e w' ⟨rfl, rfl⟩)
        go_round
        case rel => exact ⟨k + 1, by omega, by go_num, fun j h hj => by
          rcases Nat.lt_or_eq_of_le (Nat.le_of_lt_succ hj) with h1 | rfl
          · exact HN.out j h h1
          · exact hp⟩
        case measure => simp [intOf]; omega
      · have hp' : inr xs[k] lo hi = false := by simpa using hp
        clear hp
        go_wp2_with (go_at_call 57; refine (l1In_any _ _ _ _).mono ?_; rintro e w' ⟨rfl, rfl⟩)
        go_ret
        exact ⟨ret_bool (List.all_eq_false.2 ⟨_, List.getElem_mem hlt, by simp [hp']⟩).symm, rfl⟩
    · have HX := Lib.hid hx; clear hx
      go_wp2
      go_ret
      exact ⟨ret_bool (List.all_eq_true.2 fun x hx => by
        obtain ⟨j, hj, rfl⟩ := List.getElem_of_mem hx
        exact HN.out j hj (by omega)).symm, rfl⟩
def expsB (q : Int) (l : List Int) : Bool := l.all fun e => inr e 0 (q - 1)
theorem isExp_any (p q g e : Int) (w : World) (hq : -9000000000000000000 ≤ q ∧ q ≤ 9000000000000000000) :
    Calls Try.prog 60 #[.agg #[.int .i64 p, .int .i64 q, .int .i64 g], .int .i64 e] w fun en w' => en = .returned (.bool (inr e 0 (q - 1))) ∧ Below w.heap.size w w' := by
  obtain ⟨hq1, hq2⟩ := hq
  go_enter Try.func60, Try.ntmps60
  go_wp2_with (go_at_call 59; refine (within_any _ _ _ _).mono ?_; rintro e w' ⟨rfl, rfl⟩)
  go_ret
  exact ⟨rfl, below_new w _⟩
theorem exp_any (p q g n : Int) (w : World) (hq : 1 ≤ q ∧ q ≤ 2000000000) (hn : -9000000000000000000 ≤ n ∧ n ≤ 9000000000000000000) :
    Calls Try.prog 66 #[.agg #[.int .i64 p, .int .i64 q, .int .i64 g], .int .i64 n] w fun en w' => en = .returned (.int .i64 (n % q)) ∧ Below w.heap.size w w' := by
  go_enter Try.func66, Try.ntmps66
  go_wp2_with (go_at_call 89; refine (mod_any _ _ _ hq hn).mono ?_; rintro e w' ⟨rfl, rfl⟩)
  go_ret
  exact ⟨rfl, below_new w _⟩
theorem gExps_any (p q g : Int) (A : Option Addr) (c : Nat) (xs : List Int) (w : World) (hq : -9000000000000000000 ≤ q ∧ q ≤ 9000000000000000000) (hx : RI w w.heap.size A xs) (hl : xs.length ≤ 9223372036854775807) :
    Calls Try.prog 49 #[.agg #[.int .i64 p, .int .i64 q, .int .i64 g], .slice A xs.length c] w fun en w' => en = .returned (.bool (expsB q xs)) ∧ Below w.heap.size w w' := by
  have H := Lib.hid (l1All_any A c xs 0 (q - 1) (w.alloc (.cells #[.int .i64 p, .int .i64 q, .int .i64 g] 34)) (hx.new _) hl)
  obtain ⟨hq1, hq2⟩ := hq
  clear hx
  go_enter Try.func49, Try.ntmps49
  go_wp2_with fail
  refine H.out.mono ?_
  rintro e w' ⟨rfl, rfl⟩
  go_wp2
  go_ret
  exact ⟨rfl, below_new w _⟩
end Go.Proofs.Ytgnnmifpfgpllaa

/- Walks of the group layer: valid groups. -/
namespace Go.Proofs.Ytgnnmifpfgpllaa
open Go.RowKit
theorem good_lemma {p q g : Int} (g1 : 3 ≤ p) (g2 : p ≤ 2000000000) (g3 : 2 ≤ q) (g4 : q ≤ p - 1) (g5 : 2 ≤ g) (g6 : g ≤ p - 1) {b : Bool}
    (h : b = true ↔ ((p - 1) % q = 0 ∧ M.primeB p = true ∧ M.primeB q = true ∧ M.pw g q p = 1)) : M.goodB p q g = b :=
  M.goodB_iff (h.trans ⟨fun ⟨a, b, c, d⟩ => ⟨g1, g2, g3, by omega, a, g5, by omega, M.primeB_of b, M.primeB_of c, d⟩, fun hg => ⟨hg.dv, M.primeB_t hg.pp, M.primeB_t hg.pq, hg.go⟩⟩)
theorem way1 {D A B : Prop} {x q : Int} (h : D) (hA : A) (hB : q ≤ 2000000000 ∧ B) : (x == 1) = true ↔ D ∧ A ∧ B ∧ x = 1 := by simp [h, hA, hB.2]
theorem way2 {D A B : Prop} {x q : Int} (h : q ≤ 2000000000) (hB : ¬ (q ≤ 2000000000 ∧ B)) : false = true ↔ D ∧ A ∧ B ∧ x = 1 := by
  have : ¬ B := fun hb => hB ⟨h, hb⟩
  simp [this]
theorem way3 {D A B : Prop} {x : Int} (h : ¬ A) : false = true ↔ D ∧ A ∧ B ∧ x = 1 := by simp [h]
theorem way4 {D A B : Prop} {x : Int} (h : ¬ D) : false = true ↔ D ∧ A ∧ B ∧ x = 1 := by simp [h]
theorem way5 {D B : Prop} {a : Bool} {x : Int} (h : D) (hx : x = 1) (hB : B) : a = true ↔ D ∧ a = true ∧ B ∧ x = 1 := by simp [h, hx, hB]
theorem way6 {D A B : Prop} {x : Int} (h : ¬ B) : false = true ↔ D ∧ A ∧ B ∧ x = 1 := by simp [h]
theorem way7 {D A B : Prop} {x : Int} (h : ¬ x = 1) : false = true ↔ D ∧ A ∧ B ∧ x = 1 := by simp [h]
theorem bad1 {p q g : Int} (h : inr p 3 2000000000 = false) : M.goodB p q g = false := M.goodB_not fun hg => inr_f h ⟨hg.p3, hg.pM⟩
theorem bad2 {p q g : Int} (h : inr q 2 (p - 1) = false) : M.goodB p q g = false := M.goodB_not fun hg => inr_f h ⟨hg.q2, by have := hg.qp; omega⟩
theorem bad3 {p q g : Int} (h : inr g 2 (p - 1) = false) : M.goodB p q g = false := M.goodB_not fun hg => inr_f h ⟨hg.g2, by have := hg.gp; omega⟩
set_option maxHeartbeats 800000 in
theorem isValidGroup_any (p q g : Int) (w : World) :
    Calls Try.prog 82 #[.agg #[.int .i64 p, .int .i64 q, .int .i64 g]] w fun en w' => en = .returned (.bool (M.goodB p q g)) ∧ Below w.heap.size w w' := by
  by_cases h1 : inr p 3 2000000000 = true
  · obtain ⟨g1, g2⟩ := inr_t h1
    by_cases h2 : inr q 2 (p - 1) = true
    · obtain ⟨g3, g4⟩ := inr_t h2
      by_cases h4 : inr g 2 (p - 1) = true
      · obtain ⟨g5, g6⟩ := inr_t h4
        go_enter Try.func82, Try.ntmps82
        go_wp2_with (first | (go_at_call 59; refine (within_any _ _ _ _).mono ?_; rintro e w' ⟨rfl, rfl⟩) | (go_at_call 103; refine (isPrime_any _ _).mono ?_; rintro e w' ⟨rfl, rfl⟩) | (go_at_call 84; refine (power_any _ _ _ _ (by omega) (by omega) (by omega)).mono ?_; rintro e w' ⟨rfl, rfl⟩))
        all_goals go_ret
        all_goals refine ⟨ret_bool (good_lemma g1 g2 g3 g4 g5 g6 ?_).symm, below_new w _⟩
        all_goals first
          | exact way1 (by assumption) (by assumption) (by assumption)
          | exact way2 (q := q) (by omega) (by assumption)
          | exact way3 (by assumption)
          | exact way4 (by assumption)
          | exact way5 (by assumption) (by assumption) (by assumption)
          | exact way6 (by assumption)
          | exact way7 (by assumption)
      · have h4' : inr g 2 (p - 1) = false := by simpa using h4
        have hB := Lib.hid (bad3 (q := q) h4')
        clear h4
        go_enter Try.func82, Try.ntmps82
        go_wp2_with (first | (go_at_call 59; refine (within_any _ _ _ _).mono ?_; rintro e w' ⟨rfl, rfl⟩) | (go_at_call 103; refine (isPrime_any _ _).mono ?_; rintro e w' ⟨rfl, rfl⟩) | (go_at_call 84; refine (power_any _ _ _ _ (by omega) (by omega) (by omega)).mono ?_; rintro e w' ⟨rfl, rfl⟩))
        all_goals go_ret
        all_goals exact ⟨ret_bool hB.out.symm, below_new w _⟩
    · have h2' : inr q 2 (p - 1) = false := by simpa using h2
      have hB := Lib.hid (bad2 (g := g) h2')
      clear h2
      go_enter Try.func82, Try.ntmps82
      go_wp2_with (first | (go_at_call 59; refine (within_any _ _ _ _).mono ?_; rintro e w' ⟨rfl, rfl⟩) | (go_at_call 103; refine (isPrime_any _ _).mono ?_; rintro e w' ⟨rfl, rfl⟩) | (go_at_call 84; refine (power_any _ _ _ _ (by omega) (by omega) (by omega)).mono ?_; rintro e w' ⟨rfl, rfl⟩))
      all_goals go_ret
      all_goals exact ⟨ret_bool hB.out.symm, below_new w _⟩
  · have h1' : inr p 3 2000000000 = false := by simpa using h1
    have hB := Lib.hid (bad1 (q := q) (g := g) h1')
    clear h1
    go_enter Try.func82, Try.ntmps82
    go_wp2_with (first | (go_at_call 59; refine (within_any _ _ _ _).mono ?_; rintro e w' ⟨rfl, rfl⟩) | (go_at_call 103; refine (isPrime_any _ _).mono ?_; rintro e w' ⟨rfl, rfl⟩) | (go_at_call 84; refine (power_any _ _ _ _ (by omega) (by omega) (by omega)).mono ?_; rintro e w' ⟨rfl, rfl⟩))
    all_goals go_ret
    all_goals exact ⟨ret_bool hB.out.symm, below_new w _⟩
set_option maxHeartbeats 800000 in
theorem l2Good_any (p q g : Int) (w : World) :
    Calls Try.prog 67 #[.agg #[.int .i64 p, .int .i64 q, .int .i64 g]] w fun en w' => en = .returned (.bool (M.goodB p q g)) ∧ Below w.heap.size w w' := by
  by_cases h1 : inr p 3 2000000000 = true
  · obtain ⟨g1, g2⟩ := inr_t h1
    by_cases h2 : inr q 2 (p - 1) = true
    · obtain ⟨g3, g4⟩ := inr_t h2
      by_cases h4 : inr g 2 (p - 1) = true
      · obtain ⟨g5, g6⟩ := inr_t h4
        go_enter Try.func67, Try.ntmps67
        go_wp2_with (first | (go_at_call 57; refine (l1In_any _ _ _ _).mono ?_; rintro e w' ⟨rfl, rfl⟩) | (go_at_call 94; refine (nPrime_any _ _ (by omega)).mono ?_; rintro e w' ⟨rfl, rfl⟩) | (go_at_call 79; refine (nPower_any _ _ _ _ (by omega) (by omega) (by omega)).mono ?_; rintro e w' ⟨rfl, rfl⟩))
        all_goals go_ret
        all_goals refine ⟨ret_bool (good_lemma g1 g2 g3 g4 g5 g6 ?_).symm, below_new w _⟩
        all_goals first
          | exact way1 (by assumption) (by assumption) (by assumption)
          | exact way2 (q := q) (by omega) (by assumption)
          | exact way3 (by assumption)
          | exact way4 (by assumption)
          | exact way5 (by assumption) (by assumption) (by assumption)
          | exact way6 (by assumption)
          | exact way7 (by assumption)
      · have h4' : inr g 2 (p - 1) = false := by simpa using h4
        have hB := Lib.hid (bad3 (q := q) h4')
        clear h4
        go_enter Try.func67, Try.ntmps67
        go_wp2_with (first | (go_at_call 57; refine (l1In_any _ _ _ _).mono ?_; rintro e w' ⟨rfl, rfl⟩) | (go_at_call 94; refine (nPrime_any _ _ (by omega)).mono ?_; rintro e w' ⟨rfl, rfl⟩) | (go_at_call 79; refine (nPower_any _ _ _ _ (by omega) (by omega) (by omega)).mono ?_; rintro e w' ⟨rfl, rfl⟩))
        all_goals go_ret
        all_goals exact ⟨ret_bool hB.out.symm, below_new w _⟩
    · have h2' : inr q 2 (p - 1) = false := by simpa using h2
      have hB := Lib.hid (bad2 (g := g) h2')
      clear h2
      go_enter Try.func67, Try.ntmps67
      go_wp2_with (first | (go_at_call 57; refine (l1In_any _ _ _ _).mono ?_; rintro e w' ⟨rfl, rfl⟩) | (go_at_call 94; refine (nPrime_any _ _ (by omega)).mono ?_; rintro e w' ⟨rfl, rfl⟩) | (go_at_call 79; refine (nPower_any _ _ _ _ (by omega) (by omega) (by omega)).mono ?_; rintro e w' ⟨rfl, rfl⟩))
      all_goals go_ret
      all_goals exact ⟨ret_bool hB.out.symm, below_new w _⟩
  · have h1' : inr p 3 2000000000 = false := by simpa using h1
    have hB := Lib.hid (bad1 (q := q) (g := g) h1')
    clear h1
    go_enter Try.func67, Try.ntmps67
    go_wp2_with (first | (go_at_call 57; refine (l1In_any _ _ _ _).mono ?_; rintro e w' ⟨rfl, rfl⟩) | (go_at_call 94; refine (nPrime_any _ _ (by omega)).mono ?_; rintro e w' ⟨rfl, rfl⟩) | (go_at_call 79; refine (nPower_any _ _ _ _ (by omega) (by omega) (by omega)).mono ?_; rintro e w' ⟨rfl, rfl⟩))
    all_goals go_ret
    all_goals exact ⟨ret_bool hB.out.symm, below_new w _⟩
end Go.Proofs.Ytgnnmifpfgpllaa

/- Walks of the group layer: elements, powers, products. -/
namespace Go.Proofs.Ytgnnmifpfgpllaa
open Go.RowKit
def elemB (p q x : Int) : Bool := decide (M.elem p q x)
theorem elemB_t {p q x : Int} (h : elemB p q x = true) : M.elem p q x := by unfold elemB at h; exact of_decide_eq_true h
theorem elemB_mk {p q x : Int} (h : M.elem p q x) : elemB p q x = true := by unfold elemB; exact decide_eq_true h
theorem elemB_eq {p q x : Int} {b : Bool} (h : b = true ↔ M.elem p q x) : elemB p q x = b := by
  cases b with
  | true => exact elemB_mk (h.1 rfl)
  | false => unfold elemB; exact decide_eq_false fun hg => by have := h.2 hg; cases this
theorem elem_bd {p q x : Int} (h : M.elem p q x) : 0 ≤ x ∧ x < p := ⟨by have := h.1.1; omega, h.1.2⟩
def elemsB (p q : Int) (l : List Int) : Bool := l.all fun x => elemB p q x
theorem elemsB_mem {p q : Int} {l : List Int} (h : elemsB p q l = true) {x : Int} (hx : x ∈ l) : M.elem p q x := elemB_t (List.all_eq_true.1 h x hx)
set_option maxHeartbeats 400000 in
theorem has_any (p q g x : Int) (hG : M.Grp p q g) (w : World) :
    Calls Try.prog 45 #[.agg #[.int .i64 p, .int .i64 q, .int .i64 g], .int .i64 x] w fun en w' => en = .returned (.bool (elemB p q x)) ∧ Below w.heap.size w w' := by
  have g1 := hG.q2
  have g2 := hG.qp
  have g3 := hG.p3
  have g4 := hG.pM
  clear hG
  have hB0 : Below (w.alloc (.cells #[.int .i64 p, .int .i64 q, .int .i64 g] 34)).heap.size (w.alloc (.cells #[.int .i64 p, .int .i64 q, .int .i64 g] 34)) (w.alloc (.cells #[.int .i64 p, .int .i64 q, .int .i64 g] 34)) := Below.refl _ _
  have hT0 : Below w.heap.size w (w.alloc (.cells #[.int .i64 p, .int .i64 q, .int .i64 g] 34)) := by repeat (first | exact Below.refl _ _ | refine bnew ?_ _)
  go_enter Try.func45, Try.ntmps45
  go_wp2_with fail
  refine (within_any _ _ _ _).mono ?_
  rintro e1 w1 ⟨rfl, rfl⟩
  rcases Bool.eq_false_or_eq_true (inr x 1 (p - 1)) with h | h
  rotate_left
  · go_wp2
    go_ret
    exact ⟨ret_bool (elemB_eq ⟨fun hh => (Bool.noConfusion hh), fun hh => absurd ⟨hh.1.1, by have := hh.1.2; omega⟩ (inr_f h)⟩).symm, hT0⟩
  obtain ⟨x1, x2⟩ := inr_t h
  go_wp2_with fail
  refine (power_any _ _ _ _ (by omega) (by omega) (by omega)).mono ?_
  rintro e2 w2 ⟨rfl, rfl⟩
  go_wp2
  go_ret
  exact ⟨ret_bool (elemB_eq ⟨fun hh => ⟨by omega, by simpa using hh⟩, fun hh => by simpa using hh.2⟩).symm, hT0⟩
set_option maxHeartbeats 400000 in
theorem hasAll_any (p q g : Int) (hG : M.Grp p q g) (A : Option Addr) (c : Nat) (xs : List Int) (hl : xs.length ≤ 9223372036854775807) (w : World) (hx : RI w w.heap.size A xs) :
    Calls Try.prog 74 #[.agg #[.int .i64 p, .int .i64 q, .int .i64 g], .slice A xs.length c] w fun en w' => en = .returned (.bool (elemsB p q xs)) ∧ Below w.heap.size w w' := by
  have hmf : ∀ (fn : Fn) (first cap : Array Value) (w : World), (Instr.makeFunc fn first cap).run Try.prog w = .ok (.func fn first cap) w := fun _ _ _ _ => rfl
  have heg : ∀ args w, (callFunc 45 args).run Try.prog w = .ok (.enter 45 args) w := enters_of Try.func45 (by kernel_rfl) rfl
  have H := Lib.hid (areAll_any 45 #[.agg #[.int .i64 p, .int .i64 q, .int .i64 g]] #[] (fun x => elemB p q x) A c xs (w.alloc (.cells #[.int .i64 p, .int .i64 q, .int .i64 g] 34)) heg (hx.new _) hl fun x _ W _ => has_any p q g x hG W)
  clear hx heg hG
  have hB0 : Below (w.alloc (.cells #[.int .i64 p, .int .i64 q, .int .i64 g] 34)).heap.size (w.alloc (.cells #[.int .i64 p, .int .i64 q, .int .i64 g] 34)) (w.alloc (.cells #[.int .i64 p, .int .i64 q, .int .i64 g] 34)) := Below.refl _ _
  have hT0 : Below w.heap.size w (w.alloc (.cells #[.int .i64 p, .int .i64 q, .int .i64 g] 34)) := by repeat (first | exact Below.refl _ _ | refine bnew ?_ _)
  go_enter Try.func74, Try.ntmps74
  go_wp2_with fail
  refine (H.out).mono ?_
  rintro e1 w1 ⟨rfl, hb1⟩
  have hB1 : Below (w.alloc (.cells #[.int .i64 p, .int .i64 q, .int .i64 g] 34)).heap.size (w.alloc (.cells #[.int .i64 p, .int .i64 q, .int .i64 g] 34)) w1 := bnext (by repeat (first | exact hB0 | refine bnew ?_ _ | refine Below.drew ?_ | refine Below.drewN ?_ _)) hb1
  have hT1 : Below w.heap.size w w1 := bnext (by repeat (first | exact hT0 | refine bnew ?_ _ | refine Below.drew ?_ | refine Below.drewN ?_ _)) hb1
  obtain ⟨hc1, hf1⟩ := bcell hB1
  go_wp2
  go_ret
  exact ⟨rfl, hT1⟩
set_option maxHeartbeats 400000 in
theorem gIs_any (p q g : Int) (hG : M.Grp p q g) (A : Option Addr) (c : Nat) (xs : List Int) (hl : xs.length ≤ 9223372036854775807) (w : World) (hx : RI w w.heap.size A xs) :
    Calls Try.prog 41 #[.agg #[.int .i64 p, .int .i64 q, .int .i64 g], .slice A xs.length c] w fun en w' => en = .returned (.bool (elemsB p q xs)) ∧ Below w.heap.size w w' := by
  have g1 := hG.q2
  have g2 := hG.qp
  have g3 := hG.p3
  have g4 := hG.pM
  clear hG
  have hx2 := hx.new (.cells #[.int .i64 p, .int .i64 q, .int .i64 g] 34)
  clear hx
  go_enter Try.func41, Try.ntmps41
  go_wp2
  go_loop [6, 9] (fun _ I => ∃ k : Nat, k ≤ xs.length ∧ I = .int .i64 k ∧ ∀ j (h : j < xs.length), j < k → M.elem p q xs[j]) (fun _ I => xs.length - (intOf I).toNat)
  case atStart => exact ⟨0, by omega, rfl, fun j h hj => by omega⟩
  case round =>
    obtain ⟨k, hk, rfl, hn⟩ := hrel
    have HN := Lib.hid hn; clear hn
    by_cases hlt : k < xs.length
    · obtain ⟨ad, rfl, had, hc⟩ := hx2.at_ hlt
      have HX := Lib.hid hx2; clear hx2
      rcases Bool.eq_false_or_eq_true (inr xs[k] 1 (p - 1)) with h | h
      rotate_left
      · go_wp2_with (first | (go_at_call 57; refine (l1In_any _ _ _ _).mono ?_; rintro e w' ⟨rfl, rfl⟩))
        go_ret
        exact ⟨ret_bool (List.all_eq_false.2 ⟨_, List.getElem_mem hlt, by
          have hne : ¬ M.elem p q xs[k] := fun hh => absurd ⟨hh.1.1, by have := hh.1.2; omega⟩ (inr_f h)
          intro h9; exact hne (elemB_t h9)⟩).symm, below_new w _⟩
      · obtain ⟨x1, x2⟩ := inr_t h
        rcases Bool.eq_false_or_eq_true (M.pw xs[k] q p != 1) with h9 | h9
        · go_wp2_with (first | (go_at_call 57; refine (l1In_any _ _ _ _).mono ?_; rintro e w' ⟨rfl, rfl⟩) | (go_at_call 79; refine (nPower_any _ _ _ _ (by omega) (by omega) (by omega)).mono ?_; rintro e w' ⟨rfl, rfl⟩))
          go_ret
          exact ⟨ret_bool (List.all_eq_false.2 ⟨_, List.getElem_mem hlt, by
            have hne : ¬ M.elem p q xs[k] := fun hh => by have := hh.2; simp [this] at h9
            intro h9; exact hne (elemB_t h9)⟩).symm, below_new w _⟩
        · go_wp2_with (first | (go_at_call 57; refine (l1In_any _ _ _ _).mono ?_; rintro e w' ⟨rfl, rfl⟩) | (go_at_call 79; refine (nPower_any _ _ _ _ (by omega) (by omega) (by omega)).mono ?_; rintro e w' ⟨rfl, rfl⟩))
          go_round
          case rel => exact ⟨k + 1, by omega, by go_num, fun j h hj => by
            rcases Nat.lt_or_eq_of_le (Nat.le_of_lt_succ hj) with h1 | rfl
            · exact HN.out j h h1
            · exact ⟨⟨by omega, by omega⟩, by simpa using h9⟩⟩
          case measure => simp [intOf]; omega
    · have HX := Lib.hid hx2; clear hx2
      go_wp2
      go_ret
      exact ⟨ret_bool (List.all_eq_true.2 fun x hx => by
        obtain ⟨j, hj, rfl⟩ := List.getElem_of_mem hx
        exact elemB_mk (HN.out j hj (by omega))).symm, below_new w _⟩
set_option maxHeartbeats 400000 in
theorem pow_any (p q g x e : Int) (hG : M.Grp p q g) (hx : 0 ≤ x ∧ x < p) (he : -9000000000000000000 ≤ e ∧ e ≤ 9000000000000000000) (w : World) :
    Calls Try.prog 55 #[.agg #[.int .i64 p, .int .i64 q, .int .i64 g], .int .i64 x, .int .i64 e] w fun en w' => en = .returned (.int .i64 (M.gpw p q x e)) ∧ Below w.heap.size w w' := by
  have g1 := hG.q2
  have g2 := hG.qp
  have g3 := hG.p3
  have g4 := hG.pM
  clear hG
  have hB0 : Below (w.alloc (.cells #[.int .i64 p, .int .i64 q, .int .i64 g] 34)).heap.size (w.alloc (.cells #[.int .i64 p, .int .i64 q, .int .i64 g] 34)) (w.alloc (.cells #[.int .i64 p, .int .i64 q, .int .i64 g] 34)) := Below.refl _ _
  have hT0 : Below w.heap.size w (w.alloc (.cells #[.int .i64 p, .int .i64 q, .int .i64 g] 34)) := by repeat (first | exact Below.refl _ _ | refine bnew ?_ _)
  go_enter Try.func55, Try.ntmps55
  have h1 := Int.emod_nonneg e (show q ≠ 0 by omega)
  have h2 := Int.emod_lt_of_pos e (show 0 < q by omega)
  go_wp2_with fail
  go_region_held3 (fun W' => W'.cell? ⟨w.heap.size, 0, none⟩ = some (.int .i64 p) ∧ W'.cell? ⟨w.heap.size, 1, none⟩ = some (.int .i64 q) ∧ W'.cell? ⟨w.heap.size, 2, none⟩ = some (.int .i64 g) ∧ Below w.heap.size w W') ((go_split_ands; refine ⟨?_, ?_, ?_, ?_⟩; (first | with_reducible exact cell_keep (by with_reducible assumption) (by with_reducible assumption) | with_reducible exact cell_keep (below_new _ _) (by with_reducible assumption) | (with_reducible refine cell_set _ ?_ (by simp); (repeat with_reducible refine cell_set _ ?_ (by simp)); with_reducible assumption) | with_reducible exact cell_drew (by with_reducible assumption) | go_keep); (first | with_reducible exact cell_keep (by with_reducible assumption) (by with_reducible assumption) | with_reducible exact cell_keep (below_new _ _) (by with_reducible assumption) | (with_reducible refine cell_set _ ?_ (by simp); (repeat with_reducible refine cell_set _ ?_ (by simp)); with_reducible assumption) | with_reducible exact cell_drew (by with_reducible assumption) | go_keep); (first | with_reducible exact cell_keep (by with_reducible assumption) (by with_reducible assumption) | with_reducible exact cell_keep (below_new _ _) (by with_reducible assumption) | (with_reducible refine cell_set _ ?_ (by simp); (repeat with_reducible refine cell_set _ ?_ (by simp)); with_reducible assumption) | with_reducible exact cell_drew (by with_reducible assumption) | go_keep); (repeat (first | with_reducible assumption | with_reducible refine bnext ?_ (by with_reducible assumption) | with_reducible refine bnew ?_ _ | with_reducible refine below_set _ ?_ (by simp) | with_reducible refine Below.drew ?_ | with_reducible refine Below.drewN ?_ _)); done)) (first | (go_at_call 89; refine (mod_any _ _ _ (by omega) he).mono ?_; rintro e9 w9 ⟨rfl, rfl⟩) | (go_at_call 84; refine (power_any _ _ _ _ (by omega) hx (by omega)).mono ?_; rintro e9 w9 ⟨rfl, rfl⟩))
  go_wp2
  go_ret
  exact ⟨rfl, by first | exact (by assumption : _ ∧ _ ∧ _ ∧ _).2.2.2 | assumption⟩
set_option maxHeartbeats 400000 in
theorem gExp_any (p q g x e : Int) (hG : M.Grp p q g) (hx : 0 ≤ x ∧ x < p) (he : -9000000000000000000 ≤ e ∧ e ≤ 9000000000000000000) (w : World) :
    Calls Try.prog 51 #[.agg #[.int .i64 p, .int .i64 q, .int .i64 g], .int .i64 x, .int .i64 e] w fun en w' => en = .returned (.int .i64 (M.gpw p q x e)) ∧ Below w.heap.size w w' := by
  have g1 := hG.q2
  have g2 := hG.qp
  have g3 := hG.p3
  have g4 := hG.pM
  clear hG
  have hB0 : Below (w.alloc (.cells #[.int .i64 p, .int .i64 q, .int .i64 g] 34)).heap.size (w.alloc (.cells #[.int .i64 p, .int .i64 q, .int .i64 g] 34)) (w.alloc (.cells #[.int .i64 p, .int .i64 q, .int .i64 g] 34)) := Below.refl _ _
  have hT0 : Below w.heap.size w (w.alloc (.cells #[.int .i64 p, .int .i64 q, .int .i64 g] 34)) := by repeat (first | exact Below.refl _ _ | refine bnew ?_ _)
  go_enter Try.func51, Try.ntmps51
  have h1 := Int.emod_nonneg e (show q ≠ 0 by omega)
  have h2 := Int.emod_lt_of_pos e (show 0 < q by omega)
  go_wp2_with fail
  go_region_held3 (fun W' => W'.cell? ⟨w.heap.size, 0, none⟩ = some (.int .i64 p) ∧ W'.cell? ⟨w.heap.size, 1, none⟩ = some (.int .i64 q) ∧ W'.cell? ⟨w.heap.size, 2, none⟩ = some (.int .i64 g) ∧ Below w.heap.size w W') ((go_split_ands; refine ⟨?_, ?_, ?_, ?_⟩; (first | with_reducible exact cell_keep (by with_reducible assumption) (by with_reducible assumption) | with_reducible exact cell_keep (below_new _ _) (by with_reducible assumption) | (with_reducible refine cell_set _ ?_ (by simp); (repeat with_reducible refine cell_set _ ?_ (by simp)); with_reducible assumption) | with_reducible exact cell_drew (by with_reducible assumption) | go_keep); (first | with_reducible exact cell_keep (by with_reducible assumption) (by with_reducible assumption) | with_reducible exact cell_keep (below_new _ _) (by with_reducible assumption) | (with_reducible refine cell_set _ ?_ (by simp); (repeat with_reducible refine cell_set _ ?_ (by simp)); with_reducible assumption) | with_reducible exact cell_drew (by with_reducible assumption) | go_keep); (first | with_reducible exact cell_keep (by with_reducible assumption) (by with_reducible assumption) | with_reducible exact cell_keep (below_new _ _) (by with_reducible assumption) | (with_reducible refine cell_set _ ?_ (by simp); (repeat with_reducible refine cell_set _ ?_ (by simp)); with_reducible assumption) | with_reducible exact cell_drew (by with_reducible assumption) | go_keep); (repeat (first | with_reducible assumption | with_reducible refine bnext ?_ (by with_reducible assumption) | with_reducible refine bnew ?_ _ | with_reducible refine below_set _ ?_ (by simp) | with_reducible refine Below.drew ?_ | with_reducible refine Below.drewN ?_ _)); done)) (first | (go_at_call 65; refine (nMod_any _ _ _ (by omega) he).mono ?_; rintro e9 w9 ⟨rfl, rfl⟩) | (go_at_call 79; refine (nPower_any _ _ _ _ (by omega) hx (by omega)).mono ?_; rintro e9 w9 ⟨rfl, rfl⟩))
  go_wp2
  go_ret
  exact ⟨rfl, by first | exact (by assumption : _ ∧ _ ∧ _ ∧ _).2.2.2 | assumption⟩
end Go.Proofs.Ytgnnmifpfgpllaa

/- Walks of the group layer: products, powers. -/
namespace Go.Proofs.Ytgnnmifpfgpllaa
open Go.RowKit
theorem RI.lit2 (w : World) (a b : Int) (t : TypeId) {n : Nat} (hn : n = w.heap.size) : RI (w.alloc (.cells #[.int .i64 a, .int .i64 b] t)) (w.alloc (.cells #[.int .i64 a, .int .i64 b] t)).heap.size (some ⟨n, 0, none⟩) [a, b] := RI.lit w [a, b] t hn
theorem mulL_bd {p : Int} (hp : 3 ≤ p) (l : List Int) : 0 ≤ M.mulL p l ∧ M.mulL p l < p := M.mulL_lt (by omega) l
set_option maxHeartbeats 400000 in
theorem mul_any (p q g : Int) (hG : M.Grp p q g) (A : Option Addr) (c : Nat) (xs : List Int) (hl : xs.length ≤ 9223372036854775807) (w : World) (hx : RI w w.heap.size A xs) (hb : ∀ x ∈ xs, 0 ≤ x ∧ x < p) :
    Calls Try.prog 54 #[.agg #[.int .i64 p, .int .i64 q, .int .i64 g], .slice A xs.length c] w fun en w' => en = .returned (.int .i64 (M.mulL p xs)) ∧ Below w.heap.size w w' := by
  have g3 := hG.p3
  have g4 := hG.pM
  clear hG
  have hx2 := hx.new (.cells #[.int .i64 p, .int .i64 q, .int .i64 g] 34)
  have HB := Lib.hid hb
  clear hx hb
  go_enter Try.func54, Try.ntmps54
  go_wp2
  go_loop [5, 7, 10] (fun O _ I => ∃ k : Nat, k ≤ xs.length ∧ I = .int .i64 k ∧ O = .int .i64 (M.mulL p (xs.take k))) (fun _ _ I => xs.length - (intOf I).toNat)
  case atStart => exact ⟨0, by omega, rfl, rfl⟩
  case round =>
    obtain ⟨k, hk, rfl, rfl⟩ := hrel
    obtain ⟨o1, o2⟩ := mulL_bd g3 (xs.take k)
    by_cases hlt : k < xs.length
    · obtain ⟨ad, rfl, had, hc⟩ := hx2.at_ hlt
      have HX := Lib.hid hx2; clear hx2
      obtain ⟨b1, b2⟩ := HB.out xs[k] (List.getElem_mem hlt)
      obtain ⟨q1, q2⟩ := M.mul_fit ⟨o1, o2⟩ ⟨b1, b2⟩ g4
      have HE := Lib.hid (show M.mulL p (xs.take (k + 1)) = M.mulL p (xs.take k) * xs[k] % p by rw [List.take_succ_eq_append_getElem hlt, M.mulL_snoc])
      go_wp2
      go_round
      case rel => exact ⟨k + 1, by omega, by go_num, by rw [HE.out]⟩
      case measure => simp [intOf]; omega
    · have HX := Lib.hid hx2; clear hx2
      go_wp2
      go_ret
      exact ⟨ret_int (by rw [List.take_of_length_le (by omega)]), below_new w _⟩
set_option maxHeartbeats 400000 in
theorem gMul_any (p q g : Int) (hG : M.Grp p q g) (A : Option Addr) (c : Nat) (xs : List Int) (hl : xs.length ≤ 9223372036854775807) (w : World) (hx : RI w w.heap.size A xs) (hb : ∀ x ∈ xs, 0 ≤ x ∧ x < p) :
    Calls Try.prog 50 #[.agg #[.int .i64 p, .int .i64 q, .int .i64 g], .slice A xs.length c] w fun en w' => en = .returned (.int .i64 (M.mulL p xs)) ∧ Below w.heap.size w w' := by
  have g3 := hG.p3
  have g4 := hG.pM
  clear hG
  have hx2 := hx.new (.cells #[.int .i64 p, .int .i64 q, .int .i64 g] 34)
  have HB := Lib.hid hb
  clear hx hb
  go_enter Try.func50, Try.ntmps50
  go_wp2
  go_loop [5, 7, 10] (fun O _ I => ∃ k : Nat, k ≤ xs.length ∧ I = .int .i64 k ∧ O = .int .i64 (M.mulL p (xs.take k))) (fun _ _ I => xs.length - (intOf I).toNat)
  case atStart => exact ⟨0, by omega, rfl, rfl⟩
  case round =>
    obtain ⟨k, hk, rfl, rfl⟩ := hrel
    obtain ⟨o1, o2⟩ := mulL_bd g3 (xs.take k)
    by_cases hlt : k < xs.length
    · obtain ⟨ad, rfl, had, hc⟩ := hx2.at_ hlt
      have HX := Lib.hid hx2; clear hx2
      obtain ⟨b1, b2⟩ := HB.out xs[k] (List.getElem_mem hlt)
      obtain ⟨q1, q2⟩ := M.mul_fit ⟨o1, o2⟩ ⟨b1, b2⟩ g4
      have HE := Lib.hid (show M.mulL p (xs.take (k + 1)) = M.mulL p (xs.take k) * xs[k] % p by rw [List.take_succ_eq_append_getElem hlt, M.mulL_snoc])
      go_wp2
      go_round
      case rel => exact ⟨k + 1, by omega, by go_num, by rw [HE.out]⟩
      case measure => simp [intOf]; omega
    · have HX := Lib.hid hx2; clear hx2
      go_wp2
      go_ret
      exact ⟨ret_int (by rw [List.take_of_length_le (by omega)]), below_new w _⟩
theorem gMul2_any (p q g a b : Int) (hG : M.Grp p q g) (ha : 0 ≤ a ∧ a < p) (hb : 0 ≤ b ∧ b < p) (A : Option Addr) (c : Nat) (w : World) (hx : RI w w.heap.size A [a, b]) :
    Calls Try.prog 50 #[.agg #[.int .i64 p, .int .i64 q, .int .i64 g], .slice A 2 c] w fun en w' => en = .returned (.int .i64 (a * b % p)) ∧ Below w.heap.size w w' :=
  (gMul_any p q g hG A c [a, b] (by simp) w hx (by intro x h; simp at h; rcases h with rfl | rfl <;> assumption)).mono fun _ _ ⟨h1, h2⟩ => ⟨h1.trans (ret_int (M.mulL_two ha)), h2⟩
end Go.Proofs.Ytgnnmifpfgpllaa
