/- Walks of the number layer: ranges, residues, inverses, primes. -/
import Derived.Test.YtljlimlgdnbllaaKit
set_option linter.all false
set_option linter.unusedVariables false
set_option linter.unusedSimpArgs false
namespace Go.Proofs.Ytljlimlgdnbllaa
open Go.RowKit
def inr (n lo hi : Int) : Bool := decide (lo ≤ n ∧ n ≤ hi)
theorem inr_t {n lo hi : Int} (h : inr n lo hi = true) : lo ≤ n ∧ n ≤ hi := by unfold inr at h; exact of_decide_eq_true h
theorem inr_f {n lo hi : Int} (h : inr n lo hi = false) : ¬ (lo ≤ n ∧ n ≤ hi) := by unfold inr at h; exact of_decide_eq_false h
theorem inr_mk {n lo hi : Int} (h : lo ≤ n ∧ n ≤ hi) : inr n lo hi = true := by unfold inr; exact decide_eq_true h
theorem inr_not {n lo hi : Int} (h : ¬ (lo ≤ n ∧ n ≤ hi)) : inr n lo hi = false := by unfold inr; exact decide_eq_false h
theorem within_any (n lo hi : Int) (w : World) :
    Calls Try.prog 71 #[.int .i64 n, .int .i64 lo, .int .i64 hi] w fun en w' => en = .returned (.bool (inr n lo hi)) ∧ w = w' := by
  go_enter Try.func71, Try.ntmps71
  go_wp2
  · go_ret
    exact ⟨ret_bool (by unfold inr; exact decide_eq_decide.2 ⟨fun h => ⟨by assumption, h⟩, fun h => h.2⟩), rfl⟩
  · go_ret
    exact ⟨ret_bool (inr_not fun h => by omega).symm, rfl⟩
theorem l1In_any (n lo hi : Int) (w : World) :
    Calls Try.prog 63 #[.int .i64 n, .int .i64 lo, .int .i64 hi] w fun en w' => en = .returned (.bool (inr n lo hi)) ∧ w = w' := by
  go_enter Try.func63, Try.ntmps63
  go_wp2
  · go_ret
    exact ⟨ret_bool (by unfold inr; exact decide_eq_decide.2 ⟨fun h => ⟨by assumption, h⟩, fun h => h.2⟩), rfl⟩
  · go_ret
    exact ⟨ret_bool (inr_not fun h => by omega).symm, rfl⟩
theorem mod_any (n m : Int) (w : World) (hm : 1 ≤ m ∧ m ≤ 2000000000) (hn : -9000000000000000000 ≤ n ∧ n ≤ 9000000000000000000) :
    Calls Try.prog 131 #[.int .i64 n, .int .i64 m] w fun en w' => en = .returned (.int .i64 (n % m)) ∧ w = w' := by
  obtain ⟨hm1, hm2⟩ := hm
  obtain ⟨hn1, hn2⟩ := hn
  go_enter Try.func131, Try.ntmps131
  go_wp2
  go_ret
  obtain ⟨h1, h2, h3⟩ := M.tmod_fix n m ⟨hm1, hm2⟩
  exact ⟨ret_int (by rw [show wrap64 (n.tmod m + m) = n.tmod m + m from by unfold wrap64; omega]; exact h3), rfl⟩
theorem nMod_any (n m : Int) (w : World) (hm : 1 ≤ m ∧ m ≤ 2000000000) (hn : -9000000000000000000 ≤ n ∧ n ≤ 9000000000000000000) :
    Calls Try.prog 84 #[.int .i64 n, .int .i64 m] w fun en w' => en = .returned (.int .i64 (n % m)) ∧ w = w' := by
  obtain ⟨hm1, hm2⟩ := hm
  obtain ⟨hn1, hn2⟩ := hn
  go_enter Try.func84, Try.ntmps84
  go_wp2
  go_ret
  obtain ⟨h1, h2, h3⟩ := M.tmod_fix n m ⟨hm1, hm2⟩
  exact ⟨ret_int (by rw [show wrap64 (n.tmod m + m) = n.tmod m + m from by unfold wrap64; omega]; exact h3), rfl⟩
theorem isModulus_any (n : Int) (w : World) :
    Calls Try.prog 160 #[.int .i64 n] w fun en w' => en = .returned (.bool (inr n 2 2000000000)) ∧ w = w' := by
  go_enter Try.func160, Try.ntmps160
  go_wp2_with (go_at_call 71; refine (within_any _ _ _ _).mono ?_; rintro e w' ⟨rfl, rfl⟩)
  go_ret
  exact ⟨rfl, rfl⟩
set_option maxHeartbeats 400000 in
theorem inverse_any (a m : Int) (w : World) (hm : 2 ≤ m ∧ m ≤ 2000000000) (ha : 0 ≤ a ∧ a < m) :
    Calls Try.prog 151 #[.int .i64 a, .int .i64 m] w fun en w' => en = .returned (.int .i64 (M.invm a m)) ∧ w = w' := by
  obtain ⟨hm1, hm2⟩ := hm
  obtain ⟨ha1, ha2⟩ := ha
  go_enter Try.func151, Try.ntmps151
  go_wp2
  go_loop [5, 6, 7, 8, 9] (fun R N X O _ => ∃ r n x o : Int, R = .int .i64 r ∧ N = .int .i64 n ∧ X = .int .i64 x ∧ O = .int .i64 o ∧ M.EI a m r n x o) (fun _ N _ _ _ => (intOf N).toNat)
  case atStart => exact ⟨_, _, _, _, rfl, rfl, rfl, rfl, M.EI.start hm1 ha1 ha2⟩
  case round =>
    obtain ⟨r, n, x, o, rfl, rfl, rfl, rfl, hE⟩ := hrel
    have g1 := hE.n0
    have g2 := hE.r0
    have g3 := hE.rm
    have g4 := hE.nm
    by_cases hn : 0 < n
    · obtain ⟨g5, g6⟩ := hE.qn_small hn
      obtain ⟨g7, g8⟩ := hE.qo_small hn hm2
      obtain ⟨g9, g10⟩ := hE.xs
      obtain ⟨g11, g12⟩ := M.ei_q_le (show 0 ≤ r by omega) hn
      have hS := Lib.hid (hE.step hn)
      have hd := Lib.hid (Int.emod_lt_of_pos r hn)
      have hd2 := Lib.hid (Int.mul_ediv_add_emod r n)
      clear hE
      go_wp2
      go_round
      case rel => exact ⟨_, _, _, _, rfl, rfl, rfl, rfl, hS.out⟩
      case measure =>
        have h1 := hd.out
        have h2 := hd2.out
        rw [Int.mul_comm] at h2
        simp [intOf]; omega
    · have hn0 : n = 0 := by omega
      subst hn0
      have hR := Lib.hid (hE.result hm1)
      have hx := hE.o_small
      obtain ⟨hx1, hx2⟩ := hE.xs
      clear hE
      go_wp2_with (go_at_call 131; refine (mod_any _ _ _ (by omega) (by omega)).mono ?_; rintro e w' ⟨rfl, rfl⟩)
      · go_ret
        have h1 : (r != 1) = true := by assumption
        have h2 : r ≠ 1 := by simpa using h1
        exact ⟨ret_int (by rw [hR.out, if_neg h2]), rfl⟩
      · go_ret
        have h1 : (r != 1) = false := by assumption
        have h2 : r = 1 := by simpa using h1
        exact ⟨ret_int (by rw [hR.out, if_pos h2]), rfl⟩
set_option maxHeartbeats 400000 in
theorem isPrime_loop (n : Int) (w : World) (h2 : 2 ≤ n) (hM : n ≤ 2000000000) (ho : n % 2 ≠ 0 ∨ n = 2) :
    Calls Try.prog 141 #[.int .i64 n] w fun en w' => en = .returned (.bool (M.primeB n)) ∧ w = w' := by
  have hi := inr_mk ⟨h2, hM⟩
  have HO := Lib.hid ho
  have hcase : (n % 2 = 0 ∧ (n != 2) = false) ∨ (¬ n % 2 = 0) := by
    rcases ho with h | h
    · exact .inr h
    · exact .inl ⟨by omega, by simp [h]⟩
  clear ho
  go_enter Try.func141, Try.ntmps141
  rcases hcase with ⟨_, _⟩ | hodd
  all_goals go_wp2_with (go_at_call 160; refine (isModulus_any _ _).mono ?_; rintro e w' ⟨rfl, rfl⟩)
  all_goals
    go_loop [3] (fun D => ∃ d : Int, D = .int .i64 d ∧ 3 ≤ d ∧ d ≤ 50000 ∧ d % 2 = 1 ∧ ∀ k : Int, 3 ≤ k → k < d → k % 2 = 1 → ¬ k ∣ n) (fun D => (50000 - intOf D).toNat)
    case atStart => exact ⟨3, rfl, by omega, by omega, by omega, fun k a b => by omega⟩
    case round =>
      obtain ⟨d, rfl, hd1, hd2, hd3, hk⟩ := hrel
      have HK := Lib.hid hk; clear hk
      have HD3 := Lib.hid hd3; clear hd3
      have hsq := M.sq_small (show 0 ≤ d by omega) hd2
      have hsq0 : 0 ≤ d * d := Int.mul_nonneg (by omega) (by omega)
      go_wp2
      · go_ret
        have h3 : d * d ≤ n := by assumption
        have h4 : (n % d == 0) = true := by assumption
        exact ⟨ret_bool (M.primeB_f (M.not_prime_dvd (by omega) (M.lt_of_sq (by omega) h3) (by simpa using h4))).symm, rfl⟩
      · have h3 : d * d ≤ n := by assumption
        have h4 : (n % d == 0) = false := by assumption
        have hd5 := M.sq_bound h3 hM (by omega)
        go_round
        case rel => exact ⟨d + 2, rfl, by omega, by omega, by have := HD3.out; omega, fun k a b c => by
          by_cases hkd : k < d
          · exact HK.out k a hkd c
          · have : k = d := by have := HD3.out; omega
            subst this
            intro hdv; have := Int.emod_eq_zero_of_dvd hdv; simp [this] at h4⟩
        case measure => simp [intOf]; omega
      · go_ret
        have h3 : n < d * d := by assumption
        exact ⟨ret_bool (M.primeB_t (M.prime_of_odd_loop h2 HO.out h3 hd1 HK.out)).symm, rfl⟩
theorem isPrime_any (n : Int) (w : World) :
    Calls Try.prog 141 #[.int .i64 n] w fun en w' => en = .returned (.bool (decide (n ≤ 2000000000) && M.primeB n)) ∧ w = w' := by
  by_cases hin : 2 ≤ n ∧ n ≤ 2000000000
  · by_cases ho : n % 2 ≠ 0 ∨ n = 2
    · refine (isPrime_loop n w hin.1 hin.2 ho).mono ?_
      rintro e w' ⟨rfl, rfl⟩
      exact ⟨ret_bool (by simp [hin.2]), rfl⟩
    · obtain ⟨h1, h2⟩ : n % 2 = 0 ∧ n ≠ 2 := ⟨by omega, by omega⟩
      have hi := inr_mk hin
      have hp := Lib.hid (M.primeB_f (M.not_prime_even h1 h2))
      have h3 : (n != 2) = true := by simpa using h2
      obtain ⟨hin1, hin2⟩ := hin
      clear h2 ho
      go_enter Try.func141, Try.ntmps141
      go_wp2_with (go_at_call 160; refine (isModulus_any _ _).mono ?_; rintro e w' ⟨rfl, rfl⟩)
      go_ret
      exact ⟨ret_bool (by rw [hp.out]; simp), rfl⟩
  · have hi := inr_not hin
    have hp : (decide (n ≤ 2000000000) && M.primeB n) = false := by
      by_cases h : n < 2
      · rw [M.primeB_f (M.not_prime_small h)]; simp
      · have : ¬ n ≤ 2000000000 := by omega
        simp [this]
    have HP := Lib.hid hp
    clear hp hin
    go_enter Try.func141, Try.ntmps141
    go_wp2_with (go_at_call 160; refine (isModulus_any _ _).mono ?_; rintro e w' ⟨rfl, rfl⟩)
    go_ret
    exact ⟨ret_bool HP.out.symm, rfl⟩
set_option maxHeartbeats 400000 in
theorem nPrime_any (n : Int) (w : World) (hM : n ≤ 2000000000) :
    Calls Try.prog 148 #[.int .i64 n] w fun en w' => en = .returned (.bool (M.primeB n)) ∧ w = w' := by
  by_cases h2 : 2 ≤ n
  · go_enter Try.func148, Try.ntmps148
    go_wp2
    go_loop [3] (fun D => ∃ d : Int, D = .int .i64 d ∧ 2 ≤ d ∧ d ≤ 50000 ∧ ∀ k : Int, 2 ≤ k → k < d → ¬ k ∣ n) (fun D => (50000 - intOf D).toNat)
    case atStart => exact ⟨2, rfl, by omega, by omega, fun k a b => by omega⟩
    case round =>
      obtain ⟨d, rfl, hd1, hd2, hk⟩ := hrel
      have HK := Lib.hid hk; clear hk
      have hsq := M.sq_small (show 0 ≤ d by omega) hd2
      have hsq0 : 0 ≤ d * d := Int.mul_nonneg (by omega) (by omega)
      go_wp2
      · go_ret
        have h3 : d * d ≤ n := by assumption
        have h4 : (n % d == 0) = true := by assumption
        exact ⟨ret_bool (M.primeB_f (M.not_prime_dvd (by omega) (M.lt_of_sq (by omega) h3) (by simpa using h4))).symm, rfl⟩
      · have h3 : d * d ≤ n := by assumption
        have h4 : (n % d == 0) = false := by assumption
        have hd5 := M.sq_bound h3 hM (by omega)
        go_round
        case rel => exact ⟨d + 1, rfl, by omega, by omega, fun k a b => by
          by_cases hkd : k < d
          · exact HK.out k a hkd
          · have : k = d := by omega
            subst this
            intro hdv; have := Int.emod_eq_zero_of_dvd hdv; simp [this] at h4⟩
        case measure => simp [intOf]; omega
      · go_ret
        have h3 : n < d * d := by assumption
        exact ⟨ret_bool (M.primeB_t (M.prime_of_loop h2 h3 hd1 HK.out)).symm, rfl⟩
  · have hp := Lib.hid (M.primeB_f (M.not_prime_small (n := n) (by omega)))
    have h3 : n < 2 := by omega
    clear h2
    go_enter Try.func148, Try.ntmps148
    go_wp2
    go_ret
    exact ⟨ret_bool hp.out.symm, rfl⟩
set_option maxHeartbeats 400000 in
theorem nPower_any (a e m : Int) (w : World) (hm : 1 ≤ m ∧ m ≤ 2000000000) (ha : 0 ≤ a ∧ a < m) (he : e ≤ 9223372036854775807) :
    Calls Try.prog 124 #[.int .i64 a, .int .i64 e, .int .i64 m] w fun en w' => en = .returned (.int .i64 (M.pw a e m)) ∧ w = w' := by
  obtain ⟨hm1, hm2⟩ := hm
  obtain ⟨ha1, ha2⟩ := ha
  go_enter Try.func124, Try.ntmps124
  go_wp2
  go_loop [0, 1, 7] (fun A E O => ∃ a' e' o : Int, 0 ≤ a' ∧ a' < m ∧ 0 ≤ o ∧ o < m ∧ e' ≤ 9223372036854775807 ∧ A = .int .i64 a' ∧ E = .int .i64 e' ∧ O = .int .i64 o ∧ (o * a' ^ e'.toNat) % m = M.pw a e m) (fun _ E _ => (intOf E).toNat)
  case atStart => exact ⟨a, e, 1 % m, ha1, ha2, Int.emod_nonneg _ (by omega), Int.emod_lt_of_pos _ (by omega), he, rfl, rfl, rfl, M.pw_start a e m⟩
  case round =>
    obtain ⟨a', e', o, h1, h2, h3, h4, h5, rfl, rfl, rfl, hr⟩ := hrel
    have HR := Lib.hid hr; clear hr
    obtain ⟨q3, q4⟩ := M.mul_fit ⟨h3, h4⟩ ⟨h1, h2⟩ hm2
    obtain ⟨q5, q6⟩ := M.mul_fit ⟨h1, h2⟩ ⟨h1, h2⟩ hm2
    go_wp2
    · go_round
      have hb : (e' % 2 == 1) = true := by assumption
      have hb' : e' % 2 = 1 := by simpa using hb
      have he' : 0 < e' := by assumption
      case rel => exact ⟨_, _, _, Int.emod_nonneg _ (by omega), Int.emod_lt_of_pos _ (by omega), Int.emod_nonneg _ (by omega), Int.emod_lt_of_pos _ (by omega), by omega, rfl, rfl, rfl, (M.pw_round1 o a' m e' (by omega) hb').trans HR.out⟩
      case measure => simp [intOf]; omega
    · go_round
      have hb : (e' % 2 == 1) = false := by assumption
      have hb' : ¬ e' % 2 = 1 := by simpa using hb
      have he' : 0 < e' := by assumption
      case rel => exact ⟨_, _, _, Int.emod_nonneg _ (by omega), Int.emod_lt_of_pos _ (by omega), h3, h4, by omega, rfl, rfl, rfl, (M.pw_round0 o a' m e' (by omega) (by omega)).trans HR.out⟩
      case measure => simp [intOf]; omega
    · go_ret
      exact ⟨ret_int (M.pw_end HR.out (by omega) ⟨h3, h4⟩), rfl⟩
set_option maxHeartbeats 800000 in
theorem nInverse_any (a m : Int) (w : World) (hm : 2 ≤ m ∧ m ≤ 2000000000) (ha : -9000000000000000000 ≤ a ∧ a ≤ 9000000000000000000) (hp : M.Prime m) (hnz : a % m ≠ 0) :
    Calls Try.prog 150 #[.int .i64 a, .int .i64 m] w fun en w' => en = .returned (.tuple #[.int .i64 (M.invm (a % m) m), .bool true]) ∧ w = w' := by
  have HA := ha
  have HZ := Lib.hid hnz
  obtain ⟨hm1, hm2⟩ := hm
  have hb1 := Int.emod_nonneg a (show m ≠ 0 by omega)
  have hb2 := Int.emod_lt_of_pos a (show 0 < m by omega)
  obtain ⟨b, hb⟩ : ∃ b, b = a % m := ⟨_, rfl⟩
  have HB := Lib.hid hb
  rw [← hb] at hb1 hb2 ⊢
  clear hb hnz
  go_enter Try.func150, Try.ntmps150
  go_wp2_with (go_at_call 84; refine (nMod_any _ _ _ (by omega) HA).mono ?_; rw [← HB.out]; rintro e w' ⟨rfl, rfl⟩)
  go_loop [6, 7, 8, 9, 10, 11, 12] (fun R S X Y _ _ _ => ∃ r n x o : Int, R = .int .i64 r ∧ S = .int .i64 n ∧ X = .int .i64 x ∧ Y = .int .i64 o ∧ ((r = b ∧ n = m ∧ x = 1 ∧ o = 0) ∨ M.EI b m r n x o)) (fun _ S _ _ _ _ _ => (intOf S).toNat)
  case atStart => exact ⟨_, _, _, _, rfl, rfl, rfl, rfl, .inl ⟨rfl, rfl, rfl, rfl⟩⟩
  case round =>
    obtain ⟨r, n, x, o, rfl, rfl, rfl, rfl, hE⟩ := hrel
    rcases hE with ⟨rfl, rfl, rfl, rfl⟩ | hE
    · have hq : r / n = 0 := Int.ediv_eq_zero_of_lt hb1 hb2
      have hS := Lib.hid (M.EI.start hm1 hb1 hb2)
      go_wp2
      go_round
      case rel => exact ⟨_, _, _, _, rfl, rfl, rfl, rfl, .inr hS.out⟩
      case measure => simp [intOf]; omega
    · have g1 := hE.n0
      have g2 := hE.r0
      have g3 := hE.rm
      have g4 := hE.nm
      by_cases hn : 0 < n
      · obtain ⟨g5, g6⟩ := hE.qn_small hn
        obtain ⟨g7, g8⟩ := hE.qo_small hn hm2
        obtain ⟨g9, g10⟩ := hE.xs
        obtain ⟨g11, g12⟩ := M.ei_q_le (show 0 ≤ r by omega) hn
        have hS := Lib.hid (hE.step hn)
        have hd := Lib.hid (Int.emod_lt_of_pos r hn)
        have hd2 := Lib.hid (Int.mul_ediv_add_emod r n)
        clear hE
        go_wp2
        go_round
        case rel => exact ⟨_, _, _, _, rfl, rfl, rfl, rfl, .inr hS.out⟩
        case measure =>
          have h1 := hd.out
          have h2 := hd2.out
          rw [Int.mul_comm] at h2
          simp [intOf]; omega
      · have hn0 : n = 0 := by omega
        subst hn0
        have hb0 : 0 < b := by have h1 := HZ.out; have h2 := HB.out; omega
        obtain rfl : r = 1 := hE.done_prime hp hb0 hb2
        have hR := Lib.hid (show M.invm b m = x % m by rw [hE.result hm1, if_pos rfl])
        obtain ⟨hx1, hx2⟩ := hE.xs
        clear hE
        go_wp2_with (go_at_call 84; refine (nMod_any _ _ _ (by omega) (by omega)).mono ?_; rintro e w' ⟨rfl, rfl⟩)
        go_ret2
        exact ⟨ret_ib hR.out.symm rfl, rfl⟩
end Go.Proofs.Ytljlimlgdnbllaa
