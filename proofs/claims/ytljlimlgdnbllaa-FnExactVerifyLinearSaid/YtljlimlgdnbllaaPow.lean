import Derived.Test.YtljlimlgdnbllaaKit
set_option linter.all false
set_option linter.unusedVariables false
set_option linter.unusedSimpArgs false
namespace Go.Proofs.Ytljlimlgdnbllaa
open Go.RowKit
set_option maxHeartbeats 400000 in
theorem power_any (a e m : Int) (w : World) (hm : 1 ≤ m ∧ m ≤ 2000000000) (ha : 0 ≤ a ∧ a < m) (he : e ≤ 9223372036854775807) :
    Calls Try.prog 129 #[.int .i64 a, .int .i64 e, .int .i64 m] w fun en w' => en = .returned (.int .i64 (M.pw a e m)) ∧ w = w' := by
  obtain ⟨hm1, hm2⟩ := hm
  obtain ⟨ha1, ha2⟩ := ha
  go_enter Try.func129, Try.ntmps129
  go_wp2
  go_loop [0, 1, 7] (fun A E O => ∃ a' e' o : Int, 0 ≤ a' ∧ a' < m ∧ 0 ≤ o ∧ o < m ∧ e' ≤ 9223372036854775807 ∧ A = .int .i64 a' ∧ E = .int .i64 e' ∧ O = .int .i64 o ∧ (o * a' ^ e'.toNat) % m = M.pw a e m) (fun _ E _ => (intOf E).toNat)
  case atStart => exact ⟨a, e, 1 % m, ha1, ha2, Int.emod_nonneg _ (by omega), Int.emod_lt_of_pos _ (by omega), he, rfl, rfl, rfl, M.pw_start a e m⟩
  case round =>
    obtain ⟨a', e', o, h1, h2, h3, h4, h5, rfl, rfl, rfl, hr⟩ := hrel
    have HR := Lib.hid hr; clear hr
    obtain ⟨q3, q4⟩ := M.mul_fit ⟨h3, h4⟩ ⟨h1, h2⟩ hm2
    obtain ⟨q5, q6⟩ := M.mul_fit ⟨h1, h2⟩ ⟨h1, h2⟩ hm2
    go_wp2
    · go_round
      have hb : (bits BinOp.and IntKind.i64 e' 1 == 1) = true := by assumption
      have he' : 0 < e' := by assumption
      rw [and_one e' (by omega) h5] at hb
      have hb' : e' % 2 = 1 := by simpa using hb
      case rel => exact ⟨_, _, _, Int.emod_nonneg _ (by omega), Int.emod_lt_of_pos _ (by omega), Int.emod_nonneg _ (by omega), Int.emod_lt_of_pos _ (by omega), by omega, rfl, rfl, rfl, (M.pw_round1 o a' m e' (by omega) hb').trans HR.out⟩
      case measure => simp [intOf]; omega
    · go_round
      have hb : (bits BinOp.and IntKind.i64 e' 1 == 1) = false := by assumption
      have he' : 0 < e' := by assumption
      rw [and_one e' (by omega) h5] at hb
      have hb' : e' % 2 = 0 := by have : e' % 2 ≠ 1 := by simpa using hb
                                  omega
      case rel => exact ⟨_, _, _, Int.emod_nonneg _ (by omega), Int.emod_lt_of_pos _ (by omega), h3, h4, by omega, rfl, rfl, rfl, (M.pw_round0 o a' m e' (by omega) hb').trans HR.out⟩
      case measure => simp [intOf]; omega
    · go_ret
      exact ⟨ret_int (M.pw_end HR.out (by omega) ⟨h3, h4⟩), rfl⟩
end Go.Proofs.Ytljlimlgdnbllaa
