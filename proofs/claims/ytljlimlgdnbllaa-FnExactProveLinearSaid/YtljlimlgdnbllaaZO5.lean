import Derived.Test.YtljlimlgdnbllaaZO1
/- Walks: a bit's case, its challenge, sums. -/
set_option linter.all false
set_option linter.unusedVariables false
set_option linter.unusedSimpArgs false
namespace Go.Proofs.Ytljlimlgdnbllaa
open Go.RowKit
def sumL (q : Int) (l : List Int) : Int := l.foldl (fun a x => (a + x) % q) 0
theorem sumL_snoc {q : Int} (l : List Int) (x : Int) : sumL q (l ++ [x]) = (sumL q l + x) % q := by unfold sumL; rw [List.foldl_append]; rfl
theorem sumL_lt {q : Int} (hq : 1 ≤ q) (l : List Int) : 0 ≤ sumL q l ∧ sumL q l < q := by
  rcases List.eq_nil_or_concat l with rfl | ⟨l, x, rfl⟩
  · exact ⟨by show (0 : Int) ≤ 0; omega, by show (0 : Int) < q; omega⟩
  · rw [List.concat_eq_append, sumL_snoc]; exact ⟨Int.emod_nonneg _ (by omega), Int.emod_lt_of_pos _ (by omega)⟩
set_option maxHeartbeats 400000 in
theorem sumI_any (q : Int) (hq : 1 ≤ q ∧ q ≤ 2000000000) (A : Option Addr) (c : Nat) (xs : List Int) (hl : xs.length ≤ 9223372036854775807) (w : World) (hx : RI w w.heap.size A xs) (hb : ∀ x ∈ xs, 0 ≤ x ∧ x < q) :
    Calls Try.prog 93 #[.slice A xs.length c, .int .i64 q] w fun en w' => en = .returned (.int .i64 (sumL q xs)) ∧ w = w' := by
  have HB := Lib.hid hb
  clear hb
  go_enter Try.func93, Try.ntmps93
  go_wp2
  go_loop [5, 7, 10] (fun O _ I => ∃ k : Nat, k ≤ xs.length ∧ I = .int .i64 k ∧ O = .int .i64 (sumL q (xs.take k))) (fun _ _ I => xs.length - (intOf I).toNat)
  case atStart => exact ⟨0, by omega, rfl, rfl⟩
  case round =>
    obtain ⟨k, hk, rfl, rfl⟩ := hrel
    obtain ⟨o1, o2⟩ := sumL_lt (q := q) hq.1 (xs.take k)
    by_cases hlt : k < xs.length
    · obtain ⟨ad, rfl, had, hc⟩ := hx.at_ hlt
      have HX := Lib.hid hx; clear hx
      obtain ⟨b1, b2⟩ := HB.out xs[k] (List.getElem_mem hlt)
      have HE := Lib.hid (show sumL q (xs.take (k + 1)) = (sumL q (xs.take k) + xs[k]) % q by rw [List.take_succ_eq_append_getElem hlt, sumL_snoc])
      go_wp2
      go_round
      case rel => exact ⟨k + 1, by omega, by go_num, by rw [HE.out]⟩
      case measure => simp [intOf]; omega
    · have HX := Lib.hid hx; clear hx
      go_wp2
      go_ret
      exact ⟨ret_int (by rw [List.take_of_length_le (by omega)]), rfl⟩
end Go.Proofs.Ytljlimlgdnbllaa
