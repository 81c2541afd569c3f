/- Walks of the group layer: products, powers. -/
import Derived.Test.YtiegpbpijfmhdaaN4
namespace Go.Proofs.Ytiegpbpijfmhdaa
open Go.RowKit
theorem RI.lit2 (w : World) (a b : Int) (t : TypeId) {n : Nat} (hn : n = w.heap.size) : RI (w.alloc (.cells #[.int .i64 a, .int .i64 b] t)) (w.alloc (.cells #[.int .i64 a, .int .i64 b] t)).heap.size (some ⟨n, 0, none⟩) [a, b] := RI.lit w [a, b] t hn
theorem RI.lit3 (w : World) (a b c : Int) (t : TypeId) {n : Nat} (hn : n = w.heap.size) : RI (w.alloc (.cells #[.int .i64 a, .int .i64 b, .int .i64 c] t)) (w.alloc (.cells #[.int .i64 a, .int .i64 b, .int .i64 c] t)).heap.size (some ⟨n, 0, none⟩) [a, b, c] := RI.lit w [a, b, c] t hn
theorem mulL_bd {p : Int} (hp : 3 ≤ p) (l : List Int) : 0 ≤ M.mulL p l ∧ M.mulL p l < p := M.mulL_lt (by omega) l
set_option maxHeartbeats 400000 in
theorem mul_any (p q g : Int) (hG : M.Grp p q g) (A : Option Addr) (c : Nat) (xs : List Int) (hl : xs.length ≤ 9223372036854775807) (w : World) (hx : RI w w.heap.size A xs) (hb : ∀ x ∈ xs, 0 ≤ x ∧ x < p) :
    Calls Try.prog 87 #[.agg #[.int .i64 p, .int .i64 q, .int .i64 g], .slice A xs.length c] w fun en w' => en = .returned (.int .i64 (M.mulL p xs)) ∧ Below w.heap.size w w' := by
  have g3 := hG.p3
  have g4 := hG.pM
  clear hG
  have hx2 := hx.new (.cells #[.int .i64 p, .int .i64 q, .int .i64 g] 27)
  have HB := Lib.hid hb
  clear hx hb
  go_enter Try.func87, Try.ntmps87
  go_wp2
  go_loop [5, 7, 10] (fun O _ I => ∃ k : Nat, k ≤ xs.length ∧ I = .int .i64 k ∧ O = .int .i64 (M.mulL p (xs.take k))) (fun _ _ I => xs.length - (intOf I).toNat)
  case atStart => exact ⟨0, by omega, rfl, rfl⟩
  case round =>
    obtain ⟨k, hk, rfl, rfl⟩ := hrel
    obtain ⟨o1, o2⟩ := mulL_bd g3 (xs.take k)
    by_cases hlt : k < xs.length
    · obtain ⟨ad, rfl, had, hc⟩ := hx2.at_ hlt
      have HX := Lib.hid hx2; clear hx2
      obtain ⟨b1, b2⟩ := HB.out xs[k] (List.getElem_mem hlt)
      obtain ⟨q1, q2⟩ := M.mul_fit ⟨o1, o2⟩ ⟨b1, b2⟩ g4
      have HE := Lib.hid (show M.mulL p (xs.take (k + 1)) = M.mulL p (xs.take k) * xs[k] % p by rw [List.take_succ_eq_append_getElem hlt, M.mulL_snoc])
      go_wp2
      go_round
      case rel => exact ⟨k + 1, by omega, by go_num, by rw [HE.out]⟩
      case measure => simp [intOf]; omega
    · have HX := Lib.hid hx2; clear hx2
      go_wp2
      go_ret
      exact ⟨ret_int (by rw [List.take_of_length_le (by omega)]), below_new w _⟩
theorem mul2_any (p q g a b : Int) (hG : M.Grp p q g) (ha : 0 ≤ a ∧ a < p) (hb : 0 ≤ b ∧ b < p) (A : Option Addr) (c : Nat) (w : World) (hx : RI w w.heap.size A [a, b]) :
    Calls Try.prog 87 #[.agg #[.int .i64 p, .int .i64 q, .int .i64 g], .slice A 2 c] w fun en w' => en = .returned (.int .i64 (a * b % p)) ∧ Below w.heap.size w w' :=
  (mul_any p q g hG A c [a, b] (by simp) w hx (by intro x h; simp at h; rcases h with rfl | rfl <;> assumption)).mono fun _ _ ⟨h1, h2⟩ => ⟨h1.trans (ret_int (M.mulL_two ha)), h2⟩
set_option maxHeartbeats 400000 in
theorem gMul_any (p q g : Int) (hG : M.Grp p q g) (A : Option Addr) (c : Nat) (xs : List Int) (hl : xs.length ≤ 9223372036854775807) (w : World) (hx : RI w w.heap.size A xs) (hb : ∀ x ∈ xs, 0 ≤ x ∧ x < p) :
    Calls Try.prog 82 #[.agg #[.int .i64 p, .int .i64 q, .int .i64 g], .slice A xs.length c] w fun en w' => en = .returned (.int .i64 (M.mulL p xs)) ∧ Below w.heap.size w w' := by
  have g3 := hG.p3
  have g4 := hG.pM
  clear hG
  have hx2 := hx.new (.cells #[.int .i64 p, .int .i64 q, .int .i64 g] 27)
  have HB := Lib.hid hb
  clear hx hb
  go_enter Try.func82, Try.ntmps82
  go_wp2
  go_loop [5, 7, 10] (fun O _ I => ∃ k : Nat, k ≤ xs.length ∧ I = .int .i64 k ∧ O = .int .i64 (M.mulL p (xs.take k))) (fun _ _ I => xs.length - (intOf I).toNat)
  case atStart => exact ⟨0, by omega, rfl, rfl⟩
  case round =>
    obtain ⟨k, hk, rfl, rfl⟩ := hrel
    obtain ⟨o1, o2⟩ := mulL_bd g3 (xs.take k)
    by_cases hlt : k < xs.length
    · obtain ⟨ad, rfl, had, hc⟩ := hx2.at_ hlt
      have HX := Lib.hid hx2; clear hx2
      obtain ⟨b1, b2⟩ := HB.out xs[k] (List.getElem_mem hlt)
      obtain ⟨q1, q2⟩ := M.mul_fit ⟨o1, o2⟩ ⟨b1, b2⟩ g4
      have HE := Lib.hid (show M.mulL p (xs.take (k + 1)) = M.mulL p (xs.take k) * xs[k] % p by rw [List.take_succ_eq_append_getElem hlt, M.mulL_snoc])
      go_wp2
      go_round
      case rel => exact ⟨k + 1, by omega, by go_num, by rw [HE.out]⟩
      case measure => simp [intOf]; omega
    · have HX := Lib.hid hx2; clear hx2
      go_wp2
      go_ret
      exact ⟨ret_int (by rw [List.take_of_length_le (by omega)]), below_new w _⟩
theorem gMul2_any (p q g a b : Int) (hG : M.Grp p q g) (ha : 0 ≤ a ∧ a < p) (hb : 0 ≤ b ∧ b < p) (A : Option Addr) (c : Nat) (w : World) (hx : RI w w.heap.size A [a, b]) :
    Calls Try.prog 82 #[.agg #[.int .i64 p, .int .i64 q, .int .i64 g], .slice A 2 c] w fun en w' => en = .returned (.int .i64 (a * b % p)) ∧ Below w.heap.size w w' :=
  (gMul_any p q g hG A c [a, b] (by simp) w hx (by intro x h; simp at h; rcases h with rfl | rfl <;> assumption)).mono fun _ _ ⟨h1, h2⟩ => ⟨h1.trans (ret_int (M.mulL_two ha)), h2⟩
end Go.Proofs.Ytiegpbpijfmhdaa
