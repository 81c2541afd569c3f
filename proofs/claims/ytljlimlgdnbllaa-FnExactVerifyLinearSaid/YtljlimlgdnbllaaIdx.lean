import Derived.Test.YtljlimlgdnbllaaKit
set_option linter.all false
set_option linter.unusedVariables false
set_option linter.unusedSimpArgs false
namespace Go.Proofs.Ytljlimlgdnbllaa
open Go.RowKit
set_option maxHeartbeats 400000 in
theorem indexInts (fn : Nat) (fs cs : Array Value) (p : Int → Bool) (A : Option Addr) (c : Nat) (xs : List Int) (w : World) (heg : ∀ args w, (callFunc fn args).run Try.prog w = .ok (.enter fn args) w)
    (hx : RI w w.heap.size A xs) (hl : xs.length ≤ 9223372036854775807)
    (hf : ∀ x ∈ xs, ∀ W, Below w.heap.size w W → Calls Try.prog fn (fs ++ #[.int .i64 x] ++ cs) W fun e W' => e = .returned (.bool (p x)) ∧ Below W.heap.size W W') :
    Calls Try.prog 166 #[.slice A xs.length c, .func (.func fn) fs cs] w fun en w' => en = .returned (.int .i64 (idx p xs)) ∧ Below w.heap.size w w' := by
  go_enter Try.func166, Try.ntmps166
  go_wp2
  go_loopw [5, 8] (fun i5 i W => ∃ k : Nat, k ≤ xs.length ∧ i = .int .i64 k ∧ Below w.heap.size w W ∧ ∀ j (h : j < xs.length), j < k → p xs[j] = false) (fun _ i _ => xs.length - (intOf i).toNat)
  case atStart => exact ⟨0, by omega, rfl, Below.refl _ _, fun j h hj => by omega⟩
  case round =>
    obtain ⟨k, hk, rfl, hb, hn⟩ := hrel
    have HN := Lib.hid hn; clear hn
    by_cases hlt : k < xs.length
    · obtain ⟨ad, rfl, had, hc⟩ := (hx.below hb).at_ hlt
      have HX := Lib.hid hx; clear hx
      have hfk := Lib.hid (hf xs[k] (List.getElem_mem hlt))
      clear hf
      go_wp2_with fail
      refine (hfk.out _ hb).mono ?_
      rintro e w1 ⟨rfl, hb1⟩
      have hb2 := hb.trans (hb1.mono hb.size)
      by_cases hp : p xs[k] = true
      · go_wp2
        go_ret
        exact ⟨ret_int (idx_hit hlt hp fun j hj => HN.out j (by omega) hj).symm, hb2⟩
      · have hp' : p xs[k] = false := by simpa using hp
        clear hp
        go_wp2
        go_roundw
        case rel => exact ⟨k + 1, by omega, by go_num, hb2, fun j h hj => by
          rcases Nat.lt_or_eq_of_le (Nat.le_of_lt_succ hj) with h1 | rfl
          · exact HN.out j h h1
          · exact hp'⟩
        case measure => simp [intOf]; omega
    · have HX := Lib.hid hx; clear hx
      clear hf
      go_wp2
      go_ret
      exact ⟨ret_int (idx_miss fun j h => HN.out j h (by omega)).symm, hb⟩
end Go.Proofs.Ytljlimlgdnbllaa
