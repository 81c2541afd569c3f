/- Walks: Commit, CheckOpening. -/
import Derived.Test.YtgnnmifpfgpllaaGreatZN1
import Derived.Test.YtgnnmifpfgpllaaGreatZKit
/- Walks: transcripts, simulations. -/
set_option linter.all false
set_option linter.unusedVariables false
set_option linter.unusedSimpArgs false
namespace Go.Proofs.YtgnnmifpfgpllaaGreat
open Go.RowKit
def acc (p q b y a c z : Int) : Bool := M.gpw p q b z == a * M.gpw p q y c % p
end Go.Proofs.YtgnnmifpfgpllaaGreat

/- Walks: bases. -/
set_option linter.all false
set_option linter.unusedVariables false
set_option linter.unusedSimpArgs false
namespace Go.Proofs.YtgnnmifpfgpllaaGreat
open Go.RowKit
set_option maxHeartbeats 400000 in
theorem l1Has_any (A : Option Addr) (c : Nat) (xs : List Int) (n : Int) (hl : xs.length ≤ 9223372036854775807) (w : World) (hx : RI w w.heap.size A xs) :
    Calls Tryz.prog 126 #[.slice A xs.length c, .int .i64 n] w fun en w' => en = .returned (.bool (xs.any fun x => x == n)) ∧ w = w' := by
  go_enter Tryz.func126, Tryz.ntmps126
  go_wp2
  go_loop [6, 9] (fun _ I => ∃ k : Nat, k ≤ xs.length ∧ I = .int .i64 k ∧ ∀ j (h : j < xs.length), j < k → (xs[j] == n) = false) (fun _ I => xs.length - (intOf I).toNat)
  case atStart => exact ⟨0, by omega, rfl, fun j h hj => by omega⟩
  case round =>
    obtain ⟨k, hk, rfl, hn⟩ := hrel
    have HN := Lib.hid hn; clear hn
    by_cases hlt : k < xs.length
    · obtain ⟨ad, rfl, had, hc⟩ := hx.at_ hlt
      have HX := Lib.hid hx; clear hx
      rcases Bool.eq_false_or_eq_true (xs[k] == n) with h | h
      · go_wp2
        go_ret
        exact ⟨ret_bool (List.any_eq_true.2 ⟨_, List.getElem_mem hlt, h⟩).symm, rfl⟩
      · go_wp2
        go_round
        case rel => exact ⟨k + 1, by omega, by go_num, fun j hh hj => by
          rcases Nat.lt_or_eq_of_le (Nat.le_of_lt_succ hj) with h1 | rfl
          · exact HN.out j hh h1
          · exact h⟩
        case measure => simp [intOf]; omega
    · have HX := Lib.hid hx; clear hx
      go_wp2
      go_ret
      exact ⟨ret_bool (by rw [List.any_eq_false.2]; intro x hx h2; obtain ⟨j, hj, rfl⟩ := List.getElem_of_mem hx; have := HN.out j hj (by omega); rw [this] at h2; cases h2), rfl⟩
end Go.Proofs.YtgnnmifpfgpllaaGreat

set_option linter.all false
set_option linter.unusedVariables false
set_option linter.unusedSimpArgs false
namespace Go.Proofs.YtgnnmifpfgpllaaGreat
open Go.RowKit
def cmt (p q g bh m r : Int) : Int := M.gpw p q g m * M.gpw p q bh r % p
end Go.Proofs.YtgnnmifpfgpllaaGreat
