/- Walks of the laws' own functions on int slices. -/
import Derived.Test.YtidcahjkjlmjhaaKit3
import Derived.Deep.QuietTactic
import Derived.BigQuiet
namespace Go.Proofs.Ytidcahjkjlmjhaa
open Go.RowKit
set_option maxHeartbeats 400000 in
theorem toIntS_any (A : Option Addr) (c : Nat) (xs : List Int) (hl : xs.length ≤ 35184372088832) (w : World) (hx : RI w w.heap.size A xs) :
    Calls Try.prog 27 #[.slice A xs.length c] w (RetI w xs) := by
  obtain ⟨i0, hi, hz0, hz1, hz2⟩ := info_parts info_int
  have hmk : ∀ W : World, (Instr.makeSlice 46 (.int .i64 (xs.length : Int)) (.int .i64 (xs.length : Int))).run Try.prog W = .ok (.slice (some ⟨W.heap.size, 0, none⟩) xs.length xs.length) (W.alloc (.cells (madeCells #[.int .i64 0] xs.length) 3)) := by
    intro W
    have hr := run_make (P := Try.prog) W 46 3 i0 (.int .i64 0) Try.underlying46 hi hz0 .i64 .i64 (xs.length : Int) (xs.length : Int) (by omega) (by omega) (by rw [hz2]; omega) (by omega)
    rw [hr, hz1]; simp [Value.cells]
  have hst : (w.alloc (.cells (madeCells #[.int .i64 0] xs.length) 3)).ownsRow w.heap.size 3 1 (.slice (some ⟨w.heap.size, 0, none⟩) xs.length xs.length) xs.length (List.replicate xs.length (.int .i64 0)) :=
    ⟨by simp, .inr ⟨w.heap.size, xs.length, _, rfl, Nat.le_refl _, heap_alloc_new w _, Nat.le_refl _, by unfold maxLen; omega, by simp [size_madeCells], by rw [toList_madeCells_one]; simp⟩⟩
  have HST := Lib.hid hst
  clear hst
  go_enter Try.func27, Try.ntmps27
  go_wp2
  go_loopw [4] (fun I W => ∃ k : Nat, k ≤ xs.length ∧ I = .int .i64 k ∧ W.ownsRow w.heap.size 3 1 (.slice (some ⟨w.heap.size, 0, none⟩) xs.length xs.length) xs.length ((xs.take k).map (Value.int .i64) ++ List.replicate (xs.length - k) (.int .i64 0)) ∧ Below w.heap.size w W) (fun I _ => xs.length - (intOf I).toNat)
  case atStart => exact ⟨0, by omega, rfl, by simpa using HST.out, below_new w _⟩
  case round =>
    obtain ⟨k, hk, rfl, ho, hB⟩ := hrel
    by_cases hlt : k < xs.length
    · obtain ⟨ad, rfl, had, hc⟩ := (hx.next hB).at_ hlt
      have HX := Lib.hid hx; clear hx
      have hcell := ho.cellAt k (by omega)
      have hlen : k < ((xs.take k).map (Value.int .i64) ++ List.replicate (xs.length - k) (Value.int .i64 0)).length := by simp; omega
      rw [List.getElem?_eq_getElem hlen] at hcell
      have hfr := ho.frozenAt k
      have hs := Lib.hid (ho.stored k (.int .i64 xs[k]))
      have HO := Lib.hid ho; clear ho
      generalize ((xs.take k).map (Value.int .i64) ++ List.replicate (xs.length - k) (Value.int .i64 0))[k] = old at hcell
      clear hlen
      go_wp2
      go_roundw
      case rel => exact ⟨k + 1, by omega, by go_num, by rw [← take_set_rep xs k hlt]; exact hs.out.1, hB.setCell (Nat.le_refl _) _⟩
      case measure => simp [intOf]; omega
    · have HX := Lib.hid hx; clear hx
      have HO := Lib.hid ho; clear ho
      go_wp2
      go_ret
      have ho := HO.out
      rw [show k = xs.length by omega, List.take_length, Nat.sub_self, List.replicate_zero, List.append_nil] at ho
      exact ⟨_, _, rfl, ho, hB⟩
theorem szIntS_any (A : Option Addr) (n c : Nat) (l : Int) (hl : l ≤ 1048576) (h0 : -1 ≤ l) (hn : n ≤ 9223372036854775807) (w : World) :
    Calls Try.prog 48 #[.slice A n c, .int .i64 l] w fun en w' => en = .returned (.int .i64 (if l - n < 0 then -1 else l - n)) ∧ w = w' := by
  by_cases h : l - n < 0
  · go_enter Try.func48, Try.ntmps48
    go_wp2
    go_ret
    exact ⟨rfl, rfl⟩
  · go_enter Try.func48, Try.ntmps48
    go_wp2
    go_ret
    exact ⟨rfl, rfl⟩
set_option maxHeartbeats 400000 in
theorem eqIntS_same (A B : Option Addr) (c d : Nat) (xs : List Int) (hl : xs.length ≤ 9223372036854775807) (w : World) (hx : RI w w.heap.size A xs) (hy : RI w w.heap.size B xs) :
    Calls Try.prog 29 #[.slice A xs.length c, .slice B xs.length d] w fun en w' => en = .returned (.bool true) ∧ Below w.heap.size w w' := by
  have hne : ((xs.length : Int) != (xs.length : Int)) = false := by simp
  go_enter Try.func29, Try.ntmps29
  go_wp2
  go_loopw [5] (fun I W => ∃ k : Nat, k ≤ xs.length ∧ I = .int .i64 k ∧ Below w.heap.size w W) (fun I _ => xs.length - (intOf I).toNat)
  case atStart => exact ⟨0, by omega, rfl, Below.refl _ _⟩
  case round =>
    obtain ⟨k, hk, rfl, hB⟩ := hrel
    by_cases hlt : k < xs.length
    · obtain ⟨ad, rfl, had, hc⟩ := (hx.next hB).at_ hlt
      obtain ⟨ad2, rfl, had2, hc2⟩ := (hy.next hB).at_ hlt
      have HX := Lib.hid hx; clear hx
      have HY := Lib.hid hy; clear hy
      have h1 : (0 : Int) ≤ (k : Int) := by omega
      have h2 : (k : Int) < (xs.length : Int) := by omega
      have h3 : (xs[k] != xs[k]) = false := by simp
      go_wp2_with fail
      go_quiet (fail)
      go_wp2
      go_roundw
      case rel => exact ⟨k + 1, by omega, by go_num, by first | exact bdrewN hB _ | exact hB.drew⟩
      case measure => simp [intOf]; omega
    · have HX := Lib.hid hx; clear hx
      have HY := Lib.hid hy; clear hy
      go_wp2
      go_ret
      exact ⟨rfl, hB⟩
end Go.Proofs.Ytidcahjkjlmjhaa
