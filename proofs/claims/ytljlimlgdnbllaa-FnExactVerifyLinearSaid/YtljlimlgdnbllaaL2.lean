/- Walks of the laws' own functions on int slices. -/
import Derived.Test.YtljlimlgdnbllaaKit3
import Derived.Deep.QuietTactic
import Derived.BigQuiet
import Derived.Deep.AppendLies
set_option linter.all false
set_option linter.unusedVariables false
set_option linter.unusedSimpArgs false
namespace Go.Proofs.Ytljlimlgdnbllaa
open Go.RowKit
set_option maxHeartbeats 400000 in
theorem toIntS_any (A : Option Addr) (c : Nat) (xs : List Int) (hl : xs.length ≤ 35184372088832) (w : World) (hx : RI w w.heap.size A xs) :
    Calls Try.prog 20 #[.slice A xs.length c] w (RetI w xs) := by
  obtain ⟨i0, hi, hz0, hz1, hz2⟩ := info_parts info_int
  have hmk : ∀ W : World, (Instr.makeSlice 24 (.int .i64 (xs.length : Int)) (.int .i64 (xs.length : Int))).run Try.prog W = .ok (.slice (some ⟨W.heap.size, 0, none⟩) xs.length xs.length) (W.alloc (.cells (madeCells #[.int .i64 0] xs.length) 3)) := by
    intro W
    have hr := run_make (P := Try.prog) W 24 3 i0 (.int .i64 0) Try.underlying24 hi hz0 .i64 .i64 (xs.length : Int) (xs.length : Int) (by omega) (by omega) (by rw [hz2]; omega) (by omega)
    rw [hr, hz1]; simp [Value.cells]
  have hst : (w.alloc (.cells (madeCells #[.int .i64 0] xs.length) 3)).ownsRow w.heap.size 3 1 (.slice (some ⟨w.heap.size, 0, none⟩) xs.length xs.length) xs.length (List.replicate xs.length (.int .i64 0)) :=
    ⟨by simp, .inr ⟨w.heap.size, xs.length, _, rfl, Nat.le_refl _, heap_alloc_new w _, Nat.le_refl _, by unfold maxLen; omega, by simp [size_madeCells], by rw [toList_madeCells_one]; simp⟩⟩
  have HST := Lib.hid hst
  clear hst
  go_enter Try.func20, Try.ntmps20
  go_wp2
  go_loopw [4] (fun I W => ∃ k : Nat, k ≤ xs.length ∧ I = .int .i64 k ∧ W.ownsRow w.heap.size 3 1 (.slice (some ⟨w.heap.size, 0, none⟩) xs.length xs.length) xs.length ((xs.take k).map (Value.int .i64) ++ List.replicate (xs.length - k) (.int .i64 0)) ∧ Below w.heap.size w W) (fun I _ => xs.length - (intOf I).toNat)
  case atStart => exact ⟨0, by omega, rfl, by simpa using HST.out, below_new w _⟩
  case round =>
    obtain ⟨k, hk, rfl, ho, hB⟩ := hrel
    by_cases hlt : k < xs.length
    · obtain ⟨ad, rfl, had, hc⟩ := (hx.next hB).at_ hlt
      have HX := Lib.hid hx; clear hx
      have hcell := ho.cellAt k (by omega)
      have hlen : k < ((xs.take k).map (Value.int .i64) ++ List.replicate (xs.length - k) (Value.int .i64 0)).length := by simp; omega
      rw [List.getElem?_eq_getElem hlen] at hcell
      have hfr := ho.frozenAt k
      have hs := Lib.hid (ho.stored k (.int .i64 xs[k]))
      have HO := Lib.hid ho; clear ho
      generalize ((xs.take k).map (Value.int .i64) ++ List.replicate (xs.length - k) (Value.int .i64 0))[k] = old at hcell
      clear hlen
      go_wp2
      go_roundw
      case rel => exact ⟨k + 1, by omega, by go_num, by rw [← take_set_rep xs k hlt]; exact hs.out.1, hB.setCell (Nat.le_refl _) _⟩
      case measure => simp [intOf]; omega
    · have HX := Lib.hid hx; clear hx
      have HO := Lib.hid ho; clear ho
      go_wp2
      go_ret
      have ho := HO.out
      rw [show k = xs.length by omega, List.take_length, Nat.sub_self, List.replicate_zero, List.append_nil] at ho
      exact ⟨_, _, rfl, ho, hB⟩
theorem szIntS_any (A : Option Addr) (n c : Nat) (l : Int) (hl : l ≤ 1048576) (h0 : -1 ≤ l) (hn : n ≤ 9223372036854775807) (w : World) :
    Calls Try.prog 61 #[.slice A n c, .int .i64 l] w fun en w' => en = .returned (.int .i64 (if l - n < 0 then -1 else l - n)) ∧ w = w' := by
  by_cases h : l - n < 0
  · go_enter Try.func61, Try.ntmps61
    go_wp2
    go_ret
    exact ⟨rfl, rfl⟩
  · go_enter Try.func61, Try.ntmps61
    go_wp2
    go_ret
    exact ⟨rfl, rfl⟩
set_option maxHeartbeats 400000 in
theorem eqIntS_same (A B : Option Addr) (c d : Nat) (xs : List Int) (hl : xs.length ≤ 9223372036854775807) (w : World) (hx : RI w w.heap.size A xs) (hy : RI w w.heap.size B xs) :
    Calls Try.prog 24 #[.slice A xs.length c, .slice B xs.length d] w fun en w' => en = .returned (.bool true) ∧ Below w.heap.size w w' := by
  have hne : ((xs.length : Int) != (xs.length : Int)) = false := by simp
  go_enter Try.func24, Try.ntmps24
  go_wp2
  go_loopw [5] (fun I W => ∃ k : Nat, k ≤ xs.length ∧ I = .int .i64 k ∧ Below w.heap.size w W) (fun I _ => xs.length - (intOf I).toNat)
  case atStart => exact ⟨0, by omega, rfl, Below.refl _ _⟩
  case round =>
    obtain ⟨k, hk, rfl, hB⟩ := hrel
    by_cases hlt : k < xs.length
    · obtain ⟨ad, rfl, had, hc⟩ := (hx.next hB).at_ hlt
      obtain ⟨ad2, rfl, had2, hc2⟩ := (hy.next hB).at_ hlt
      have HX := Lib.hid hx; clear hx
      have HY := Lib.hid hy; clear hy
      have h1 : (0 : Int) ≤ (k : Int) := by omega
      have h2 : (k : Int) < (xs.length : Int) := by omega
      have h3 : (xs[k] != xs[k]) = false := by simp
      go_wp2_with fail
      go_quiet (fail)
      go_wp2
      go_roundw
      case rel => exact ⟨k + 1, by omega, by go_num, by first | exact bdrewN hB _ | exact hB.drew⟩
      case measure => simp [intOf]; omega
    · have HX := Lib.hid hx; clear hx
      have HY := Lib.hid hy; clear hy
      go_wp2
      go_ret
      exact ⟨rfl, hB⟩
/-- the list that markIntS writes: k, k + 1, .. -/
def marks (k : Int) : Nat → List Int
  | 0 => []
  | n + 1 => k :: marks (k + 1) n
theorem marks_len : ∀ (n : Nat) (k : Int), (marks k n).length = n
  | 0, _ => rfl
  | n + 1, k => by simp [marks, marks_len n]
theorem marks_get : ∀ (n : Nat) (k : Int) (j : Nat) (hj : j < (marks k n).length), (marks k n)[j] = k + j
  | n + 1, k, 0, _ => by simp [marks]
  | n + 1, k, j + 1, hj => by
    simp only [marks, List.getElem_cons_succ]
    rw [marks_get n (k + 1) j]; omega
theorem mark_step (xs : List Int) (k0 : Int) (k : Nat) (hk : k < xs.length) : ((marks k0 k).map (Value.int .i64) ++ (xs.drop k).map (Value.int .i64)).set k (Value.int .i64 (k0 + k)) = (marks k0 (k + 1)).map (Value.int .i64) ++ (xs.drop (k + 1)).map (Value.int .i64) := by
  have h1 : marks k0 (k + 1) = marks k0 k ++ [k0 + k] := by
    apply List.ext_getElem
    · simp [marks_len]
    · intro j h2 h3
      rw [marks_get]
      rcases Nat.lt_or_ge j k with h | h
      · rw [List.getElem_append_left (by simpa [marks_len] using h), marks_get]
      · have : j = k := by simp [marks_len] at h2; omega
        subst this
        rw [List.getElem_append_right (by simp [marks_len])]; simp [marks_len]
  have hl : ((marks k0 k).map (Value.int .i64)).length = k := by simp [marks_len]
  rw [List.set_append_right _ _ (by omega), hl, Nat.sub_self, List.drop_eq_getElem_cons hk, List.map_cons, List.set_cons_zero, h1, List.map_append]
  simp
set_option maxHeartbeats 400000 in
theorem markIntS_any (lo : Nat) (A : Option Addr) (c : Nat) (xs : List Int) (k0 : Int) (hl : xs.length ≤ 35184372088832) (h0 : -1 ≤ k0) (h1 : k0 ≤ 4611686018427387904) (w : World) (hx : OI w lo (.slice A xs.length c) xs) :
    Calls Try.prog 31 #[.slice A xs.length c, .int .i64 k0] w fun en w' => en = .returned (.int .i64 (k0 + xs.length)) ∧ OI w' lo (.slice A xs.length c) (marks k0 xs.length) ∧ w.grownBy w' (Value.slice A xs.length c).ownBlock := by
  have HX0 : OI w lo (.slice A xs.length c) ((marks k0 0) ++ xs.drop 0) := by simpa [marks] using hx
  have hln : ∀ k ≤ xs.length, (marks k0 k ++ xs.drop k).length = xs.length := fun k hk => by simp [marks_len]; omega
  have HLN := Lib.hid hln
  have HX := Lib.hid HX0
  clear hln HX0 hx
  go_enter Try.func31, Try.ntmps31
  go_wp2
  go_loopw [1, 5] (fun K I W => ∃ k : Nat, k ≤ xs.length ∧ I = .int .i64 k ∧ K = .int .i64 (k0 + k) ∧ W.ownsRow lo 3 1 (.slice A xs.length c) xs.length ((marks k0 k ++ xs.drop k).map (Value.int .i64)) ∧ w.grownBy W (Value.slice A xs.length c).ownBlock) (fun _ I _ => xs.length - (intOf I).toNat)
  case atStart => exact ⟨0, by omega, rfl, by simp, by have h := HX.out; unfold OI at h; rw [HLN.out 0 (by omega)] at h; exact h, World.grownBy.refl _ _⟩
  case round =>
    obtain ⟨k, hk, rfl, rfl, ho, hg⟩ := hrel
    by_cases hlt : k < xs.length
    · obtain ⟨g, cap, hv, _⟩ := World.ownsRow.form ho (by omega)
      injection hv with hA _ hc
      subst hA
      have hcell := ho.cellAt k (by omega)
      have hlen : k < ((marks k0 k ++ xs.drop k).map (Value.int .i64)).length := by rw [List.length_map, HLN.out k hk]; exact hlt
      rw [List.getElem?_eq_getElem hlen] at hcell
      have hfr := ho.frozenAt k
      have hs := Lib.hid (ho.stored k (.int .i64 (k0 + k)))
      have HO := Lib.hid ho; clear ho
      have HG := Lib.hid hg; clear hg
      generalize ((marks k0 k ++ xs.drop k).map (Value.int .i64))[k] = old at hcell
      clear hlen hc
      go_wp2
      go_roundw
      case rel => exact ⟨k + 1, by omega, by go_num, by rw [show ((k + 1 : Nat) : Int) = (k : Int) + 1 by omega, Int.add_assoc], by
        have h2 := hs.out.1
        rw [List.map_append, mark_step xs k0 k hlt, ← List.map_append] at h2
        exact h2, HG.out.trans hs.out.2⟩
      case measure => simp [intOf]; omega
    · have HO := Lib.hid ho; clear ho
      have HG := Lib.hid hg; clear hg
      go_wp2
      go_ret
      obtain rfl : k = xs.length := by omega
      refine ⟨rfl, ?_, HG.out⟩
      have h := HO.out
      rw [List.drop_length, List.append_nil] at h
      unfold OI
      rw [marks_len]
      exact h
set_option maxHeartbeats 400000 in
theorem heldIntS_any (A : Option Addr) (c n : Nat) (k0 : Int) (hl : n ≤ 35184372088832) (h0 : -1 ≤ k0) (h1 : k0 ≤ 4611686018427387904) (w : World) (hx : RI w w.heap.size A (marks k0 n)) :
    Calls Try.prog 86 #[.slice A n c, .int .i64 k0] w fun en w' => en = .returned (.int .i64 (k0 + n)) ∧ w = w' := by
  have HX := Lib.hid hx
  clear hx
  go_enter Try.func86, Try.ntmps86
  go_wp2
  go_loop [1, 5] (fun K I => ∃ k : Nat, k ≤ n ∧ I = .int .i64 k ∧ K = .int .i64 (k0 + k)) (fun _ I => n - (intOf I).toNat)
  case atStart => exact ⟨0, by omega, rfl, by simp⟩
  case round =>
    obtain ⟨k, hk, rfl, rfl⟩ := hrel
    by_cases hlt : k < n
    · obtain ⟨ad, rfl, had, hc⟩ := HX.out.at_ (show k < (marks k0 n).length by rw [marks_len]; exact hlt)
      rw [marks_get] at hc
      have h3 : ((k0 + (k : Int)) != (k0 + (k : Int))) = false := by simp
      go_wp2
      go_round
      case rel => exact ⟨k + 1, by omega, by go_num, by rw [show ((k + 1 : Nat) : Int) = (k : Int) + 1 by omega, Int.add_assoc]⟩
      case measure => simp [intOf]; omega
    · go_wp2
      go_ret
      exact ⟨ret_int (by rw [show k = n by omega]), rfl⟩
end Go.Proofs.Ytljlimlgdnbllaa
