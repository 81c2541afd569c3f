/- Walks of the group layer: products, powers. -/
import Derived.Test.YtljlimlgdnbllaaN4
set_option linter.all false
set_option linter.unusedVariables false
set_option linter.unusedSimpArgs false
namespace Go.Proofs.Ytljlimlgdnbllaa
open Go.RowKit
theorem RI.lit2 (w : World) (a b : Int) (t : TypeId) {n : Nat} (hn : n = w.heap.size) : RI (w.alloc (.cells #[.int .i64 a, .int .i64 b] t)) (w.alloc (.cells #[.int .i64 a, .int .i64 b] t)).heap.size (some ⟨n, 0, none⟩) [a, b] := RI.lit w [a, b] t hn
theorem RI.lit3 (w : World) (a b c : Int) (t : TypeId) {n : Nat} (hn : n = w.heap.size) : RI (w.alloc (.cells #[.int .i64 a, .int .i64 b, .int .i64 c] t)) (w.alloc (.cells #[.int .i64 a, .int .i64 b, .int .i64 c] t)).heap.size (some ⟨n, 0, none⟩) [a, b, c] := RI.lit w [a, b, c] t hn
theorem mulL_bd {p : Int} (hp : 3 ≤ p) (l : List Int) : 0 ≤ M.mulL p l ∧ M.mulL p l < p := M.mulL_lt (by omega) l
set_option maxHeartbeats 400000 in
theorem mul_any (p q g : Int) (hG : M.Grp p q g) (A : Option Addr) (c : Nat) (xs : List Int) (hl : xs.length ≤ 9223372036854775807) (w : World) (hx : RI w w.heap.size A xs) (hb : ∀ x ∈ xs, 0 ≤ x ∧ x < p) :
    Calls Try.prog 75 #[.agg #[.int .i64 p, .int .i64 q, .int .i64 g], .slice A xs.length c] w fun en w' => en = .returned (.int .i64 (M.mulL p xs)) ∧ Below w.heap.size w w' := by
  have g3 := hG.p3
  have g4 := hG.pM
  clear hG
  have hx2 := hx.new (.cells #[.int .i64 p, .int .i64 q, .int .i64 g] 33)
  have HB := Lib.hid hb
  clear hx hb
  go_enter Try.func75, Try.ntmps75
  go_wp2
  go_loop [5, 7, 10] (fun O _ I => ∃ k : Nat, k ≤ xs.length ∧ I = .int .i64 k ∧ O = .int .i64 (M.mulL p (xs.take k))) (fun _ _ I => xs.length - (intOf I).toNat)
  case atStart => exact ⟨0, by omega, rfl, rfl⟩
  case round =>
    obtain ⟨k, hk, rfl, rfl⟩ := hrel
    obtain ⟨o1, o2⟩ := mulL_bd g3 (xs.take k)
    by_cases hlt : k < xs.length
    · obtain ⟨ad, rfl, had, hc⟩ := hx2.at_ hlt
      have HX := Lib.hid hx2; clear hx2
      obtain ⟨b1, b2⟩ := HB.out xs[k] (List.getElem_mem hlt)
      obtain ⟨q1, q2⟩ := M.mul_fit ⟨o1, o2⟩ ⟨b1, b2⟩ g4
      have HE := Lib.hid (show M.mulL p (xs.take (k + 1)) = M.mulL p (xs.take k) * xs[k] % p by rw [List.take_succ_eq_append_getElem hlt, M.mulL_snoc])
      go_wp2
      go_round
      case rel => exact ⟨k + 1, by omega, by go_num, by rw [HE.out]⟩
      case measure => simp [intOf]; omega
    · have HX := Lib.hid hx2; clear hx2
      go_wp2
      go_ret
      exact ⟨ret_int (by rw [List.take_of_length_le (by omega)]), below_new w _⟩
theorem mul2_any (p q g a b : Int) (hG : M.Grp p q g) (ha : 0 ≤ a ∧ a < p) (hb : 0 ≤ b ∧ b < p) (A : Option Addr) (c : Nat) (w : World) (hx : RI w w.heap.size A [a, b]) :
    Calls Try.prog 75 #[.agg #[.int .i64 p, .int .i64 q, .int .i64 g], .slice A 2 c] w fun en w' => en = .returned (.int .i64 (a * b % p)) ∧ Below w.heap.size w w' :=
  (mul_any p q g hG A c [a, b] (by simp) w hx (by intro x h; simp at h; rcases h with rfl | rfl <;> assumption)).mono fun _ _ ⟨h1, h2⟩ => ⟨h1.trans (ret_int (M.mulL_two ha)), h2⟩
set_option maxHeartbeats 400000 in
theorem gMul_any (p q g : Int) (hG : M.Grp p q g) (A : Option Addr) (c : Nat) (xs : List Int) (hl : xs.length ≤ 9223372036854775807) (w : World) (hx : RI w w.heap.size A xs) (hb : ∀ x ∈ xs, 0 ≤ x ∧ x < p) :
    Calls Try.prog 67 #[.agg #[.int .i64 p, .int .i64 q, .int .i64 g], .slice A xs.length c] w fun en w' => en = .returned (.int .i64 (M.mulL p xs)) ∧ Below w.heap.size w w' := by
  have g3 := hG.p3
  have g4 := hG.pM
  clear hG
  have hx2 := hx.new (.cells #[.int .i64 p, .int .i64 q, .int .i64 g] 33)
  have HB := Lib.hid hb
  clear hx hb
  go_enter Try.func67, Try.ntmps67
  go_wp2
  go_loop [5, 7, 10] (fun O _ I => ∃ k : Nat, k ≤ xs.length ∧ I = .int .i64 k ∧ O = .int .i64 (M.mulL p (xs.take k))) (fun _ _ I => xs.length - (intOf I).toNat)
  case atStart => exact ⟨0, by omega, rfl, rfl⟩
  case round =>
    obtain ⟨k, hk, rfl, rfl⟩ := hrel
    obtain ⟨o1, o2⟩ := mulL_bd g3 (xs.take k)
    by_cases hlt : k < xs.length
    · obtain ⟨ad, rfl, had, hc⟩ := hx2.at_ hlt
      have HX := Lib.hid hx2; clear hx2
      obtain ⟨b1, b2⟩ := HB.out xs[k] (List.getElem_mem hlt)
      obtain ⟨q1, q2⟩ := M.mul_fit ⟨o1, o2⟩ ⟨b1, b2⟩ g4
      have HE := Lib.hid (show M.mulL p (xs.take (k + 1)) = M.mulL p (xs.take k) * xs[k] % p by rw [List.take_succ_eq_append_getElem hlt, M.mulL_snoc])
      go_wp2
      go_round
      case rel => exact ⟨k + 1, by omega, by go_num, by rw [HE.out]⟩
      case measure => simp [intOf]; omega
    · have HX := Lib.hid hx2; clear hx2
      go_wp2
      go_ret
      exact ⟨ret_int (by rw [List.take_of_length_le (by omega)]), below_new w _⟩
theorem gMul2_any (p q g a b : Int) (hG : M.Grp p q g) (ha : 0 ≤ a ∧ a < p) (hb : 0 ≤ b ∧ b < p) (A : Option Addr) (c : Nat) (w : World) (hx : RI w w.heap.size A [a, b]) :
    Calls Try.prog 67 #[.agg #[.int .i64 p, .int .i64 q, .int .i64 g], .slice A 2 c] w fun en w' => en = .returned (.int .i64 (a * b % p)) ∧ Below w.heap.size w w' :=
  (gMul_any p q g hG A c [a, b] (by simp) w hx (by intro x h; simp at h; rcases h with rfl | rfl <;> assumption)).mono fun _ _ ⟨h1, h2⟩ => ⟨h1.trans (ret_int (M.mulL_two ha)), h2⟩
set_option maxHeartbeats 400000 in
theorem inv_any (p q g x : Int) (hG : M.Grp p q g) (hx : 0 ≤ x ∧ x < p) (w : World) :
    Calls Try.prog 159 #[.agg #[.int .i64 p, .int .i64 q, .int .i64 g], .int .i64 x] w fun en w' => en = .returned (.int .i64 (M.gpw p q x (-1))) ∧ Below w.heap.size w w' := by
  have hB0 : Below (w.alloc (.cells #[.int .i64 p, .int .i64 q, .int .i64 g] 33)).heap.size (w.alloc (.cells #[.int .i64 p, .int .i64 q, .int .i64 g] 33)) (w.alloc (.cells #[.int .i64 p, .int .i64 q, .int .i64 g] 33)) := Below.refl _ _
  have hT0 : Below w.heap.size w (w.alloc (.cells #[.int .i64 p, .int .i64 q, .int .i64 g] 33)) := by repeat (first | exact Below.refl _ _ | refine bnew ?_ _)
  go_enter Try.func159, Try.ntmps159
  go_wp2_with fail
  refine (pow_any p q g x (-1) hG hx (by omega) _).mono ?_
  rintro e1 w1 ⟨rfl, hb1⟩
  have hB1 : Below (w.alloc (.cells #[.int .i64 p, .int .i64 q, .int .i64 g] 33)).heap.size (w.alloc (.cells #[.int .i64 p, .int .i64 q, .int .i64 g] 33)) w1 := bnext (by repeat (first | exact hB0 | refine bnew ?_ _ | refine Below.drew ?_ | refine Below.drewN ?_ _ | (refine below_set _ ?_ ?_; rotate_left; focus (first | omega | (simp; done) | (simp <;> omega))))) hb1
  have hT1 : Below w.heap.size w w1 := bnext (by repeat (first | exact hT0 | refine bnew ?_ _ | refine Below.drew ?_ | refine Below.drewN ?_ _ | (refine below_set _ ?_ ?_; rotate_left; focus (first | omega | (simp; done) | (simp <;> omega))))) hb1
  obtain ⟨hc1, hf1⟩ := bcell hB1
  go_wp2
  go_ret
  exact ⟨rfl, hT1⟩
set_option maxHeartbeats 400000 in
theorem gInv_any (p q g x : Int) (hG : M.Grp p q g) (hx : 0 ≤ x ∧ x < p) (w : World) :
    Calls Try.prog 158 #[.agg #[.int .i64 p, .int .i64 q, .int .i64 g], .int .i64 x] w fun en w' => en = .returned (.int .i64 (M.gpw p q x (-1))) ∧ Below w.heap.size w w' := by
  have g1 := hG.q2
  have g2 := hG.qp
  have g3 := hG.p3
  have g4 := hG.pM
  clear hG
  have hB0 : Below (w.alloc (.cells #[.int .i64 p, .int .i64 q, .int .i64 g] 33)).heap.size (w.alloc (.cells #[.int .i64 p, .int .i64 q, .int .i64 g] 33)) (w.alloc (.cells #[.int .i64 p, .int .i64 q, .int .i64 g] 33)) := Below.refl _ _
  have hT0 : Below w.heap.size w (w.alloc (.cells #[.int .i64 p, .int .i64 q, .int .i64 g] 33)) := by repeat (first | exact Below.refl _ _ | refine bnew ?_ _)
  go_enter Try.func158, Try.ntmps158
  go_wp2_with fail
  refine (nPower_any x (q - 1) p _ (by omega) hx (by omega)).mono ?_
  rintro e1 w1 ⟨rfl, rfl⟩
  go_wp2
  go_ret
  exact ⟨ret_int (M.gpw_pred g1), hT0⟩
set_option maxHeartbeats 800000 in
theorem powers_any (p q g : Int) (hG : M.Grp p q g) (A E : Option Addr) (c d : Nat) (xs es : List Int) (hl : xs.length ≤ 9223372036854775807) (hle : xs.length ≤ es.length) (w : World) (hx : RI w w.heap.size A xs) (he : RI w w.heap.size E es) (hb : ∀ x ∈ xs, 0 ≤ x ∧ x < p) (hbe : ∀ e ∈ es, 0 ≤ e ∧ e < q) :
    Calls Try.prog 163 #[.agg #[.int .i64 p, .int .i64 q, .int .i64 g], .slice A xs.length c, .slice E es.length d] w fun en w' => en = .returned (.int .i64 (M.powL p q 1 xs es)) ∧ Below w.heap.size w w' := by
  have g1 := hG.q2
  have g2 := hG.qp
  have g3 := hG.p3
  have g4 := hG.pM
  have HG := Lib.hid hG
  clear hG
  have HB := Lib.hid hb
  have HE := Lib.hid hbe
  clear hb hbe
  go_enter Try.func163, Try.ntmps163
  go_wp2
  go_loopw [7, 8, 9, 12] (fun O _ _ I W => ∃ k : Nat, k ≤ xs.length ∧ I = .int .i64 k ∧ O = .int .i64 (M.powL p q 1 (xs.take k) (es.take k)) ∧ Below (w.alloc (.cells #[.int .i64 p, .int .i64 q, .int .i64 g] 33)).heap.size (w.alloc (.cells #[.int .i64 p, .int .i64 q, .int .i64 g] 33)) W) (fun _ _ _ I _ => xs.length - (intOf I).toNat)
  case atStart => exact ⟨0, by omega, rfl, by unfold M.powL; rfl, Below.refl _ _⟩
  case round =>
    obtain ⟨k, hk, rfl, rfl, hB⟩ := hrel
    obtain ⟨o1, o2⟩ := M.powL_lt (p := p) (q := q) (by omega) (xs.take k) (es.take k) 1 (by omega)
    have hT := bnext (below_new w (.cells #[.int .i64 p, .int .i64 q, .int .i64 g] 33)) hB
    obtain ⟨hcc, hff⟩ := bcell hB
    by_cases hlt : k < xs.length
    · obtain ⟨ad, rfl, had, hc⟩ := (hx.next hT).at_ hlt
      obtain ⟨ad2, rfl, had2, hc2⟩ := (he.next hT).at_ (show k < es.length by omega)
      have HX := Lib.hid hx; clear hx
      have HY := Lib.hid he; clear he
      obtain ⟨b1, b2⟩ := HB.out xs[k] (List.getElem_mem hlt)
      obtain ⟨b3, b4⟩ := HE.out (es[k]'(by omega)) (List.getElem_mem (by omega))
      obtain ⟨b5, b6⟩ := M.gpw_lt (p := p) (q := q) (x := xs[k]) (e := es[k]'(by omega)) g3
      obtain ⟨q1, q2⟩ := M.mul_fit ⟨o1, o2⟩ ⟨b5, b6⟩ g4
      have HR := Lib.hid (M.powL_take (p := p) (q := q) xs es 1 k hlt (by omega))
      have hq1 : IntKind.i64.wrap (M.powL p q 1 (xs.take k) (es.take k) * M.gpw p q xs[k] (es[k]'(by omega))) = M.powL p q 1 (xs.take k) (es.take k) * M.gpw p q xs[k] (es[k]'(by omega)) := IntWalk.i64_in _ (by omega)
      have hq2 : (M.powL p q 1 (xs.take k) (es.take k) * M.gpw p q xs[k] (es[k]'(by omega))).tmod p = M.powL p q 1 (xs.take k) (es.take k) * M.gpw p q xs[k] (es[k]'(by omega)) % p := Int.tmod_eq_emod_of_nonneg q1
      have hq3 : (p == 0) = false := by simp; omega
      have hq4 : ¬ p = 0 := by omega
      have i1 : (0 : Int) ≤ (k : Int) := by omega
      have i2 : (k : Int) < (es.length : Int) := by omega
      have i3 : k < es.length := by omega
      go_wp2_with fail
      go_region_held3 (fun W' => W'.cell? ⟨w.heap.size, 0, none⟩ = some (.int .i64 p) ∧ W'.cell? ⟨w.heap.size, 1, none⟩ = some (.int .i64 q) ∧ W'.cell? ⟨w.heap.size, 2, none⟩ = some (.int .i64 g) ∧ W'.cell? (ad2.add k) = some (.int .i64 (es[k]'i3)) ∧ Below (w.alloc (.cells #[.int .i64 p, .int .i64 q, .int .i64 g] 33)).heap.size (w.alloc (.cells #[.int .i64 p, .int .i64 q, .int .i64 g] 33)) W') ((go_split_ands; refine ⟨?_, ?_, ?_, ?_, ?_⟩; (first | with_reducible exact cell_keep (by with_reducible assumption) (by with_reducible assumption) | with_reducible exact cell_keep (below_new _ _) (by with_reducible assumption) | (with_reducible refine cell_set _ ?_ (by simp); (repeat with_reducible refine cell_set _ ?_ (by simp)); with_reducible assumption) | with_reducible exact cell_drew (by with_reducible assumption) | go_keep); (first | with_reducible exact cell_keep (by with_reducible assumption) (by with_reducible assumption) | with_reducible exact cell_keep (below_new _ _) (by with_reducible assumption) | (with_reducible refine cell_set _ ?_ (by simp); (repeat with_reducible refine cell_set _ ?_ (by simp)); with_reducible assumption) | with_reducible exact cell_drew (by with_reducible assumption) | go_keep); (first | with_reducible exact cell_keep (by with_reducible assumption) (by with_reducible assumption) | with_reducible exact cell_keep (below_new _ _) (by with_reducible assumption) | (with_reducible refine cell_set _ ?_ (by simp); (repeat with_reducible refine cell_set _ ?_ (by simp)); with_reducible assumption) | with_reducible exact cell_drew (by with_reducible assumption) | go_keep); (first | with_reducible exact cell_keep (by with_reducible assumption) (by with_reducible assumption) | with_reducible exact cell_keep (below_new _ _) (by with_reducible assumption) | (with_reducible refine cell_set _ ?_ (by simp); (repeat with_reducible refine cell_set _ ?_ (by simp)); with_reducible assumption) | with_reducible exact cell_drew (by with_reducible assumption) | go_keep); (repeat (first | with_reducible assumption | with_reducible refine bnext ?_ (by with_reducible assumption) | with_reducible refine bnew ?_ _ | with_reducible refine below_set _ ?_ (by simp) | with_reducible refine Below.drew ?_ | with_reducible refine Below.drewN ?_ _)); done)) (first | (go_at_call 77; refine (pow_any _ _ _ _ _ HG.out ⟨b1, b2⟩ (by omega) _).mono ?_; rintro e9 w9 ⟨rfl, hb9⟩) | (go_at_call 75; refine (mul2_any _ _ _ _ _ HG.out ⟨o1, o2⟩ ⟨b5, b6⟩ _ _ _ (RI.lit2 _ _ _ _ (by simp))).mono ?_; rintro e9 w9 ⟨rfl, hb9⟩))
      go_wp2
      go_roundw
      case rel => exact ⟨k + 1, by omega, by go_num, by rw [HR.out], by first | exact (by assumption : _ ∧ _ ∧ _ ∧ _ ∧ _).2.2.2.2 | assumption⟩
      case measure => simp [intOf]; omega
    · have HX := Lib.hid hx; clear hx
      have HY := Lib.hid he; clear he
      go_wp2
      go_ret
      exact ⟨ret_int (by rw [show k = xs.length by omega, List.take_length]; exact M.powL_full xs es 1 hle), hT⟩
set_option maxHeartbeats 800000 in
theorem gProd_any (p q g : Int) (hG : M.Grp p q g) (A E : Option Addr) (c d : Nat) (xs es : List Int) (hl : xs.length ≤ 9223372036854775807) (hle : xs.length ≤ es.length) (w : World) (hx : RI w w.heap.size A xs) (he : RI w w.heap.size E es) (hb : ∀ x ∈ xs, 0 ≤ x ∧ x < p) (hbe : ∀ e ∈ es, 0 ≤ e ∧ e < q) :
    Calls Try.prog 144 #[.agg #[.int .i64 p, .int .i64 q, .int .i64 g], .slice A xs.length c, .slice E es.length d] w fun en w' => en = .returned (.int .i64 (M.powL p q 1 xs es)) ∧ Below w.heap.size w w' := by
  have g1 := hG.q2
  have g2 := hG.qp
  have g3 := hG.p3
  have g4 := hG.pM
  have HG := Lib.hid hG
  clear hG
  have HB := Lib.hid hb
  have HE := Lib.hid hbe
  clear hb hbe
  go_enter Try.func144, Try.ntmps144
  go_wp2
  go_loopw [7, 8, 9, 12] (fun O _ _ I W => ∃ k : Nat, k ≤ xs.length ∧ I = .int .i64 k ∧ O = .int .i64 (M.powL p q 1 (xs.take k) (es.take k)) ∧ Below (w.alloc (.cells #[.int .i64 p, .int .i64 q, .int .i64 g] 33)).heap.size (w.alloc (.cells #[.int .i64 p, .int .i64 q, .int .i64 g] 33)) W) (fun _ _ _ I _ => xs.length - (intOf I).toNat)
  case atStart => exact ⟨0, by omega, rfl, by unfold M.powL; rfl, Below.refl _ _⟩
  case round =>
    obtain ⟨k, hk, rfl, rfl, hB⟩ := hrel
    obtain ⟨o1, o2⟩ := M.powL_lt (p := p) (q := q) (by omega) (xs.take k) (es.take k) 1 (by omega)
    have hT := bnext (below_new w (.cells #[.int .i64 p, .int .i64 q, .int .i64 g] 33)) hB
    obtain ⟨hcc, hff⟩ := bcell hB
    by_cases hlt : k < xs.length
    · obtain ⟨ad, rfl, had, hc⟩ := (hx.next hT).at_ hlt
      obtain ⟨ad2, rfl, had2, hc2⟩ := (he.next hT).at_ (show k < es.length by omega)
      have HX := Lib.hid hx; clear hx
      have HY := Lib.hid he; clear he
      obtain ⟨b1, b2⟩ := HB.out xs[k] (List.getElem_mem hlt)
      obtain ⟨b3, b4⟩ := HE.out (es[k]'(by omega)) (List.getElem_mem (by omega))
      obtain ⟨b5, b6⟩ := M.gpw_lt (p := p) (q := q) (x := xs[k]) (e := es[k]'(by omega)) g3
      obtain ⟨q1, q2⟩ := M.mul_fit ⟨o1, o2⟩ ⟨b5, b6⟩ g4
      have HR := Lib.hid (M.powL_take (p := p) (q := q) xs es 1 k hlt (by omega))
      have hq1 : IntKind.i64.wrap (M.powL p q 1 (xs.take k) (es.take k) * M.gpw p q xs[k] (es[k]'(by omega))) = M.powL p q 1 (xs.take k) (es.take k) * M.gpw p q xs[k] (es[k]'(by omega)) := IntWalk.i64_in _ (by omega)
      have hq2 : (M.powL p q 1 (xs.take k) (es.take k) * M.gpw p q xs[k] (es[k]'(by omega))).tmod p = M.powL p q 1 (xs.take k) (es.take k) * M.gpw p q xs[k] (es[k]'(by omega)) % p := Int.tmod_eq_emod_of_nonneg q1
      have hq3 : (p == 0) = false := by simp; omega
      have hq4 : ¬ p = 0 := by omega
      have i1 : (0 : Int) ≤ (k : Int) := by omega
      have i2 : (k : Int) < (es.length : Int) := by omega
      have i3 : k < es.length := by omega
      go_wp2_with fail
      go_region_held3 (fun W' => W'.cell? ⟨w.heap.size, 0, none⟩ = some (.int .i64 p) ∧ W'.cell? ⟨w.heap.size, 1, none⟩ = some (.int .i64 q) ∧ W'.cell? ⟨w.heap.size, 2, none⟩ = some (.int .i64 g) ∧ W'.cell? (ad2.add k) = some (.int .i64 (es[k]'i3)) ∧ Below (w.alloc (.cells #[.int .i64 p, .int .i64 q, .int .i64 g] 33)).heap.size (w.alloc (.cells #[.int .i64 p, .int .i64 q, .int .i64 g] 33)) W') ((go_split_ands; refine ⟨?_, ?_, ?_, ?_, ?_⟩; (first | with_reducible exact cell_keep (by with_reducible assumption) (by with_reducible assumption) | with_reducible exact cell_keep (below_new _ _) (by with_reducible assumption) | (with_reducible refine cell_set _ ?_ (by simp); (repeat with_reducible refine cell_set _ ?_ (by simp)); with_reducible assumption) | with_reducible exact cell_drew (by with_reducible assumption) | go_keep); (first | with_reducible exact cell_keep (by with_reducible assumption) (by with_reducible assumption) | with_reducible exact cell_keep (below_new _ _) (by with_reducible assumption) | (with_reducible refine cell_set _ ?_ (by simp); (repeat with_reducible refine cell_set _ ?_ (by simp)); with_reducible assumption) | with_reducible exact cell_drew (by with_reducible assumption) | go_keep); (first | with_reducible exact cell_keep (by with_reducible assumption) (by with_reducible assumption) | with_reducible exact cell_keep (below_new _ _) (by with_reducible assumption) | (with_reducible refine cell_set _ ?_ (by simp); (repeat with_reducible refine cell_set _ ?_ (by simp)); with_reducible assumption) | with_reducible exact cell_drew (by with_reducible assumption) | go_keep); (first | with_reducible exact cell_keep (by with_reducible assumption) (by with_reducible assumption) | with_reducible exact cell_keep (below_new _ _) (by with_reducible assumption) | (with_reducible refine cell_set _ ?_ (by simp); (repeat with_reducible refine cell_set _ ?_ (by simp)); with_reducible assumption) | with_reducible exact cell_drew (by with_reducible assumption) | go_keep); (repeat (first | with_reducible assumption | with_reducible refine bnext ?_ (by with_reducible assumption) | with_reducible refine bnew ?_ _ | with_reducible refine below_set _ ?_ (by simp) | with_reducible refine Below.drew ?_ | with_reducible refine Below.drewN ?_ _)); done)) (first | (go_at_call 69; refine (gExp_any _ _ _ _ _ HG.out ⟨b1, b2⟩ (by omega) _).mono ?_; rintro e9 w9 ⟨rfl, hb9⟩))
      go_wp2
      go_roundw
      case rel => exact ⟨k + 1, by omega, by go_num, by rw [HR.out], by first | exact (by assumption : _ ∧ _ ∧ _ ∧ _ ∧ _).2.2.2.2 | assumption⟩
      case measure => simp [intOf]; omega
    · have HX := Lib.hid hx; clear hx
      have HY := Lib.hid he; clear he
      go_wp2
      go_ret
      exact ⟨ret_int (by rw [show k = xs.length by omega, List.take_length]; exact M.powL_full xs es 1 hle), hT⟩
end Go.Proofs.Ytljlimlgdnbllaa
