import Derived.Test.YtgnnmifpfgpllaaGreatZN1
import Derived.Test.YtgnnmifpfgpllaaGreatZKit
/- Walks: shares against commitments. -/
set_option linter.all false
set_option linter.unusedVariables false
set_option linter.unusedSimpArgs false
namespace Go.Proofs.YtgnnmifpfgpllaaGreat
open Go.RowKit
/-- commitAt: the product and the next power -/
def atS (p q i : Int) (l : List Int) : Int × Int := l.foldl (fun s c => (s.1 * M.gpw p q c s.2 % p, s.2 * i % q)) (1, 1)
def atV (p q i : Int) (l : List Int) : Int := (atS p q i l).1
theorem atS_snoc (p q i : Int) (l : List Int) (c : Int) : atS p q i (l ++ [c]) = ((atS p q i l).1 * M.gpw p q c (atS p q i l).2 % p, (atS p q i l).2 * i % q) := by unfold atS; rw [List.foldl_append]; rfl
theorem atS_lt {p q i : Int} (hp : 3 ≤ p) (hq : 2 ≤ q) (l : List Int) : (0 ≤ (atS p q i l).1 ∧ (atS p q i l).1 < p) ∧ (0 ≤ (atS p q i l).2 ∧ (atS p q i l).2 < q) := by
  rcases List.eq_nil_or_concat l with rfl | ⟨l', x, rfl⟩
  · unfold atS; simp; omega
  · rw [List.concat_eq_append, atS_snoc]
    exact ⟨⟨Int.emod_nonneg _ (by omega), Int.emod_lt_of_pos _ (by omega)⟩, ⟨Int.emod_nonneg _ (by omega), Int.emod_lt_of_pos _ (by omega)⟩⟩
theorem small_mul {e i q : Int} (he : 0 ≤ e ∧ e < q) (hi : 0 ≤ i ∧ i ≤ 7) (hq : q ≤ 2000000000) : 0 ≤ e * i ∧ e * i ≤ 14000000000 := by
  refine ⟨Int.mul_nonneg he.1 hi.1, ?_⟩
  have h1 : e * i ≤ e * 7 := Int.mul_le_mul_of_nonneg_left hi.2 he.1
  omega
set_option maxHeartbeats 800000 in
theorem commitAt_any (p q g i : Int) (hG : M.Grp p q g) (A : Option Addr) (c : Nat) (xs : List Int) (hl : xs.length ≤ 9223372036854775807) (hi : 0 ≤ i ∧ i ≤ 7) (w : World) (hx : RI w w.heap.size A xs) (hb : ∀ x ∈ xs, 0 ≤ x ∧ x < p) :
    Calls Tryz.prog 62 #[.agg #[.int .i64 p, .int .i64 q, .int .i64 g], .slice A xs.length c, .int .i64 i] w fun en w' => en = .returned (.int .i64 (atV p q i xs)) ∧ Below w.heap.size w w' := by
  have g1 := hG.q2
  have g2 := hG.qp
  have g3 := hG.p3
  have g4 := hG.pM
  have HG := Lib.hid hG
  clear hG
  have HB := Lib.hid hb
  clear hb
  go_enter Tryz.func62, Tryz.ntmps62
  go_wp2
  go_loopw [7, 8, 10, 13] (fun O E _ I W => ∃ k : Nat, k ≤ xs.length ∧ I = .int .i64 k ∧ O = .int .i64 (atS p q i (xs.take k)).1 ∧ E = .int .i64 (atS p q i (xs.take k)).2 ∧ Below (w.alloc (.cells #[.int .i64 p, .int .i64 q, .int .i64 g] 31)).heap.size (w.alloc (.cells #[.int .i64 p, .int .i64 q, .int .i64 g] 31)) W) (fun _ _ _ I _ => xs.length - (intOf I).toNat)
  case atStart => exact ⟨0, by omega, rfl, rfl, rfl, Below.refl _ _⟩
  case round =>
    obtain ⟨k, hk, rfl, rfl, rfl, hB⟩ := hrel
    obtain ⟨o1, o2⟩ := atS_lt (i := i) g3 g1 (xs.take k)
    generalize ho : (atS p q i (xs.take k)).1 = o at *
    generalize he : (atS p q i (xs.take k)).2 = e at *
    have HO := Lib.hid ho
    have HE := Lib.hid he
    clear ho he
    have hT := bnext (below_new w (.cells #[.int .i64 p, .int .i64 q, .int .i64 g] 31)) hB
    obtain ⟨hcc, hff⟩ := bcell hB
    by_cases hlt : k < xs.length
    · obtain ⟨ad, rfl, had, hc⟩ := (hx.next hT).at_ hlt
      have HX := Lib.hid hx; clear hx
      obtain ⟨b1, b2⟩ := HB.out xs[k] (List.getElem_mem hlt)
      have bx : 0 ≤ xs[k] ∧ xs[k] < p := ⟨b1, b2⟩
      obtain ⟨m1, m2⟩ := small_mul o2 hi (by omega)
      have hm3 : IntKind.i64.wrap (e * i) = e * i := IntWalk.i64_in _ (by omega)
      have HR := Lib.hid (show atS p q i (xs.take (k + 1)) = (o * M.gpw p q xs[k] e % p, e * i % q) by rw [List.take_succ_eq_append_getElem hlt, atS_snoc, HO.out, HE.out])
      go_wp2_with fail
      go_region_held3 (fun W' => W'.cell? ⟨w.heap.size, 0, none⟩ = some (.int .i64 p) ∧ W'.cell? ⟨w.heap.size, 1, none⟩ = some (.int .i64 q) ∧ W'.cell? ⟨w.heap.size, 2, none⟩ = some (.int .i64 g) ∧ Below (w.alloc (.cells #[.int .i64 p, .int .i64 q, .int .i64 g] 31)).heap.size (w.alloc (.cells #[.int .i64 p, .int .i64 q, .int .i64 g] 31)) W') ((go_split_ands; refine ⟨?_, ?_, ?_, ?_⟩; (first | with_reducible exact cell_keep (by with_reducible assumption) (by with_reducible assumption) | with_reducible exact cell_keep (below_new _ _) (by with_reducible assumption) | (with_reducible refine cell_set _ ?_ (by simp); (repeat with_reducible refine cell_set _ ?_ (by simp)); with_reducible assumption) | with_reducible exact cell_drew (by with_reducible assumption) | go_keep); (first | with_reducible exact cell_keep (by with_reducible assumption) (by with_reducible assumption) | with_reducible exact cell_keep (below_new _ _) (by with_reducible assumption) | (with_reducible refine cell_set _ ?_ (by simp); (repeat with_reducible refine cell_set _ ?_ (by simp)); with_reducible assumption) | with_reducible exact cell_drew (by with_reducible assumption) | go_keep); (first | with_reducible exact cell_keep (by with_reducible assumption) (by with_reducible assumption) | with_reducible exact cell_keep (below_new _ _) (by with_reducible assumption) | (with_reducible refine cell_set _ ?_ (by simp); (repeat with_reducible refine cell_set _ ?_ (by simp)); with_reducible assumption) | with_reducible exact cell_drew (by with_reducible assumption) | go_keep); (repeat (first | with_reducible assumption | with_reducible refine bnext ?_ (by with_reducible assumption) | with_reducible refine bnew ?_ _ | with_reducible refine below_set _ ?_ (by simp) | with_reducible refine Below.drew ?_ | with_reducible refine Below.drewN ?_ _)); done)) (first | (go_at_call 88; refine (pow_any _ _ _ _ _ HG.out (by assumption) (by omega) _).mono ?_; rintro e9 w9 ⟨rfl, hb9⟩) | (go_at_call 68; refine (mul2_any _ _ _ _ _ HG.out (by first | assumption | exact M.gpw_lt g3) (by first | assumption | exact M.gpw_lt g3) _ _ _ (RI.lit2 _ _ _ _ (by simp))).mono ?_; rintro e9 w9 ⟨rfl, hb9⟩) | (go_at_call 89; refine (exp_any _ _ _ _ _ (by omega) (by omega)).mono ?_; rintro e9 w9 ⟨rfl, hb9⟩))
      go_wp2
      go_roundw
      case rel => exact ⟨k + 1, by omega, by go_num, by rw [HR.out], by rw [HR.out], by first | exact (by assumption : _ ∧ _ ∧ _ ∧ _).2.2.2 | assumption⟩
      case measure => simp [intOf]; omega
    · have HX := Lib.hid hx; clear hx
      go_wp2
      go_ret
      exact ⟨ret_int (by unfold atV; rw [← HO.out, show k = xs.length by omega, List.take_length]), hT⟩
set_option maxHeartbeats 800000 in
theorem sAt_any (p q g i : Int) (hG : M.Grp p q g) (A : Option Addr) (c : Nat) (xs : List Int) (hl : xs.length ≤ 9223372036854775807) (hi : 0 ≤ i ∧ i ≤ 7) (w : World) (hx : RI w w.heap.size A xs) (hb : ∀ x ∈ xs, 0 ≤ x ∧ x < p) :
    Calls Tryz.prog 56 #[.agg #[.int .i64 p, .int .i64 q, .int .i64 g], .slice A xs.length c, .int .i64 i] w fun en w' => en = .returned (.int .i64 (atV p q i xs)) ∧ Below w.heap.size w w' := by
  have g1 := hG.q2
  have g2 := hG.qp
  have g3 := hG.p3
  have g4 := hG.pM
  have HG := Lib.hid hG
  clear hG
  have HB := Lib.hid hb
  clear hb
  go_enter Tryz.func56, Tryz.ntmps56
  go_wp2
  go_loopw [7, 8, 10, 13] (fun O E _ I W => ∃ k : Nat, k ≤ xs.length ∧ I = .int .i64 k ∧ O = .int .i64 (atS p q i (xs.take k)).1 ∧ E = .int .i64 (atS p q i (xs.take k)).2 ∧ Below (w.alloc (.cells #[.int .i64 p, .int .i64 q, .int .i64 g] 31)).heap.size (w.alloc (.cells #[.int .i64 p, .int .i64 q, .int .i64 g] 31)) W) (fun _ _ _ I _ => xs.length - (intOf I).toNat)
  case atStart => exact ⟨0, by omega, rfl, rfl, rfl, Below.refl _ _⟩
  case round =>
    obtain ⟨k, hk, rfl, rfl, rfl, hB⟩ := hrel
    obtain ⟨o1, o2⟩ := atS_lt (i := i) g3 g1 (xs.take k)
    generalize ho : (atS p q i (xs.take k)).1 = o at *
    generalize he : (atS p q i (xs.take k)).2 = e at *
    have HO := Lib.hid ho
    have HE := Lib.hid he
    clear ho he
    have hT := bnext (below_new w (.cells #[.int .i64 p, .int .i64 q, .int .i64 g] 31)) hB
    obtain ⟨hcc, hff⟩ := bcell hB
    by_cases hlt : k < xs.length
    · obtain ⟨ad, rfl, had, hc⟩ := (hx.next hT).at_ hlt
      have HX := Lib.hid hx; clear hx
      obtain ⟨b1, b2⟩ := HB.out xs[k] (List.getElem_mem hlt)
      have bx : 0 ≤ xs[k] ∧ xs[k] < p := ⟨b1, b2⟩
      obtain ⟨m1, m2⟩ := small_mul o2 hi (by omega)
      have hm3 : IntKind.i64.wrap (e * i) = e * i := IntWalk.i64_in _ (by omega)
      have HR := Lib.hid (show atS p q i (xs.take (k + 1)) = (o * M.gpw p q xs[k] e % p, e * i % q) by rw [List.take_succ_eq_append_getElem hlt, atS_snoc, HO.out, HE.out])
      go_wp2_with fail
      go_region_held3 (fun W' => W'.cell? ⟨w.heap.size, 0, none⟩ = some (.int .i64 p) ∧ W'.cell? ⟨w.heap.size, 1, none⟩ = some (.int .i64 q) ∧ W'.cell? ⟨w.heap.size, 2, none⟩ = some (.int .i64 g) ∧ Below (w.alloc (.cells #[.int .i64 p, .int .i64 q, .int .i64 g] 31)).heap.size (w.alloc (.cells #[.int .i64 p, .int .i64 q, .int .i64 g] 31)) W') ((go_split_ands; refine ⟨?_, ?_, ?_, ?_⟩; (first | with_reducible exact cell_keep (by with_reducible assumption) (by with_reducible assumption) | with_reducible exact cell_keep (below_new _ _) (by with_reducible assumption) | (with_reducible refine cell_set _ ?_ (by simp); (repeat with_reducible refine cell_set _ ?_ (by simp)); with_reducible assumption) | with_reducible exact cell_drew (by with_reducible assumption) | go_keep); (first | with_reducible exact cell_keep (by with_reducible assumption) (by with_reducible assumption) | with_reducible exact cell_keep (below_new _ _) (by with_reducible assumption) | (with_reducible refine cell_set _ ?_ (by simp); (repeat with_reducible refine cell_set _ ?_ (by simp)); with_reducible assumption) | with_reducible exact cell_drew (by with_reducible assumption) | go_keep); (first | with_reducible exact cell_keep (by with_reducible assumption) (by with_reducible assumption) | with_reducible exact cell_keep (below_new _ _) (by with_reducible assumption) | (with_reducible refine cell_set _ ?_ (by simp); (repeat with_reducible refine cell_set _ ?_ (by simp)); with_reducible assumption) | with_reducible exact cell_drew (by with_reducible assumption) | go_keep); (repeat (first | with_reducible assumption | with_reducible refine bnext ?_ (by with_reducible assumption) | with_reducible refine bnew ?_ _ | with_reducible refine below_set _ ?_ (by simp) | with_reducible refine Below.drew ?_ | with_reducible refine Below.drewN ?_ _)); done)) (first | (go_at_call 82; refine (gExp_any _ _ _ _ _ HG.out (by assumption) (by omega) _).mono ?_; rintro e9 w9 ⟨rfl, hb9⟩) | (go_at_call 81; refine (gMul2_any _ _ _ _ _ HG.out (by first | assumption | exact M.gpw_lt g3) (by first | assumption | exact M.gpw_lt g3) _ _ _ (RI.lit2 _ _ _ _ (by simp))).mono ?_; rintro e9 w9 ⟨rfl, hb9⟩))
      go_wp2
      go_roundw
      case rel => exact ⟨k + 1, by omega, by go_num, by rw [HR.out], by rw [HR.out], by first | exact (by assumption : _ ∧ _ ∧ _ ∧ _).2.2.2 | assumption⟩
      case measure => simp [intOf]; omega
    · have HX := Lib.hid hx; clear hx
      go_wp2
      go_ret
      exact ⟨ret_int (by unfold atV; rw [← HO.out, show k = xs.length by omega, List.take_length]), hT⟩
end Go.Proofs.YtgnnmifpfgpllaaGreat
