/- Walks of the group layer: elements, powers, products. -/
import Derived.Test.YtljlimlgdnbllaaN3
import Derived.Test.YtljlimlgdnbllaaMath2
import Derived.Deep.RegionHeld3
set_option linter.all false
set_option linter.unusedVariables false
set_option linter.unusedSimpArgs false
namespace Go.Proofs.Ytljlimlgdnbllaa
open Go.RowKit
theorem mul_fit' {p a b : Int} (ha : 0 ≤ a ∧ a < p) (hb : 0 ≤ b ∧ b < p) (hp : p ≤ 2000000000) : (0 ≤ a * b ∧ a * b < 4000000000000000000) := M.mul_fit ha hb hp
def elemB (p q x : Int) : Bool := decide (M.elem p q x)
theorem elemB_t {p q x : Int} (h : elemB p q x = true) : M.elem p q x := by unfold elemB at h; exact of_decide_eq_true h
theorem elemB_mk {p q x : Int} (h : M.elem p q x) : elemB p q x = true := by unfold elemB; exact decide_eq_true h
theorem elemB_eq {p q x : Int} {b : Bool} (h : b = true ↔ M.elem p q x) : elemB p q x = b := by
  cases b with
  | true => exact elemB_mk (h.1 rfl)
  | false => unfold elemB; exact decide_eq_false fun hg => by have := h.2 hg; cases this
theorem elem_bd {p q x : Int} (h : M.elem p q x) : 0 ≤ x ∧ x < p := ⟨by have := h.1.1; omega, h.1.2⟩
def elemsB (p q : Int) (l : List Int) : Bool := l.all fun x => elemB p q x
theorem elemsB_mem {p q : Int} {l : List Int} (h : elemsB p q l = true) {x : Int} (hx : x ∈ l) : M.elem p q x := elemB_t (List.all_eq_true.1 h x hx)
theorem elemsB_mk {p q : Int} {l : List Int} (h : ∀ x ∈ l, M.elem p q x) : elemsB p q l = true := List.all_eq_true.2 fun x hx => elemB_mk (h x hx)
set_option maxHeartbeats 400000 in
theorem has_any (p q g x : Int) (hG : M.Grp p q g) (w : World) :
    Calls Try.prog 74 #[.agg #[.int .i64 p, .int .i64 q, .int .i64 g], .int .i64 x] w fun en w' => en = .returned (.bool (elemB p q x)) ∧ Below w.heap.size w w' := by
  have g1 := hG.q2
  have g2 := hG.qp
  have g3 := hG.p3
  have g4 := hG.pM
  clear hG
  have hB0 : Below (w.alloc (.cells #[.int .i64 p, .int .i64 q, .int .i64 g] 33)).heap.size (w.alloc (.cells #[.int .i64 p, .int .i64 q, .int .i64 g] 33)) (w.alloc (.cells #[.int .i64 p, .int .i64 q, .int .i64 g] 33)) := Below.refl _ _
  have hT0 : Below w.heap.size w (w.alloc (.cells #[.int .i64 p, .int .i64 q, .int .i64 g] 33)) := by repeat (first | exact Below.refl _ _ | refine bnew ?_ _)
  go_enter Try.func74, Try.ntmps74
  go_wp2_with fail
  refine (within_any _ _ _ _).mono ?_
  rintro e1 w1 ⟨rfl, rfl⟩
  rcases Bool.eq_false_or_eq_true (inr x 1 (p - 1)) with h | h
  rotate_left
  · go_wp2
    go_ret
    exact ⟨ret_bool (elemB_eq ⟨fun hh => (Bool.noConfusion hh), fun hh => absurd ⟨hh.1.1, by have := hh.1.2; omega⟩ (inr_f h)⟩).symm, hT0⟩
  obtain ⟨x1, x2⟩ := inr_t h
  go_wp2_with fail
  refine (power_any _ _ _ _ (by omega) (by omega) (by omega)).mono ?_
  rintro e2 w2 ⟨rfl, rfl⟩
  go_wp2
  go_ret
  exact ⟨ret_bool (elemB_eq ⟨fun hh => ⟨by omega, by simpa using hh⟩, fun hh => by simpa using hh.2⟩).symm, hT0⟩
set_option maxHeartbeats 400000 in
theorem hasAll_any (p q g : Int) (hG : M.Grp p q g) (A : Option Addr) (c : Nat) (xs : List Int) (hl : xs.length ≤ 9223372036854775807) (w : World) (hx : RI w w.heap.size A xs) :
    Calls Try.prog 72 #[.agg #[.int .i64 p, .int .i64 q, .int .i64 g], .slice A xs.length c] w fun en w' => en = .returned (.bool (elemsB p q xs)) ∧ Below w.heap.size w w' := by
  have hmf : ∀ (fn : Fn) (first cap : Array Value) (w : World), (Instr.makeFunc fn first cap).run Try.prog w = .ok (.func fn first cap) w := fun _ _ _ _ => rfl
  have heg : ∀ args w, (callFunc 74 args).run Try.prog w = .ok (.enter 74 args) w := enters_of Try.func74 (by kernel_rfl) rfl
  have H := Lib.hid (areAll_any 74 #[.agg #[.int .i64 p, .int .i64 q, .int .i64 g]] #[] (fun x => elemB p q x) A c xs (w.alloc (.cells #[.int .i64 p, .int .i64 q, .int .i64 g] 33)) heg (hx.new _) hl fun x _ W _ => has_any p q g x hG W)
  clear hx heg hG
  have hB0 : Below (w.alloc (.cells #[.int .i64 p, .int .i64 q, .int .i64 g] 33)).heap.size (w.alloc (.cells #[.int .i64 p, .int .i64 q, .int .i64 g] 33)) (w.alloc (.cells #[.int .i64 p, .int .i64 q, .int .i64 g] 33)) := Below.refl _ _
  have hT0 : Below w.heap.size w (w.alloc (.cells #[.int .i64 p, .int .i64 q, .int .i64 g] 33)) := by repeat (first | exact Below.refl _ _ | refine bnew ?_ _)
  go_enter Try.func72, Try.ntmps72
  go_wp2_with fail
  refine (H.out).mono ?_
  rintro e1 w1 ⟨rfl, hb1⟩
  have hB1 : Below (w.alloc (.cells #[.int .i64 p, .int .i64 q, .int .i64 g] 33)).heap.size (w.alloc (.cells #[.int .i64 p, .int .i64 q, .int .i64 g] 33)) w1 := bnext (by repeat (first | exact hB0 | refine bnew ?_ _ | refine Below.drew ?_ | refine Below.drewN ?_ _)) hb1
  have hT1 : Below w.heap.size w w1 := bnext (by repeat (first | exact hT0 | refine bnew ?_ _ | refine Below.drew ?_ | refine Below.drewN ?_ _)) hb1
  obtain ⟨hc1, hf1⟩ := bcell hB1
  go_wp2
  go_ret
  exact ⟨rfl, hT1⟩
set_option maxHeartbeats 400000 in
theorem gIs_any (p q g : Int) (hG : M.Grp p q g) (A : Option Addr) (c : Nat) (xs : List Int) (hl : xs.length ≤ 9223372036854775807) (w : World) (hx : RI w w.heap.size A xs) :
    Calls Try.prog 64 #[.agg #[.int .i64 p, .int .i64 q, .int .i64 g], .slice A xs.length c] w fun en w' => en = .returned (.bool (elemsB p q xs)) ∧ Below w.heap.size w w' := by
  have g1 := hG.q2
  have g2 := hG.qp
  have g3 := hG.p3
  have g4 := hG.pM
  clear hG
  have hx2 := hx.new (.cells #[.int .i64 p, .int .i64 q, .int .i64 g] 33)
  clear hx
  go_enter Try.func64, Try.ntmps64
  go_wp2
  go_loop [6, 9] (fun _ I => ∃ k : Nat, k ≤ xs.length ∧ I = .int .i64 k ∧ ∀ j (h : j < xs.length), j < k → M.elem p q xs[j]) (fun _ I => xs.length - (intOf I).toNat)
  case atStart => exact ⟨0, by omega, rfl, fun j h hj => by omega⟩
  case round =>
    obtain ⟨k, hk, rfl, hn⟩ := hrel
    have HN := Lib.hid hn; clear hn
    by_cases hlt : k < xs.length
    · obtain ⟨ad, rfl, had, hc⟩ := hx2.at_ hlt
      have HX := Lib.hid hx2; clear hx2
      rcases Bool.eq_false_or_eq_true (inr xs[k] 1 (p - 1)) with h | h
      rotate_left
      · go_wp2_with (first | (go_at_call 63; refine (l1In_any _ _ _ _).mono ?_; rintro e w' ⟨rfl, rfl⟩))
        go_ret
        exact ⟨ret_bool (List.all_eq_false.2 ⟨_, List.getElem_mem hlt, by
          have hne : ¬ M.elem p q xs[k] := fun hh => absurd ⟨hh.1.1, by have := hh.1.2; omega⟩ (inr_f h)
          intro h9; exact hne (elemB_t h9)⟩).symm, below_new w _⟩
      · obtain ⟨x1, x2⟩ := inr_t h
        rcases Bool.eq_false_or_eq_true (M.pw xs[k] q p != 1) with h9 | h9
        · go_wp2_with (first | (go_at_call 63; refine (l1In_any _ _ _ _).mono ?_; rintro e w' ⟨rfl, rfl⟩) | (go_at_call 124; refine (nPower_any _ _ _ _ (by omega) (by omega) (by omega)).mono ?_; rintro e w' ⟨rfl, rfl⟩))
          go_ret
          exact ⟨ret_bool (List.all_eq_false.2 ⟨_, List.getElem_mem hlt, by
            have hne : ¬ M.elem p q xs[k] := fun hh => by have := hh.2; simp [this] at h9
            intro h9; exact hne (elemB_t h9)⟩).symm, below_new w _⟩
        · go_wp2_with (first | (go_at_call 63; refine (l1In_any _ _ _ _).mono ?_; rintro e w' ⟨rfl, rfl⟩) | (go_at_call 124; refine (nPower_any _ _ _ _ (by omega) (by omega) (by omega)).mono ?_; rintro e w' ⟨rfl, rfl⟩))
          go_round
          case rel => exact ⟨k + 1, by omega, by go_num, fun j h hj => by
            rcases Nat.lt_or_eq_of_le (Nat.le_of_lt_succ hj) with h1 | rfl
            · exact HN.out j h h1
            · exact ⟨⟨by omega, by omega⟩, by simpa using h9⟩⟩
          case measure => simp [intOf]; omega
    · have HX := Lib.hid hx2; clear hx2
      go_wp2
      go_ret
      exact ⟨ret_bool (List.all_eq_true.2 fun x hx => by
        obtain ⟨j, hj, rfl⟩ := List.getElem_of_mem hx
        exact elemB_mk (HN.out j hj (by omega))).symm, below_new w _⟩
set_option maxHeartbeats 400000 in
theorem pow_any (p q g x e : Int) (hG : M.Grp p q g) (hx : 0 ≤ x ∧ x < p) (he : -9000000000000000000 ≤ e ∧ e ≤ 9000000000000000000) (w : World) :
    Calls Try.prog 77 #[.agg #[.int .i64 p, .int .i64 q, .int .i64 g], .int .i64 x, .int .i64 e] w fun en w' => en = .returned (.int .i64 (M.gpw p q x e)) ∧ Below w.heap.size w w' := by
  have g1 := hG.q2
  have g2 := hG.qp
  have g3 := hG.p3
  have g4 := hG.pM
  clear hG
  have hB0 : Below (w.alloc (.cells #[.int .i64 p, .int .i64 q, .int .i64 g] 33)).heap.size (w.alloc (.cells #[.int .i64 p, .int .i64 q, .int .i64 g] 33)) (w.alloc (.cells #[.int .i64 p, .int .i64 q, .int .i64 g] 33)) := Below.refl _ _
  have hT0 : Below w.heap.size w (w.alloc (.cells #[.int .i64 p, .int .i64 q, .int .i64 g] 33)) := by repeat (first | exact Below.refl _ _ | refine bnew ?_ _)
  go_enter Try.func77, Try.ntmps77
  have h1 := Int.emod_nonneg e (show q ≠ 0 by omega)
  have h2 := Int.emod_lt_of_pos e (show 0 < q by omega)
  go_wp2_with fail
  go_region_held3 (fun W' => W'.cell? ⟨w.heap.size, 0, none⟩ = some (.int .i64 p) ∧ W'.cell? ⟨w.heap.size, 1, none⟩ = some (.int .i64 q) ∧ W'.cell? ⟨w.heap.size, 2, none⟩ = some (.int .i64 g) ∧ Below w.heap.size w W') ((go_split_ands; refine ⟨?_, ?_, ?_, ?_⟩; (first | with_reducible exact cell_keep (by with_reducible assumption) (by with_reducible assumption) | with_reducible exact cell_keep (below_new _ _) (by with_reducible assumption) | (with_reducible refine cell_set _ ?_ (by simp); (repeat with_reducible refine cell_set _ ?_ (by simp)); with_reducible assumption) | with_reducible exact cell_drew (by with_reducible assumption) | go_keep); (first | with_reducible exact cell_keep (by with_reducible assumption) (by with_reducible assumption) | with_reducible exact cell_keep (below_new _ _) (by with_reducible assumption) | (with_reducible refine cell_set _ ?_ (by simp); (repeat with_reducible refine cell_set _ ?_ (by simp)); with_reducible assumption) | with_reducible exact cell_drew (by with_reducible assumption) | go_keep); (first | with_reducible exact cell_keep (by with_reducible assumption) (by with_reducible assumption) | with_reducible exact cell_keep (below_new _ _) (by with_reducible assumption) | (with_reducible refine cell_set _ ?_ (by simp); (repeat with_reducible refine cell_set _ ?_ (by simp)); with_reducible assumption) | with_reducible exact cell_drew (by with_reducible assumption) | go_keep); (repeat (first | with_reducible assumption | with_reducible refine bnext ?_ (by with_reducible assumption) | with_reducible refine bnew ?_ _ | with_reducible refine below_set _ ?_ (by simp) | with_reducible refine Below.drew ?_ | with_reducible refine Below.drewN ?_ _)); done)) (first | (go_at_call 131; refine (mod_any _ _ _ (by omega) he).mono ?_; rintro e9 w9 ⟨rfl, rfl⟩) | (go_at_call 129; refine (power_any _ _ _ _ (by omega) hx (by omega)).mono ?_; rintro e9 w9 ⟨rfl, rfl⟩))
  go_wp2
  go_ret
  exact ⟨rfl, by first | exact (by assumption : _ ∧ _ ∧ _ ∧ _).2.2.2 | assumption⟩
set_option maxHeartbeats 400000 in
theorem gExp_any (p q g x e : Int) (hG : M.Grp p q g) (hx : 0 ≤ x ∧ x < p) (he : -9000000000000000000 ≤ e ∧ e ≤ 9000000000000000000) (w : World) :
    Calls Try.prog 69 #[.agg #[.int .i64 p, .int .i64 q, .int .i64 g], .int .i64 x, .int .i64 e] w fun en w' => en = .returned (.int .i64 (M.gpw p q x e)) ∧ Below w.heap.size w w' := by
  have g1 := hG.q2
  have g2 := hG.qp
  have g3 := hG.p3
  have g4 := hG.pM
  clear hG
  have hB0 : Below (w.alloc (.cells #[.int .i64 p, .int .i64 q, .int .i64 g] 33)).heap.size (w.alloc (.cells #[.int .i64 p, .int .i64 q, .int .i64 g] 33)) (w.alloc (.cells #[.int .i64 p, .int .i64 q, .int .i64 g] 33)) := Below.refl _ _
  have hT0 : Below w.heap.size w (w.alloc (.cells #[.int .i64 p, .int .i64 q, .int .i64 g] 33)) := by repeat (first | exact Below.refl _ _ | refine bnew ?_ _)
  go_enter Try.func69, Try.ntmps69
  have h1 := Int.emod_nonneg e (show q ≠ 0 by omega)
  have h2 := Int.emod_lt_of_pos e (show 0 < q by omega)
  go_wp2_with fail
  go_region_held3 (fun W' => W'.cell? ⟨w.heap.size, 0, none⟩ = some (.int .i64 p) ∧ W'.cell? ⟨w.heap.size, 1, none⟩ = some (.int .i64 q) ∧ W'.cell? ⟨w.heap.size, 2, none⟩ = some (.int .i64 g) ∧ Below w.heap.size w W') ((go_split_ands; refine ⟨?_, ?_, ?_, ?_⟩; (first | with_reducible exact cell_keep (by with_reducible assumption) (by with_reducible assumption) | with_reducible exact cell_keep (below_new _ _) (by with_reducible assumption) | (with_reducible refine cell_set _ ?_ (by simp); (repeat with_reducible refine cell_set _ ?_ (by simp)); with_reducible assumption) | with_reducible exact cell_drew (by with_reducible assumption) | go_keep); (first | with_reducible exact cell_keep (by with_reducible assumption) (by with_reducible assumption) | with_reducible exact cell_keep (below_new _ _) (by with_reducible assumption) | (with_reducible refine cell_set _ ?_ (by simp); (repeat with_reducible refine cell_set _ ?_ (by simp)); with_reducible assumption) | with_reducible exact cell_drew (by with_reducible assumption) | go_keep); (first | with_reducible exact cell_keep (by with_reducible assumption) (by with_reducible assumption) | with_reducible exact cell_keep (below_new _ _) (by with_reducible assumption) | (with_reducible refine cell_set _ ?_ (by simp); (repeat with_reducible refine cell_set _ ?_ (by simp)); with_reducible assumption) | with_reducible exact cell_drew (by with_reducible assumption) | go_keep); (repeat (first | with_reducible assumption | with_reducible refine bnext ?_ (by with_reducible assumption) | with_reducible refine bnew ?_ _ | with_reducible refine below_set _ ?_ (by simp) | with_reducible refine Below.drew ?_ | with_reducible refine Below.drewN ?_ _)); done)) (first | (go_at_call 84; refine (nMod_any _ _ _ (by omega) he).mono ?_; rintro e9 w9 ⟨rfl, rfl⟩) | (go_at_call 124; refine (nPower_any _ _ _ _ (by omega) hx (by omega)).mono ?_; rintro e9 w9 ⟨rfl, rfl⟩))
  go_wp2
  go_ret
  exact ⟨rfl, by first | exact (by assumption : _ ∧ _ ∧ _ ∧ _).2.2.2 | assumption⟩
end Go.Proofs.Ytljlimlgdnbllaa
