/- Walks of the group layer: lists that fulfil something, elements, exponents, powers, products. -/
import Derived.Test.YtljlimlgdnbllaaN1
import Derived.Test.YtljlimlgdnbllaaPow
import Derived.Test.YtljlimlgdnbllaaIdx
set_option linter.all false
set_option linter.unusedVariables false
set_option linter.unusedSimpArgs false
namespace Go.Proofs.Ytljlimlgdnbllaa
open Go.RowKit
theorem containsInts (fn : Nat) (fs cs : Array Value) (p : Int → Bool) (A : Option Addr) (c : Nat) (xs : List Int) (w : World) (heg : ∀ args w, (callFunc fn args).run Try.prog w = .ok (.enter fn args) w)
    (hx : RI w w.heap.size A xs) (hl : xs.length ≤ 9223372036854775807)
    (hf : ∀ x ∈ xs, ∀ W, Below w.heap.size w W → Calls Try.prog fn (fs ++ #[.int .i64 x] ++ cs) W fun e W' => e = .returned (.bool (p x)) ∧ Below W.heap.size W W') :
    Calls Try.prog 154 #[.slice A xs.length c, .func (.func fn) fs cs] w fun en w' => en = .returned (.bool (xs.any p)) ∧ Below w.heap.size w w' := by
  have H := Lib.hid (indexInts fn fs cs p A c xs w heg hx hl hf)
  clear heg hx hl hf
  go_enter Try.func154, Try.ntmps154
  go_wp2_with fail
  refine H.out.mono ?_
  rintro e w' ⟨rfl, hb⟩
  go_wp2
  go_ret
  exact ⟨ret_bool (idx_ge p xs), hb⟩
theorem areAll_any (fn : Nat) (fs cs : Array Value) (p : Int → Bool) (A : Option Addr) (c : Nat) (xs : List Int) (w : World) (heg : ∀ args w, (callFunc fn args).run Try.prog w = .ok (.enter fn args) w)
    (hx : RI w w.heap.size A xs) (hl : xs.length ≤ 9223372036854775807)
    (hf : ∀ x ∈ xs, ∀ W, Below w.heap.size w W → Calls Try.prog fn (fs ++ #[.int .i64 x] ++ cs) W fun e W' => e = .returned (.bool (p x)) ∧ Below W.heap.size W W') :
    Calls Try.prog 128 #[.slice A xs.length c, .func (.func fn) fs cs] w fun en w' => en = .returned (.bool (xs.all p)) ∧ Below w.heap.size w w' := by
  have hmf : ∀ (fn : Fn) (first cap : Array Value) (w : World), (Instr.makeFunc fn first cap).run Try.prog w = .ok (.func fn first cap) w := fun _ _ _ _ => rfl
  have heg2 : ∀ args w, (callFunc 155 args).run Try.prog w = .ok (.enter 155 args) w := enters_of Try.func155 (by kernel_rfl) rfl
  have hx2 := hx.new (.cells #[.func (.func fn) fs cs] 89)
  have hf2 : ∀ x ∈ xs, ∀ W, Below (w.alloc (.cells #[.func (.func fn) fs cs] 89)).heap.size (w.alloc (.cells #[.func (.func fn) fs cs] 89)) W →
      Calls Try.prog 155 (#[] ++ #[.int .i64 x] ++ #[.pointer (some ⟨w.heap.size, 0, none⟩)]) W fun e W' => e = .returned (.bool (!p x)) ∧ Below W.heap.size W W' := by
    intro x hxm W hb
    have hc : W.cell? ⟨w.heap.size, 0, none⟩ = some (.func (.func fn) fs cs) := by
      rw [hb.cell (p := ⟨w.heap.size, 0, none⟩) (by simp), cell_new]; rfl
    have hfx := Lib.hid (hf x hxm W ((below_new w _).trans (hb.mono (by simp))))
    clear hf hx hx2 hb
    show Calls Try.prog 155 #[.int .i64 x, .pointer (some ⟨w.heap.size, 0, none⟩)] W _
    go_enter Try.func155, Try.ntmps155
    go_wp2_with fail
    refine hfx.out.mono ?_
    rintro e w' ⟨rfl, hb⟩
    go_wp2
    go_ret
    exact ⟨rfl, hb⟩
  have H := Lib.hid (containsInts 155 #[] #[.pointer (some ⟨w.heap.size, 0, none⟩)] (fun x => !p x) A c xs _ heg2 hx2 hl hf2)
  clear hf hf2 hx hx2 heg heg2
  go_enter Try.func128, Try.ntmps128
  go_wp2_with fail
  refine H.out.mono ?_
  rintro e w' ⟨rfl, hb⟩
  go_wp2
  go_ret
  exact ⟨ret_bool (List.not_any_eq_all_not ..  |>.trans (by simp)), bnext (below_new w _) hb⟩
set_option maxHeartbeats 400000 in
theorem l1All_any (A : Option Addr) (c : Nat) (xs : List Int) (lo hi : Int) (w : World) (hx : RI w w.heap.size A xs) (hl : xs.length ≤ 9223372036854775807) :
    Calls Try.prog 125 #[.slice A xs.length c, .int .i64 lo, .int .i64 hi] w fun en w' => en = .returned (.bool (xs.all fun x => inr x lo hi)) ∧ w = w' := by
  go_enter Try.func125, Try.ntmps125
  go_wp2
  go_loop [11, 8] (fun I _ => ∃ k : Nat, k ≤ xs.length ∧ I = .int .i64 k ∧ ∀ j (h : j < xs.length), j < k → inr xs[j] lo hi = true) (fun I _ => xs.length - (intOf I).toNat)
  case atStart => exact ⟨0, by omega, rfl, fun j h hj => by omega⟩
  case round =>
    obtain ⟨k, hk, rfl, hn⟩ := hrel
    have HN := Lib.hid hn; clear hn
    by_cases hlt : k < xs.length
    · obtain ⟨ad, rfl, had, hc⟩ := hx.at_ hlt
      have HX := Lib.hid hx; clear hx
      by_cases hp : inr xs[k] lo hi = true
      · go_wp2_with (go_at_call 63; refine (l1In_any _ _ _ _).mono ?_; rintro e w' ⟨rfl, rfl⟩)
        go_round
        case rel => exact ⟨k + 1, by omega, by go_num, fun j h hj => by
          rcases Nat.lt_or_eq_of_le (Nat.le_of_lt_succ hj) with h1 | rfl
          · exact HN.out j h h1
          · exact hp⟩
        case measure => simp [intOf]; omega
      · have hp' : inr xs[k] lo hi = false := by simpa using hp
        clear hp
        go_wp2_with (go_at_call 63; refine (l1In_any _ _ _ _).mono ?_; rintro e w' ⟨rfl, rfl⟩)
        go_ret
        exact ⟨ret_bool (List.all_eq_false.2 ⟨_, List.getElem_mem hlt, by simp [hp']⟩).symm, rfl⟩
    · have HX := Lib.hid hx; clear hx
      go_wp2
      go_ret
      exact ⟨ret_bool (List.all_eq_true.2 fun x hx => by
        obtain ⟨j, hj, rfl⟩ := List.getElem_of_mem hx
        exact HN.out j hj (by omega)).symm, rfl⟩
theorem inr_exp {q e : Int} (h : inr e 0 (q - 1) = true) : 0 ≤ e ∧ e < q := by have := inr_t h; omega
def expsB (q : Int) (l : List Int) : Bool := l.all fun e => inr e 0 (q - 1)
theorem expsB_mem {q : Int} {l : List Int} (h : expsB q l = true) {e : Int} (he : e ∈ l) : 0 ≤ e ∧ e < q := inr_exp (List.all_eq_true.1 h e he)
theorem expsB_mk {q : Int} {l : List Int} (h : ∀ e ∈ l, 0 ≤ e ∧ e < q) : expsB q l = true := List.all_eq_true.2 fun e he => inr_mk (by have := h e he; omega)
theorem isExp_any (p q g e : Int) (w : World) (hq : -9000000000000000000 ≤ q ∧ q ≤ 9000000000000000000) :
    Calls Try.prog 73 #[.agg #[.int .i64 p, .int .i64 q, .int .i64 g], .int .i64 e] w fun en w' => en = .returned (.bool (inr e 0 (q - 1))) ∧ Below w.heap.size w w' := by
  obtain ⟨hq1, hq2⟩ := hq
  go_enter Try.func73, Try.ntmps73
  go_wp2_with (go_at_call 71; refine (within_any _ _ _ _).mono ?_; rintro e w' ⟨rfl, rfl⟩)
  go_ret
  exact ⟨rfl, below_new w _⟩
theorem exp_any (p q g n : Int) (w : World) (hq : 1 ≤ q ∧ q ≤ 2000000000) (hn : -9000000000000000000 ≤ n ∧ n ≤ 9000000000000000000) :
    Calls Try.prog 85 #[.agg #[.int .i64 p, .int .i64 q, .int .i64 g], .int .i64 n] w fun en w' => en = .returned (.int .i64 (n % q)) ∧ Below w.heap.size w w' := by
  go_enter Try.func85, Try.ntmps85
  go_wp2_with (go_at_call 131; refine (mod_any _ _ _ hq hn).mono ?_; rintro e w' ⟨rfl, rfl⟩)
  go_ret
  exact ⟨rfl, below_new w _⟩
theorem areExps_any (p q g : Int) (A : Option Addr) (c : Nat) (xs : List Int) (w : World) (hq : -9000000000000000000 ≤ q ∧ q ≤ 9000000000000000000) (hx : RI w w.heap.size A xs) (hl : xs.length ≤ 9223372036854775807) :
    Calls Try.prog 79 #[.agg #[.int .i64 p, .int .i64 q, .int .i64 g], .slice A xs.length c] w fun en w' => en = .returned (.bool (expsB q xs)) ∧ Below w.heap.size w w' := by
  have hmf : ∀ (fn : Fn) (first cap : Array Value) (w : World), (Instr.makeFunc fn first cap).run Try.prog w = .ok (.func fn first cap) w := fun _ _ _ _ => rfl
  have heg : ∀ args w, (callFunc 73 args).run Try.prog w = .ok (.enter 73 args) w := enters_of Try.func73 (by kernel_rfl) rfl
  have H := Lib.hid (areAll_any 73 #[.agg #[.int .i64 p, .int .i64 q, .int .i64 g]] #[] (fun e => inr e 0 (q - 1)) A c xs (w.alloc (.cells #[.int .i64 p, .int .i64 q, .int .i64 g] 33)) heg (hx.new _) hl fun x _ W _ => isExp_any p q g x W hq)
  clear hx heg
  go_enter Try.func79, Try.ntmps79
  go_wp2_with fail
  refine H.out.mono ?_
  rintro e w' ⟨rfl, hb⟩
  go_wp2
  go_ret
  exact ⟨rfl, bnext (below_new w _) hb⟩
theorem gExps_any (p q g : Int) (A : Option Addr) (c : Nat) (xs : List Int) (w : World) (hq : -9000000000000000000 ≤ q ∧ q ≤ 9000000000000000000) (hx : RI w w.heap.size A xs) (hl : xs.length ≤ 9223372036854775807) :
    Calls Try.prog 65 #[.agg #[.int .i64 p, .int .i64 q, .int .i64 g], .slice A xs.length c] w fun en w' => en = .returned (.bool (expsB q xs)) ∧ Below w.heap.size w w' := by
  have H := Lib.hid (l1All_any A c xs 0 (q - 1) (w.alloc (.cells #[.int .i64 p, .int .i64 q, .int .i64 g] 33)) (hx.new _) hl)
  obtain ⟨hq1, hq2⟩ := hq
  clear hx
  go_enter Try.func65, Try.ntmps65
  go_wp2_with fail
  refine H.out.mono ?_
  rintro e w' ⟨rfl, rfl⟩
  go_wp2
  go_ret
  exact ⟨rfl, below_new w _⟩
end Go.Proofs.Ytljlimlgdnbllaa
