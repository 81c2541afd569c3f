import Derived.Test.YtgnnmifpfgpllaaZN1
import Derived.Test.YtgnnmifpfgpllaaZE3
import Derived.Test.YtgnnmifpfgpllaaZKit
/- Walks: bases. -/
set_option linter.all false
set_option linter.unusedVariables false
set_option linter.unusedSimpArgs false
namespace Go.Proofs.Ytgnnmifpfgpllaa
open Go.RowKit
def basesB (p q bh : Int) (bs : List Int) : Bool := (bh != 1) && elemB p q bh && decide (bs.length ≤ 24) && !(bs.any fun x => x == 1) && elemsB p q bs
noncomputable def l9B (p q g bh : Int) (bs : List Int) : Bool := M.goodB p q g && basesB p q bh bs
theorem bases_all (p q bh : Int) (bs : List Int) : (decide (bs.length ≤ 24) && (bh :: bs).all fun x => (x != 1) && elemB p q x) = basesB p q bh bs := by
  unfold basesB elemsB
  have h : (bs.all fun x => (x != 1) && elemB p q x) = ((!(bs.any fun x => x == 1)) && bs.all fun x => elemB p q x) := by
    rw [Bool.eq_iff_iff]
    simp only [List.all_eq_true, Bool.and_eq_true, Bool.not_eq_true', List.any_eq_false, bne_iff_ne, beq_iff_eq, ne_eq]
    exact ⟨fun hh => ⟨fun x hx => (hh x hx).1, fun x hx => (hh x hx).2⟩, fun hh x hx => ⟨hh.1 x hx, hh.2 x hx⟩⟩
  rw [List.all_cons, h]
  cases (bh != 1) <;> cases elemB p q bh <;> cases decide (bs.length ≤ 24) <;> cases (!(bs.any fun x => x == 1)) <;> simp
set_option maxHeartbeats 400000 in
theorem l1Has_any (A : Option Addr) (c : Nat) (xs : List Int) (n : Int) (hl : xs.length ≤ 9223372036854775807) (w : World) (hx : RI w w.heap.size A xs) :
    Calls Try.prog 78 #[.slice A xs.length c, .int .i64 n] w fun en w' => en = .returned (.bool (xs.any fun x => x == n)) ∧ w = w' := by
  go_enter Try.func78, Try.ntmps78
  go_wp2
  go_loop [6, 9] (fun _ I => ∃ k : Nat, k ≤ xs.length ∧ I = .int .i64 k ∧ ∀ j (h : j < xs.length), j < k → (xs[j] == n) = false) (fun _ I => xs.length - (intOf I).toNat)
  case atStart => exact ⟨0, by omega, rfl, fun j h hj => by omega⟩
  case round =>
    obtain ⟨k, hk, rfl, hn⟩ := hrel
    have HN := Lib.hid hn; clear hn
    by_cases hlt : k < xs.length
    · obtain ⟨ad, rfl, had, hc⟩ := hx.at_ hlt
      have HX := Lib.hid hx; clear hx
      rcases Bool.eq_false_or_eq_true (xs[k] == n) with h | h
      · go_wp2
        go_ret
        exact ⟨ret_bool (List.any_eq_true.2 ⟨_, List.getElem_mem hlt, h⟩).symm, rfl⟩
      · go_wp2
        go_round
        case rel => exact ⟨k + 1, by omega, by go_num, fun j hh hj => by
          rcases Nat.lt_or_eq_of_le (Nat.le_of_lt_succ hj) with h1 | rfl
          · exact HN.out j hh h1
          · exact h⟩
        case measure => simp [intOf]; omega
    · have HX := Lib.hid hx; clear hx
      go_wp2
      go_ret
      exact ⟨ret_bool (by rw [List.any_eq_false.2]; intro x hx h2; obtain ⟨j, hj, rfl⟩ := List.getElem_of_mem hx; have := HN.out j hj (by omega); rw [this] at h2; cases h2), rfl⟩
set_option maxHeartbeats 800000 in
theorem l9Good_any (p q g bh : Int) (A : Option Addr) (c : Nat) (bs : List Int) (hl : bs.length ≤ 9223372036854775807) (w : World) (hx : RI w w.heap.size A bs) :
    Calls Try.prog 39 #[.agg #[.int .i64 p, .int .i64 q, .int .i64 g], .agg #[.int .i64 bh, .slice A bs.length c]] w fun en w' => en = .returned (.bool (l9B p q g bh bs)) ∧ Below w.heap.size w w' := by
  have hT0 : Below w.heap.size w ((w.alloc (.cells #[.int .i64 p, .int .i64 q, .int .i64 g] 34)).alloc (.cells #[.int .i64 bh, .slice A bs.length c] 36)) := by repeat (first | exact Below.refl _ _ | refine bnew ?_ _)
  go_enter Try.func39, Try.ntmps39
  go_wp2_with fail
  refine (l2Good_any p q g _).mono ?_
  rintro e1 w1 ⟨rfl, hb1⟩
  have hT1 : Below w.heap.size w w1 := bnext (by repeat (first | exact hT0 | refine bnew ?_ _ | refine Below.drew ?_ | refine Below.drewN ?_ _)) hb1
  have c1_0 : w1.cell? ⟨w.heap.size, 0, none⟩ = some (.int .i64 p) := by
    refine cell_keep hb1 ?_
    repeat (first | with_reducible assumption | (refine cell_new' ?_ _ _ _ rfl; focus (simp; done)) | with_reducible refine cell_keep (below_new _ _) ?_)
  have c1_1 : w1.cell? ⟨w.heap.size, 1, none⟩ = some (.int .i64 q) := by
    refine cell_keep hb1 ?_
    repeat (first | with_reducible assumption | (refine cell_new' ?_ _ _ _ rfl; focus (simp; done)) | with_reducible refine cell_keep (below_new _ _) ?_)
  have c1_2 : w1.cell? ⟨w.heap.size, 2, none⟩ = some (.int .i64 g) := by
    refine cell_keep hb1 ?_
    repeat (first | with_reducible assumption | (refine cell_new' ?_ _ _ _ rfl; focus (simp; done)) | with_reducible refine cell_keep (below_new _ _) ?_)
  have c1_3 : w1.cell? ⟨w.heap.size + 1, 0, none⟩ = some (.int .i64 bh) := by
    refine cell_keep hb1 ?_
    repeat (first | with_reducible assumption | (refine cell_new' ?_ _ _ _ rfl; focus (simp; done)) | with_reducible refine cell_keep (below_new _ _) ?_)
  have c1_4 : w1.cell? ⟨w.heap.size + 1, 1, none⟩ = some (.slice A bs.length c) := by
    refine cell_keep hb1 ?_
    repeat (first | with_reducible assumption | (refine cell_new' ?_ _ _ _ rfl; focus (simp; done)) | with_reducible refine cell_keep (below_new _ _) ?_)
  rcases Bool.eq_false_or_eq_true (M.goodB p q g) with hg | hg
  rotate_left
  · have hR := Lib.hid (show (l9B p q g bh bs) = false by unfold l9B basesB; rw [hg]; simp)
    go_wp2
    go_ret
    exact ⟨ret_bool hR.out.symm, hT1⟩
  have hG := M.goodB_of hg
  have g1 := hG.q2
  have g2 := hG.qp
  have g3 := hG.p3
  have g4 := hG.pM
  have HG := Lib.hid hG
  clear hG
  rcases Bool.eq_false_or_eq_true ((bh != 1)) with h1 | h1
  rotate_left
  · have hR := Lib.hid (show (l9B p q g bh bs) = false by unfold l9B basesB; rw [h1]; simp)
    go_wp2
    go_ret
    exact ⟨ret_bool hR.out.symm, hT1⟩
  go_wp2_with fail
  refine (gIs_any p q g HG.out _ _ [bh] (by simp) _ (RI.lit _ [bh] _ (by simp))).mono ?_
  rw [show elemsB p q [bh] = elemB p q bh from by simp [elemsB]]
  rintro e2 w2 ⟨rfl, hb2⟩
  have hT2 : Below w.heap.size w w2 := bnext (by repeat (first | exact hT1 | refine bnew ?_ _ | refine Below.drew ?_ | refine Below.drewN ?_ _)) hb2
  have c2_0 : w2.cell? ⟨w.heap.size, 0, none⟩ = some (.int .i64 p) := by
    refine cell_keep hb2 ?_
    repeat (first | with_reducible assumption | (refine cell_new' ?_ _ _ _ rfl; focus (simp; done)) | with_reducible refine cell_keep (below_new _ _) ?_)
  have c2_1 : w2.cell? ⟨w.heap.size, 1, none⟩ = some (.int .i64 q) := by
    refine cell_keep hb2 ?_
    repeat (first | with_reducible assumption | (refine cell_new' ?_ _ _ _ rfl; focus (simp; done)) | with_reducible refine cell_keep (below_new _ _) ?_)
  have c2_2 : w2.cell? ⟨w.heap.size, 2, none⟩ = some (.int .i64 g) := by
    refine cell_keep hb2 ?_
    repeat (first | with_reducible assumption | (refine cell_new' ?_ _ _ _ rfl; focus (simp; done)) | with_reducible refine cell_keep (below_new _ _) ?_)
  have c2_3 : w2.cell? ⟨w.heap.size + 1, 0, none⟩ = some (.int .i64 bh) := by
    refine cell_keep hb2 ?_
    repeat (first | with_reducible assumption | (refine cell_new' ?_ _ _ _ rfl; focus (simp; done)) | with_reducible refine cell_keep (below_new _ _) ?_)
  have c2_4 : w2.cell? ⟨w.heap.size + 1, 1, none⟩ = some (.slice A bs.length c) := by
    refine cell_keep hb2 ?_
    repeat (first | with_reducible assumption | (refine cell_new' ?_ _ _ _ rfl; focus (simp; done)) | with_reducible refine cell_keep (below_new _ _) ?_)
  clear c1_0 c1_1 c1_2 c1_3 c1_4
  rcases Bool.eq_false_or_eq_true (elemB p q bh) with h2 | h2
  rotate_left
  · have hR := Lib.hid (show (l9B p q g bh bs) = false by unfold l9B basesB; rw [h2]; simp)
    go_wp2
    go_ret
    exact ⟨ret_bool hR.out.symm, hT2⟩
  rcases Bool.eq_false_or_eq_true (decide (bs.length ≤ 24)) with h3 | h3
  rotate_left
  · have n1 := of_decide_eq_false h3
    have n2 : ¬ (bs.length : Int) ≤ 24 := by omega
    have hR := Lib.hid (show (l9B p q g bh bs) = false by unfold l9B basesB; rw [h3]; simp)
    go_wp2
    go_ret
    exact ⟨ret_bool hR.out.symm, hT2⟩
  have n1 := of_decide_eq_true h3
  have n2 : (bs.length : Int) ≤ 24 := by omega
  go_wp2_with fail
  refine (l1Has_any A c bs 1 hl _ (hx.next (by repeat (first | exact hT2 | refine bnew ?_ _ | refine Below.drew ?_ | refine Below.drewN ?_ _)))).mono ?_
  rintro e3 w3 ⟨rfl, rfl⟩
  rcases Bool.eq_false_or_eq_true (!(bs.any fun x => x == 1)) with h4 | h4
  rotate_left
  · have h5 : (bs.any fun x => x == 1) = true := by simpa using h4
    have hR := Lib.hid (show (l9B p q g bh bs) = false by unfold l9B basesB; rw [h4]; simp)
    go_wp2
    go_ret
    exact ⟨ret_bool hR.out.symm, hT2⟩
  have h5 : (bs.any fun x => x == 1) = false := by simpa using h4
  have H5 := Lib.hid h5
  go_wp2_with fail
  refine (gIs_any p q g HG.out A c bs hl _ (hx.next (by repeat (first | exact hT2 | refine bnew ?_ _ | refine Below.drew ?_ | refine Below.drewN ?_ _)))).mono ?_
  rintro e4 w4 ⟨rfl, hb4⟩
  have hT4 : Below w.heap.size w w4 := bnext (by repeat (first | exact hT2 | refine bnew ?_ _ | refine Below.drew ?_ | refine Below.drewN ?_ _)) hb4
  have c4_0 : w4.cell? ⟨w.heap.size, 0, none⟩ = some (.int .i64 p) := by
    refine cell_keep hb4 ?_
    repeat (first | with_reducible assumption | (refine cell_new' ?_ _ _ _ rfl; focus (simp; done)) | with_reducible refine cell_keep (below_new _ _) ?_)
  have c4_1 : w4.cell? ⟨w.heap.size, 1, none⟩ = some (.int .i64 q) := by
    refine cell_keep hb4 ?_
    repeat (first | with_reducible assumption | (refine cell_new' ?_ _ _ _ rfl; focus (simp; done)) | with_reducible refine cell_keep (below_new _ _) ?_)
  have c4_2 : w4.cell? ⟨w.heap.size, 2, none⟩ = some (.int .i64 g) := by
    refine cell_keep hb4 ?_
    repeat (first | with_reducible assumption | (refine cell_new' ?_ _ _ _ rfl; focus (simp; done)) | with_reducible refine cell_keep (below_new _ _) ?_)
  have c4_3 : w4.cell? ⟨w.heap.size + 1, 0, none⟩ = some (.int .i64 bh) := by
    refine cell_keep hb4 ?_
    repeat (first | with_reducible assumption | (refine cell_new' ?_ _ _ _ rfl; focus (simp; done)) | with_reducible refine cell_keep (below_new _ _) ?_)
  have c4_4 : w4.cell? ⟨w.heap.size + 1, 1, none⟩ = some (.slice A bs.length c) := by
    refine cell_keep hb4 ?_
    repeat (first | with_reducible assumption | (refine cell_new' ?_ _ _ _ rfl; focus (simp; done)) | with_reducible refine cell_keep (below_new _ _) ?_)
  clear c2_0 c2_1 c2_2 c2_3 c2_4
  have hR := Lib.hid (show (l9B p q g bh bs) = elemsB p q bs by unfold l9B basesB; rw [hg, h1, h2, h3, h4]; simp)
  go_wp2
  go_ret
  exact ⟨ret_bool hR.out.symm, hT4⟩
theorem hasBasesFn (p q g x : Int) (hG : M.Grp p q g) (b : Nat) (W : World) (h0 : W.cell? ⟨b, 0, none⟩ = some (.int .i64 p)) (h1 : W.cell? ⟨b, 1, none⟩ = some (.int .i64 q)) (h2 : W.cell? ⟨b, 2, none⟩ = some (.int .i64 g)) :
    Calls Try.prog 104 #[.int .i64 x, .pointer (some ⟨b, 0, none⟩)] W fun e W' => e = .returned (.bool ((x != 1) && elemB p q x)) ∧ Below W.heap.size W W' := by
  have HG := Lib.hid hG
  clear hG
  rcases Bool.eq_false_or_eq_true (x != 1) with h | h
  · have hR := Lib.hid (show ((x != 1) && elemB p q x) = elemB p q x by rw [h]; rfl)
    go_enter Try.func104, Try.ntmps104
    go_wp2_with fail
    refine (has_any p q g x HG.out _).mono ?_
    rintro e w1 ⟨rfl, hb⟩
    go_wp2
    go_ret
    exact ⟨ret_bool hR.out.symm, hb⟩
  · have hR := Lib.hid (show ((x != 1) && elemB p q x) = false by rw [h]; rfl)
    go_enter Try.func104, Try.ntmps104
    go_wp2
    go_ret
    exact ⟨ret_bool hR.out.symm, Below.refl _ _⟩
set_option maxHeartbeats 800000 in
theorem hasBases_any (p q g bh : Int) (A : Option Addr) (c : Nat) (bs : List Int) (hl : bs.length ≤ 9223372036854775807) (hG : M.Grp p q g) (w : World) (hx : RI w w.heap.size A bs) :
    Calls Try.prog 83 #[.agg #[.int .i64 p, .int .i64 q, .int .i64 g], .agg #[.int .i64 bh, .slice A bs.length c]] w fun en w' => en = .returned (.bool (basesB p q bh bs)) ∧ Below w.heap.size w w' := by
  have hmf : ∀ (fn : Fn) (first cap : Array Value) (w : World), (Instr.makeFunc fn first cap).run Try.prog w = .ok (.func fn first cap) w := fun _ _ _ _ => rfl
  have heg : ∀ args w, (callFunc 104 args).run Try.prog w = .ok (.enter 104 args) w := enters_of Try.func104 (by kernel_rfl) rfl
  have HEG := Lib.hid heg
  have HG := Lib.hid hG
  clear heg hG
  obtain ⟨i0, hi, hz0, hz1, hz2⟩ := info_parts info_int
  have hT0 : Below w.heap.size w ((w.alloc (.cells #[.int .i64 p, .int .i64 q, .int .i64 g] 34)).alloc (.cells #[.int .i64 bh, .slice A bs.length c] 36)) := by repeat (first | exact Below.refl _ _ | refine bnew ?_ _)
  go_enter Try.func83, Try.ntmps83
  rcases Bool.eq_false_or_eq_true (decide (bs.length ≤ 24)) with h3 | h3
  rotate_left
  · have n1 := of_decide_eq_false h3
    have n2 : ¬ (bs.length : Int) ≤ 24 := by omega
    have hR := Lib.hid (show basesB p q bh bs = false by unfold basesB; rw [h3]; simp)
    go_wp2
    go_ret
    exact ⟨ret_bool hR.out.symm, hT0⟩
  have n1 := of_decide_eq_true h3
  have n2 : (bs.length : Int) ≤ 24 := by omega
  have hR := Lib.hid (show ((bh :: bs).all fun x => (x != 1) && elemB p q x) = basesB p q bh bs by rw [← bases_all, h3]; rfl)
  have hown := own_lit (w := ((w.alloc (.cells #[.int .i64 p, .int .i64 q, .int .i64 g] 34)).alloc (.cells #[.int .i64 bh, .slice A bs.length c] 36))) (n := w.heap.size + 1 + 1) (by simp) [.int .i64 bh] 3 (by unfold maxLen; simp)
  have hrd : Reads (((w.alloc (.cells #[.int .i64 p, .int .i64 q, .int .i64 g] 34)).alloc (.cells #[.int .i64 bh, .slice A bs.length c] 36)).alloc (.cells #[.int .i64 bh] 3)) w.heap.size 1 A bs.length (bs.map (Value.int .i64)) := (hx.below (by repeat (first | exact Below.refl _ _ | refine bnew ?_ _)) : RI _ _ _ _)
  have HX := Lib.hid hx
  clear hx
  go_wp2_with (at_builtin; go_loud (refine wpList_append_want _ (by go_simp) _ _ 24 rfl ((w.alloc (.cells #[.int .i64 p, .int .i64 q, .int .i64 g] 34)).alloc (.cells #[.int .i64 bh, .slice A bs.length c] 36)).heap.size 3 i0 (.int .i64 0) 1 8 Try.underlying24 hi hz0 hz1 hz2 rfl (by decide) _ 1 [.int .i64 bh] (by rfl) hown w.heap.size A bs.length c (bs.map (Value.int .i64)) (by rfl) hrd (ints_one bs) (by unfold maxLen; omega) (by omega) (by simp) ?_); intro v' w1 hown1 hgrow1 hat1)
  have ho : OI w1 ((w.alloc (.cells #[.int .i64 p, .int .i64 q, .int .i64 g] 34)).alloc (.cells #[.int .i64 bh, .slice A bs.length c] 36)).heap.size v' (bh :: bs) := by
    have h := hown1
    rw [Nat.add_comm] at h
    exact h
  obtain ⟨A1, c1, rfl⟩ := ho.shape
  have hTa : Below w.heap.size w w1 := (show Below w.heap.size w (((w.alloc (.cells #[.int .i64 p, .int .i64 q, .int .i64 g] 34)).alloc (.cells #[.int .i64 bh, .slice A bs.length c] 36)).alloc (.cells #[.int .i64 bh] 3)) by repeat (first | exact Below.refl _ _ | refine bnew ?_ _)).grown hgrow1 (by simp; omega) (fun k hk => by simp [Value.ownBlock] at hk; omega)
  have k0 : w1.cell? ⟨w.heap.size, 0, none⟩ = some (.int .i64 p) := hgrow1.cell (by repeat (first | exact cell_new' (by simp) _ _ _ rfl | with_reducible refine cell_keep (below_new _ _) ?_)) (by simp [Value.ownBlock]; omega)
  have k1 : w1.cell? ⟨w.heap.size, 1, none⟩ = some (.int .i64 q) := hgrow1.cell (by repeat (first | exact cell_new' (by simp) _ _ _ rfl | with_reducible refine cell_keep (below_new _ _) ?_)) (by simp [Value.ownBlock]; omega)
  have k2 : w1.cell? ⟨w.heap.size, 2, none⟩ = some (.int .i64 g) := hgrow1.cell (by repeat (first | exact cell_new' (by simp) _ _ _ rfl | with_reducible refine cell_keep (below_new _ _) ?_)) (by simp [Value.ownBlock]; omega)
  refine (areAll_any 104 #[] #[.pointer (some ⟨w.heap.size, 0, none⟩)] (fun x => (x != 1) && elemB p q x) A1 c1 (bh :: bs) w1 HEG.out ho.ri (by simp; omega) (fun x _ W hW => hasBasesFn p q g x HG.out w.heap.size W (cell_keep hW k0) (cell_keep hW k1) (cell_keep hW k2))).mono ?_
  rintro e2 w2 ⟨rfl, hb2⟩
  rw [hR.out]
  go_wp2
  go_ret
  exact ⟨rfl, bnext hTa hb2⟩
theorem isValidBasesI_any (p q g bh : Int) (A : Option Addr) (c : Nat) (bs : List Int) (hl : bs.length ≤ 9223372036854775807) (w : World) (hx : RI w w.heap.size A bs) :
    Calls Try.prog 44 #[.agg #[.int .i64 p, .int .i64 q, .int .i64 g], .agg #[.int .i64 bh, .slice A bs.length c]] w fun en w' => en = .returned (.bool (l9B p q g bh bs)) ∧ Below w.heap.size w w' := by
  have hT0 : Below w.heap.size w ((w.alloc (.cells #[.int .i64 p, .int .i64 q, .int .i64 g] 34)).alloc (.cells #[.int .i64 bh, .slice A bs.length c] 36)) := by repeat (first | exact Below.refl _ _ | refine bnew ?_ _)
  go_enter Try.func44, Try.ntmps44
  go_wp2_with fail
  refine (isValidGroup_any p q g _).mono ?_
  rintro e1 w1 ⟨rfl, hb1⟩
  have hT1 : Below w.heap.size w w1 := bnext (by repeat (first | exact hT0 | refine bnew ?_ _ | refine Below.drew ?_ | refine Below.drewN ?_ _)) hb1
  have c1_0 : w1.cell? ⟨w.heap.size, 0, none⟩ = some (.int .i64 p) := by
    refine cell_keep hb1 ?_
    repeat (first | with_reducible assumption | (refine cell_new' ?_ _ _ _ rfl; focus (simp; done)) | with_reducible refine cell_keep (below_new _ _) ?_)
  have c1_1 : w1.cell? ⟨w.heap.size, 1, none⟩ = some (.int .i64 q) := by
    refine cell_keep hb1 ?_
    repeat (first | with_reducible assumption | (refine cell_new' ?_ _ _ _ rfl; focus (simp; done)) | with_reducible refine cell_keep (below_new _ _) ?_)
  have c1_2 : w1.cell? ⟨w.heap.size, 2, none⟩ = some (.int .i64 g) := by
    refine cell_keep hb1 ?_
    repeat (first | with_reducible assumption | (refine cell_new' ?_ _ _ _ rfl; focus (simp; done)) | with_reducible refine cell_keep (below_new _ _) ?_)
  have c1_3 : w1.cell? ⟨w.heap.size + 1, 0, none⟩ = some (.int .i64 bh) := by
    refine cell_keep hb1 ?_
    repeat (first | with_reducible assumption | (refine cell_new' ?_ _ _ _ rfl; focus (simp; done)) | with_reducible refine cell_keep (below_new _ _) ?_)
  have c1_4 : w1.cell? ⟨w.heap.size + 1, 1, none⟩ = some (.slice A bs.length c) := by
    refine cell_keep hb1 ?_
    repeat (first | with_reducible assumption | (refine cell_new' ?_ _ _ _ rfl; focus (simp; done)) | with_reducible refine cell_keep (below_new _ _) ?_)
  rcases Bool.eq_false_or_eq_true (M.goodB p q g) with hg | hg
  rotate_left
  · have hR := Lib.hid (show (l9B p q g bh bs) = false by unfold l9B basesB; rw [hg]; simp)
    go_wp2
    go_ret
    exact ⟨ret_bool hR.out.symm, hT1⟩
  have hG := M.goodB_of hg
  have g1 := hG.q2
  have g2 := hG.qp
  have g3 := hG.p3
  have g4 := hG.pM
  have HG := Lib.hid hG
  clear hG
  go_wp2_with fail
  refine (hasBases_any p q g bh A c bs hl HG.out _ (hx.next (by repeat (first | exact hT1 | refine bnew ?_ _ | refine Below.drew ?_ | refine Below.drewN ?_ _)))).mono ?_
  rintro e2 w2 ⟨rfl, hb2⟩
  have hT2 : Below w.heap.size w w2 := bnext (by repeat (first | exact hT1 | refine bnew ?_ _ | refine Below.drew ?_ | refine Below.drewN ?_ _)) hb2
  have c2_0 : w2.cell? ⟨w.heap.size, 0, none⟩ = some (.int .i64 p) := by
    refine cell_keep hb2 ?_
    repeat (first | with_reducible assumption | (refine cell_new' ?_ _ _ _ rfl; focus (simp; done)) | with_reducible refine cell_keep (below_new _ _) ?_)
  have c2_1 : w2.cell? ⟨w.heap.size, 1, none⟩ = some (.int .i64 q) := by
    refine cell_keep hb2 ?_
    repeat (first | with_reducible assumption | (refine cell_new' ?_ _ _ _ rfl; focus (simp; done)) | with_reducible refine cell_keep (below_new _ _) ?_)
  have c2_2 : w2.cell? ⟨w.heap.size, 2, none⟩ = some (.int .i64 g) := by
    refine cell_keep hb2 ?_
    repeat (first | with_reducible assumption | (refine cell_new' ?_ _ _ _ rfl; focus (simp; done)) | with_reducible refine cell_keep (below_new _ _) ?_)
  have c2_3 : w2.cell? ⟨w.heap.size + 1, 0, none⟩ = some (.int .i64 bh) := by
    refine cell_keep hb2 ?_
    repeat (first | with_reducible assumption | (refine cell_new' ?_ _ _ _ rfl; focus (simp; done)) | with_reducible refine cell_keep (below_new _ _) ?_)
  have c2_4 : w2.cell? ⟨w.heap.size + 1, 1, none⟩ = some (.slice A bs.length c) := by
    refine cell_keep hb2 ?_
    repeat (first | with_reducible assumption | (refine cell_new' ?_ _ _ _ rfl; focus (simp; done)) | with_reducible refine cell_keep (below_new _ _) ?_)
  clear c1_0 c1_1 c1_2 c1_3 c1_4
  have hR := Lib.hid (show l9B p q g bh bs = basesB p q bh bs by unfold l9B; rw [hg]; rfl)
  go_wp2
  go_ret
  exact ⟨ret_bool hR.out.symm, hT2⟩
end Go.Proofs.Ytgnnmifpfgpllaa
