import Derived.Test.YtgnnmifpfgpllaaZO5
/- Walks: VerifyBit. -/
set_option linter.all false
set_option linter.unusedVariables false
set_option linter.unusedSimpArgs false
namespace Go.Proofs.Ytgnnmifpfgpllaa
open Go.RowKit
theorem bitV_no {p q g bh c : Int} {pa pc pr : List Int} {k : Nat} (hk : k < 2) (h : rowB p q g bh c pa pc pr k = false) : bitV p q g bh c pa pc pr = false := by
  unfold bitV
  rcases (by omega : k = 0 ∨ k = 1) with rfl | rfl
  · rw [h]; simp
  · rw [h]; simp
theorem bitV_yes {p q g bh c : Int} {pa pc pr : List Int} (hf : formB p q pa pc pr 2 2 2 = true) (h : ∀ j, j < 2 → rowB p q g bh c pa pc pr j = true) : bitV p q g bh c pa pc pr = ((pc.getD 0 0 + pc.getD 1 0) % q == chB p q g bh c (pa.getD 0 0) (pa.getD 1 0)) := by
  unfold bitV
  rw [hf, h 0 (by omega), h 1 (by omega)]; simp
theorem of_bne {a b : Int} (h : (a != b) = true) : (a == b) = false := by cases hh : a == b with
  | false => rfl
  | true => rw [bne, hh] at h; cases h
theorem of_bne_not {a b : Int} (h : (a != b) = false) : (a == b) = true := by cases hh : a == b with
  | true => rfl
  | false => rw [bne, hh] at h; cases h
theorem rows_next {f : Nat → Bool} {k : Nat} (h : ∀ j, j < k → f j = true) (h' : f k = true) : ∀ j, j < k + 1 → f j = true := by
  intro j hj
  rcases (by omega : j < k ∨ j = k) with h1 | rfl
  · exact h j h1
  · exact h'
theorem elemsB_bd {p q : Int} {l : List Int} (h : elemsB p q l = true) : ∀ x ∈ l, 0 ≤ x ∧ x < p := fun _ hx => elem_bd (elemsB_mem h hx)
set_option maxRecDepth 100000 in
set_option maxHeartbeats 3200000 in
theorem rIsBit_any (p q g bh c : Int) (A : Option Addr) (n d : Nat) (hG : M.Grp p q g) (hbd : 0 ≤ bh ∧ bh < p) (hcd : 0 ≤ c ∧ c < p) (A_pa : Option Addr) (c_pa : Nat) (pa : List Int) (A_pc : Option Addr) (c_pc : Nat) (pc : List Int) (A_pr : Option Addr) (c_pr : Nat) (pr : List Int) (hl_pa : pa.length ≤ 9223372036854775807) (hl_pc : pc.length ≤ 9223372036854775807) (hl_pr : pr.length ≤ 9223372036854775807) (w : World) (hx_pa : RI w w.heap.size A_pa pa) (hx_pc : RI w w.heap.size A_pc pc) (hx_pr : RI w w.heap.size A_pr pr) :
    Calls Try.prog 80 #[.agg #[.int .i64 p, .int .i64 q, .int .i64 g], .agg #[.int .i64 bh, .slice A n d], .int .i64 c, .agg #[.slice A_pa pa.length c_pa, .slice A_pc pc.length c_pc, .slice A_pr pr.length c_pr]] w fun en w' => en = .returned (.bool (bitV p q g bh c pa pc pr)) ∧ Below w.heap.size w w' := by
  have g1 := hG.q2
  have g2 := hG.qp
  have g3 := hG.p3
  have g4 := hG.pM
  have HG := Lib.hid hG
  clear hG
  have hT0 : Below w.heap.size w (((w.alloc (.cells #[.int .i64 p, .int .i64 q, .int .i64 g] 34)).alloc (.cells #[.int .i64 bh, .slice A n d] 36)).alloc (.cells #[.slice A_pa pa.length c_pa, .slice A_pc pc.length c_pc, .slice A_pr pr.length c_pr] 100)) := by repeat (first | exact Below.refl _ _ | refine bnew ?_ _)
  have c0 : (((w.alloc (.cells #[.int .i64 p, .int .i64 q, .int .i64 g] 34)).alloc (.cells #[.int .i64 bh, .slice A n d] 36)).alloc (.cells #[.slice A_pa pa.length c_pa, .slice A_pc pc.length c_pc, .slice A_pr pr.length c_pr] 100)).cell? ⟨w.heap.size, 0, none⟩ = some (.int .i64 p) := by
    repeat (first | with_reducible assumption | (with_reducible apply set1b; with_reducible assumption) | (with_reducible refine (sc_other _ ?_).trans ?_; focus (simp; done)) | (refine cell_new' ?_ _ _ _ rfl; focus (simp; done)) | with_reducible refine cell_keep (below_new _ _) ?_)
  have c1 : (((w.alloc (.cells #[.int .i64 p, .int .i64 q, .int .i64 g] 34)).alloc (.cells #[.int .i64 bh, .slice A n d] 36)).alloc (.cells #[.slice A_pa pa.length c_pa, .slice A_pc pc.length c_pc, .slice A_pr pr.length c_pr] 100)).cell? ⟨w.heap.size, 1, none⟩ = some (.int .i64 q) := by
    repeat (first | with_reducible assumption | (with_reducible apply set1b; with_reducible assumption) | (with_reducible refine (sc_other _ ?_).trans ?_; focus (simp; done)) | (refine cell_new' ?_ _ _ _ rfl; focus (simp; done)) | with_reducible refine cell_keep (below_new _ _) ?_)
  have c2 : (((w.alloc (.cells #[.int .i64 p, .int .i64 q, .int .i64 g] 34)).alloc (.cells #[.int .i64 bh, .slice A n d] 36)).alloc (.cells #[.slice A_pa pa.length c_pa, .slice A_pc pc.length c_pc, .slice A_pr pr.length c_pr] 100)).cell? ⟨w.heap.size, 2, none⟩ = some (.int .i64 g) := by
    repeat (first | with_reducible assumption | (with_reducible apply set1b; with_reducible assumption) | (with_reducible refine (sc_other _ ?_).trans ?_; focus (simp; done)) | (refine cell_new' ?_ _ _ _ rfl; focus (simp; done)) | with_reducible refine cell_keep (below_new _ _) ?_)
  have c3 : (((w.alloc (.cells #[.int .i64 p, .int .i64 q, .int .i64 g] 34)).alloc (.cells #[.int .i64 bh, .slice A n d] 36)).alloc (.cells #[.slice A_pa pa.length c_pa, .slice A_pc pc.length c_pc, .slice A_pr pr.length c_pr] 100)).cell? ⟨w.heap.size + 1, 0, none⟩ = some (.int .i64 bh) := by
    repeat (first | with_reducible assumption | (with_reducible apply set1b; with_reducible assumption) | (with_reducible refine (sc_other _ ?_).trans ?_; focus (simp; done)) | (refine cell_new' ?_ _ _ _ rfl; focus (simp; done)) | with_reducible refine cell_keep (below_new _ _) ?_)
  have c4 : (((w.alloc (.cells #[.int .i64 p, .int .i64 q, .int .i64 g] 34)).alloc (.cells #[.int .i64 bh, .slice A n d] 36)).alloc (.cells #[.slice A_pa pa.length c_pa, .slice A_pc pc.length c_pc, .slice A_pr pr.length c_pr] 100)).cell? ⟨w.heap.size + 1, 1, none⟩ = some (.slice A n d) := by
    repeat (first | with_reducible assumption | (with_reducible apply set1b; with_reducible assumption) | (with_reducible refine (sc_other _ ?_).trans ?_; focus (simp; done)) | (refine cell_new' ?_ _ _ _ rfl; focus (simp; done)) | with_reducible refine cell_keep (below_new _ _) ?_)
  have c5 : (((w.alloc (.cells #[.int .i64 p, .int .i64 q, .int .i64 g] 34)).alloc (.cells #[.int .i64 bh, .slice A n d] 36)).alloc (.cells #[.slice A_pa pa.length c_pa, .slice A_pc pc.length c_pc, .slice A_pr pr.length c_pr] 100)).cell? ⟨w.heap.size + 1 + 1, 0, none⟩ = some (.slice A_pa pa.length c_pa) := by
    repeat (first | with_reducible assumption | (with_reducible apply set1b; with_reducible assumption) | (with_reducible refine (sc_other _ ?_).trans ?_; focus (simp; done)) | (refine cell_new' ?_ _ _ _ rfl; focus (simp; done)) | with_reducible refine cell_keep (below_new _ _) ?_)
  have c6 : (((w.alloc (.cells #[.int .i64 p, .int .i64 q, .int .i64 g] 34)).alloc (.cells #[.int .i64 bh, .slice A n d] 36)).alloc (.cells #[.slice A_pa pa.length c_pa, .slice A_pc pc.length c_pc, .slice A_pr pr.length c_pr] 100)).cell? ⟨w.heap.size + 1 + 1, 1, none⟩ = some (.slice A_pc pc.length c_pc) := by
    repeat (first | with_reducible assumption | (with_reducible apply set1b; with_reducible assumption) | (with_reducible refine (sc_other _ ?_).trans ?_; focus (simp; done)) | (refine cell_new' ?_ _ _ _ rfl; focus (simp; done)) | with_reducible refine cell_keep (below_new _ _) ?_)
  have c7 : (((w.alloc (.cells #[.int .i64 p, .int .i64 q, .int .i64 g] 34)).alloc (.cells #[.int .i64 bh, .slice A n d] 36)).alloc (.cells #[.slice A_pa pa.length c_pa, .slice A_pc pc.length c_pc, .slice A_pr pr.length c_pr] 100)).cell? ⟨w.heap.size + 1 + 1, 2, none⟩ = some (.slice A_pr pr.length c_pr) := by
    repeat (first | with_reducible assumption | (with_reducible apply set1b; with_reducible assumption) | (with_reducible refine (sc_other _ ?_).trans ?_; focus (simp; done)) | (refine cell_new' ?_ _ _ _ rfl; focus (simp; done)) | with_reducible refine cell_keep (below_new _ _) ?_)
  have x0 : RI (((w.alloc (.cells #[.int .i64 p, .int .i64 q, .int .i64 g] 34)).alloc (.cells #[.int .i64 bh, .slice A n d] 36)).alloc (.cells #[.slice A_pa pa.length c_pa, .slice A_pc pc.length c_pc, .slice A_pr pr.length c_pr] 100)) (((w.alloc (.cells #[.int .i64 p, .int .i64 q, .int .i64 g] 34)).alloc (.cells #[.int .i64 bh, .slice A n d] 36)).alloc (.cells #[.slice A_pa pa.length c_pa, .slice A_pc pc.length c_pc, .slice A_pr pr.length c_pr] 100)).heap.size A_pa pa := hx_pa.next hT0
  have x1 : RI (((w.alloc (.cells #[.int .i64 p, .int .i64 q, .int .i64 g] 34)).alloc (.cells #[.int .i64 bh, .slice A n d] 36)).alloc (.cells #[.slice A_pa pa.length c_pa, .slice A_pc pc.length c_pc, .slice A_pr pr.length c_pr] 100)) (((w.alloc (.cells #[.int .i64 p, .int .i64 q, .int .i64 g] 34)).alloc (.cells #[.int .i64 bh, .slice A n d] 36)).alloc (.cells #[.slice A_pa pa.length c_pa, .slice A_pc pc.length c_pc, .slice A_pr pr.length c_pr] 100)).heap.size A_pc pc := hx_pc.next hT0
  have x2 : RI (((w.alloc (.cells #[.int .i64 p, .int .i64 q, .int .i64 g] 34)).alloc (.cells #[.int .i64 bh, .slice A n d] 36)).alloc (.cells #[.slice A_pa pa.length c_pa, .slice A_pc pc.length c_pc, .slice A_pr pr.length c_pr] 100)) (((w.alloc (.cells #[.int .i64 p, .int .i64 q, .int .i64 g] 34)).alloc (.cells #[.int .i64 bh, .slice A n d] 36)).alloc (.cells #[.slice A_pa pa.length c_pa, .slice A_pc pc.length c_pc, .slice A_pr pr.length c_pr] 100)).heap.size A_pr pr := hx_pr.next hT0
  go_enter Try.func80, Try.ntmps80
  go_wp2_with fail
  refine (l9Form_any p q g 2 2 2 HG.out A_pa c_pa pa A_pc c_pc pc A_pr c_pr pr hl_pa hl_pc hl_pr _ ((x0).next (by repeat (first | exact Below.refl _ _ | refine bnew ?_ _ | refine Below.drew ?_ | refine Below.drewN ?_ _ | (refine below_set _ ?_ ?_; rotate_left; focus (first | omega | (simp; done) | (simp <;> omega)))))) ((x1).next (by repeat (first | exact Below.refl _ _ | refine bnew ?_ _ | refine Below.drew ?_ | refine Below.drewN ?_ _ | (refine below_set _ ?_ ?_; rotate_left; focus (first | omega | (simp; done) | (simp <;> omega)))))) ((x2).next (by repeat (first | exact Below.refl _ _ | refine bnew ?_ _ | refine Below.drew ?_ | refine Below.drewN ?_ _ | (refine below_set _ ?_ ?_; rotate_left; focus (first | omega | (simp; done) | (simp <;> omega))))))).mono ?_
  rintro e1 w1 ⟨rfl, hb1⟩
  have hX1 : Below (((w.alloc (.cells #[.int .i64 p, .int .i64 q, .int .i64 g] 34)).alloc (.cells #[.int .i64 bh, .slice A n d] 36)).alloc (.cells #[.slice A_pa pa.length c_pa, .slice A_pc pc.length c_pc, .slice A_pr pr.length c_pr] 100)).heap.size (((w.alloc (.cells #[.int .i64 p, .int .i64 q, .int .i64 g] 34)).alloc (.cells #[.int .i64 bh, .slice A n d] 36)).alloc (.cells #[.slice A_pa pa.length c_pa, .slice A_pc pc.length c_pc, .slice A_pr pr.length c_pr] 100)) w1 := bnext (by repeat (first | exact Below.refl _ _ | refine bnew ?_ _ | refine Below.drew ?_ | refine Below.drewN ?_ _ | (refine below_set _ ?_ ?_; rotate_left; focus (first | omega | (simp; done) | (simp <;> omega))))) hb1
  have hT1 : Below w.heap.size w w1 := bnext hT0 hX1
  replace c0 : w1.cell? ⟨w.heap.size, 0, none⟩ = some (.int .i64 p) := cell_keep hX1 c0
  replace c1 : w1.cell? ⟨w.heap.size, 1, none⟩ = some (.int .i64 q) := cell_keep hX1 c1
  replace c2 : w1.cell? ⟨w.heap.size, 2, none⟩ = some (.int .i64 g) := cell_keep hX1 c2
  replace c3 : w1.cell? ⟨w.heap.size + 1, 0, none⟩ = some (.int .i64 bh) := cell_keep hX1 c3
  replace c4 : w1.cell? ⟨w.heap.size + 1, 1, none⟩ = some (.slice A n d) := cell_keep hX1 c4
  replace c5 : w1.cell? ⟨w.heap.size + 1 + 1, 0, none⟩ = some (.slice A_pa pa.length c_pa) := cell_keep hX1 c5
  replace c6 : w1.cell? ⟨w.heap.size + 1 + 1, 1, none⟩ = some (.slice A_pc pc.length c_pc) := cell_keep hX1 c6
  replace c7 : w1.cell? ⟨w.heap.size + 1 + 1, 2, none⟩ = some (.slice A_pr pr.length c_pr) := cell_keep hX1 c7
  replace x0 : RI w1 w1.heap.size A_pa pa := (x0).next hX1
  replace x1 : RI w1 w1.heap.size A_pc pc := (x1).next hX1
  replace x2 : RI w1 w1.heap.size A_pr pr := (x2).next hX1
  rcases Bool.eq_false_or_eq_true (formB p q pa pc pr 2 2 2) with hf | hf
  rotate_left
  · have hR := Lib.hid (show bitV p q g bh c pa pc pr = false by unfold bitV; rw [hf]; simp)
    go_wp2
    go_ret
    exact ⟨ret_bool hR.out.symm, hT1⟩
  obtain ⟨o1, o2, o3, o4, o5, o6⟩ := formB_of hf
  have l1 : pa.length = 2 := by omega
  have l2 : pc.length = 2 := by omega
  have l3 : pr.length = 2 := by omega
  have HA := Lib.hid (elemsB_bd o4)
  have HC := Lib.hid (fun x hx => expsB_mem o5 (e := x) hx)
  have HRS := Lib.hid (fun x hx => expsB_mem o6 (e := x) hx)
  have HY := Lib.hid (bitV_yes (g := g) (bh := bh) (c := c) hf)
  obtain ⟨ad0, ea0⟩ := hx_pa.ad
  obtain rfl := ea0 (by omega)
  obtain ⟨ad1, ea1⟩ := hx_pc.ad
  obtain rfl := ea1 (by omega)
  obtain ⟨ad2, ea2⟩ := hx_pr.ad
  obtain rfl := ea2 (by omega)
  have z1 : (0 : Int) < (pa.length : Int) := by omega
  have z2 : (1 : Int) < (pa.length : Int) := by omega
  have z3 : (0 : Int) < (pc.length : Int) := by omega
  have z4 : (1 : Int) < (pc.length : Int) := by omega
  have n1 : 0 < pa.length := by omega
  have n2 : 0 < pc.length := by omega
  have z5 : (1 : Int) < (pr.length : Int) := by omega
  have HL1 := Lib.hid l1
  have HL2 := Lib.hid l2
  have HL3 := Lib.hid l3
  clear l1 l2 l3 o1 o2 o3 o4 o5 o6 ea0 ea1 ea2
  go_wp2
  clear hf
  go_loopw [9] (fun S9 W => ∃ k : Nat, k ≤ 2 ∧ S9 = .int .i64 k ∧ (∀ j, j < k → rowB p q g bh c pa pc pr j = true) ∧ (W.cell? ⟨w.heap.size, 0, none⟩ = some (.int .i64 p) ∧ W.cell? ⟨w.heap.size, 1, none⟩ = some (.int .i64 q) ∧ W.cell? ⟨w.heap.size, 2, none⟩ = some (.int .i64 g) ∧ W.cell? ⟨w.heap.size + 1, 0, none⟩ = some (.int .i64 bh) ∧ W.cell? ⟨w.heap.size + 1, 1, none⟩ = some (.slice A n d) ∧ W.cell? ⟨w.heap.size + 1 + 1, 0, none⟩ = some (.slice (some ad0) pa.length c_pa) ∧ W.cell? ⟨w.heap.size + 1 + 1, 1, none⟩ = some (.slice (some ad1) pc.length c_pc) ∧ W.cell? ⟨w.heap.size + 1 + 1, 2, none⟩ = some (.slice (some ad2) pr.length c_pr) ∧ RI W W.heap.size (some ad0) pa ∧ RI W W.heap.size (some ad1) pc ∧ RI W W.heap.size (some ad2) pr) ∧ Below w.heap.size w W) (fun S9 _ => 2 - (intOf S9).toNat)
  case atStart => exact ⟨0, by omega, rfl, fun j hj => by omega, ⟨(cell_keep (by repeat (first | exact Below.refl _ _ | refine bnew ?_ _ | refine Below.drew ?_ | refine Below.drewN ?_ _ | (refine below_set _ ?_ ?_; rotate_left; focus (first | omega | (simp; done) | (simp <;> omega))))) c0), (cell_keep (by repeat (first | exact Below.refl _ _ | refine bnew ?_ _ | refine Below.drew ?_ | refine Below.drewN ?_ _ | (refine below_set _ ?_ ?_; rotate_left; focus (first | omega | (simp; done) | (simp <;> omega))))) c1), (cell_keep (by repeat (first | exact Below.refl _ _ | refine bnew ?_ _ | refine Below.drew ?_ | refine Below.drewN ?_ _ | (refine below_set _ ?_ ?_; rotate_left; focus (first | omega | (simp; done) | (simp <;> omega))))) c2), (cell_keep (by repeat (first | exact Below.refl _ _ | refine bnew ?_ _ | refine Below.drew ?_ | refine Below.drewN ?_ _ | (refine below_set _ ?_ ?_; rotate_left; focus (first | omega | (simp; done) | (simp <;> omega))))) c3), (cell_keep (by repeat (first | exact Below.refl _ _ | refine bnew ?_ _ | refine Below.drew ?_ | refine Below.drewN ?_ _ | (refine below_set _ ?_ ?_; rotate_left; focus (first | omega | (simp; done) | (simp <;> omega))))) c4), (cell_keep (by repeat (first | exact Below.refl _ _ | refine bnew ?_ _ | refine Below.drew ?_ | refine Below.drewN ?_ _ | (refine below_set _ ?_ ?_; rotate_left; focus (first | omega | (simp; done) | (simp <;> omega))))) c5), (cell_keep (by repeat (first | exact Below.refl _ _ | refine bnew ?_ _ | refine Below.drew ?_ | refine Below.drewN ?_ _ | (refine below_set _ ?_ ?_; rotate_left; focus (first | omega | (simp; done) | (simp <;> omega))))) c6), (cell_keep (by repeat (first | exact Below.refl _ _ | refine bnew ?_ _ | refine Below.drew ?_ | refine Below.drewN ?_ _ | (refine below_set _ ?_ ?_; rotate_left; focus (first | omega | (simp; done) | (simp <;> omega))))) c7), ((x0).next (by repeat (first | exact Below.refl _ _ | refine bnew ?_ _ | refine Below.drew ?_ | refine Below.drewN ?_ _ | (refine below_set _ ?_ ?_; rotate_left; focus (first | omega | (simp; done) | (simp <;> omega)))))), ((x1).next (by repeat (first | exact Below.refl _ _ | refine bnew ?_ _ | refine Below.drew ?_ | refine Below.drewN ?_ _ | (refine below_set _ ?_ ?_; rotate_left; focus (first | omega | (simp; done) | (simp <;> omega)))))), ((x2).next (by repeat (first | exact Below.refl _ _ | refine bnew ?_ _ | refine Below.drew ?_ | refine Below.drewN ?_ _ | (refine below_set _ ?_ ?_; rotate_left; focus (first | omega | (simp; done) | (simp <;> omega))))))⟩, (by repeat (first | exact hT1 | refine bnew ?_ _ | refine Below.drew ?_ | refine Below.drewN ?_ _ | (refine below_set _ ?_ ?_; rotate_left; focus (first | omega | (simp; done) | (simp <;> omega)))))⟩
  case round =>
    obtain ⟨k, hk, rfl, hrows, ⟨c0, c1, c2, c3, c4, c5, c6, c7, x0, x1, x2⟩, hTL⟩ := hrel
    have HROWS := Lib.hid hrows
    clear hrows
    by_cases hlt : k < 2
    rotate_left
    · skip
      obtain rfl : k = 2 := by omega
      have i6 : (pa.length : Int) ≤ ((2 : Nat) : Int) := by rw [HL1.out]; omega
      have HF := Lib.hid (HY.out HROWS.out)
      obtain ⟨u0, hu0⟩ : ∃ v : Int, v = pa.getD 0 0 := ⟨_, rfl⟩
      obtain ⟨u1, hu1⟩ : ∃ v : Int, v = pa.getD 1 0 := ⟨_, rfl⟩
      obtain ⟨e0, he0⟩ : ∃ v : Int, v = pc.getD 0 0 := ⟨_, rfl⟩
      obtain ⟨e1, he1⟩ : ∃ v : Int, v = pc.getD 1 0 := ⟨_, rfl⟩
      have m0 : 0 ≤ u0 ∧ u0 < p := hu0 ▸ HA.out _ (getD_mem (by omega))
      have m1 : 0 ≤ u1 ∧ u1 < p := hu1 ▸ HA.out _ (getD_mem (by omega))
      have m2 : 0 ≤ e0 ∧ e0 < q := he0 ▸ HC.out _ (getD_mem (by omega))
      have m3 : 0 ≤ e1 ∧ e1 < q := he1 ▸ HC.out _ (getD_mem (by omega))
      have y0 : wr.cell? ad0 = some (.int .i64 u0) := by
        have := x0.get 0 (by omega)
        rwa [add0, ← hu0] at this
      have y1 : wr.cell? ⟨ad0.block, ad0.off + 1, none⟩ = some (.int .i64 u1) := by
        have := x0.get 1 (by omega)
        rwa [← hu1] at this
      have y2 : wr.cell? ad1 = some (.int .i64 e0) := by
        have := x1.get 0 (by omega)
        rwa [add0, ← he0] at this
      have y3 : wr.cell? ⟨ad1.block, ad1.off + 1, none⟩ = some (.int .i64 e1) := by
        have := x1.get 1 (by omega)
        rwa [← he1] at this
      have HU0 := Lib.hid hu0
      have HU1 := Lib.hid hu1
      have HE0 := Lib.hid he0
      have HE1 := Lib.hid he1
      clear hu0 hu1 he0 he1
      have wad : IntKind.i64.wrap (e0 + e1) = e0 + e1 := IntWalk.i64_in _ (by omega)
      have bad : -9000000000000000000 ≤ e0 + e1 ∧ e0 + e1 ≤ 9000000000000000000 := by omega
      obtain ⟨ee, hee⟩ : ∃ v : Int, v = chB p q g bh c u0 u1 := ⟨_, rfl⟩
      have HEE := Lib.hid (show chB p q g bh c (pa.getD 0 0) (pa.getD 1 0) = ee by rw [hee, HU0.out, HU1.out])
      have HE := Lib.hid hee
      clear hee
      go_wp2_with fail
      obtain ⟨b2, hb2⟩ : ∃ b : Bool, b = ((e0 + e1) % q == ee) := ⟨_, rfl⟩
      have Hb2 := Lib.hid hb2
      clear hb2
      refine wp_region_chain (fun W => W.cell? ⟨w.heap.size, 0, none⟩ = some (.int .i64 p) ∧ W.cell? ⟨w.heap.size, 1, none⟩ = some (.int .i64 q) ∧ W.cell? ⟨w.heap.size, 2, none⟩ = some (.int .i64 g) ∧ W.cell? ⟨w.heap.size + 1, 0, none⟩ = some (.int .i64 bh) ∧ W.cell? ⟨w.heap.size + 1, 1, none⟩ = some (.slice A n d) ∧ W.cell? ⟨w.heap.size + 1 + 1, 0, none⟩ = some (.slice (some ad0) pa.length c_pa) ∧ W.cell? ⟨w.heap.size + 1 + 1, 1, none⟩ = some (.slice (some ad1) pc.length c_pc) ∧ W.cell? ⟨w.heap.size + 1 + 1, 2, none⟩ = some (.slice (some ad2) pr.length c_pr) ∧ RI W W.heap.size (some ad0) pa ∧ RI W W.heap.size (some ad1) pc ∧ RI W W.heap.size (some ad2) pr ∧ W.cell? ad0 = some (.int .i64 u0) ∧ W.cell? ⟨ad0.block, ad0.off + 1, none⟩ = some (.int .i64 u1) ∧ W.cell? ad1 = some (.int .i64 e0) ∧ W.cell? ⟨ad1.block, ad1.off + 1, none⟩ = some (.int .i64 e1))
        20 [some 47, some 48, some 49, some 50, some 51, some 52, some 53, some 54, some 55, some 56, some 57, some 58, some 59, some 60, some 61, some 62, some 63, some 64, some 65, some 8] (by kernel_rfl) (by kernel_rfl) (by kernel_rfl) (by decide) (by rfl) (by kernel_rfl) (by kernel_rfl) ?hS0 ?hSs ?hc
      case hS0 => exact ⟨cell_keep (Below.drew (by repeat (first | exact Below.refl _ _ | refine bnew ?_ _ | refine Below.drew ?_ | refine Below.drewN ?_ _ | (refine below_set _ ?_ ?_; rotate_left; focus (first | omega | (simp; done) | (simp <;> omega)))))) c0, cell_keep (Below.drew (by repeat (first | exact Below.refl _ _ | refine bnew ?_ _ | refine Below.drew ?_ | refine Below.drewN ?_ _ | (refine below_set _ ?_ ?_; rotate_left; focus (first | omega | (simp; done) | (simp <;> omega)))))) c1, cell_keep (Below.drew (by repeat (first | exact Below.refl _ _ | refine bnew ?_ _ | refine Below.drew ?_ | refine Below.drewN ?_ _ | (refine below_set _ ?_ ?_; rotate_left; focus (first | omega | (simp; done) | (simp <;> omega)))))) c2, cell_keep (Below.drew (by repeat (first | exact Below.refl _ _ | refine bnew ?_ _ | refine Below.drew ?_ | refine Below.drewN ?_ _ | (refine below_set _ ?_ ?_; rotate_left; focus (first | omega | (simp; done) | (simp <;> omega)))))) c3, cell_keep (Below.drew (by repeat (first | exact Below.refl _ _ | refine bnew ?_ _ | refine Below.drew ?_ | refine Below.drewN ?_ _ | (refine below_set _ ?_ ?_; rotate_left; focus (first | omega | (simp; done) | (simp <;> omega)))))) c4, cell_keep (Below.drew (by repeat (first | exact Below.refl _ _ | refine bnew ?_ _ | refine Below.drew ?_ | refine Below.drewN ?_ _ | (refine below_set _ ?_ ?_; rotate_left; focus (first | omega | (simp; done) | (simp <;> omega)))))) c5, cell_keep (Below.drew (by repeat (first | exact Below.refl _ _ | refine bnew ?_ _ | refine Below.drew ?_ | refine Below.drewN ?_ _ | (refine below_set _ ?_ ?_; rotate_left; focus (first | omega | (simp; done) | (simp <;> omega)))))) c6, cell_keep (Below.drew (by repeat (first | exact Below.refl _ _ | refine bnew ?_ _ | refine Below.drew ?_ | refine Below.drewN ?_ _ | (refine below_set _ ?_ ?_; rotate_left; focus (first | omega | (simp; done) | (simp <;> omega)))))) c7, (x0).next (Below.drew (by repeat (first | exact Below.refl _ _ | refine bnew ?_ _ | refine Below.drew ?_ | refine Below.drewN ?_ _ | (refine below_set _ ?_ ?_; rotate_left; focus (first | omega | (simp; done) | (simp <;> omega)))))), (x1).next (Below.drew (by repeat (first | exact Below.refl _ _ | refine bnew ?_ _ | refine Below.drew ?_ | refine Below.drewN ?_ _ | (refine below_set _ ?_ ?_; rotate_left; focus (first | omega | (simp; done) | (simp <;> omega)))))), (x2).next (Below.drew (by repeat (first | exact Below.refl _ _ | refine bnew ?_ _ | refine Below.drew ?_ | refine Below.drewN ?_ _ | (refine below_set _ ?_ ?_; rotate_left; focus (first | omega | (simp; done) | (simp <;> omega)))))), cell_keep (Below.drew (by repeat (first | exact Below.refl _ _ | refine bnew ?_ _ | refine Below.drew ?_ | refine Below.drewN ?_ _ | (refine below_set _ ?_ ?_; rotate_left; focus (first | omega | (simp; done) | (simp <;> omega)))))) y0, cell_keep (Below.drew (by repeat (first | exact Below.refl _ _ | refine bnew ?_ _ | refine Below.drew ?_ | refine Below.drewN ?_ _ | (refine below_set _ ?_ ?_; rotate_left; focus (first | omega | (simp; done) | (simp <;> omega)))))) y1, cell_keep (Below.drew (by repeat (first | exact Below.refl _ _ | refine bnew ?_ _ | refine Below.drew ?_ | refine Below.drewN ?_ _ | (refine below_set _ ?_ ?_; rotate_left; focus (first | omega | (simp; done) | (simp <;> omega)))))) y2, cell_keep (Below.drew (by repeat (first | exact Below.refl _ _ | refine bnew ?_ _ | refine Below.drew ?_ | refine Below.drewN ?_ _ | (refine below_set _ ?_ ?_; rotate_left; focus (first | omega | (simp; done) | (simp <;> omega)))))) y3⟩
      case hSs => exact fun w1 w2 ⟨hc0, hc1, hc2, hc3, hc4, hc5, hc6, hc7, hx0, hx1, hx2, hy0, hy1, hy2, hy3⟩ hb => ⟨cell_keep hb hc0, cell_keep hb hc1, cell_keep hb hc2, cell_keep hb hc3, cell_keep hb hc4, cell_keep hb hc5, cell_keep hb hc6, cell_keep hb hc7, (hx0).next hb, (hx1).next hb, (hx2).next hb, cell_keep hb hy0, cell_keep hb hy1, cell_keep hb hy2, cell_keep hb hy3⟩
      apply Chain.det
      · intro a w1 hS hb hd K hK
        obtain ⟨c0, c1, c2, c3, c4, c5, c6, c7, x0, x1, x2, y0, y1, y2, y3⟩ := hS
        have b7 := hb 7 _ rfl (by decide)
        clear hb
        simp only [depsOK] at hd
        go_simp
        exact hK _ _ rfl (Below.refl _ _)
      show Chain _ _ _ _ _ _ _ _ _ _ _ 19 1 _
      apply Chain.det
      · intro a w1 hS hb hd K hK
        obtain ⟨c0, c1, c2, c3, c4, c5, c6, c7, x0, x1, x2, y0, y1, y2, y3⟩ := hS
        clear hb
        simp only [depsOK, updR, Region.binds, reduceIte, forall_const, and_true, eqV, List.getElem?_cons_zero, exists_eq_right] at hd
        go_simp
        exact hK _ _ rfl (Below.refl _ _)
      show Chain _ _ _ _ _ _ _ _ _ _ _ 18 2 _
      apply Chain.det
      · intro a w1 hS hb hd K hK
        obtain ⟨c0, c1, c2, c3, c4, c5, c6, c7, x0, x1, x2, y0, y1, y2, y3⟩ := hS
        clear hb
        simp only [depsOK, updR, Region.binds, reduceIte, forall_const, and_true, eqV, List.getElem?_cons_zero, List.getElem?_cons_succ, exists_eq_right, Nat.succ_ne_self] at hd
        go_simp
        exact hK _ _ rfl (Below.refl _ _)
      show Chain _ _ _ _ _ _ _ _ _ _ _ 17 3 _
      apply Chain.det
      · intro a w1 hS hb hd K hK
        obtain ⟨c0, c1, c2, c3, c4, c5, c6, c7, x0, x1, x2, y0, y1, y2, y3⟩ := hS
        clear hb
        simp only [depsOK, updR, Region.binds, reduceIte, forall_const, and_true, eqV, List.getElem?_cons_zero, List.getElem?_cons_succ, exists_eq_right, reduceCtorEq, Nat.succ_ne_self] at hd
        go_simp
        exact hK _ _ rfl (Below.refl _ _)
      show Chain _ _ _ _ _ _ _ _ _ _ _ 16 4 _
      apply Chain.det
      · intro a w1 hS hb hd K hK
        obtain ⟨c0, c1, c2, c3, c4, c5, c6, c7, x0, x1, x2, y0, y1, y2, y3⟩ := hS
        have b7 := hb 7 _ rfl (by decide)
        clear hb
        simp only [depsOK] at hd
        go_simp
        exact hK _ _ rfl (Below.refl _ _)
      show Chain _ _ _ _ _ _ _ _ _ _ _ 15 5 _
      apply Chain.det
      · intro a w1 hS hb hd K hK
        obtain ⟨c0, c1, c2, c3, c4, c5, c6, c7, x0, x1, x2, y0, y1, y2, y3⟩ := hS
        clear hb
        simp only [depsOK, updR, Region.binds, reduceIte, Nat.reduceEqDiff, forall_const, and_true, eqV, List.getElem?_cons_zero, List.getElem?_cons_succ, exists_eq_right, reduceCtorEq, Nat.succ_ne_self] at hd
        go_simp
        exact hK _ _ rfl (Below.refl _ _)
      show Chain _ _ _ _ _ _ _ _ _ _ _ 14 6 _
      apply Chain.det
      · intro a w1 hS hb hd K hK
        obtain ⟨c0, c1, c2, c3, c4, c5, c6, c7, x0, x1, x2, y0, y1, y2, y3⟩ := hS
        clear hb
        simp only [depsOK, updR, Region.binds, reduceIte, Nat.reduceEqDiff, forall_const, and_true, eqV, List.getElem?_cons_zero, List.getElem?_cons_succ, exists_eq_right, reduceCtorEq, Nat.succ_ne_self] at hd
        go_simp
        exact hK _ _ rfl (Below.refl _ _)
      show Chain _ _ _ _ _ _ _ _ _ _ _ 13 7 _
      apply Chain.det
      · intro a w1 hS hb hd K hK
        obtain ⟨c0, c1, c2, c3, c4, c5, c6, c7, x0, x1, x2, y0, y1, y2, y3⟩ := hS
        clear hb
        simp only [depsOK, updR, Region.binds, reduceIte, Nat.reduceEqDiff, forall_const, and_true, eqV, List.getElem?_cons_zero, List.getElem?_cons_succ, exists_eq_right, reduceCtorEq, Nat.succ_ne_self] at hd
        go_simp
        exact hK _ _ rfl (Below.refl _ _)
      show Chain _ _ _ _ _ _ _ _ _ _ _ 12 8 _
      apply Chain.det
      · intro a w1 hS hb hd K hK
        obtain ⟨c0, c1, c2, c3, c4, c5, c6, c7, x0, x1, x2, y0, y1, y2, y3⟩ := hS
        clear hb
        simp only [depsOK, updR, Region.binds, reduceIte, Nat.reduceEqDiff, forall_const, and_true, eqV, List.getElem?_cons_zero, List.getElem?_cons_succ, exists_eq_right, reduceCtorEq, Nat.succ_ne_self] at hd
        go_simp
        exact hK _ _ rfl (Below.refl _ _)
      show Chain _ _ _ _ _ _ _ _ _ _ _ 11 9 _
      apply Chain.det
      · intro a w1 hS hb hd K hK
        obtain ⟨c0, c1, c2, c3, c4, c5, c6, c7, x0, x1, x2, y0, y1, y2, y3⟩ := hS
        have b4 := hb 4 _ rfl (by decide)
        clear hb
        simp only [depsOK] at hd
        go_simp
        exact hK _ _ rfl (Below.refl _ _)
      show Chain _ _ _ _ _ _ _ _ _ _ _ 10 10 _
      apply Chain.det
      · intro a w1 hS hb hd K hK
        obtain ⟨c0, c1, c2, c3, c4, c5, c6, c7, x0, x1, x2, y0, y1, y2, y3⟩ := hS
        clear hb
        simp only [depsOK, updR, Region.binds, reduceIte, Nat.reduceEqDiff, forall_const, and_true, eqV, List.getElem?_cons_zero, List.getElem?_cons_succ, exists_eq_right, reduceCtorEq, Nat.succ_ne_self] at hd
        go_simp
        exact hK _ _ rfl (Below.refl _ _)
      show Chain _ _ _ _ _ _ _ _ _ _ _ 9 11 _
      apply Chain.det
      · intro a w1 hS hb hd K hK
        obtain ⟨c0, c1, c2, c3, c4, c5, c6, c7, x0, x1, x2, y0, y1, y2, y3⟩ := hS
        clear hb
        simp only [depsOK, updR, Region.binds, reduceIte, Nat.reduceEqDiff, forall_const, and_true, eqV, List.getElem?_cons_zero, List.getElem?_cons_succ, exists_eq_right, reduceCtorEq, Nat.succ_ne_self] at hd
        go_simp
        refine (nMod_any (e0 + e1) q _ (by omega) bad).mono ?_
        rintro e9 w9 ⟨rfl, rfl⟩
        exact hK _ _ rfl (Below.refl _ _)
      show Chain _ _ _ _ _ _ _ _ _ _ _ 8 12 _
      apply Chain.det
      · intro a w1 hS hb hd K hK
        obtain ⟨c0, c1, c2, c3, c4, c5, c6, c7, x0, x1, x2, y0, y1, y2, y3⟩ := hS
        have b4 := hb 4 _ rfl (by decide)
        clear hb
        simp only [depsOK] at hd
        go_simp
        exact hK _ _ rfl (Below.refl _ _)
      show Chain _ _ _ _ _ _ _ _ _ _ _ 7 13 _
      apply Chain.det
      · intro a w1 hS hb hd K hK
        obtain ⟨c0, c1, c2, c3, c4, c5, c6, c7, x0, x1, x2, y0, y1, y2, y3⟩ := hS
        have b5 := hb 5 _ rfl (by decide)
        clear hb
        simp only [depsOK] at hd
        go_simp
        exact hK _ _ rfl (Below.refl _ _)
      show Chain _ _ _ _ _ _ _ _ _ _ _ 6 14 _
      apply Chain.det
      · intro a w1 hS hb hd K hK
        obtain ⟨c0, c1, c2, c3, c4, c5, c6, c7, x0, x1, x2, y0, y1, y2, y3⟩ := hS
        have b2 := hb 2 _ rfl (by decide)
        clear hb
        simp only [depsOK] at hd
        go_simp
        exact hK _ _ rfl (Below.refl _ _)
      show Chain _ _ _ _ _ _ _ _ _ _ _ 5 15 _
      apply Chain.det
      · intro a w1 hS hb hd K hK
        obtain ⟨c0, c1, c2, c3, c4, c5, c6, c7, x0, x1, x2, y0, y1, y2, y3⟩ := hS
        have b7 := hb 7 _ rfl (by decide)
        clear hb
        simp only [depsOK] at hd
        go_simp
        exact hK _ _ rfl (Below.refl _ _)
      show Chain _ _ _ _ _ _ _ _ _ _ _ 4 16 _
      apply Chain.det
      · intro a w1 hS hb hd K hK
        obtain ⟨c0, c1, c2, c3, c4, c5, c6, c7, x0, x1, x2, y0, y1, y2, y3⟩ := hS
        clear hb
        simp only [depsOK, updR, Region.binds, reduceIte, Nat.reduceEqDiff, forall_const, and_true, eqV, List.getElem?_cons_zero, List.getElem?_cons_succ, exists_eq_right, reduceCtorEq, Nat.succ_ne_self] at hd
        go_simp
        exact hK _ _ rfl (Below.refl _ _)
      show Chain _ _ _ _ _ _ _ _ _ _ _ 3 17 _
      apply Chain.det
      · intro a w1 hS hb hd K hK
        obtain ⟨c0, c1, c2, c3, c4, c5, c6, c7, x0, x1, x2, y0, y1, y2, y3⟩ := hS
        clear hb
        simp only [depsOK, updR, Region.binds, reduceIte, Nat.reduceEqDiff, forall_const, and_true, eqV, List.getElem?_cons_zero, List.getElem?_cons_succ, exists_eq_right, reduceCtorEq, Nat.succ_ne_self] at hd
        go_simp
        refine (rBitChallenge_any p q g bh c A n d HG.out hbd hcd ad0 c_pa pa HL1.out HA.out _ x0).mono ?_
        rw [HEE.out]
        rintro e9 w9 ⟨rfl, hb9⟩
        exact hK _ _ rfl hb9
      show Chain _ _ _ _ _ _ _ _ _ _ _ 2 18 _
      refine Chain.rel (eqV (.bool b2)) (stable_eq _) ?_ ?_
      · intro a w1 hS hb hd K hK
        obtain ⟨c0, c1, c2, c3, c4, c5, c6, c7, x0, x1, x2, y0, y1, y2, y3⟩ := hS
        clear hb
        simp only [depsOK, updR, Region.binds, reduceIte, Nat.reduceEqDiff, forall_const, and_true, eqV, List.getElem?_cons_zero, List.getElem?_cons_succ, exists_eq_right, reduceCtorEq, Nat.succ_ne_self] at hd
        go_simp
        exact hK _ _ (congrArg Value.bool Hb2.out.symm) (Below.refl _ _)
      show Chain _ _ _ _ _ _ _ _ _ _ _ 1 19 _
      apply Chain.det
      · intro a w1 hS hb hd K hK
        obtain ⟨c0, c1, c2, c3, c4, c5, c6, c7, x0, x1, x2, y0, y1, y2, y3⟩ := hS
        clear hb
        simp only [depsOK, updR, Region.binds, reduceIte, Nat.reduceEqDiff, forall_const, and_true, eqV, List.getElem?_cons_zero, List.getElem?_cons_succ, exists_eq_right, reduceCtorEq, Nat.succ_ne_self] at hd
        go_simp
        exact hK _ _ rfl (Below.refl _ _)
      show Chain _ _ _ _ _ _ _ _ _ _ _ 0 20 _
      intro x w2 hS hB2 hR y hY hA hE
      have r19 := hR 19 _ rfl
      simp only [updR, reduceIte, Nat.reduceEqDiff, eqV] at r19
      clear hR hY hA hE
      simp only [TailWp, fillB, Act.put, List.setIfInBounds_toArray, List.set_cons_zero, List.set_cons_succ, Nat.reduceAdd, r19]
      clear r19
      have hX2 : Below wr.heap.size wr w2 := bnext (Below.drew (by repeat (first | exact Below.refl _ _ | refine bnew ?_ _ | refine Below.drew ?_ | refine Below.drewN ?_ _ | (refine below_set _ ?_ ?_; rotate_left; focus (first | omega | (simp; done) | (simp <;> omega)))))) hB2
      clear hB2
      have hT2 : Below w.heap.size w w2 := bnext hTL hX2
      clear c0 c1 c2 c3 c4 c5 c6 c7 x0 x1 x2 y0 y1 y2 y3
      obtain ⟨c0, c1, c2, c3, c4, c5, c6, c7, x0, x1, x2, y0, y1, y2, y3⟩ := hS
      go_wp2
      go_ret
      exact ⟨ret_bool (by rw [HF.out, Hb2.out, HE0.out, HE1.out, HE.out, HU0.out, HU1.out]), hT2⟩
    obtain ⟨px, hpx⟩ : ∃ v : Int, v = pa.getD k 0 := ⟨_, rfl⟩
    obtain ⟨pe, hpe⟩ : ∃ v : Int, v = pc.getD k 0 := ⟨_, rfl⟩
    obtain ⟨pz, hpz⟩ : ∃ v : Int, v = pr.getD k 0 := ⟨_, rfl⟩
    have i1 : (k : Int) < (pa.length : Int) := by rw [HL1.out]; omega
    have i2 : (k : Int) < (pc.length : Int) := by rw [HL2.out]; omega
    have i3 : (k : Int) < (pr.length : Int) := by rw [HL3.out]; omega
    have i4 : (0 : Int) ≤ (k : Int) := by omega
    have i5 : (k : Int) < 2 := by omega
    have m0 : 0 ≤ px ∧ px < p := hpx ▸ HA.out _ (getD_mem (by omega))
    have m1 : 0 ≤ pe ∧ pe < q := hpe ▸ HC.out _ (getD_mem (by omega))
    have m2 : 0 ≤ pz ∧ pz < q := hpz ▸ HRS.out _ (getD_mem (by omega))
    have y0 : wr.cell? (ad0.add k) = some (.int .i64 px) := x0.getk (by omega) hpx
    have y1 : wr.cell? (ad1.add k) = some (.int .i64 pe) := x1.getk (by omega) hpe
    have y2 : wr.cell? (ad2.add k) = some (.int .i64 pz) := x2.getk (by omega) hpz
    have HW := Lib.hid (show rowB p q g bh c pa pc pr k = (M.gpw p q bh pz == px * M.gpw p q (bcs p q g c k) pe % p) by unfold rowB; rw [← hpx, ← hpe, ← hpz])
    clear hpx hpe hpz
    go_wp2_with fail
    obtain ⟨b1, hb1⟩ : ∃ b : Bool, b = (M.gpw p q bh pz != px * M.gpw p q (bcs p q g c k) pe % p) := ⟨_, rfl⟩
    have Hb1 := Lib.hid hb1
    clear hb1
    refine wp_region_chain (fun W => W.cell? ⟨w.heap.size, 0, none⟩ = some (.int .i64 p) ∧ W.cell? ⟨w.heap.size, 1, none⟩ = some (.int .i64 q) ∧ W.cell? ⟨w.heap.size, 2, none⟩ = some (.int .i64 g) ∧ W.cell? ⟨w.heap.size + 1, 0, none⟩ = some (.int .i64 bh) ∧ W.cell? ⟨w.heap.size + 1, 1, none⟩ = some (.slice A n d) ∧ W.cell? ⟨w.heap.size + 1 + 1, 0, none⟩ = some (.slice (some ad0) pa.length c_pa) ∧ W.cell? ⟨w.heap.size + 1 + 1, 1, none⟩ = some (.slice (some ad1) pc.length c_pc) ∧ W.cell? ⟨w.heap.size + 1 + 1, 2, none⟩ = some (.slice (some ad2) pr.length c_pr) ∧ RI W W.heap.size (some ad0) pa ∧ RI W W.heap.size (some ad1) pc ∧ RI W W.heap.size (some ad2) pr ∧ W.cell? (ad0.add k) = some (.int .i64 px) ∧ W.cell? (ad1.add k) = some (.int .i64 pe) ∧ W.cell? (ad2.add k) = some (.int .i64 pz))
      29 [some 18, some 19, some 20, some 21, some 22, some 23, some 24, some 25, some 26, some 27, some 28, some 29, some 30, some 31, some 32, some 33, some 34, some 35, some 36, some 37, some 38, some 39, some 40, some 41, some 42, some 43, some 44, some 45, some 46] (by kernel_rfl) (by kernel_rfl) (by kernel_rfl) (by decide) (by rfl) (by kernel_rfl) (by kernel_rfl) ?hS0 ?hSs ?hc
    case hS0 => exact ⟨cell_keep (Below.drew (by repeat (first | exact Below.refl _ _ | refine bnew ?_ _ | refine Below.drew ?_ | refine Below.drewN ?_ _ | (refine below_set _ ?_ ?_; rotate_left; focus (first | omega | (simp; done) | (simp <;> omega)))))) c0, cell_keep (Below.drew (by repeat (first | exact Below.refl _ _ | refine bnew ?_ _ | refine Below.drew ?_ | refine Below.drewN ?_ _ | (refine below_set _ ?_ ?_; rotate_left; focus (first | omega | (simp; done) | (simp <;> omega)))))) c1, cell_keep (Below.drew (by repeat (first | exact Below.refl _ _ | refine bnew ?_ _ | refine Below.drew ?_ | refine Below.drewN ?_ _ | (refine below_set _ ?_ ?_; rotate_left; focus (first | omega | (simp; done) | (simp <;> omega)))))) c2, cell_keep (Below.drew (by repeat (first | exact Below.refl _ _ | refine bnew ?_ _ | refine Below.drew ?_ | refine Below.drewN ?_ _ | (refine below_set _ ?_ ?_; rotate_left; focus (first | omega | (simp; done) | (simp <;> omega)))))) c3, cell_keep (Below.drew (by repeat (first | exact Below.refl _ _ | refine bnew ?_ _ | refine Below.drew ?_ | refine Below.drewN ?_ _ | (refine below_set _ ?_ ?_; rotate_left; focus (first | omega | (simp; done) | (simp <;> omega)))))) c4, cell_keep (Below.drew (by repeat (first | exact Below.refl _ _ | refine bnew ?_ _ | refine Below.drew ?_ | refine Below.drewN ?_ _ | (refine below_set _ ?_ ?_; rotate_left; focus (first | omega | (simp; done) | (simp <;> omega)))))) c5, cell_keep (Below.drew (by repeat (first | exact Below.refl _ _ | refine bnew ?_ _ | refine Below.drew ?_ | refine Below.drewN ?_ _ | (refine below_set _ ?_ ?_; rotate_left; focus (first | omega | (simp; done) | (simp <;> omega)))))) c6, cell_keep (Below.drew (by repeat (first | exact Below.refl _ _ | refine bnew ?_ _ | refine Below.drew ?_ | refine Below.drewN ?_ _ | (refine below_set _ ?_ ?_; rotate_left; focus (first | omega | (simp; done) | (simp <;> omega)))))) c7, (x0).next (Below.drew (by repeat (first | exact Below.refl _ _ | refine bnew ?_ _ | refine Below.drew ?_ | refine Below.drewN ?_ _ | (refine below_set _ ?_ ?_; rotate_left; focus (first | omega | (simp; done) | (simp <;> omega)))))), (x1).next (Below.drew (by repeat (first | exact Below.refl _ _ | refine bnew ?_ _ | refine Below.drew ?_ | refine Below.drewN ?_ _ | (refine below_set _ ?_ ?_; rotate_left; focus (first | omega | (simp; done) | (simp <;> omega)))))), (x2).next (Below.drew (by repeat (first | exact Below.refl _ _ | refine bnew ?_ _ | refine Below.drew ?_ | refine Below.drewN ?_ _ | (refine below_set _ ?_ ?_; rotate_left; focus (first | omega | (simp; done) | (simp <;> omega)))))), cell_keep (Below.drew (by repeat (first | exact Below.refl _ _ | refine bnew ?_ _ | refine Below.drew ?_ | refine Below.drewN ?_ _ | (refine below_set _ ?_ ?_; rotate_left; focus (first | omega | (simp; done) | (simp <;> omega)))))) y0, cell_keep (Below.drew (by repeat (first | exact Below.refl _ _ | refine bnew ?_ _ | refine Below.drew ?_ | refine Below.drewN ?_ _ | (refine below_set _ ?_ ?_; rotate_left; focus (first | omega | (simp; done) | (simp <;> omega)))))) y1, cell_keep (Below.drew (by repeat (first | exact Below.refl _ _ | refine bnew ?_ _ | refine Below.drew ?_ | refine Below.drewN ?_ _ | (refine below_set _ ?_ ?_; rotate_left; focus (first | omega | (simp; done) | (simp <;> omega)))))) y2⟩
    case hSs => exact fun w1 w2 ⟨hc0, hc1, hc2, hc3, hc4, hc5, hc6, hc7, hx0, hx1, hx2, hy0, hy1, hy2⟩ hb => ⟨cell_keep hb hc0, cell_keep hb hc1, cell_keep hb hc2, cell_keep hb hc3, cell_keep hb hc4, cell_keep hb hc5, cell_keep hb hc6, cell_keep hb hc7, (hx0).next hb, (hx1).next hb, (hx2).next hb, cell_keep hb hy0, cell_keep hb hy1, cell_keep hb hy2⟩
    apply Chain.det
    · intro a w1 hS hb hd K hK
      obtain ⟨c0, c1, c2, c3, c4, c5, c6, c7, x0, x1, x2, y0, y1, y2⟩ := hS
      have b4 := hb 4 _ rfl (by decide)
      clear hb
      simp only [depsOK] at hd
      go_simp
      exact hK _ _ rfl (Below.refl _ _)
    show Chain _ _ _ _ _ _ _ _ _ _ _ 28 1 _
    apply Chain.det
    · intro a w1 hS hb hd K hK
      obtain ⟨c0, c1, c2, c3, c4, c5, c6, c7, x0, x1, x2, y0, y1, y2⟩ := hS
      have b5 := hb 5 _ rfl (by decide)
      clear hb
      simp only [depsOK] at hd
      go_simp
      exact hK _ _ rfl (Below.refl _ _)
    show Chain _ _ _ _ _ _ _ _ _ _ _ 27 2 _
    apply Chain.det
    · intro a w1 hS hb hd K hK
      obtain ⟨c0, c1, c2, c3, c4, c5, c6, c7, x0, x1, x2, y0, y1, y2⟩ := hS
      clear hb
      simp only [depsOK, updR, Region.binds, reduceIte, forall_const, and_true, eqV, List.getElem?_cons_zero, List.getElem?_cons_succ, exists_eq_right, Nat.succ_ne_self] at hd
      go_simp
      exact hK _ _ rfl (Below.refl _ _)
    show Chain _ _ _ _ _ _ _ _ _ _ _ 26 3 _
    apply Chain.det
    · intro a w1 hS hb hd K hK
      obtain ⟨c0, c1, c2, c3, c4, c5, c6, c7, x0, x1, x2, y0, y1, y2⟩ := hS
      have b7 := hb 7 _ rfl (by decide)
      clear hb
      simp only [depsOK] at hd
      go_simp
      exact hK _ _ rfl (Below.refl _ _)
    show Chain _ _ _ _ _ _ _ _ _ _ _ 25 4 _
    apply Chain.det
    · intro a w1 hS hb hd K hK
      obtain ⟨c0, c1, c2, c3, c4, c5, c6, c7, x0, x1, x2, y0, y1, y2⟩ := hS
      clear hb
      simp only [depsOK, updR, Region.binds, reduceIte, Nat.reduceEqDiff, forall_const, and_true, eqV, List.getElem?_cons_zero, List.getElem?_cons_succ, exists_eq_right, reduceCtorEq, Nat.succ_ne_self] at hd
      go_simp
      exact hK _ _ rfl (Below.refl _ _)
    show Chain _ _ _ _ _ _ _ _ _ _ _ 24 5 _
    apply Chain.det
    · intro a w1 hS hb hd K hK
      obtain ⟨c0, c1, c2, c3, c4, c5, c6, c7, x0, x1, x2, y0, y1, y2⟩ := hS
      have b9 := hb 9 _ rfl (by decide)
      clear hb
      simp only [depsOK] at hd
      go_simp
      exact hK _ _ rfl (Below.refl _ _)
    show Chain _ _ _ _ _ _ _ _ _ _ _ 23 6 _
    apply Chain.det
    · intro a w1 hS hb hd K hK
      obtain ⟨c0, c1, c2, c3, c4, c5, c6, c7, x0, x1, x2, y0, y1, y2⟩ := hS
      clear hb
      simp only [depsOK, updR, Region.binds, reduceIte, Nat.reduceEqDiff, forall_const, and_true, eqV, List.getElem?_cons_zero, List.getElem?_cons_succ, exists_eq_right, reduceCtorEq, Nat.succ_ne_self] at hd
      go_simp
      exact hK _ _ rfl (Below.refl _ _)
    show Chain _ _ _ _ _ _ _ _ _ _ _ 22 7 _
    apply Chain.det
    · intro a w1 hS hb hd K hK
      obtain ⟨c0, c1, c2, c3, c4, c5, c6, c7, x0, x1, x2, y0, y1, y2⟩ := hS
      clear hb
      simp only [depsOK, updR, Region.binds, reduceIte, Nat.reduceEqDiff, forall_const, and_true, eqV, List.getElem?_cons_zero, List.getElem?_cons_succ, exists_eq_right, reduceCtorEq, Nat.succ_ne_self] at hd
      go_simp
      exact hK _ _ rfl (Below.refl _ _)
    show Chain _ _ _ _ _ _ _ _ _ _ _ 21 8 _
    apply Chain.det
    · intro a w1 hS hb hd K hK
      obtain ⟨c0, c1, c2, c3, c4, c5, c6, c7, x0, x1, x2, y0, y1, y2⟩ := hS
      clear hb
      simp only [depsOK, updR, Region.binds, reduceIte, Nat.reduceEqDiff, forall_const, and_true, eqV, List.getElem?_cons_zero, List.getElem?_cons_succ, exists_eq_right, reduceCtorEq, Nat.succ_ne_self] at hd
      go_simp
      refine (gExp_any p q g bh pz HG.out hbd (by omega) _).mono ?_
      rintro e9 w9 ⟨rfl, hb9⟩
      exact hK _ _ (rfl) hb9
    show Chain _ _ _ _ _ _ _ _ _ _ _ 20 9 _
    apply Chain.det
    · intro a w1 hS hb hd K hK
      obtain ⟨c0, c1, c2, c3, c4, c5, c6, c7, x0, x1, x2, y0, y1, y2⟩ := hS
      have b4 := hb 4 _ rfl (by decide)
      clear hb
      simp only [depsOK] at hd
      go_simp
      exact hK _ _ rfl (Below.refl _ _)
    show Chain _ _ _ _ _ _ _ _ _ _ _ 19 10 _
    apply Chain.det
    · intro a w1 hS hb hd K hK
      obtain ⟨c0, c1, c2, c3, c4, c5, c6, c7, x0, x1, x2, y0, y1, y2⟩ := hS
      have b7 := hb 7 _ rfl (by decide)
      clear hb
      simp only [depsOK] at hd
      go_simp
      exact hK _ _ rfl (Below.refl _ _)
    show Chain _ _ _ _ _ _ _ _ _ _ _ 18 11 _
    apply Chain.det
    · intro a w1 hS hb hd K hK
      obtain ⟨c0, c1, c2, c3, c4, c5, c6, c7, x0, x1, x2, y0, y1, y2⟩ := hS
      clear hb
      simp only [depsOK, updR, Region.binds, reduceIte, Nat.reduceEqDiff, forall_const, and_true, eqV, List.getElem?_cons_zero, List.getElem?_cons_succ, exists_eq_right, reduceCtorEq, Nat.succ_ne_self] at hd
      go_simp
      exact hK _ _ rfl (Below.refl _ _)
    show Chain _ _ _ _ _ _ _ _ _ _ _ 17 12 _
    apply Chain.det
    · intro a w1 hS hb hd K hK
      obtain ⟨c0, c1, c2, c3, c4, c5, c6, c7, x0, x1, x2, y0, y1, y2⟩ := hS
      have b9 := hb 9 _ rfl (by decide)
      clear hb
      simp only [depsOK] at hd
      go_simp
      exact hK _ _ rfl (Below.refl _ _)
    show Chain _ _ _ _ _ _ _ _ _ _ _ 16 13 _
    apply Chain.det
    · intro a w1 hS hb hd K hK
      obtain ⟨c0, c1, c2, c3, c4, c5, c6, c7, x0, x1, x2, y0, y1, y2⟩ := hS
      clear hb
      simp only [depsOK, updR, Region.binds, reduceIte, Nat.reduceEqDiff, forall_const, and_true, eqV, List.getElem?_cons_zero, List.getElem?_cons_succ, exists_eq_right, reduceCtorEq, Nat.succ_ne_self] at hd
      go_simp
      exact hK _ _ rfl (Below.refl _ _)
    show Chain _ _ _ _ _ _ _ _ _ _ _ 15 14 _
    apply Chain.det
    · intro a w1 hS hb hd K hK
      obtain ⟨c0, c1, c2, c3, c4, c5, c6, c7, x0, x1, x2, y0, y1, y2⟩ := hS
      clear hb
      simp only [depsOK, updR, Region.binds, reduceIte, Nat.reduceEqDiff, forall_const, and_true, eqV, List.getElem?_cons_zero, List.getElem?_cons_succ, exists_eq_right, reduceCtorEq, Nat.succ_ne_self] at hd
      go_simp
      exact hK _ _ rfl (Below.refl _ _)
    show Chain _ _ _ _ _ _ _ _ _ _ _ 14 15 _
    apply Chain.det
    · intro a w1 hS hb hd K hK
      obtain ⟨c0, c1, c2, c3, c4, c5, c6, c7, x0, x1, x2, y0, y1, y2⟩ := hS
      have b4 := hb 4 _ rfl (by decide)
      clear hb
      simp only [depsOK] at hd
      go_simp
      exact hK _ _ rfl (Below.refl _ _)
    show Chain _ _ _ _ _ _ _ _ _ _ _ 13 16 _
    apply Chain.det
    · intro a w1 hS hb hd K hK
      obtain ⟨c0, c1, c2, c3, c4, c5, c6, c7, x0, x1, x2, y0, y1, y2⟩ := hS
      have b4 := hb 4 _ rfl (by decide)
      clear hb
      simp only [depsOK] at hd
      go_simp
      exact hK _ _ rfl (Below.refl _ _)
    show Chain _ _ _ _ _ _ _ _ _ _ _ 12 17 _
    apply Chain.det
    · intro a w1 hS hb hd K hK
      obtain ⟨c0, c1, c2, c3, c4, c5, c6, c7, x0, x1, x2, y0, y1, y2⟩ := hS
      have b2 := hb 2 _ rfl (by decide)
      clear hb
      simp only [depsOK] at hd
      go_simp
      exact hK _ _ rfl (Below.refl _ _)
    show Chain _ _ _ _ _ _ _ _ _ _ _ 11 18 _
    apply Chain.det
    · intro a w1 hS hb hd K hK
      obtain ⟨c0, c1, c2, c3, c4, c5, c6, c7, x0, x1, x2, y0, y1, y2⟩ := hS
      have b9 := hb 9 _ rfl (by decide)
      clear hb
      simp only [depsOK] at hd
      go_simp
      exact hK _ _ rfl (Below.refl _ _)
    show Chain _ _ _ _ _ _ _ _ _ _ _ 10 19 _
    apply Chain.det
    · intro a w1 hS hb hd K hK
      obtain ⟨c0, c1, c2, c3, c4, c5, c6, c7, x0, x1, x2, y0, y1, y2⟩ := hS
      clear hb
      simp only [depsOK, updR, Region.binds, reduceIte, Nat.reduceEqDiff, forall_const, and_true, eqV, List.getElem?_cons_zero, List.getElem?_cons_succ, exists_eq_right, reduceCtorEq, Nat.succ_ne_self] at hd
      go_simp
      refine (rCase_any p q g c k HG.out hcd _).mono ?_
      rintro e9 w9 ⟨rfl, hb9⟩
      exact hK _ _ (rfl) hb9
    show Chain _ _ _ _ _ _ _ _ _ _ _ 9 20 _
    apply Chain.det
    · intro a w1 hS hb hd K hK
      obtain ⟨c0, c1, c2, c3, c4, c5, c6, c7, x0, x1, x2, y0, y1, y2⟩ := hS
      have b7 := hb 7 _ rfl (by decide)
      clear hb
      simp only [depsOK] at hd
      go_simp
      exact hK _ _ rfl (Below.refl _ _)
    show Chain _ _ _ _ _ _ _ _ _ _ _ 8 21 _
    apply Chain.det
    · intro a w1 hS hb hd K hK
      obtain ⟨c0, c1, c2, c3, c4, c5, c6, c7, x0, x1, x2, y0, y1, y2⟩ := hS
      clear hb
      simp only [depsOK, updR, Region.binds, reduceIte, Nat.reduceEqDiff, forall_const, and_true, eqV, List.getElem?_cons_zero, List.getElem?_cons_succ, exists_eq_right, reduceCtorEq, Nat.succ_ne_self] at hd
      go_simp
      exact hK _ _ rfl (Below.refl _ _)
    show Chain _ _ _ _ _ _ _ _ _ _ _ 7 22 _
    apply Chain.det
    · intro a w1 hS hb hd K hK
      obtain ⟨c0, c1, c2, c3, c4, c5, c6, c7, x0, x1, x2, y0, y1, y2⟩ := hS
      have b9 := hb 9 _ rfl (by decide)
      clear hb
      simp only [depsOK] at hd
      go_simp
      exact hK _ _ rfl (Below.refl _ _)
    show Chain _ _ _ _ _ _ _ _ _ _ _ 6 23 _
    apply Chain.det
    · intro a w1 hS hb hd K hK
      obtain ⟨c0, c1, c2, c3, c4, c5, c6, c7, x0, x1, x2, y0, y1, y2⟩ := hS
      clear hb
      simp only [depsOK, updR, Region.binds, reduceIte, Nat.reduceEqDiff, forall_const, and_true, eqV, List.getElem?_cons_zero, List.getElem?_cons_succ, exists_eq_right, reduceCtorEq, Nat.succ_ne_self] at hd
      go_simp
      exact hK _ _ rfl (Below.refl _ _)
    show Chain _ _ _ _ _ _ _ _ _ _ _ 5 24 _
    apply Chain.det
    · intro a w1 hS hb hd K hK
      obtain ⟨c0, c1, c2, c3, c4, c5, c6, c7, x0, x1, x2, y0, y1, y2⟩ := hS
      clear hb
      simp only [depsOK, updR, Region.binds, reduceIte, Nat.reduceEqDiff, forall_const, and_true, eqV, List.getElem?_cons_zero, List.getElem?_cons_succ, exists_eq_right, reduceCtorEq, Nat.succ_ne_self] at hd
      go_simp
      exact hK _ _ rfl (Below.refl _ _)
    show Chain _ _ _ _ _ _ _ _ _ _ _ 4 25 _
    apply Chain.det
    · intro a w1 hS hb hd K hK
      obtain ⟨c0, c1, c2, c3, c4, c5, c6, c7, x0, x1, x2, y0, y1, y2⟩ := hS
      clear hb
      simp only [depsOK, updR, Region.binds, reduceIte, Nat.reduceEqDiff, forall_const, and_true, eqV, List.getElem?_cons_zero, List.getElem?_cons_succ, exists_eq_right, reduceCtorEq, Nat.succ_ne_self] at hd
      go_simp
      refine (gExp_any p q g (bcs p q g c k) pe HG.out (bcs_lt g3 hcd) (by omega) _).mono ?_
      rintro e9 w9 ⟨rfl, hb9⟩
      exact hK _ _ (rfl) hb9
    show Chain _ _ _ _ _ _ _ _ _ _ _ 3 26 _
    refine Chain.rel (isF 2 [px, M.gpw p q (bcs p q g c k) pe]) (stable_isF _ _) ?_ ?_
    · intro a w1 hS hb hd K hK
      obtain ⟨c0, c1, c2, c3, c4, c5, c6, c7, x0, x1, x2, y0, y1, y2⟩ := hS
      clear hb
      simp only [depsOK, updR, Region.binds, reduceIte, Nat.reduceEqDiff, forall_const, and_true, eqV, List.getElem?_cons_zero, List.getElem?_cons_succ, exists_eq_right, reduceCtorEq, Nat.succ_ne_self] at hd
      go_simp
      exact hK _ _ ⟨_, rfl, RI.lit w1 [px, M.gpw p q (bcs p q g c k) pe] _ rfl⟩ (below_new _ _)
    show Chain _ _ _ _ _ _ _ _ _ _ _ 2 27 _
    apply Chain.det
    · intro a w1 hS hb hd K hK
      obtain ⟨c0, c1, c2, c3, c4, c5, c6, c7, x0, x1, x2, y0, y1, y2⟩ := hS
      clear hb
      simp only [depsOK, updR, Region.binds, reduceIte, Nat.reduceEqDiff, forall_const, and_true, eqV, List.getElem?_cons_zero, List.getElem?_cons_succ, exists_eq_right, reduceCtorEq, Nat.succ_ne_self] at hd
      obtain ⟨h1, ⟨v2, e2, A2, rfl, r2⟩, _⟩ := hd
      go_simp
      refine (gMul2_any p q g px (M.gpw p q (bcs p q g c k) pe) HG.out m0 (M.gpw_lt g3) A2 2 _ r2).mono ?_
      rintro e9 w9 ⟨rfl, hb9⟩
      exact hK _ _ rfl hb9
    show Chain _ _ _ _ _ _ _ _ _ _ _ 1 28 _
    refine Chain.rel (eqV (.bool b1)) (stable_eq _) ?_ ?_
    · intro a w1 hS hb hd K hK
      obtain ⟨c0, c1, c2, c3, c4, c5, c6, c7, x0, x1, x2, y0, y1, y2⟩ := hS
      clear hb
      simp only [depsOK, updR, Region.binds, reduceIte, Nat.reduceEqDiff, forall_const, and_true, eqV, List.getElem?_cons_zero, List.getElem?_cons_succ, exists_eq_right, reduceCtorEq, Nat.succ_ne_self] at hd
      go_simp
      exact hK _ _ (congrArg Value.bool Hb1.out.symm) (Below.refl _ _)
    show Chain _ _ _ _ _ _ _ _ _ _ _ 0 29 _
    intro x w3 hS hB3 hR y hY hA hE
    have r28 := hR 28 _ rfl
    simp only [updR, reduceIte, Nat.reduceEqDiff, eqV] at r28
    clear hR hY hA hE
    simp only [TailWp, fillB, Act.put, List.setIfInBounds_toArray, List.set_cons_zero, List.set_cons_succ, Nat.reduceAdd, r28]
    clear r28
    have hX3 : Below wr.heap.size wr w3 := bnext (Below.drew (by repeat (first | exact Below.refl _ _ | refine bnew ?_ _ | refine Below.drew ?_ | refine Below.drewN ?_ _ | (refine below_set _ ?_ ?_; rotate_left; focus (first | omega | (simp; done) | (simp <;> omega)))))) hB3
    clear hB3
    have hT3 : Below w.heap.size w w3 := bnext hTL hX3
    clear c0 c1 c2 c3 c4 c5 c6 c7 x0 x1 x2 y0 y1 y2
    obtain ⟨c0, c1, c2, c3, c4, c5, c6, c7, x0, x1, x2, y0, y1, y2⟩ := hS
    rcases Bool.eq_false_or_eq_true (!b1) with h3 | h3
    rotate_left
    · have h3' : b1 = true := by simpa using h3
      have hR := Lib.hid (show bitV p q g bh c pa pc pr = false from bitV_no hlt (by have := Hb1.out; rw [h3'] at this; rw [HW.out]; exact of_bne this.symm))
      clear h3
      subst h3'
      go_wp2
      go_ret
      exact ⟨ret_bool hR.out.symm, hT3⟩
    have h3p : b1 = false := by simpa using h3
    have HROW := Lib.hid (show rowB p q g bh c pa pc pr k = true by have := Hb1.out; rw [h3p] at this; rw [HW.out]; exact of_bne_not this.symm)
    clear h3
    subst h3p
    go_wp2
    go_roundw
    case rel => exact ⟨k + 1, by omega, by go_num, rows_next HROWS.out HROW.out, ⟨(cell_keep (by repeat (first | exact Below.refl _ _ | refine bnew ?_ _ | refine Below.drew ?_ | refine Below.drewN ?_ _ | (refine below_set _ ?_ ?_; rotate_left; focus (first | omega | (simp; done) | (simp <;> omega))))) c0), (cell_keep (by repeat (first | exact Below.refl _ _ | refine bnew ?_ _ | refine Below.drew ?_ | refine Below.drewN ?_ _ | (refine below_set _ ?_ ?_; rotate_left; focus (first | omega | (simp; done) | (simp <;> omega))))) c1), (cell_keep (by repeat (first | exact Below.refl _ _ | refine bnew ?_ _ | refine Below.drew ?_ | refine Below.drewN ?_ _ | (refine below_set _ ?_ ?_; rotate_left; focus (first | omega | (simp; done) | (simp <;> omega))))) c2), (cell_keep (by repeat (first | exact Below.refl _ _ | refine bnew ?_ _ | refine Below.drew ?_ | refine Below.drewN ?_ _ | (refine below_set _ ?_ ?_; rotate_left; focus (first | omega | (simp; done) | (simp <;> omega))))) c3), (cell_keep (by repeat (first | exact Below.refl _ _ | refine bnew ?_ _ | refine Below.drew ?_ | refine Below.drewN ?_ _ | (refine below_set _ ?_ ?_; rotate_left; focus (first | omega | (simp; done) | (simp <;> omega))))) c4), (cell_keep (by repeat (first | exact Below.refl _ _ | refine bnew ?_ _ | refine Below.drew ?_ | refine Below.drewN ?_ _ | (refine below_set _ ?_ ?_; rotate_left; focus (first | omega | (simp; done) | (simp <;> omega))))) c5), (cell_keep (by repeat (first | exact Below.refl _ _ | refine bnew ?_ _ | refine Below.drew ?_ | refine Below.drewN ?_ _ | (refine below_set _ ?_ ?_; rotate_left; focus (first | omega | (simp; done) | (simp <;> omega))))) c6), (cell_keep (by repeat (first | exact Below.refl _ _ | refine bnew ?_ _ | refine Below.drew ?_ | refine Below.drewN ?_ _ | (refine below_set _ ?_ ?_; rotate_left; focus (first | omega | (simp; done) | (simp <;> omega))))) c7), ((x0).next (by repeat (first | exact Below.refl _ _ | refine bnew ?_ _ | refine Below.drew ?_ | refine Below.drewN ?_ _ | (refine below_set _ ?_ ?_; rotate_left; focus (first | omega | (simp; done) | (simp <;> omega)))))), ((x1).next (by repeat (first | exact Below.refl _ _ | refine bnew ?_ _ | refine Below.drew ?_ | refine Below.drewN ?_ _ | (refine below_set _ ?_ ?_; rotate_left; focus (first | omega | (simp; done) | (simp <;> omega)))))), ((x2).next (by repeat (first | exact Below.refl _ _ | refine bnew ?_ _ | refine Below.drew ?_ | refine Below.drewN ?_ _ | (refine below_set _ ?_ ?_; rotate_left; focus (first | omega | (simp; done) | (simp <;> omega))))))⟩, (by repeat (first | exact hT3 | refine bnew ?_ _ | refine Below.drew ?_ | refine Below.drewN ?_ _ | (refine below_set _ ?_ ?_; rotate_left; focus (first | omega | (simp; done) | (simp <;> omega)))))⟩
    case measure => simp [intOf]; omega
set_option maxRecDepth 100000 in
set_option maxHeartbeats 3200000 in
theorem verifyBitG_any (p q g bh c : Int) (A : Option Addr) (n d : Nat) (hG : M.Grp p q g) (hbd : 0 ≤ bh ∧ bh < p) (hcd : 0 ≤ c ∧ c < p) (A_pa : Option Addr) (c_pa : Nat) (pa : List Int) (A_pc : Option Addr) (c_pc : Nat) (pc : List Int) (A_pr : Option Addr) (c_pr : Nat) (pr : List Int) (hl_pa : pa.length ≤ 9223372036854775807) (hl_pc : pc.length ≤ 9223372036854775807) (hl_pr : pr.length ≤ 9223372036854775807) (w : World) (hx_pa : RI w w.heap.size A_pa pa) (hx_pc : RI w w.heap.size A_pc pc) (hx_pr : RI w w.heap.size A_pr pr) :
    Calls Try.prog 85 #[.agg #[.int .i64 p, .int .i64 q, .int .i64 g], .agg #[.int .i64 bh, .slice A n d], .int .i64 c, .agg #[.slice A_pa pa.length c_pa, .slice A_pc pc.length c_pc, .slice A_pr pr.length c_pr]] w fun en w' => en = .returned (.bool (bitV p q g bh c pa pc pr)) ∧ Below w.heap.size w w' := by
  have g1 := hG.q2
  have g2 := hG.qp
  have g3 := hG.p3
  have g4 := hG.pM
  have HG := Lib.hid hG
  clear hG
  have hT0 : Below w.heap.size w (((w.alloc (.cells #[.int .i64 p, .int .i64 q, .int .i64 g] 34)).alloc (.cells #[.int .i64 bh, .slice A n d] 36)).alloc (.cells #[.slice A_pa pa.length c_pa, .slice A_pc pc.length c_pc, .slice A_pr pr.length c_pr] 100)) := by repeat (first | exact Below.refl _ _ | refine bnew ?_ _)
  have c0 : (((w.alloc (.cells #[.int .i64 p, .int .i64 q, .int .i64 g] 34)).alloc (.cells #[.int .i64 bh, .slice A n d] 36)).alloc (.cells #[.slice A_pa pa.length c_pa, .slice A_pc pc.length c_pc, .slice A_pr pr.length c_pr] 100)).cell? ⟨w.heap.size, 0, none⟩ = some (.int .i64 p) := by
    repeat (first | with_reducible assumption | (with_reducible apply set1b; with_reducible assumption) | (with_reducible refine (sc_other _ ?_).trans ?_; focus (simp; done)) | (refine cell_new' ?_ _ _ _ rfl; focus (simp; done)) | with_reducible refine cell_keep (below_new _ _) ?_)
  have c1 : (((w.alloc (.cells #[.int .i64 p, .int .i64 q, .int .i64 g] 34)).alloc (.cells #[.int .i64 bh, .slice A n d] 36)).alloc (.cells #[.slice A_pa pa.length c_pa, .slice A_pc pc.length c_pc, .slice A_pr pr.length c_pr] 100)).cell? ⟨w.heap.size, 1, none⟩ = some (.int .i64 q) := by
    repeat (first | with_reducible assumption | (with_reducible apply set1b; with_reducible assumption) | (with_reducible refine (sc_other _ ?_).trans ?_; focus (simp; done)) | (refine cell_new' ?_ _ _ _ rfl; focus (simp; done)) | with_reducible refine cell_keep (below_new _ _) ?_)
  have c2 : (((w.alloc (.cells #[.int .i64 p, .int .i64 q, .int .i64 g] 34)).alloc (.cells #[.int .i64 bh, .slice A n d] 36)).alloc (.cells #[.slice A_pa pa.length c_pa, .slice A_pc pc.length c_pc, .slice A_pr pr.length c_pr] 100)).cell? ⟨w.heap.size, 2, none⟩ = some (.int .i64 g) := by
    repeat (first | with_reducible assumption | (with_reducible apply set1b; with_reducible assumption) | (with_reducible refine (sc_other _ ?_).trans ?_; focus (simp; done)) | (refine cell_new' ?_ _ _ _ rfl; focus (simp; done)) | with_reducible refine cell_keep (below_new _ _) ?_)
  have c3 : (((w.alloc (.cells #[.int .i64 p, .int .i64 q, .int .i64 g] 34)).alloc (.cells #[.int .i64 bh, .slice A n d] 36)).alloc (.cells #[.slice A_pa pa.length c_pa, .slice A_pc pc.length c_pc, .slice A_pr pr.length c_pr] 100)).cell? ⟨w.heap.size + 1, 0, none⟩ = some (.int .i64 bh) := by
    repeat (first | with_reducible assumption | (with_reducible apply set1b; with_reducible assumption) | (with_reducible refine (sc_other _ ?_).trans ?_; focus (simp; done)) | (refine cell_new' ?_ _ _ _ rfl; focus (simp; done)) | with_reducible refine cell_keep (below_new _ _) ?_)
  have c4 : (((w.alloc (.cells #[.int .i64 p, .int .i64 q, .int .i64 g] 34)).alloc (.cells #[.int .i64 bh, .slice A n d] 36)).alloc (.cells #[.slice A_pa pa.length c_pa, .slice A_pc pc.length c_pc, .slice A_pr pr.length c_pr] 100)).cell? ⟨w.heap.size + 1, 1, none⟩ = some (.slice A n d) := by
    repeat (first | with_reducible assumption | (with_reducible apply set1b; with_reducible assumption) | (with_reducible refine (sc_other _ ?_).trans ?_; focus (simp; done)) | (refine cell_new' ?_ _ _ _ rfl; focus (simp; done)) | with_reducible refine cell_keep (below_new _ _) ?_)
  have c5 : (((w.alloc (.cells #[.int .i64 p, .int .i64 q, .int .i64 g] 34)).alloc (.cells #[.int .i64 bh, .slice A n d] 36)).alloc (.cells #[.slice A_pa pa.length c_pa, .slice A_pc pc.length c_pc, .slice A_pr pr.length c_pr] 100)).cell? ⟨w.heap.size + 1 + 1, 0, none⟩ = some (.slice A_pa pa.length c_pa) := by
    repeat (first | with_reducible assumption | (with_reducible apply set1b; with_reducible assumption) | (with_reducible refine (sc_other _ ?_).trans ?_; focus (simp; done)) | (refine cell_new' ?_ _ _ _ rfl; focus (simp; done)) | with_reducible refine cell_keep (below_new _ _) ?_)
  have c6 : (((w.alloc (.cells #[.int .i64 p, .int .i64 q, .int .i64 g] 34)).alloc (.cells #[.int .i64 bh, .slice A n d] 36)).alloc (.cells #[.slice A_pa pa.length c_pa, .slice A_pc pc.length c_pc, .slice A_pr pr.length c_pr] 100)).cell? ⟨w.heap.size + 1 + 1, 1, none⟩ = some (.slice A_pc pc.length c_pc) := by
    repeat (first | with_reducible assumption | (with_reducible apply set1b; with_reducible assumption) | (with_reducible refine (sc_other _ ?_).trans ?_; focus (simp; done)) | (refine cell_new' ?_ _ _ _ rfl; focus (simp; done)) | with_reducible refine cell_keep (below_new _ _) ?_)
  have c7 : (((w.alloc (.cells #[.int .i64 p, .int .i64 q, .int .i64 g] 34)).alloc (.cells #[.int .i64 bh, .slice A n d] 36)).alloc (.cells #[.slice A_pa pa.length c_pa, .slice A_pc pc.length c_pc, .slice A_pr pr.length c_pr] 100)).cell? ⟨w.heap.size + 1 + 1, 2, none⟩ = some (.slice A_pr pr.length c_pr) := by
    repeat (first | with_reducible assumption | (with_reducible apply set1b; with_reducible assumption) | (with_reducible refine (sc_other _ ?_).trans ?_; focus (simp; done)) | (refine cell_new' ?_ _ _ _ rfl; focus (simp; done)) | with_reducible refine cell_keep (below_new _ _) ?_)
  have x0 : RI (((w.alloc (.cells #[.int .i64 p, .int .i64 q, .int .i64 g] 34)).alloc (.cells #[.int .i64 bh, .slice A n d] 36)).alloc (.cells #[.slice A_pa pa.length c_pa, .slice A_pc pc.length c_pc, .slice A_pr pr.length c_pr] 100)) (((w.alloc (.cells #[.int .i64 p, .int .i64 q, .int .i64 g] 34)).alloc (.cells #[.int .i64 bh, .slice A n d] 36)).alloc (.cells #[.slice A_pa pa.length c_pa, .slice A_pc pc.length c_pc, .slice A_pr pr.length c_pr] 100)).heap.size A_pa pa := hx_pa.next hT0
  have x1 : RI (((w.alloc (.cells #[.int .i64 p, .int .i64 q, .int .i64 g] 34)).alloc (.cells #[.int .i64 bh, .slice A n d] 36)).alloc (.cells #[.slice A_pa pa.length c_pa, .slice A_pc pc.length c_pc, .slice A_pr pr.length c_pr] 100)) (((w.alloc (.cells #[.int .i64 p, .int .i64 q, .int .i64 g] 34)).alloc (.cells #[.int .i64 bh, .slice A n d] 36)).alloc (.cells #[.slice A_pa pa.length c_pa, .slice A_pc pc.length c_pc, .slice A_pr pr.length c_pr] 100)).heap.size A_pc pc := hx_pc.next hT0
  have x2 : RI (((w.alloc (.cells #[.int .i64 p, .int .i64 q, .int .i64 g] 34)).alloc (.cells #[.int .i64 bh, .slice A n d] 36)).alloc (.cells #[.slice A_pa pa.length c_pa, .slice A_pc pc.length c_pc, .slice A_pr pr.length c_pr] 100)) (((w.alloc (.cells #[.int .i64 p, .int .i64 q, .int .i64 g] 34)).alloc (.cells #[.int .i64 bh, .slice A n d] 36)).alloc (.cells #[.slice A_pa pa.length c_pa, .slice A_pc pc.length c_pc, .slice A_pr pr.length c_pr] 100)).heap.size A_pr pr := hx_pr.next hT0
  go_enter Try.func85, Try.ntmps85
  rcases Bool.eq_false_or_eq_true (((pa.length : Int) == 2)) with q0 | q0
  rotate_left
  · have q0n : ((pa.length : Int) != 2) = true := by rw [bne, q0]; rfl
    have hR := Lib.hid (show bitV p q g bh c pa pc pr = false by unfold bitV formB; rw [q0]; simp)
    go_wp2
    go_ret
    exact ⟨ret_bool hR.out.symm, hT0⟩
  have q0n : ((pa.length : Int) != 2) = false := by rw [bne, q0]; rfl
  rcases Bool.eq_false_or_eq_true (((pc.length : Int) == 2)) with q1 | q1
  rotate_left
  · have q1n : ((pc.length : Int) != 2) = true := by rw [bne, q1]; rfl
    have hR := Lib.hid (show bitV p q g bh c pa pc pr = false by unfold bitV formB; rw [q1]; simp)
    go_wp2
    go_ret
    exact ⟨ret_bool hR.out.symm, hT0⟩
  have q1n : ((pc.length : Int) != 2) = false := by rw [bne, q1]; rfl
  rcases Bool.eq_false_or_eq_true (((pr.length : Int) == 2)) with q2 | q2
  rotate_left
  · have q2n : ((pr.length : Int) != 2) = true := by rw [bne, q2]; rfl
    have hR := Lib.hid (show bitV p q g bh c pa pc pr = false by unfold bitV formB; rw [q2]; simp)
    go_wp2
    go_ret
    exact ⟨ret_bool hR.out.symm, hT0⟩
  have q2n : ((pr.length : Int) != 2) = false := by rw [bne, q2]; rfl
  go_wp2_with fail
  refine (hasAll_any p q g HG.out A_pa c_pa pa hl_pa _ ((x0).next (by repeat (first | exact Below.refl _ _ | refine bnew ?_ _ | refine Below.drew ?_ | refine Below.drewN ?_ _ | (refine below_set _ ?_ ?_; rotate_left; focus (first | omega | (simp; done) | (simp <;> omega))))))).mono ?_
  rintro e1 w1 ⟨rfl, hb1⟩
  have hX1 : Below (((w.alloc (.cells #[.int .i64 p, .int .i64 q, .int .i64 g] 34)).alloc (.cells #[.int .i64 bh, .slice A n d] 36)).alloc (.cells #[.slice A_pa pa.length c_pa, .slice A_pc pc.length c_pc, .slice A_pr pr.length c_pr] 100)).heap.size (((w.alloc (.cells #[.int .i64 p, .int .i64 q, .int .i64 g] 34)).alloc (.cells #[.int .i64 bh, .slice A n d] 36)).alloc (.cells #[.slice A_pa pa.length c_pa, .slice A_pc pc.length c_pc, .slice A_pr pr.length c_pr] 100)) w1 := bnext (by repeat (first | exact Below.refl _ _ | refine bnew ?_ _ | refine Below.drew ?_ | refine Below.drewN ?_ _ | (refine below_set _ ?_ ?_; rotate_left; focus (first | omega | (simp; done) | (simp <;> omega))))) hb1
  have hT1 : Below w.heap.size w w1 := bnext hT0 hX1
  replace c0 : w1.cell? ⟨w.heap.size, 0, none⟩ = some (.int .i64 p) := cell_keep hX1 c0
  replace c1 : w1.cell? ⟨w.heap.size, 1, none⟩ = some (.int .i64 q) := cell_keep hX1 c1
  replace c2 : w1.cell? ⟨w.heap.size, 2, none⟩ = some (.int .i64 g) := cell_keep hX1 c2
  replace c3 : w1.cell? ⟨w.heap.size + 1, 0, none⟩ = some (.int .i64 bh) := cell_keep hX1 c3
  replace c4 : w1.cell? ⟨w.heap.size + 1, 1, none⟩ = some (.slice A n d) := cell_keep hX1 c4
  replace c5 : w1.cell? ⟨w.heap.size + 1 + 1, 0, none⟩ = some (.slice A_pa pa.length c_pa) := cell_keep hX1 c5
  replace c6 : w1.cell? ⟨w.heap.size + 1 + 1, 1, none⟩ = some (.slice A_pc pc.length c_pc) := cell_keep hX1 c6
  replace c7 : w1.cell? ⟨w.heap.size + 1 + 1, 2, none⟩ = some (.slice A_pr pr.length c_pr) := cell_keep hX1 c7
  replace x0 : RI w1 w1.heap.size A_pa pa := (x0).next hX1
  replace x1 : RI w1 w1.heap.size A_pc pc := (x1).next hX1
  replace x2 : RI w1 w1.heap.size A_pr pr := (x2).next hX1
  rcases Bool.eq_false_or_eq_true (elemsB p q pa) with q3 | q3
  rotate_left
  · have hR := Lib.hid (show bitV p q g bh c pa pc pr = false by unfold bitV formB; rw [q3]; simp)
    go_wp2
    go_ret
    exact ⟨ret_bool hR.out.symm, hT1⟩
  go_wp2_with fail
  refine (areExps_any p q g A_pc c_pc pc _ (by omega) ((x1).next (by repeat (first | exact Below.refl _ _ | refine bnew ?_ _ | refine Below.drew ?_ | refine Below.drewN ?_ _ | (refine below_set _ ?_ ?_; rotate_left; focus (first | omega | (simp; done) | (simp <;> omega)))))) hl_pc).mono ?_
  rintro e2 w2 ⟨rfl, hb2⟩
  have hX2 : Below w1.heap.size w1 w2 := bnext (by repeat (first | exact Below.refl _ _ | refine bnew ?_ _ | refine Below.drew ?_ | refine Below.drewN ?_ _ | (refine below_set _ ?_ ?_; rotate_left; focus (first | omega | (simp; done) | (simp <;> omega))))) hb2
  have hT2 : Below w.heap.size w w2 := bnext hT1 hX2
  replace c0 : w2.cell? ⟨w.heap.size, 0, none⟩ = some (.int .i64 p) := cell_keep hX2 c0
  replace c1 : w2.cell? ⟨w.heap.size, 1, none⟩ = some (.int .i64 q) := cell_keep hX2 c1
  replace c2 : w2.cell? ⟨w.heap.size, 2, none⟩ = some (.int .i64 g) := cell_keep hX2 c2
  replace c3 : w2.cell? ⟨w.heap.size + 1, 0, none⟩ = some (.int .i64 bh) := cell_keep hX2 c3
  replace c4 : w2.cell? ⟨w.heap.size + 1, 1, none⟩ = some (.slice A n d) := cell_keep hX2 c4
  replace c5 : w2.cell? ⟨w.heap.size + 1 + 1, 0, none⟩ = some (.slice A_pa pa.length c_pa) := cell_keep hX2 c5
  replace c6 : w2.cell? ⟨w.heap.size + 1 + 1, 1, none⟩ = some (.slice A_pc pc.length c_pc) := cell_keep hX2 c6
  replace c7 : w2.cell? ⟨w.heap.size + 1 + 1, 2, none⟩ = some (.slice A_pr pr.length c_pr) := cell_keep hX2 c7
  replace x0 : RI w2 w2.heap.size A_pa pa := (x0).next hX2
  replace x1 : RI w2 w2.heap.size A_pc pc := (x1).next hX2
  replace x2 : RI w2 w2.heap.size A_pr pr := (x2).next hX2
  rcases Bool.eq_false_or_eq_true (expsB q pc) with q4 | q4
  rotate_left
  · have hR := Lib.hid (show bitV p q g bh c pa pc pr = false by unfold bitV formB; rw [q4]; simp)
    go_wp2
    go_ret
    exact ⟨ret_bool hR.out.symm, hT2⟩
  go_wp2_with fail
  refine (areExps_any p q g A_pr c_pr pr _ (by omega) ((x2).next (by repeat (first | exact Below.refl _ _ | refine bnew ?_ _ | refine Below.drew ?_ | refine Below.drewN ?_ _ | (refine below_set _ ?_ ?_; rotate_left; focus (first | omega | (simp; done) | (simp <;> omega)))))) hl_pr).mono ?_
  rintro e3 w3 ⟨rfl, hb3⟩
  have hX3 : Below w2.heap.size w2 w3 := bnext (by repeat (first | exact Below.refl _ _ | refine bnew ?_ _ | refine Below.drew ?_ | refine Below.drewN ?_ _ | (refine below_set _ ?_ ?_; rotate_left; focus (first | omega | (simp; done) | (simp <;> omega))))) hb3
  have hT3 : Below w.heap.size w w3 := bnext hT2 hX3
  replace c0 : w3.cell? ⟨w.heap.size, 0, none⟩ = some (.int .i64 p) := cell_keep hX3 c0
  replace c1 : w3.cell? ⟨w.heap.size, 1, none⟩ = some (.int .i64 q) := cell_keep hX3 c1
  replace c2 : w3.cell? ⟨w.heap.size, 2, none⟩ = some (.int .i64 g) := cell_keep hX3 c2
  replace c3 : w3.cell? ⟨w.heap.size + 1, 0, none⟩ = some (.int .i64 bh) := cell_keep hX3 c3
  replace c4 : w3.cell? ⟨w.heap.size + 1, 1, none⟩ = some (.slice A n d) := cell_keep hX3 c4
  replace c5 : w3.cell? ⟨w.heap.size + 1 + 1, 0, none⟩ = some (.slice A_pa pa.length c_pa) := cell_keep hX3 c5
  replace c6 : w3.cell? ⟨w.heap.size + 1 + 1, 1, none⟩ = some (.slice A_pc pc.length c_pc) := cell_keep hX3 c6
  replace c7 : w3.cell? ⟨w.heap.size + 1 + 1, 2, none⟩ = some (.slice A_pr pr.length c_pr) := cell_keep hX3 c7
  replace x0 : RI w3 w3.heap.size A_pa pa := (x0).next hX3
  replace x1 : RI w3 w3.heap.size A_pc pc := (x1).next hX3
  replace x2 : RI w3 w3.heap.size A_pr pr := (x2).next hX3
  rcases Bool.eq_false_or_eq_true (expsB q pr) with q5 | q5
  rotate_left
  · have hR := Lib.hid (show bitV p q g bh c pa pc pr = false by unfold bitV formB; rw [q5]; simp)
    go_wp2
    go_ret
    exact ⟨ret_bool hR.out.symm, hT3⟩
  have hf : formB p q pa pc pr 2 2 2 = true := by unfold formB; rw [q0, q1, q2, q3, q4, q5]; rfl
  obtain ⟨o1, o2, o3, o4, o5, o6⟩ := formB_of hf
  have l1 : pa.length = 2 := by omega
  have l2 : pc.length = 2 := by omega
  have l3 : pr.length = 2 := by omega
  have HA := Lib.hid (elemsB_bd o4)
  have HC := Lib.hid (fun x hx => expsB_mem o5 (e := x) hx)
  have HRS := Lib.hid (fun x hx => expsB_mem o6 (e := x) hx)
  have HY := Lib.hid (bitV_yes (g := g) (bh := bh) (c := c) hf)
  obtain ⟨ad0, ea0⟩ := hx_pa.ad
  obtain rfl := ea0 (by omega)
  obtain ⟨ad1, ea1⟩ := hx_pc.ad
  obtain rfl := ea1 (by omega)
  obtain ⟨ad2, ea2⟩ := hx_pr.ad
  obtain rfl := ea2 (by omega)
  have z1 : (0 : Int) < (pa.length : Int) := by omega
  have z2 : (1 : Int) < (pa.length : Int) := by omega
  have z3 : (0 : Int) < (pc.length : Int) := by omega
  have z4 : (1 : Int) < (pc.length : Int) := by omega
  have n1 : 0 < pa.length := by omega
  have n2 : 0 < pc.length := by omega
  have z5 : (1 : Int) < (pr.length : Int) := by omega
  have HL1 := Lib.hid l1
  have HL2 := Lib.hid l2
  have HL3 := Lib.hid l3
  clear l1 l2 l3 o1 o2 o3 o4 o5 o6 ea0 ea1 ea2
  go_wp2
  clear hf q0 q1 q2 q0n q1n q2n q3 q4 q5
  go_loopw [53] (fun S53 W => ∃ k : Nat, k ≤ 2 ∧ S53 = .int .i64 k ∧ (∀ j, j < k → rowB p q g bh c pa pc pr j = true) ∧ (W.cell? ⟨w.heap.size, 0, none⟩ = some (.int .i64 p) ∧ W.cell? ⟨w.heap.size, 1, none⟩ = some (.int .i64 q) ∧ W.cell? ⟨w.heap.size, 2, none⟩ = some (.int .i64 g) ∧ W.cell? ⟨w.heap.size + 1, 0, none⟩ = some (.int .i64 bh) ∧ W.cell? ⟨w.heap.size + 1, 1, none⟩ = some (.slice A n d) ∧ W.cell? ⟨w.heap.size + 1 + 1, 0, none⟩ = some (.slice (some ad0) pa.length c_pa) ∧ W.cell? ⟨w.heap.size + 1 + 1, 1, none⟩ = some (.slice (some ad1) pc.length c_pc) ∧ W.cell? ⟨w.heap.size + 1 + 1, 2, none⟩ = some (.slice (some ad2) pr.length c_pr) ∧ RI W W.heap.size (some ad0) pa ∧ RI W W.heap.size (some ad1) pc ∧ RI W W.heap.size (some ad2) pr) ∧ Below w.heap.size w W) (fun S53 _ => 2 - (intOf S53).toNat)
  case atStart => exact ⟨0, by omega, rfl, fun j hj => by omega, ⟨(cell_keep (by repeat (first | exact Below.refl _ _ | refine bnew ?_ _ | refine Below.drew ?_ | refine Below.drewN ?_ _ | (refine below_set _ ?_ ?_; rotate_left; focus (first | omega | (simp; done) | (simp <;> omega))))) c0), (cell_keep (by repeat (first | exact Below.refl _ _ | refine bnew ?_ _ | refine Below.drew ?_ | refine Below.drewN ?_ _ | (refine below_set _ ?_ ?_; rotate_left; focus (first | omega | (simp; done) | (simp <;> omega))))) c1), (cell_keep (by repeat (first | exact Below.refl _ _ | refine bnew ?_ _ | refine Below.drew ?_ | refine Below.drewN ?_ _ | (refine below_set _ ?_ ?_; rotate_left; focus (first | omega | (simp; done) | (simp <;> omega))))) c2), (cell_keep (by repeat (first | exact Below.refl _ _ | refine bnew ?_ _ | refine Below.drew ?_ | refine Below.drewN ?_ _ | (refine below_set _ ?_ ?_; rotate_left; focus (first | omega | (simp; done) | (simp <;> omega))))) c3), (cell_keep (by repeat (first | exact Below.refl _ _ | refine bnew ?_ _ | refine Below.drew ?_ | refine Below.drewN ?_ _ | (refine below_set _ ?_ ?_; rotate_left; focus (first | omega | (simp; done) | (simp <;> omega))))) c4), (cell_keep (by repeat (first | exact Below.refl _ _ | refine bnew ?_ _ | refine Below.drew ?_ | refine Below.drewN ?_ _ | (refine below_set _ ?_ ?_; rotate_left; focus (first | omega | (simp; done) | (simp <;> omega))))) c5), (cell_keep (by repeat (first | exact Below.refl _ _ | refine bnew ?_ _ | refine Below.drew ?_ | refine Below.drewN ?_ _ | (refine below_set _ ?_ ?_; rotate_left; focus (first | omega | (simp; done) | (simp <;> omega))))) c6), (cell_keep (by repeat (first | exact Below.refl _ _ | refine bnew ?_ _ | refine Below.drew ?_ | refine Below.drewN ?_ _ | (refine below_set _ ?_ ?_; rotate_left; focus (first | omega | (simp; done) | (simp <;> omega))))) c7), ((x0).next (by repeat (first | exact Below.refl _ _ | refine bnew ?_ _ | refine Below.drew ?_ | refine Below.drewN ?_ _ | (refine below_set _ ?_ ?_; rotate_left; focus (first | omega | (simp; done) | (simp <;> omega)))))), ((x1).next (by repeat (first | exact Below.refl _ _ | refine bnew ?_ _ | refine Below.drew ?_ | refine Below.drewN ?_ _ | (refine below_set _ ?_ ?_; rotate_left; focus (first | omega | (simp; done) | (simp <;> omega)))))), ((x2).next (by repeat (first | exact Below.refl _ _ | refine bnew ?_ _ | refine Below.drew ?_ | refine Below.drewN ?_ _ | (refine below_set _ ?_ ?_; rotate_left; focus (first | omega | (simp; done) | (simp <;> omega))))))⟩, (by repeat (first | exact hT3 | refine bnew ?_ _ | refine Below.drew ?_ | refine Below.drewN ?_ _ | (refine below_set _ ?_ ?_; rotate_left; focus (first | omega | (simp; done) | (simp <;> omega)))))⟩
  case round =>
    obtain ⟨k, hk, rfl, hrows, ⟨c0, c1, c2, c3, c4, c5, c6, c7, x0, x1, x2⟩, hTL⟩ := hrel
    have HROWS := Lib.hid hrows
    clear hrows
    by_cases hlt : k < 2
    rotate_left
    · skip
      obtain rfl : k = 2 := by omega
      have i6 : (pa.length : Int) ≤ ((2 : Nat) : Int) := by rw [HL1.out]; omega
      have HF := Lib.hid (HY.out HROWS.out)
      obtain ⟨u0, hu0⟩ : ∃ v : Int, v = pa.getD 0 0 := ⟨_, rfl⟩
      obtain ⟨u1, hu1⟩ : ∃ v : Int, v = pa.getD 1 0 := ⟨_, rfl⟩
      obtain ⟨e0, he0⟩ : ∃ v : Int, v = pc.getD 0 0 := ⟨_, rfl⟩
      obtain ⟨e1, he1⟩ : ∃ v : Int, v = pc.getD 1 0 := ⟨_, rfl⟩
      have m0 : 0 ≤ u0 ∧ u0 < p := hu0 ▸ HA.out _ (getD_mem (by omega))
      have m1 : 0 ≤ u1 ∧ u1 < p := hu1 ▸ HA.out _ (getD_mem (by omega))
      have m2 : 0 ≤ e0 ∧ e0 < q := he0 ▸ HC.out _ (getD_mem (by omega))
      have m3 : 0 ≤ e1 ∧ e1 < q := he1 ▸ HC.out _ (getD_mem (by omega))
      have y0 : wr.cell? ad0 = some (.int .i64 u0) := by
        have := x0.get 0 (by omega)
        rwa [add0, ← hu0] at this
      have y1 : wr.cell? ⟨ad0.block, ad0.off + 1, none⟩ = some (.int .i64 u1) := by
        have := x0.get 1 (by omega)
        rwa [← hu1] at this
      have y2 : wr.cell? ad1 = some (.int .i64 e0) := by
        have := x1.get 0 (by omega)
        rwa [add0, ← he0] at this
      have y3 : wr.cell? ⟨ad1.block, ad1.off + 1, none⟩ = some (.int .i64 e1) := by
        have := x1.get 1 (by omega)
        rwa [← he1] at this
      have HU0 := Lib.hid hu0
      have HU1 := Lib.hid hu1
      have HE0 := Lib.hid he0
      have HE1 := Lib.hid he1
      clear hu0 hu1 he0 he1
      have HD := Lib.hid (dig4' g4 hbd hcd m0 m1)
      have HS := Lib.hid (show sumL q pc = (e0 + e1) % q by rw [len2 HL2.out, ← HE0.out, ← HE1.out]; exact sumL_two m2)
      go_wp2_with fail
      refine wp_region_chain (fun W => W.cell? ⟨w.heap.size, 0, none⟩ = some (.int .i64 p) ∧ W.cell? ⟨w.heap.size, 1, none⟩ = some (.int .i64 q) ∧ W.cell? ⟨w.heap.size, 2, none⟩ = some (.int .i64 g) ∧ W.cell? ⟨w.heap.size + 1, 0, none⟩ = some (.int .i64 bh) ∧ W.cell? ⟨w.heap.size + 1, 1, none⟩ = some (.slice A n d) ∧ W.cell? ⟨w.heap.size + 1 + 1, 0, none⟩ = some (.slice (some ad0) pa.length c_pa) ∧ W.cell? ⟨w.heap.size + 1 + 1, 1, none⟩ = some (.slice (some ad1) pc.length c_pc) ∧ W.cell? ⟨w.heap.size + 1 + 1, 2, none⟩ = some (.slice (some ad2) pr.length c_pr) ∧ RI W W.heap.size (some ad0) pa ∧ RI W W.heap.size (some ad1) pc ∧ RI W W.heap.size (some ad2) pr ∧ W.cell? ad0 = some (.int .i64 u0) ∧ W.cell? ⟨ad0.block, ad0.off + 1, none⟩ = some (.int .i64 u1) ∧ W.cell? ad1 = some (.int .i64 e0) ∧ W.cell? ⟨ad1.block, ad1.off + 1, none⟩ = some (.int .i64 e1))
        19 [some 85, some 86, some 87, some 88, some 89, some 90, some 91, some 92, some 93, some 94, some 95, some 96, some 97, some 98, some 84, some 99, some 100, some 11, some 12] (by kernel_rfl) (by kernel_rfl) (by kernel_rfl) (by decide) (by rfl) (by kernel_rfl) (by kernel_rfl) ?hS0 ?hSs ?hc
      case hS0 => exact ⟨cell_keep (Below.drew (by repeat (first | exact Below.refl _ _ | refine bnew ?_ _ | refine Below.drew ?_ | refine Below.drewN ?_ _ | (refine below_set _ ?_ ?_; rotate_left; focus (first | omega | (simp; done) | (simp <;> omega)))))) c0, cell_keep (Below.drew (by repeat (first | exact Below.refl _ _ | refine bnew ?_ _ | refine Below.drew ?_ | refine Below.drewN ?_ _ | (refine below_set _ ?_ ?_; rotate_left; focus (first | omega | (simp; done) | (simp <;> omega)))))) c1, cell_keep (Below.drew (by repeat (first | exact Below.refl _ _ | refine bnew ?_ _ | refine Below.drew ?_ | refine Below.drewN ?_ _ | (refine below_set _ ?_ ?_; rotate_left; focus (first | omega | (simp; done) | (simp <;> omega)))))) c2, cell_keep (Below.drew (by repeat (first | exact Below.refl _ _ | refine bnew ?_ _ | refine Below.drew ?_ | refine Below.drewN ?_ _ | (refine below_set _ ?_ ?_; rotate_left; focus (first | omega | (simp; done) | (simp <;> omega)))))) c3, cell_keep (Below.drew (by repeat (first | exact Below.refl _ _ | refine bnew ?_ _ | refine Below.drew ?_ | refine Below.drewN ?_ _ | (refine below_set _ ?_ ?_; rotate_left; focus (first | omega | (simp; done) | (simp <;> omega)))))) c4, cell_keep (Below.drew (by repeat (first | exact Below.refl _ _ | refine bnew ?_ _ | refine Below.drew ?_ | refine Below.drewN ?_ _ | (refine below_set _ ?_ ?_; rotate_left; focus (first | omega | (simp; done) | (simp <;> omega)))))) c5, cell_keep (Below.drew (by repeat (first | exact Below.refl _ _ | refine bnew ?_ _ | refine Below.drew ?_ | refine Below.drewN ?_ _ | (refine below_set _ ?_ ?_; rotate_left; focus (first | omega | (simp; done) | (simp <;> omega)))))) c6, cell_keep (Below.drew (by repeat (first | exact Below.refl _ _ | refine bnew ?_ _ | refine Below.drew ?_ | refine Below.drewN ?_ _ | (refine below_set _ ?_ ?_; rotate_left; focus (first | omega | (simp; done) | (simp <;> omega)))))) c7, (x0).next (Below.drew (by repeat (first | exact Below.refl _ _ | refine bnew ?_ _ | refine Below.drew ?_ | refine Below.drewN ?_ _ | (refine below_set _ ?_ ?_; rotate_left; focus (first | omega | (simp; done) | (simp <;> omega)))))), (x1).next (Below.drew (by repeat (first | exact Below.refl _ _ | refine bnew ?_ _ | refine Below.drew ?_ | refine Below.drewN ?_ _ | (refine below_set _ ?_ ?_; rotate_left; focus (first | omega | (simp; done) | (simp <;> omega)))))), (x2).next (Below.drew (by repeat (first | exact Below.refl _ _ | refine bnew ?_ _ | refine Below.drew ?_ | refine Below.drewN ?_ _ | (refine below_set _ ?_ ?_; rotate_left; focus (first | omega | (simp; done) | (simp <;> omega)))))), cell_keep (Below.drew (by repeat (first | exact Below.refl _ _ | refine bnew ?_ _ | refine Below.drew ?_ | refine Below.drewN ?_ _ | (refine below_set _ ?_ ?_; rotate_left; focus (first | omega | (simp; done) | (simp <;> omega)))))) y0, cell_keep (Below.drew (by repeat (first | exact Below.refl _ _ | refine bnew ?_ _ | refine Below.drew ?_ | refine Below.drewN ?_ _ | (refine below_set _ ?_ ?_; rotate_left; focus (first | omega | (simp; done) | (simp <;> omega)))))) y1, cell_keep (Below.drew (by repeat (first | exact Below.refl _ _ | refine bnew ?_ _ | refine Below.drew ?_ | refine Below.drewN ?_ _ | (refine below_set _ ?_ ?_; rotate_left; focus (first | omega | (simp; done) | (simp <;> omega)))))) y2, cell_keep (Below.drew (by repeat (first | exact Below.refl _ _ | refine bnew ?_ _ | refine Below.drew ?_ | refine Below.drewN ?_ _ | (refine below_set _ ?_ ?_; rotate_left; focus (first | omega | (simp; done) | (simp <;> omega)))))) y3⟩
      case hSs => exact fun w1 w2 ⟨hc0, hc1, hc2, hc3, hc4, hc5, hc6, hc7, hx0, hx1, hx2, hy0, hy1, hy2, hy3⟩ hb => ⟨cell_keep hb hc0, cell_keep hb hc1, cell_keep hb hc2, cell_keep hb hc3, cell_keep hb hc4, cell_keep hb hc5, cell_keep hb hc6, cell_keep hb hc7, (hx0).next hb, (hx1).next hb, (hx2).next hb, cell_keep hb hy0, cell_keep hb hy1, cell_keep hb hy2, cell_keep hb hy3⟩
      apply Chain.det
      · intro a w1 hS hb hd K hK
        obtain ⟨c0, c1, c2, c3, c4, c5, c6, c7, x0, x1, x2, y0, y1, y2, y3⟩ := hS
        have b4 := hb 4 _ rfl (by decide)
        clear hb
        simp only [depsOK] at hd
        go_simp
        exact hK _ _ rfl (Below.refl _ _)
      show Chain _ _ _ _ _ _ _ _ _ _ _ 18 1 _
      apply Chain.det
      · intro a w1 hS hb hd K hK
        obtain ⟨c0, c1, c2, c3, c4, c5, c6, c7, x0, x1, x2, y0, y1, y2, y3⟩ := hS
        have b5 := hb 5 _ rfl (by decide)
        clear hb
        simp only [depsOK] at hd
        go_simp
        exact hK _ _ rfl (Below.refl _ _)
      show Chain _ _ _ _ _ _ _ _ _ _ _ 17 2 _
      apply Chain.det
      · intro a w1 hS hb hd K hK
        obtain ⟨c0, c1, c2, c3, c4, c5, c6, c7, x0, x1, x2, y0, y1, y2, y3⟩ := hS
        clear hb
        simp only [depsOK, updR, Region.binds, reduceIte, forall_const, and_true, eqV, List.getElem?_cons_zero, List.getElem?_cons_succ, exists_eq_right, Nat.succ_ne_self] at hd
        go_simp
        exact hK _ _ rfl (Below.refl _ _)
      show Chain _ _ _ _ _ _ _ _ _ _ _ 16 3 _
      apply Chain.det
      · intro a w1 hS hb hd K hK
        obtain ⟨c0, c1, c2, c3, c4, c5, c6, c7, x0, x1, x2, y0, y1, y2, y3⟩ := hS
        have b2 := hb 2 _ rfl (by decide)
        clear hb
        simp only [depsOK] at hd
        go_simp
        exact hK _ _ rfl (Below.refl _ _)
      show Chain _ _ _ _ _ _ _ _ _ _ _ 15 4 _
      apply Chain.det
      · intro a w1 hS hb hd K hK
        obtain ⟨c0, c1, c2, c3, c4, c5, c6, c7, x0, x1, x2, y0, y1, y2, y3⟩ := hS
        have b7 := hb 7 _ rfl (by decide)
        clear hb
        simp only [depsOK] at hd
        go_simp
        exact hK _ _ rfl (Below.refl _ _)
      show Chain _ _ _ _ _ _ _ _ _ _ _ 14 5 _
      apply Chain.det
      · intro a w1 hS hb hd K hK
        obtain ⟨c0, c1, c2, c3, c4, c5, c6, c7, x0, x1, x2, y0, y1, y2, y3⟩ := hS
        clear hb
        simp only [depsOK, updR, Region.binds, reduceIte, Nat.reduceEqDiff, forall_const, and_true, eqV, List.getElem?_cons_zero, List.getElem?_cons_succ, exists_eq_right, reduceCtorEq, Nat.succ_ne_self] at hd
        go_simp
        exact hK _ _ rfl (Below.refl _ _)
      show Chain _ _ _ _ _ _ _ _ _ _ _ 13 6 _
      apply Chain.det
      · intro a w1 hS hb hd K hK
        obtain ⟨c0, c1, c2, c3, c4, c5, c6, c7, x0, x1, x2, y0, y1, y2, y3⟩ := hS
        clear hb
        simp only [depsOK, updR, Region.binds, reduceIte, Nat.reduceEqDiff, forall_const, and_true, eqV, List.getElem?_cons_zero, List.getElem?_cons_succ, exists_eq_right, reduceCtorEq, Nat.succ_ne_self] at hd
        go_simp
        exact hK _ _ rfl (Below.refl _ _)
      show Chain _ _ _ _ _ _ _ _ _ _ _ 12 7 _
      apply Chain.det
      · intro a w1 hS hb hd K hK
        obtain ⟨c0, c1, c2, c3, c4, c5, c6, c7, x0, x1, x2, y0, y1, y2, y3⟩ := hS
        clear hb
        simp only [depsOK, updR, Region.binds, reduceIte, Nat.reduceEqDiff, forall_const, and_true, eqV, List.getElem?_cons_zero, List.getElem?_cons_succ, exists_eq_right, reduceCtorEq, Nat.succ_ne_self] at hd
        go_simp
        exact hK _ _ rfl (Below.refl _ _)
      show Chain _ _ _ _ _ _ _ _ _ _ _ 11 8 _
      apply Chain.det
      · intro a w1 hS hb hd K hK
        obtain ⟨c0, c1, c2, c3, c4, c5, c6, c7, x0, x1, x2, y0, y1, y2, y3⟩ := hS
        have b7 := hb 7 _ rfl (by decide)
        clear hb
        simp only [depsOK] at hd
        go_simp
        exact hK _ _ rfl (Below.refl _ _)
      show Chain _ _ _ _ _ _ _ _ _ _ _ 10 9 _
      apply Chain.det
      · intro a w1 hS hb hd K hK
        obtain ⟨c0, c1, c2, c3, c4, c5, c6, c7, x0, x1, x2, y0, y1, y2, y3⟩ := hS
        clear hb
        simp only [depsOK, updR, Region.binds, reduceIte, Nat.reduceEqDiff, forall_const, and_true, eqV, List.getElem?_cons_zero, List.getElem?_cons_succ, exists_eq_right, reduceCtorEq, Nat.succ_ne_self] at hd
        go_simp
        exact hK _ _ rfl (Below.refl _ _)
      show Chain _ _ _ _ _ _ _ _ _ _ _ 9 10 _
      apply Chain.det
      · intro a w1 hS hb hd K hK
        obtain ⟨c0, c1, c2, c3, c4, c5, c6, c7, x0, x1, x2, y0, y1, y2, y3⟩ := hS
        clear hb
        simp only [depsOK, updR, Region.binds, reduceIte, Nat.reduceEqDiff, forall_const, and_true, eqV, List.getElem?_cons_zero, List.getElem?_cons_succ, exists_eq_right, reduceCtorEq, Nat.succ_ne_self] at hd
        go_simp
        exact hK _ _ rfl (Below.refl _ _)
      show Chain _ _ _ _ _ _ _ _ _ _ _ 8 11 _
      apply Chain.det
      · intro a w1 hS hb hd K hK
        obtain ⟨c0, c1, c2, c3, c4, c5, c6, c7, x0, x1, x2, y0, y1, y2, y3⟩ := hS
        clear hb
        simp only [depsOK, updR, Region.binds, reduceIte, Nat.reduceEqDiff, forall_const, and_true, eqV, List.getElem?_cons_zero, List.getElem?_cons_succ, exists_eq_right, reduceCtorEq, Nat.succ_ne_self] at hd
        go_simp
        exact hK _ _ rfl (Below.refl _ _)
      show Chain _ _ _ _ _ _ _ _ _ _ _ 7 12 _
      refine Chain.rel (isF 4 [bh, c, u0, u1]) (stable_isF _ _) ?_ ?_
      · intro a w1 hS hb hd K hK
        obtain ⟨c0, c1, c2, c3, c4, c5, c6, c7, x0, x1, x2, y0, y1, y2, y3⟩ := hS
        clear hb
        simp only [depsOK, updR, Region.binds, reduceIte, Nat.reduceEqDiff, forall_const, and_true, eqV, List.getElem?_cons_zero, List.getElem?_cons_succ, exists_eq_right, reduceCtorEq, Nat.succ_ne_self] at hd
        go_simp
        exact hK _ _ ⟨_, rfl, RI.lit w1 [bh, c, u0, u1] _ rfl⟩ (below_new _ _)
      show Chain _ _ _ _ _ _ _ _ _ _ _ 6 13 _
      apply Chain.det
      · intro a w1 hS hb hd K hK
        obtain ⟨c0, c1, c2, c3, c4, c5, c6, c7, x0, x1, x2, y0, y1, y2, y3⟩ := hS
        clear hb
        simp only [depsOK, updR, Region.binds, reduceIte, Nat.reduceEqDiff, forall_const, and_true, eqV, List.getElem?_cons_zero, List.getElem?_cons_succ, exists_eq_right, reduceCtorEq, Nat.succ_ne_self] at hd
        obtain ⟨h1, v2, e2, A2, rfl, r2⟩ := hd
        go_simp
        refine (challenge_any p q g HG.out ⟨lBit.toArray⟩ (by decide) A2 4 [bh, c, u0, u1] (by simp) (by simp) HD.out _ r2).mono ?_
        rintro e9 w9 ⟨rfl, hb9⟩
        exact hK _ _ rfl hb9
      show Chain _ _ _ _ _ _ _ _ _ _ _ 5 14 _
      apply Chain.det
      · intro a w1 hS hb hd K hK
        obtain ⟨c0, c1, c2, c3, c4, c5, c6, c7, x0, x1, x2, y0, y1, y2, y3⟩ := hS
        clear hb
        simp only [depsOK, updR, Region.binds, reduceIte, Nat.reduceEqDiff, forall_const, and_true, eqV, List.getElem?_cons_zero, List.getElem?_cons_succ, exists_eq_right, reduceCtorEq, Nat.succ_ne_self] at hd
        go_simp
        exact hK _ _ rfl (Below.refl _ _)
      show Chain _ _ _ _ _ _ _ _ _ _ _ 4 15 _
      apply Chain.det
      · intro a w1 hS hb hd K hK
        obtain ⟨c0, c1, c2, c3, c4, c5, c6, c7, x0, x1, x2, y0, y1, y2, y3⟩ := hS
        clear hb
        simp only [depsOK, updR, Region.binds, reduceIte, Nat.reduceEqDiff, forall_const, and_true, eqV, List.getElem?_cons_zero, List.getElem?_cons_succ, exists_eq_right, reduceCtorEq, Nat.succ_ne_self] at hd
        go_simp
        exact hK _ _ rfl (Below.refl _ _)
      show Chain _ _ _ _ _ _ _ _ _ _ _ 3 16 _
      apply Chain.det
      · intro a w1 hS hb hd K hK
        obtain ⟨c0, c1, c2, c3, c4, c5, c6, c7, x0, x1, x2, y0, y1, y2, y3⟩ := hS
        clear hb
        simp only [depsOK, updR, Region.binds, reduceIte, Nat.reduceEqDiff, forall_const, and_true, eqV, List.getElem?_cons_zero, List.getElem?_cons_succ, exists_eq_right, reduceCtorEq, Nat.succ_ne_self] at hd
        go_simp
        exact hK _ _ rfl (Below.refl _ _)
      show Chain _ _ _ _ _ _ _ _ _ _ _ 2 17 _
      apply Chain.det
      · intro a w1 hS hb hd K hK
        obtain ⟨c0, c1, c2, c3, c4, c5, c6, c7, x0, x1, x2, y0, y1, y2, y3⟩ := hS
        clear hb
        simp only [depsOK, updR, Region.binds, reduceIte, Nat.reduceEqDiff, forall_const, and_true, eqV, List.getElem?_cons_zero, List.getElem?_cons_succ, exists_eq_right, reduceCtorEq, Nat.succ_ne_self] at hd
        go_simp
        exact hK _ _ rfl (Below.refl _ _)
      show Chain _ _ _ _ _ _ _ _ _ _ _ 1 18 _
      apply Chain.det
      · intro a w1 hS hb hd K hK
        obtain ⟨c0, c1, c2, c3, c4, c5, c6, c7, x0, x1, x2, y0, y1, y2, y3⟩ := hS
        clear hb
        simp only [depsOK, updR, Region.binds, reduceIte, Nat.reduceEqDiff, forall_const, and_true, eqV, List.getElem?_cons_zero, List.getElem?_cons_succ, exists_eq_right, reduceCtorEq, Nat.succ_ne_self] at hd
        go_simp
        exact hK _ _ rfl (Below.refl _ _)
      show Chain _ _ _ _ _ _ _ _ _ _ _ 0 19 _
      intro x w4 hS hB4 hR y hY hA hE
      have r17 := hR 17 _ rfl
      simp only [updR, reduceIte, Nat.reduceEqDiff, eqV] at r17
      have r18 := hR 18 _ rfl
      simp only [updR, reduceIte, Nat.reduceEqDiff, eqV] at r18
      clear hR hY hA hE
      simp only [TailWp, fillB, Act.put, List.setIfInBounds_toArray, List.set_cons_zero, List.set_cons_succ, Nat.reduceAdd, r17, r18]
      clear r17
      clear r18
      have hX4 : Below wr.heap.size wr w4 := bnext (Below.drew (by repeat (first | exact Below.refl _ _ | refine bnew ?_ _ | refine Below.drew ?_ | refine Below.drewN ?_ _ | (refine below_set _ ?_ ?_; rotate_left; focus (first | omega | (simp; done) | (simp <;> omega)))))) hB4
      clear hB4
      have hT4 : Below w.heap.size w w4 := bnext hTL hX4
      clear c0 c1 c2 c3 c4 c5 c6 c7 x0 x1 x2 y0 y1 y2 y3
      obtain ⟨c0, c1, c2, c3, c4, c5, c6, c7, x0, x1, x2, y0, y1, y2, y3⟩ := hS
      go_wp2_with fail
      refine (sumI_any q (by omega) _ c_pc pc hl_pc _ ((x1).next (by repeat (first | exact Below.refl _ _ | refine bnew ?_ _ | refine Below.drew ?_ | refine Below.drewN ?_ _ | (refine below_set _ ?_ ?_; rotate_left; focus (first | omega | (simp; done) | (simp <;> omega)))))) HC.out).mono ?_
      rw [HS.out]
      rintro e20 w20 ⟨rfl, rfl⟩
      go_wp2
      go_ret
      exact ⟨ret_bool (by rw [HF.out, ← HU0.out, ← HU1.out, ← HE0.out, ← HE1.out]; rfl), hT4⟩
    obtain ⟨px, hpx⟩ : ∃ v : Int, v = pa.getD k 0 := ⟨_, rfl⟩
    obtain ⟨pe, hpe⟩ : ∃ v : Int, v = pc.getD k 0 := ⟨_, rfl⟩
    obtain ⟨pz, hpz⟩ : ∃ v : Int, v = pr.getD k 0 := ⟨_, rfl⟩
    have i1 : (k : Int) < (pa.length : Int) := by rw [HL1.out]; omega
    have i2 : (k : Int) < (pc.length : Int) := by rw [HL2.out]; omega
    have i3 : (k : Int) < (pr.length : Int) := by rw [HL3.out]; omega
    have i4 : (0 : Int) ≤ (k : Int) := by omega
    have i5 : (k : Int) < 2 := by omega
    have m0 : 0 ≤ px ∧ px < p := hpx ▸ HA.out _ (getD_mem (by omega))
    have m1 : 0 ≤ pe ∧ pe < q := hpe ▸ HC.out _ (getD_mem (by omega))
    have m2 : 0 ≤ pz ∧ pz < q := hpz ▸ HRS.out _ (getD_mem (by omega))
    have y0 : wr.cell? (ad0.add k) = some (.int .i64 px) := x0.getk (by omega) hpx
    have y1 : wr.cell? (ad1.add k) = some (.int .i64 pe) := x1.getk (by omega) hpe
    have y2 : wr.cell? (ad2.add k) = some (.int .i64 pz) := x2.getk (by omega) hpz
    have HW := Lib.hid (show rowB p q g bh c pa pc pr k = (M.gpw p q bh pz == px * M.gpw p q (bcs p q g c k) pe % p) by unfold rowB; rw [← hpx, ← hpe, ← hpz])
    clear hpx hpe hpz
    go_wp2_with fail
    obtain ⟨b1, hb1⟩ : ∃ b : Bool, b = (M.gpw p q bh pz != px * M.gpw p q (bcs p q g c k) pe % p) := ⟨_, rfl⟩
    have Hb1 := Lib.hid hb1
    clear hb1
    refine wp_region_chain (fun W => W.cell? ⟨w.heap.size, 0, none⟩ = some (.int .i64 p) ∧ W.cell? ⟨w.heap.size, 1, none⟩ = some (.int .i64 q) ∧ W.cell? ⟨w.heap.size, 2, none⟩ = some (.int .i64 g) ∧ W.cell? ⟨w.heap.size + 1, 0, none⟩ = some (.int .i64 bh) ∧ W.cell? ⟨w.heap.size + 1, 1, none⟩ = some (.slice A n d) ∧ W.cell? ⟨w.heap.size + 1 + 1, 0, none⟩ = some (.slice (some ad0) pa.length c_pa) ∧ W.cell? ⟨w.heap.size + 1 + 1, 1, none⟩ = some (.slice (some ad1) pc.length c_pc) ∧ W.cell? ⟨w.heap.size + 1 + 1, 2, none⟩ = some (.slice (some ad2) pr.length c_pr) ∧ RI W W.heap.size (some ad0) pa ∧ RI W W.heap.size (some ad1) pc ∧ RI W W.heap.size (some ad2) pr ∧ W.cell? (ad0.add k) = some (.int .i64 px) ∧ W.cell? (ad1.add k) = some (.int .i64 pe) ∧ W.cell? (ad2.add k) = some (.int .i64 pz))
      25 [some 58, some 59, some 60, some 61, some 62, some 63, some 64, some 65, some 66, some 67, some 68, some 69, some 70, some 71, some 72, some 73, some 74, some 75, some 76, some 77, some 78, some 79, some 80, some 81, some 82] (by kernel_rfl) (by kernel_rfl) (by kernel_rfl) (by decide) (by rfl) (by kernel_rfl) (by kernel_rfl) ?hS0 ?hSs ?hc
    case hS0 => exact ⟨cell_keep (Below.drew (by repeat (first | exact Below.refl _ _ | refine bnew ?_ _ | refine Below.drew ?_ | refine Below.drewN ?_ _ | (refine below_set _ ?_ ?_; rotate_left; focus (first | omega | (simp; done) | (simp <;> omega)))))) c0, cell_keep (Below.drew (by repeat (first | exact Below.refl _ _ | refine bnew ?_ _ | refine Below.drew ?_ | refine Below.drewN ?_ _ | (refine below_set _ ?_ ?_; rotate_left; focus (first | omega | (simp; done) | (simp <;> omega)))))) c1, cell_keep (Below.drew (by repeat (first | exact Below.refl _ _ | refine bnew ?_ _ | refine Below.drew ?_ | refine Below.drewN ?_ _ | (refine below_set _ ?_ ?_; rotate_left; focus (first | omega | (simp; done) | (simp <;> omega)))))) c2, cell_keep (Below.drew (by repeat (first | exact Below.refl _ _ | refine bnew ?_ _ | refine Below.drew ?_ | refine Below.drewN ?_ _ | (refine below_set _ ?_ ?_; rotate_left; focus (first | omega | (simp; done) | (simp <;> omega)))))) c3, cell_keep (Below.drew (by repeat (first | exact Below.refl _ _ | refine bnew ?_ _ | refine Below.drew ?_ | refine Below.drewN ?_ _ | (refine below_set _ ?_ ?_; rotate_left; focus (first | omega | (simp; done) | (simp <;> omega)))))) c4, cell_keep (Below.drew (by repeat (first | exact Below.refl _ _ | refine bnew ?_ _ | refine Below.drew ?_ | refine Below.drewN ?_ _ | (refine below_set _ ?_ ?_; rotate_left; focus (first | omega | (simp; done) | (simp <;> omega)))))) c5, cell_keep (Below.drew (by repeat (first | exact Below.refl _ _ | refine bnew ?_ _ | refine Below.drew ?_ | refine Below.drewN ?_ _ | (refine below_set _ ?_ ?_; rotate_left; focus (first | omega | (simp; done) | (simp <;> omega)))))) c6, cell_keep (Below.drew (by repeat (first | exact Below.refl _ _ | refine bnew ?_ _ | refine Below.drew ?_ | refine Below.drewN ?_ _ | (refine below_set _ ?_ ?_; rotate_left; focus (first | omega | (simp; done) | (simp <;> omega)))))) c7, (x0).next (Below.drew (by repeat (first | exact Below.refl _ _ | refine bnew ?_ _ | refine Below.drew ?_ | refine Below.drewN ?_ _ | (refine below_set _ ?_ ?_; rotate_left; focus (first | omega | (simp; done) | (simp <;> omega)))))), (x1).next (Below.drew (by repeat (first | exact Below.refl _ _ | refine bnew ?_ _ | refine Below.drew ?_ | refine Below.drewN ?_ _ | (refine below_set _ ?_ ?_; rotate_left; focus (first | omega | (simp; done) | (simp <;> omega)))))), (x2).next (Below.drew (by repeat (first | exact Below.refl _ _ | refine bnew ?_ _ | refine Below.drew ?_ | refine Below.drewN ?_ _ | (refine below_set _ ?_ ?_; rotate_left; focus (first | omega | (simp; done) | (simp <;> omega)))))), cell_keep (Below.drew (by repeat (first | exact Below.refl _ _ | refine bnew ?_ _ | refine Below.drew ?_ | refine Below.drewN ?_ _ | (refine below_set _ ?_ ?_; rotate_left; focus (first | omega | (simp; done) | (simp <;> omega)))))) y0, cell_keep (Below.drew (by repeat (first | exact Below.refl _ _ | refine bnew ?_ _ | refine Below.drew ?_ | refine Below.drewN ?_ _ | (refine below_set _ ?_ ?_; rotate_left; focus (first | omega | (simp; done) | (simp <;> omega)))))) y1, cell_keep (Below.drew (by repeat (first | exact Below.refl _ _ | refine bnew ?_ _ | refine Below.drew ?_ | refine Below.drewN ?_ _ | (refine below_set _ ?_ ?_; rotate_left; focus (first | omega | (simp; done) | (simp <;> omega)))))) y2⟩
    case hSs => exact fun w1 w2 ⟨hc0, hc1, hc2, hc3, hc4, hc5, hc6, hc7, hx0, hx1, hx2, hy0, hy1, hy2⟩ hb => ⟨cell_keep hb hc0, cell_keep hb hc1, cell_keep hb hc2, cell_keep hb hc3, cell_keep hb hc4, cell_keep hb hc5, cell_keep hb hc6, cell_keep hb hc7, (hx0).next hb, (hx1).next hb, (hx2).next hb, cell_keep hb hy0, cell_keep hb hy1, cell_keep hb hy2⟩
    apply Chain.det
    · intro a w1 hS hb hd K hK
      obtain ⟨c0, c1, c2, c3, c4, c5, c6, c7, x0, x1, x2, y0, y1, y2⟩ := hS
      have b4 := hb 4 _ rfl (by decide)
      clear hb
      simp only [depsOK] at hd
      go_simp
      exact hK _ _ rfl (Below.refl _ _)
    show Chain _ _ _ _ _ _ _ _ _ _ _ 24 1 _
    apply Chain.det
    · intro a w1 hS hb hd K hK
      obtain ⟨c0, c1, c2, c3, c4, c5, c6, c7, x0, x1, x2, y0, y1, y2⟩ := hS
      have b5 := hb 5 _ rfl (by decide)
      clear hb
      simp only [depsOK] at hd
      go_simp
      exact hK _ _ rfl (Below.refl _ _)
    show Chain _ _ _ _ _ _ _ _ _ _ _ 23 2 _
    apply Chain.det
    · intro a w1 hS hb hd K hK
      obtain ⟨c0, c1, c2, c3, c4, c5, c6, c7, x0, x1, x2, y0, y1, y2⟩ := hS
      clear hb
      simp only [depsOK, updR, Region.binds, reduceIte, forall_const, and_true, eqV, List.getElem?_cons_zero, List.getElem?_cons_succ, exists_eq_right, Nat.succ_ne_self] at hd
      go_simp
      exact hK _ _ rfl (Below.refl _ _)
    show Chain _ _ _ _ _ _ _ _ _ _ _ 22 3 _
    apply Chain.det
    · intro a w1 hS hb hd K hK
      obtain ⟨c0, c1, c2, c3, c4, c5, c6, c7, x0, x1, x2, y0, y1, y2⟩ := hS
      have b7 := hb 7 _ rfl (by decide)
      clear hb
      simp only [depsOK] at hd
      go_simp
      exact hK _ _ rfl (Below.refl _ _)
    show Chain _ _ _ _ _ _ _ _ _ _ _ 21 4 _
    apply Chain.det
    · intro a w1 hS hb hd K hK
      obtain ⟨c0, c1, c2, c3, c4, c5, c6, c7, x0, x1, x2, y0, y1, y2⟩ := hS
      clear hb
      simp only [depsOK, updR, Region.binds, reduceIte, Nat.reduceEqDiff, forall_const, and_true, eqV, List.getElem?_cons_zero, List.getElem?_cons_succ, exists_eq_right, reduceCtorEq, Nat.succ_ne_self] at hd
      go_simp
      exact hK _ _ rfl (Below.refl _ _)
    show Chain _ _ _ _ _ _ _ _ _ _ _ 20 5 _
    apply Chain.det
    · intro a w1 hS hb hd K hK
      obtain ⟨c0, c1, c2, c3, c4, c5, c6, c7, x0, x1, x2, y0, y1, y2⟩ := hS
      have b9 := hb 9 _ rfl (by decide)
      clear hb
      simp only [depsOK] at hd
      go_simp
      exact hK _ _ rfl (Below.refl _ _)
    show Chain _ _ _ _ _ _ _ _ _ _ _ 19 6 _
    apply Chain.det
    · intro a w1 hS hb hd K hK
      obtain ⟨c0, c1, c2, c3, c4, c5, c6, c7, x0, x1, x2, y0, y1, y2⟩ := hS
      clear hb
      simp only [depsOK, updR, Region.binds, reduceIte, Nat.reduceEqDiff, forall_const, and_true, eqV, List.getElem?_cons_zero, List.getElem?_cons_succ, exists_eq_right, reduceCtorEq, Nat.succ_ne_self] at hd
      go_simp
      exact hK _ _ rfl (Below.refl _ _)
    show Chain _ _ _ _ _ _ _ _ _ _ _ 18 7 _
    apply Chain.det
    · intro a w1 hS hb hd K hK
      obtain ⟨c0, c1, c2, c3, c4, c5, c6, c7, x0, x1, x2, y0, y1, y2⟩ := hS
      clear hb
      simp only [depsOK, updR, Region.binds, reduceIte, Nat.reduceEqDiff, forall_const, and_true, eqV, List.getElem?_cons_zero, List.getElem?_cons_succ, exists_eq_right, reduceCtorEq, Nat.succ_ne_self] at hd
      go_simp
      exact hK _ _ rfl (Below.refl _ _)
    show Chain _ _ _ _ _ _ _ _ _ _ _ 17 8 _
    apply Chain.det
    · intro a w1 hS hb hd K hK
      obtain ⟨c0, c1, c2, c3, c4, c5, c6, c7, x0, x1, x2, y0, y1, y2⟩ := hS
      clear hb
      simp only [depsOK, updR, Region.binds, reduceIte, Nat.reduceEqDiff, forall_const, and_true, eqV, List.getElem?_cons_zero, List.getElem?_cons_succ, exists_eq_right, reduceCtorEq, Nat.succ_ne_self] at hd
      go_simp
      refine (pow_any p q g bh pz HG.out hbd (by omega) _).mono ?_
      rintro e9 w9 ⟨rfl, hb9⟩
      exact hK _ _ (rfl) hb9
    show Chain _ _ _ _ _ _ _ _ _ _ _ 16 9 _
    apply Chain.det
    · intro a w1 hS hb hd K hK
      obtain ⟨c0, c1, c2, c3, c4, c5, c6, c7, x0, x1, x2, y0, y1, y2⟩ := hS
      have b4 := hb 4 _ rfl (by decide)
      clear hb
      simp only [depsOK] at hd
      go_simp
      exact hK _ _ rfl (Below.refl _ _)
    show Chain _ _ _ _ _ _ _ _ _ _ _ 15 10 _
    apply Chain.det
    · intro a w1 hS hb hd K hK
      obtain ⟨c0, c1, c2, c3, c4, c5, c6, c7, x0, x1, x2, y0, y1, y2⟩ := hS
      have b10 := hb 10 _ rfl (by decide)
      clear hb
      simp only [depsOK] at hd
      go_simp
      exact hK _ _ rfl (Below.refl _ _)
    show Chain _ _ _ _ _ _ _ _ _ _ _ 14 11 _
    apply Chain.det
    · intro a w1 hS hb hd K hK
      obtain ⟨c0, c1, c2, c3, c4, c5, c6, c7, x0, x1, x2, y0, y1, y2⟩ := hS
      have b4 := hb 4 _ rfl (by decide)
      clear hb
      simp only [depsOK] at hd
      go_simp
      exact hK _ _ rfl (Below.refl _ _)
    show Chain _ _ _ _ _ _ _ _ _ _ _ 13 12 _
    apply Chain.det
    · intro a w1 hS hb hd K hK
      obtain ⟨c0, c1, c2, c3, c4, c5, c6, c7, x0, x1, x2, y0, y1, y2⟩ := hS
      have b4 := hb 4 _ rfl (by decide)
      clear hb
      simp only [depsOK] at hd
      go_simp
      exact hK _ _ rfl (Below.refl _ _)
    show Chain _ _ _ _ _ _ _ _ _ _ _ 12 13 _
    apply Chain.det
    · intro a w1 hS hb hd K hK
      obtain ⟨c0, c1, c2, c3, c4, c5, c6, c7, x0, x1, x2, y0, y1, y2⟩ := hS
      have b2 := hb 2 _ rfl (by decide)
      clear hb
      simp only [depsOK] at hd
      go_simp
      exact hK _ _ rfl (Below.refl _ _)
    show Chain _ _ _ _ _ _ _ _ _ _ _ 11 14 _
    apply Chain.det
    · intro a w1 hS hb hd K hK
      obtain ⟨c0, c1, c2, c3, c4, c5, c6, c7, x0, x1, x2, y0, y1, y2⟩ := hS
      have b9 := hb 9 _ rfl (by decide)
      clear hb
      simp only [depsOK] at hd
      go_simp
      exact hK _ _ rfl (Below.refl _ _)
    show Chain _ _ _ _ _ _ _ _ _ _ _ 10 15 _
    apply Chain.det
    · intro a w1 hS hb hd K hK
      obtain ⟨c0, c1, c2, c3, c4, c5, c6, c7, x0, x1, x2, y0, y1, y2⟩ := hS
      clear hb
      simp only [depsOK, updR, Region.binds, reduceIte, Nat.reduceEqDiff, forall_const, and_true, eqV, List.getElem?_cons_zero, List.getElem?_cons_succ, exists_eq_right, reduceCtorEq, Nat.succ_ne_self] at hd
      go_simp
      refine (bitCase_any p q g c k HG.out hcd _).mono ?_
      rintro e9 w9 ⟨rfl, hb9⟩
      exact hK _ _ (rfl) hb9
    show Chain _ _ _ _ _ _ _ _ _ _ _ 9 16 _
    apply Chain.det
    · intro a w1 hS hb hd K hK
      obtain ⟨c0, c1, c2, c3, c4, c5, c6, c7, x0, x1, x2, y0, y1, y2⟩ := hS
      have b7 := hb 7 _ rfl (by decide)
      clear hb
      simp only [depsOK] at hd
      go_simp
      exact hK _ _ rfl (Below.refl _ _)
    show Chain _ _ _ _ _ _ _ _ _ _ _ 8 17 _
    apply Chain.det
    · intro a w1 hS hb hd K hK
      obtain ⟨c0, c1, c2, c3, c4, c5, c6, c7, x0, x1, x2, y0, y1, y2⟩ := hS
      clear hb
      simp only [depsOK, updR, Region.binds, reduceIte, Nat.reduceEqDiff, forall_const, and_true, eqV, List.getElem?_cons_zero, List.getElem?_cons_succ, exists_eq_right, reduceCtorEq, Nat.succ_ne_self] at hd
      go_simp
      exact hK _ _ rfl (Below.refl _ _)
    show Chain _ _ _ _ _ _ _ _ _ _ _ 7 18 _
    apply Chain.det
    · intro a w1 hS hb hd K hK
      obtain ⟨c0, c1, c2, c3, c4, c5, c6, c7, x0, x1, x2, y0, y1, y2⟩ := hS
      have b9 := hb 9 _ rfl (by decide)
      clear hb
      simp only [depsOK] at hd
      go_simp
      exact hK _ _ rfl (Below.refl _ _)
    show Chain _ _ _ _ _ _ _ _ _ _ _ 6 19 _
    apply Chain.det
    · intro a w1 hS hb hd K hK
      obtain ⟨c0, c1, c2, c3, c4, c5, c6, c7, x0, x1, x2, y0, y1, y2⟩ := hS
      clear hb
      simp only [depsOK, updR, Region.binds, reduceIte, Nat.reduceEqDiff, forall_const, and_true, eqV, List.getElem?_cons_zero, List.getElem?_cons_succ, exists_eq_right, reduceCtorEq, Nat.succ_ne_self] at hd
      go_simp
      exact hK _ _ rfl (Below.refl _ _)
    show Chain _ _ _ _ _ _ _ _ _ _ _ 5 20 _
    apply Chain.det
    · intro a w1 hS hb hd K hK
      obtain ⟨c0, c1, c2, c3, c4, c5, c6, c7, x0, x1, x2, y0, y1, y2⟩ := hS
      clear hb
      simp only [depsOK, updR, Region.binds, reduceIte, Nat.reduceEqDiff, forall_const, and_true, eqV, List.getElem?_cons_zero, List.getElem?_cons_succ, exists_eq_right, reduceCtorEq, Nat.succ_ne_self] at hd
      go_simp
      exact hK _ _ rfl (Below.refl _ _)
    show Chain _ _ _ _ _ _ _ _ _ _ _ 4 21 _
    apply Chain.det
    · intro a w1 hS hb hd K hK
      obtain ⟨c0, c1, c2, c3, c4, c5, c6, c7, x0, x1, x2, y0, y1, y2⟩ := hS
      clear hb
      simp only [depsOK, updR, Region.binds, reduceIte, Nat.reduceEqDiff, forall_const, and_true, eqV, List.getElem?_cons_zero, List.getElem?_cons_succ, exists_eq_right, reduceCtorEq, Nat.succ_ne_self] at hd
      go_simp
      refine (pow_any p q g (bcs p q g c k) pe HG.out (bcs_lt g3 hcd) (by omega) _).mono ?_
      rintro e9 w9 ⟨rfl, hb9⟩
      exact hK _ _ (rfl) hb9
    show Chain _ _ _ _ _ _ _ _ _ _ _ 3 22 _
    refine Chain.rel (isF 2 [px, M.gpw p q (bcs p q g c k) pe]) (stable_isF _ _) ?_ ?_
    · intro a w1 hS hb hd K hK
      obtain ⟨c0, c1, c2, c3, c4, c5, c6, c7, x0, x1, x2, y0, y1, y2⟩ := hS
      clear hb
      simp only [depsOK, updR, Region.binds, reduceIte, Nat.reduceEqDiff, forall_const, and_true, eqV, List.getElem?_cons_zero, List.getElem?_cons_succ, exists_eq_right, reduceCtorEq, Nat.succ_ne_self] at hd
      go_simp
      exact hK _ _ ⟨_, rfl, RI.lit w1 [px, M.gpw p q (bcs p q g c k) pe] _ rfl⟩ (below_new _ _)
    show Chain _ _ _ _ _ _ _ _ _ _ _ 2 23 _
    apply Chain.det
    · intro a w1 hS hb hd K hK
      obtain ⟨c0, c1, c2, c3, c4, c5, c6, c7, x0, x1, x2, y0, y1, y2⟩ := hS
      clear hb
      simp only [depsOK, updR, Region.binds, reduceIte, Nat.reduceEqDiff, forall_const, and_true, eqV, List.getElem?_cons_zero, List.getElem?_cons_succ, exists_eq_right, reduceCtorEq, Nat.succ_ne_self] at hd
      obtain ⟨h1, ⟨v2, e2, A2, rfl, r2⟩, _⟩ := hd
      go_simp
      refine (mul2_any p q g px (M.gpw p q (bcs p q g c k) pe) HG.out m0 (M.gpw_lt g3) A2 2 _ r2).mono ?_
      rintro e9 w9 ⟨rfl, hb9⟩
      exact hK _ _ rfl hb9
    show Chain _ _ _ _ _ _ _ _ _ _ _ 1 24 _
    refine Chain.rel (eqV (.bool b1)) (stable_eq _) ?_ ?_
    · intro a w1 hS hb hd K hK
      obtain ⟨c0, c1, c2, c3, c4, c5, c6, c7, x0, x1, x2, y0, y1, y2⟩ := hS
      clear hb
      simp only [depsOK, updR, Region.binds, reduceIte, Nat.reduceEqDiff, forall_const, and_true, eqV, List.getElem?_cons_zero, List.getElem?_cons_succ, exists_eq_right, reduceCtorEq, Nat.succ_ne_self] at hd
      go_simp
      exact hK _ _ (congrArg Value.bool Hb1.out.symm) (Below.refl _ _)
    show Chain _ _ _ _ _ _ _ _ _ _ _ 0 25 _
    intro x w5 hS hB5 hR y hY hA hE
    have r24 := hR 24 _ rfl
    simp only [updR, reduceIte, Nat.reduceEqDiff, eqV] at r24
    clear hR hY hA hE
    simp only [TailWp, fillB, Act.put, List.setIfInBounds_toArray, List.set_cons_zero, List.set_cons_succ, Nat.reduceAdd, r24]
    clear r24
    have hX5 : Below wr.heap.size wr w5 := bnext (Below.drew (by repeat (first | exact Below.refl _ _ | refine bnew ?_ _ | refine Below.drew ?_ | refine Below.drewN ?_ _ | (refine below_set _ ?_ ?_; rotate_left; focus (first | omega | (simp; done) | (simp <;> omega)))))) hB5
    clear hB5
    have hT5 : Below w.heap.size w w5 := bnext hTL hX5
    clear c0 c1 c2 c3 c4 c5 c6 c7 x0 x1 x2 y0 y1 y2
    obtain ⟨c0, c1, c2, c3, c4, c5, c6, c7, x0, x1, x2, y0, y1, y2⟩ := hS
    rcases Bool.eq_false_or_eq_true (!b1) with h3 | h3
    rotate_left
    · have h3' : b1 = true := by simpa using h3
      have hR := Lib.hid (show bitV p q g bh c pa pc pr = false from bitV_no hlt (by have := Hb1.out; rw [h3'] at this; rw [HW.out]; exact of_bne this.symm))
      clear h3
      subst h3'
      go_wp2
      go_ret
      exact ⟨ret_bool hR.out.symm, hT5⟩
    have h3p : b1 = false := by simpa using h3
    have HROW := Lib.hid (show rowB p q g bh c pa pc pr k = true by have := Hb1.out; rw [h3p] at this; rw [HW.out]; exact of_bne_not this.symm)
    clear h3
    subst h3p
    go_wp2
    go_roundw
    case rel => exact ⟨k + 1, by omega, by go_num, rows_next HROWS.out HROW.out, ⟨(cell_keep (by repeat (first | exact Below.refl _ _ | refine bnew ?_ _ | refine Below.drew ?_ | refine Below.drewN ?_ _ | (refine below_set _ ?_ ?_; rotate_left; focus (first | omega | (simp; done) | (simp <;> omega))))) c0), (cell_keep (by repeat (first | exact Below.refl _ _ | refine bnew ?_ _ | refine Below.drew ?_ | refine Below.drewN ?_ _ | (refine below_set _ ?_ ?_; rotate_left; focus (first | omega | (simp; done) | (simp <;> omega))))) c1), (cell_keep (by repeat (first | exact Below.refl _ _ | refine bnew ?_ _ | refine Below.drew ?_ | refine Below.drewN ?_ _ | (refine below_set _ ?_ ?_; rotate_left; focus (first | omega | (simp; done) | (simp <;> omega))))) c2), (cell_keep (by repeat (first | exact Below.refl _ _ | refine bnew ?_ _ | refine Below.drew ?_ | refine Below.drewN ?_ _ | (refine below_set _ ?_ ?_; rotate_left; focus (first | omega | (simp; done) | (simp <;> omega))))) c3), (cell_keep (by repeat (first | exact Below.refl _ _ | refine bnew ?_ _ | refine Below.drew ?_ | refine Below.drewN ?_ _ | (refine below_set _ ?_ ?_; rotate_left; focus (first | omega | (simp; done) | (simp <;> omega))))) c4), (cell_keep (by repeat (first | exact Below.refl _ _ | refine bnew ?_ _ | refine Below.drew ?_ | refine Below.drewN ?_ _ | (refine below_set _ ?_ ?_; rotate_left; focus (first | omega | (simp; done) | (simp <;> omega))))) c5), (cell_keep (by repeat (first | exact Below.refl _ _ | refine bnew ?_ _ | refine Below.drew ?_ | refine Below.drewN ?_ _ | (refine below_set _ ?_ ?_; rotate_left; focus (first | omega | (simp; done) | (simp <;> omega))))) c6), (cell_keep (by repeat (first | exact Below.refl _ _ | refine bnew ?_ _ | refine Below.drew ?_ | refine Below.drewN ?_ _ | (refine below_set _ ?_ ?_; rotate_left; focus (first | omega | (simp; done) | (simp <;> omega))))) c7), ((x0).next (by repeat (first | exact Below.refl _ _ | refine bnew ?_ _ | refine Below.drew ?_ | refine Below.drewN ?_ _ | (refine below_set _ ?_ ?_; rotate_left; focus (first | omega | (simp; done) | (simp <;> omega)))))), ((x1).next (by repeat (first | exact Below.refl _ _ | refine bnew ?_ _ | refine Below.drew ?_ | refine Below.drewN ?_ _ | (refine below_set _ ?_ ?_; rotate_left; focus (first | omega | (simp; done) | (simp <;> omega)))))), ((x2).next (by repeat (first | exact Below.refl _ _ | refine bnew ?_ _ | refine Below.drew ?_ | refine Below.drewN ?_ _ | (refine below_set _ ?_ ?_; rotate_left; focus (first | omega | (simp; done) | (simp <;> omega))))))⟩, (by repeat (first | exact hT5 | refine bnew ?_ _ | refine Below.drew ?_ | refine Below.drewN ?_ _ | (refine below_set _ ?_ ?_; rotate_left; focus (first | omega | (simp; done) | (simp <;> omega)))))⟩
    case measure => simp [intOf]; omega
end Go.Proofs.Ytgnnmifpfgpllaa
