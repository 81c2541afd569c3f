/- Walks: VerifyOpening. -/
import Derived.Test.YtljlimlgdnbllaaO1
namespace Go.Proofs.Ytljlimlgdnbllaa
open Go.RowKit
set_option maxRecDepth 100000 in
set_option maxHeartbeats 800000 in
theorem verifyOpeningS (p q g bh c : Int) (A : Option Addr) (d : Nat) (bs : List Int) (hl : bs.length ≤ 9223372036854775807) (A_pa : Option Addr) (c_pa : Nat) (pa : List Int) (A_pc : Option Addr) (c_pc : Nat) (pc : List Int) (A_pr : Option Addr) (c_pr : Nat) (pr : List Int) (hl_pa : pa.length ≤ 9223372036854775807) (hl_pc : pc.length ≤ 9223372036854775807) (hl_pr : pr.length ≤ 9223372036854775807) (w : World) (hx : RI w w.heap.size A bs) (hx_pa : RI w w.heap.size A_pa pa) (hx_pc : RI w w.heap.size A_pc pc) (hx_pr : RI w w.heap.size A_pr pr) :
    Calls Try.prog 26 #[.agg #[.int .i64 p, .int .i64 q, .int .i64 g], .agg #[.int .i64 bh, .slice A bs.length d], .int .i64 c, .agg #[.slice A_pa pa.length c_pa, .slice A_pc pc.length c_pc, .slice A_pr pr.length c_pr]] w fun en w' => en = .returned (.tuple #[.bool (verO p q g bh bs c pa pc pr).1, .bool (verO p q g bh bs c pa pc pr).2]) ∧ Below w.heap.size w w' := by
  have hT0 : Below w.heap.size w (((w.alloc (.cells #[.int .i64 p, .int .i64 q, .int .i64 g] 33)).alloc (.cells #[.int .i64 bh, .slice A bs.length d] 35)).alloc (.cells #[.slice A_pa pa.length c_pa, .slice A_pc pc.length c_pc, .slice A_pr pr.length c_pr] 38)) := by repeat (first | exact Below.refl _ _ | refine bnew ?_ _)
  have c0 : (((w.alloc (.cells #[.int .i64 p, .int .i64 q, .int .i64 g] 33)).alloc (.cells #[.int .i64 bh, .slice A bs.length d] 35)).alloc (.cells #[.slice A_pa pa.length c_pa, .slice A_pc pc.length c_pc, .slice A_pr pr.length c_pr] 38)).cell? ⟨w.heap.size, 0, none⟩ = some (.int .i64 p) := by
    repeat (first | with_reducible assumption | (with_reducible apply set1b; with_reducible assumption) | (with_reducible refine (sc_other _ ?_).trans ?_; focus (simp; done)) | (refine cell_new' ?_ _ _ _ rfl; focus (simp; done)) | with_reducible refine cell_keep (below_new _ _) ?_)
  have c1 : (((w.alloc (.cells #[.int .i64 p, .int .i64 q, .int .i64 g] 33)).alloc (.cells #[.int .i64 bh, .slice A bs.length d] 35)).alloc (.cells #[.slice A_pa pa.length c_pa, .slice A_pc pc.length c_pc, .slice A_pr pr.length c_pr] 38)).cell? ⟨w.heap.size, 1, none⟩ = some (.int .i64 q) := by
    repeat (first | with_reducible assumption | (with_reducible apply set1b; with_reducible assumption) | (with_reducible refine (sc_other _ ?_).trans ?_; focus (simp; done)) | (refine cell_new' ?_ _ _ _ rfl; focus (simp; done)) | with_reducible refine cell_keep (below_new _ _) ?_)
  have c2 : (((w.alloc (.cells #[.int .i64 p, .int .i64 q, .int .i64 g] 33)).alloc (.cells #[.int .i64 bh, .slice A bs.length d] 35)).alloc (.cells #[.slice A_pa pa.length c_pa, .slice A_pc pc.length c_pc, .slice A_pr pr.length c_pr] 38)).cell? ⟨w.heap.size, 2, none⟩ = some (.int .i64 g) := by
    repeat (first | with_reducible assumption | (with_reducible apply set1b; with_reducible assumption) | (with_reducible refine (sc_other _ ?_).trans ?_; focus (simp; done)) | (refine cell_new' ?_ _ _ _ rfl; focus (simp; done)) | with_reducible refine cell_keep (below_new _ _) ?_)
  have c3 : (((w.alloc (.cells #[.int .i64 p, .int .i64 q, .int .i64 g] 33)).alloc (.cells #[.int .i64 bh, .slice A bs.length d] 35)).alloc (.cells #[.slice A_pa pa.length c_pa, .slice A_pc pc.length c_pc, .slice A_pr pr.length c_pr] 38)).cell? ⟨w.heap.size + 1, 0, none⟩ = some (.int .i64 bh) := by
    repeat (first | with_reducible assumption | (with_reducible apply set1b; with_reducible assumption) | (with_reducible refine (sc_other _ ?_).trans ?_; focus (simp; done)) | (refine cell_new' ?_ _ _ _ rfl; focus (simp; done)) | with_reducible refine cell_keep (below_new _ _) ?_)
  have c4 : (((w.alloc (.cells #[.int .i64 p, .int .i64 q, .int .i64 g] 33)).alloc (.cells #[.int .i64 bh, .slice A bs.length d] 35)).alloc (.cells #[.slice A_pa pa.length c_pa, .slice A_pc pc.length c_pc, .slice A_pr pr.length c_pr] 38)).cell? ⟨w.heap.size + 1, 1, none⟩ = some (.slice A bs.length d) := by
    repeat (first | with_reducible assumption | (with_reducible apply set1b; with_reducible assumption) | (with_reducible refine (sc_other _ ?_).trans ?_; focus (simp; done)) | (refine cell_new' ?_ _ _ _ rfl; focus (simp; done)) | with_reducible refine cell_keep (below_new _ _) ?_)
  have c5 : (((w.alloc (.cells #[.int .i64 p, .int .i64 q, .int .i64 g] 33)).alloc (.cells #[.int .i64 bh, .slice A bs.length d] 35)).alloc (.cells #[.slice A_pa pa.length c_pa, .slice A_pc pc.length c_pc, .slice A_pr pr.length c_pr] 38)).cell? ⟨w.heap.size + 1 + 1, 0, none⟩ = some (.slice A_pa pa.length c_pa) := by
    repeat (first | with_reducible assumption | (with_reducible apply set1b; with_reducible assumption) | (with_reducible refine (sc_other _ ?_).trans ?_; focus (simp; done)) | (refine cell_new' ?_ _ _ _ rfl; focus (simp; done)) | with_reducible refine cell_keep (below_new _ _) ?_)
  have c6 : (((w.alloc (.cells #[.int .i64 p, .int .i64 q, .int .i64 g] 33)).alloc (.cells #[.int .i64 bh, .slice A bs.length d] 35)).alloc (.cells #[.slice A_pa pa.length c_pa, .slice A_pc pc.length c_pc, .slice A_pr pr.length c_pr] 38)).cell? ⟨w.heap.size + 1 + 1, 1, none⟩ = some (.slice A_pc pc.length c_pc) := by
    repeat (first | with_reducible assumption | (with_reducible apply set1b; with_reducible assumption) | (with_reducible refine (sc_other _ ?_).trans ?_; focus (simp; done)) | (refine cell_new' ?_ _ _ _ rfl; focus (simp; done)) | with_reducible refine cell_keep (below_new _ _) ?_)
  have c7 : (((w.alloc (.cells #[.int .i64 p, .int .i64 q, .int .i64 g] 33)).alloc (.cells #[.int .i64 bh, .slice A bs.length d] 35)).alloc (.cells #[.slice A_pa pa.length c_pa, .slice A_pc pc.length c_pc, .slice A_pr pr.length c_pr] 38)).cell? ⟨w.heap.size + 1 + 1, 2, none⟩ = some (.slice A_pr pr.length c_pr) := by
    repeat (first | with_reducible assumption | (with_reducible apply set1b; with_reducible assumption) | (with_reducible refine (sc_other _ ?_).trans ?_; focus (simp; done)) | (refine cell_new' ?_ _ _ _ rfl; focus (simp; done)) | with_reducible refine cell_keep (below_new _ _) ?_)
  have x0 : RI (((w.alloc (.cells #[.int .i64 p, .int .i64 q, .int .i64 g] 33)).alloc (.cells #[.int .i64 bh, .slice A bs.length d] 35)).alloc (.cells #[.slice A_pa pa.length c_pa, .slice A_pc pc.length c_pc, .slice A_pr pr.length c_pr] 38)) (((w.alloc (.cells #[.int .i64 p, .int .i64 q, .int .i64 g] 33)).alloc (.cells #[.int .i64 bh, .slice A bs.length d] 35)).alloc (.cells #[.slice A_pa pa.length c_pa, .slice A_pc pc.length c_pc, .slice A_pr pr.length c_pr] 38)).heap.size A bs := hx.next hT0
  have x1 : RI (((w.alloc (.cells #[.int .i64 p, .int .i64 q, .int .i64 g] 33)).alloc (.cells #[.int .i64 bh, .slice A bs.length d] 35)).alloc (.cells #[.slice A_pa pa.length c_pa, .slice A_pc pc.length c_pc, .slice A_pr pr.length c_pr] 38)) (((w.alloc (.cells #[.int .i64 p, .int .i64 q, .int .i64 g] 33)).alloc (.cells #[.int .i64 bh, .slice A bs.length d] 35)).alloc (.cells #[.slice A_pa pa.length c_pa, .slice A_pc pc.length c_pc, .slice A_pr pr.length c_pr] 38)).heap.size A_pa pa := hx_pa.next hT0
  have x2 : RI (((w.alloc (.cells #[.int .i64 p, .int .i64 q, .int .i64 g] 33)).alloc (.cells #[.int .i64 bh, .slice A bs.length d] 35)).alloc (.cells #[.slice A_pa pa.length c_pa, .slice A_pc pc.length c_pc, .slice A_pr pr.length c_pr] 38)) (((w.alloc (.cells #[.int .i64 p, .int .i64 q, .int .i64 g] 33)).alloc (.cells #[.int .i64 bh, .slice A bs.length d] 35)).alloc (.cells #[.slice A_pa pa.length c_pa, .slice A_pc pc.length c_pc, .slice A_pr pr.length c_pr] 38)).heap.size A_pc pc := hx_pc.next hT0
  have x3 : RI (((w.alloc (.cells #[.int .i64 p, .int .i64 q, .int .i64 g] 33)).alloc (.cells #[.int .i64 bh, .slice A bs.length d] 35)).alloc (.cells #[.slice A_pa pa.length c_pa, .slice A_pc pc.length c_pc, .slice A_pr pr.length c_pr] 38)) (((w.alloc (.cells #[.int .i64 p, .int .i64 q, .int .i64 g] 33)).alloc (.cells #[.int .i64 bh, .slice A bs.length d] 35)).alloc (.cells #[.slice A_pa pa.length c_pa, .slice A_pc pc.length c_pc, .slice A_pr pr.length c_pr] 38)).heap.size A_pr pr := hx_pr.next hT0
  go_enter Try.func26, Try.ntmps26
  go_wp2_with fail
  refine (l9Good_any p q g bh A d bs hl _ ((x0).next (by repeat (first | exact Below.refl _ _ | refine bnew ?_ _ | refine Below.drew ?_ | refine Below.drewN ?_ _ | (refine below_set _ ?_ ?_; rotate_left; focus (first | omega | (simp; done) | (simp <;> omega))))))).mono ?_
  rintro e1 w1 ⟨rfl, hb1⟩
  have hX1 : Below (((w.alloc (.cells #[.int .i64 p, .int .i64 q, .int .i64 g] 33)).alloc (.cells #[.int .i64 bh, .slice A bs.length d] 35)).alloc (.cells #[.slice A_pa pa.length c_pa, .slice A_pc pc.length c_pc, .slice A_pr pr.length c_pr] 38)).heap.size (((w.alloc (.cells #[.int .i64 p, .int .i64 q, .int .i64 g] 33)).alloc (.cells #[.int .i64 bh, .slice A bs.length d] 35)).alloc (.cells #[.slice A_pa pa.length c_pa, .slice A_pc pc.length c_pc, .slice A_pr pr.length c_pr] 38)) w1 := bnext (by repeat (first | exact Below.refl _ _ | refine bnew ?_ _ | refine Below.drew ?_ | refine Below.drewN ?_ _ | (refine below_set _ ?_ ?_; rotate_left; focus (first | omega | (simp; done) | (simp <;> omega))))) hb1
  have hT1 : Below w.heap.size w w1 := bnext hT0 hX1
  replace c0 : w1.cell? ⟨w.heap.size, 0, none⟩ = some (.int .i64 p) := cell_keep hX1 c0
  replace c1 : w1.cell? ⟨w.heap.size, 1, none⟩ = some (.int .i64 q) := cell_keep hX1 c1
  replace c2 : w1.cell? ⟨w.heap.size, 2, none⟩ = some (.int .i64 g) := cell_keep hX1 c2
  replace c3 : w1.cell? ⟨w.heap.size + 1, 0, none⟩ = some (.int .i64 bh) := cell_keep hX1 c3
  replace c4 : w1.cell? ⟨w.heap.size + 1, 1, none⟩ = some (.slice A bs.length d) := cell_keep hX1 c4
  replace c5 : w1.cell? ⟨w.heap.size + 1 + 1, 0, none⟩ = some (.slice A_pa pa.length c_pa) := cell_keep hX1 c5
  replace c6 : w1.cell? ⟨w.heap.size + 1 + 1, 1, none⟩ = some (.slice A_pc pc.length c_pc) := cell_keep hX1 c6
  replace c7 : w1.cell? ⟨w.heap.size + 1 + 1, 2, none⟩ = some (.slice A_pr pr.length c_pr) := cell_keep hX1 c7
  replace x0 : RI w1 w1.heap.size A bs := (x0).next hX1
  replace x1 : RI w1 w1.heap.size A_pa pa := (x1).next hX1
  replace x2 : RI w1 w1.heap.size A_pc pc := (x2).next hX1
  replace x3 : RI w1 w1.heap.size A_pr pr := (x3).next hX1
  rcases Bool.eq_false_or_eq_true (l9B p q g bh bs) with h1 | h1
  rotate_left
  · have hR := Lib.hid (show verO p q g bh bs c pa pc pr = (false, false) by unfold verO; rw [if_neg fun hh => Bool.false_ne_true (h1.symm.trans hh.1)])
    go_wp2
    go_ret2
    exact ⟨ret_bb (by rw [hR.out]) (by rw [hR.out]), hT1⟩
  obtain ⟨hg, hbb⟩ := l9B_of h1
  obtain ⟨hbe, hb24, hbs⟩ := basesB_of hbb
  have hbd := elem_bd hbe
  have hG := M.goodB_of hg
  have g1 := hG.q2
  have g2 := hG.qp
  have g3 := hG.p3
  have g4 := hG.pM
  have HG := Lib.hid hG
  clear hG
  go_wp2_with fail
  refine (gIs_any p q g HG.out _ _ [c] (by simp) _ (RI.lit _ [c] _ (by simp))).mono ?_
  rw [show elemsB p q [c] = elemB p q c from by simp [elemsB]]
  rintro e2 w2 ⟨rfl, hb2⟩
  have hX2 : Below w1.heap.size w1 w2 := bnext (by repeat (first | exact Below.refl _ _ | refine bnew ?_ _ | refine Below.drew ?_ | refine Below.drewN ?_ _ | (refine below_set _ ?_ ?_; rotate_left; focus (first | omega | (simp; done) | (simp <;> omega))))) hb2
  have hT2 : Below w.heap.size w w2 := bnext hT1 hX2
  replace c0 : w2.cell? ⟨w.heap.size, 0, none⟩ = some (.int .i64 p) := cell_keep hX2 c0
  replace c1 : w2.cell? ⟨w.heap.size, 1, none⟩ = some (.int .i64 q) := cell_keep hX2 c1
  replace c2 : w2.cell? ⟨w.heap.size, 2, none⟩ = some (.int .i64 g) := cell_keep hX2 c2
  replace c3 : w2.cell? ⟨w.heap.size + 1, 0, none⟩ = some (.int .i64 bh) := cell_keep hX2 c3
  replace c4 : w2.cell? ⟨w.heap.size + 1, 1, none⟩ = some (.slice A bs.length d) := cell_keep hX2 c4
  replace c5 : w2.cell? ⟨w.heap.size + 1 + 1, 0, none⟩ = some (.slice A_pa pa.length c_pa) := cell_keep hX2 c5
  replace c6 : w2.cell? ⟨w.heap.size + 1 + 1, 1, none⟩ = some (.slice A_pc pc.length c_pc) := cell_keep hX2 c6
  replace c7 : w2.cell? ⟨w.heap.size + 1 + 1, 2, none⟩ = some (.slice A_pr pr.length c_pr) := cell_keep hX2 c7
  replace x0 : RI w2 w2.heap.size A bs := (x0).next hX2
  replace x1 : RI w2 w2.heap.size A_pa pa := (x1).next hX2
  replace x2 : RI w2 w2.heap.size A_pc pc := (x2).next hX2
  replace x3 : RI w2 w2.heap.size A_pr pr := (x3).next hX2
  rcases Bool.eq_false_or_eq_true (elemB p q c) with h2 | h2
  rotate_left
  · have hR := Lib.hid (show verO p q g bh bs c pa pc pr = (false, false) by unfold verO; rw [if_neg fun hh => Bool.false_ne_true (h2.symm.trans hh.2)])
    go_wp2
    go_ret2
    exact ⟨ret_bb (by rw [hR.out]) (by rw [hR.out]), hT2⟩
  have hcd := elem_bd (elemB_t h2)
  have hR := Lib.hid (show verO p q g bh bs c pa pc pr = (opV p q g bh c pa pc pr, true) by unfold verO; rw [if_pos ⟨h1, h2⟩])
  go_wp2_with fail
  refine (pOpening_any p q g bh c A bs.length d HG.out hbd hcd A_pa c_pa pa A_pc c_pc pc A_pr c_pr pr hl_pa hl_pc hl_pr _ ((x1).next (by repeat (first | exact Below.refl _ _ | refine bnew ?_ _ | refine Below.drew ?_ | refine Below.drewN ?_ _ | (refine below_set _ ?_ ?_; rotate_left; focus (first | omega | (simp; done) | (simp <;> omega)))))) ((x2).next (by repeat (first | exact Below.refl _ _ | refine bnew ?_ _ | refine Below.drew ?_ | refine Below.drewN ?_ _ | (refine below_set _ ?_ ?_; rotate_left; focus (first | omega | (simp; done) | (simp <;> omega)))))) ((x3).next (by repeat (first | exact Below.refl _ _ | refine bnew ?_ _ | refine Below.drew ?_ | refine Below.drewN ?_ _ | (refine below_set _ ?_ ?_; rotate_left; focus (first | omega | (simp; done) | (simp <;> omega))))))).mono ?_
  rintro e3 w3 ⟨rfl, hb3⟩
  have hX3 : Below w2.heap.size w2 w3 := bnext (by repeat (first | exact Below.refl _ _ | refine bnew ?_ _ | refine Below.drew ?_ | refine Below.drewN ?_ _ | (refine below_set _ ?_ ?_; rotate_left; focus (first | omega | (simp; done) | (simp <;> omega))))) hb3
  have hT3 : Below w.heap.size w w3 := bnext hT2 hX3
  replace c0 : w3.cell? ⟨w.heap.size, 0, none⟩ = some (.int .i64 p) := cell_keep hX3 c0
  replace c1 : w3.cell? ⟨w.heap.size, 1, none⟩ = some (.int .i64 q) := cell_keep hX3 c1
  replace c2 : w3.cell? ⟨w.heap.size, 2, none⟩ = some (.int .i64 g) := cell_keep hX3 c2
  replace c3 : w3.cell? ⟨w.heap.size + 1, 0, none⟩ = some (.int .i64 bh) := cell_keep hX3 c3
  replace c4 : w3.cell? ⟨w.heap.size + 1, 1, none⟩ = some (.slice A bs.length d) := cell_keep hX3 c4
  replace c5 : w3.cell? ⟨w.heap.size + 1 + 1, 0, none⟩ = some (.slice A_pa pa.length c_pa) := cell_keep hX3 c5
  replace c6 : w3.cell? ⟨w.heap.size + 1 + 1, 1, none⟩ = some (.slice A_pc pc.length c_pc) := cell_keep hX3 c6
  replace c7 : w3.cell? ⟨w.heap.size + 1 + 1, 2, none⟩ = some (.slice A_pr pr.length c_pr) := cell_keep hX3 c7
  replace x0 : RI w3 w3.heap.size A bs := (x0).next hX3
  replace x1 : RI w3 w3.heap.size A_pa pa := (x1).next hX3
  replace x2 : RI w3 w3.heap.size A_pc pc := (x2).next hX3
  replace x3 : RI w3 w3.heap.size A_pr pr := (x3).next hX3
  go_wp2
  go_ret2
  exact ⟨ret_bb (by rw [hR.out]) (by rw [hR.out]), hT3⟩
set_option maxRecDepth 100000 in
set_option maxHeartbeats 800000 in
theorem verifyOpeningI (p q g bh c : Int) (A : Option Addr) (d : Nat) (bs : List Int) (hl : bs.length ≤ 9223372036854775807) (A_pa : Option Addr) (c_pa : Nat) (pa : List Int) (A_pc : Option Addr) (c_pc : Nat) (pc : List Int) (A_pr : Option Addr) (c_pr : Nat) (pr : List Int) (hl_pa : pa.length ≤ 9223372036854775807) (hl_pc : pc.length ≤ 9223372036854775807) (hl_pr : pr.length ≤ 9223372036854775807) (w : World) (hx : RI w w.heap.size A bs) (hx_pa : RI w w.heap.size A_pa pa) (hx_pc : RI w w.heap.size A_pc pc) (hx_pr : RI w w.heap.size A_pr pr) :
    Calls Try.prog 27 #[.agg #[.int .i64 p, .int .i64 q, .int .i64 g], .agg #[.int .i64 bh, .slice A bs.length d], .int .i64 c, .agg #[.slice A_pa pa.length c_pa, .slice A_pc pc.length c_pc, .slice A_pr pr.length c_pr]] w fun en w' => en = .returned (.tuple #[.bool (verO p q g bh bs c pa pc pr).1, .bool (verO p q g bh bs c pa pc pr).2]) ∧ Below w.heap.size w w' := by
  have hT0 : Below w.heap.size w (((w.alloc (.cells #[.int .i64 p, .int .i64 q, .int .i64 g] 33)).alloc (.cells #[.int .i64 bh, .slice A bs.length d] 35)).alloc (.cells #[.slice A_pa pa.length c_pa, .slice A_pc pc.length c_pc, .slice A_pr pr.length c_pr] 38)) := by repeat (first | exact Below.refl _ _ | refine bnew ?_ _)
  have c0 : (((w.alloc (.cells #[.int .i64 p, .int .i64 q, .int .i64 g] 33)).alloc (.cells #[.int .i64 bh, .slice A bs.length d] 35)).alloc (.cells #[.slice A_pa pa.length c_pa, .slice A_pc pc.length c_pc, .slice A_pr pr.length c_pr] 38)).cell? ⟨w.heap.size, 0, none⟩ = some (.int .i64 p) := by
    repeat (first | with_reducible assumption | (with_reducible apply set1b; with_reducible assumption) | (with_reducible refine (sc_other _ ?_).trans ?_; focus (simp; done)) | (refine cell_new' ?_ _ _ _ rfl; focus (simp; done)) | with_reducible refine cell_keep (below_new _ _) ?_)
  have c1 : (((w.alloc (.cells #[.int .i64 p, .int .i64 q, .int .i64 g] 33)).alloc (.cells #[.int .i64 bh, .slice A bs.length d] 35)).alloc (.cells #[.slice A_pa pa.length c_pa, .slice A_pc pc.length c_pc, .slice A_pr pr.length c_pr] 38)).cell? ⟨w.heap.size, 1, none⟩ = some (.int .i64 q) := by
    repeat (first | with_reducible assumption | (with_reducible apply set1b; with_reducible assumption) | (with_reducible refine (sc_other _ ?_).trans ?_; focus (simp; done)) | (refine cell_new' ?_ _ _ _ rfl; focus (simp; done)) | with_reducible refine cell_keep (below_new _ _) ?_)
  have c2 : (((w.alloc (.cells #[.int .i64 p, .int .i64 q, .int .i64 g] 33)).alloc (.cells #[.int .i64 bh, .slice A bs.length d] 35)).alloc (.cells #[.slice A_pa pa.length c_pa, .slice A_pc pc.length c_pc, .slice A_pr pr.length c_pr] 38)).cell? ⟨w.heap.size, 2, none⟩ = some (.int .i64 g) := by
    repeat (first | with_reducible assumption | (with_reducible apply set1b; with_reducible assumption) | (with_reducible refine (sc_other _ ?_).trans ?_; focus (simp; done)) | (refine cell_new' ?_ _ _ _ rfl; focus (simp; done)) | with_reducible refine cell_keep (below_new _ _) ?_)
  have c3 : (((w.alloc (.cells #[.int .i64 p, .int .i64 q, .int .i64 g] 33)).alloc (.cells #[.int .i64 bh, .slice A bs.length d] 35)).alloc (.cells #[.slice A_pa pa.length c_pa, .slice A_pc pc.length c_pc, .slice A_pr pr.length c_pr] 38)).cell? ⟨w.heap.size + 1, 0, none⟩ = some (.int .i64 bh) := by
    repeat (first | with_reducible assumption | (with_reducible apply set1b; with_reducible assumption) | (with_reducible refine (sc_other _ ?_).trans ?_; focus (simp; done)) | (refine cell_new' ?_ _ _ _ rfl; focus (simp; done)) | with_reducible refine cell_keep (below_new _ _) ?_)
  have c4 : (((w.alloc (.cells #[.int .i64 p, .int .i64 q, .int .i64 g] 33)).alloc (.cells #[.int .i64 bh, .slice A bs.length d] 35)).alloc (.cells #[.slice A_pa pa.length c_pa, .slice A_pc pc.length c_pc, .slice A_pr pr.length c_pr] 38)).cell? ⟨w.heap.size + 1, 1, none⟩ = some (.slice A bs.length d) := by
    repeat (first | with_reducible assumption | (with_reducible apply set1b; with_reducible assumption) | (with_reducible refine (sc_other _ ?_).trans ?_; focus (simp; done)) | (refine cell_new' ?_ _ _ _ rfl; focus (simp; done)) | with_reducible refine cell_keep (below_new _ _) ?_)
  have c5 : (((w.alloc (.cells #[.int .i64 p, .int .i64 q, .int .i64 g] 33)).alloc (.cells #[.int .i64 bh, .slice A bs.length d] 35)).alloc (.cells #[.slice A_pa pa.length c_pa, .slice A_pc pc.length c_pc, .slice A_pr pr.length c_pr] 38)).cell? ⟨w.heap.size + 1 + 1, 0, none⟩ = some (.slice A_pa pa.length c_pa) := by
    repeat (first | with_reducible assumption | (with_reducible apply set1b; with_reducible assumption) | (with_reducible refine (sc_other _ ?_).trans ?_; focus (simp; done)) | (refine cell_new' ?_ _ _ _ rfl; focus (simp; done)) | with_reducible refine cell_keep (below_new _ _) ?_)
  have c6 : (((w.alloc (.cells #[.int .i64 p, .int .i64 q, .int .i64 g] 33)).alloc (.cells #[.int .i64 bh, .slice A bs.length d] 35)).alloc (.cells #[.slice A_pa pa.length c_pa, .slice A_pc pc.length c_pc, .slice A_pr pr.length c_pr] 38)).cell? ⟨w.heap.size + 1 + 1, 1, none⟩ = some (.slice A_pc pc.length c_pc) := by
    repeat (first | with_reducible assumption | (with_reducible apply set1b; with_reducible assumption) | (with_reducible refine (sc_other _ ?_).trans ?_; focus (simp; done)) | (refine cell_new' ?_ _ _ _ rfl; focus (simp; done)) | with_reducible refine cell_keep (below_new _ _) ?_)
  have c7 : (((w.alloc (.cells #[.int .i64 p, .int .i64 q, .int .i64 g] 33)).alloc (.cells #[.int .i64 bh, .slice A bs.length d] 35)).alloc (.cells #[.slice A_pa pa.length c_pa, .slice A_pc pc.length c_pc, .slice A_pr pr.length c_pr] 38)).cell? ⟨w.heap.size + 1 + 1, 2, none⟩ = some (.slice A_pr pr.length c_pr) := by
    repeat (first | with_reducible assumption | (with_reducible apply set1b; with_reducible assumption) | (with_reducible refine (sc_other _ ?_).trans ?_; focus (simp; done)) | (refine cell_new' ?_ _ _ _ rfl; focus (simp; done)) | with_reducible refine cell_keep (below_new _ _) ?_)
  have x0 : RI (((w.alloc (.cells #[.int .i64 p, .int .i64 q, .int .i64 g] 33)).alloc (.cells #[.int .i64 bh, .slice A bs.length d] 35)).alloc (.cells #[.slice A_pa pa.length c_pa, .slice A_pc pc.length c_pc, .slice A_pr pr.length c_pr] 38)) (((w.alloc (.cells #[.int .i64 p, .int .i64 q, .int .i64 g] 33)).alloc (.cells #[.int .i64 bh, .slice A bs.length d] 35)).alloc (.cells #[.slice A_pa pa.length c_pa, .slice A_pc pc.length c_pc, .slice A_pr pr.length c_pr] 38)).heap.size A bs := hx.next hT0
  have x1 : RI (((w.alloc (.cells #[.int .i64 p, .int .i64 q, .int .i64 g] 33)).alloc (.cells #[.int .i64 bh, .slice A bs.length d] 35)).alloc (.cells #[.slice A_pa pa.length c_pa, .slice A_pc pc.length c_pc, .slice A_pr pr.length c_pr] 38)) (((w.alloc (.cells #[.int .i64 p, .int .i64 q, .int .i64 g] 33)).alloc (.cells #[.int .i64 bh, .slice A bs.length d] 35)).alloc (.cells #[.slice A_pa pa.length c_pa, .slice A_pc pc.length c_pc, .slice A_pr pr.length c_pr] 38)).heap.size A_pa pa := hx_pa.next hT0
  have x2 : RI (((w.alloc (.cells #[.int .i64 p, .int .i64 q, .int .i64 g] 33)).alloc (.cells #[.int .i64 bh, .slice A bs.length d] 35)).alloc (.cells #[.slice A_pa pa.length c_pa, .slice A_pc pc.length c_pc, .slice A_pr pr.length c_pr] 38)) (((w.alloc (.cells #[.int .i64 p, .int .i64 q, .int .i64 g] 33)).alloc (.cells #[.int .i64 bh, .slice A bs.length d] 35)).alloc (.cells #[.slice A_pa pa.length c_pa, .slice A_pc pc.length c_pc, .slice A_pr pr.length c_pr] 38)).heap.size A_pc pc := hx_pc.next hT0
  have x3 : RI (((w.alloc (.cells #[.int .i64 p, .int .i64 q, .int .i64 g] 33)).alloc (.cells #[.int .i64 bh, .slice A bs.length d] 35)).alloc (.cells #[.slice A_pa pa.length c_pa, .slice A_pc pc.length c_pc, .slice A_pr pr.length c_pr] 38)) (((w.alloc (.cells #[.int .i64 p, .int .i64 q, .int .i64 g] 33)).alloc (.cells #[.int .i64 bh, .slice A bs.length d] 35)).alloc (.cells #[.slice A_pa pa.length c_pa, .slice A_pc pc.length c_pc, .slice A_pr pr.length c_pr] 38)).heap.size A_pr pr := hx_pr.next hT0
  go_enter Try.func27, Try.ntmps27
  go_wp2_with fail
  refine (isValidBasesI_any p q g bh A d bs hl _ ((x0).next (by repeat (first | exact Below.refl _ _ | refine bnew ?_ _ | refine Below.drew ?_ | refine Below.drewN ?_ _ | (refine below_set _ ?_ ?_; rotate_left; focus (first | omega | (simp; done) | (simp <;> omega))))))).mono ?_
  rintro e1 w1 ⟨rfl, hb1⟩
  have hX1 : Below (((w.alloc (.cells #[.int .i64 p, .int .i64 q, .int .i64 g] 33)).alloc (.cells #[.int .i64 bh, .slice A bs.length d] 35)).alloc (.cells #[.slice A_pa pa.length c_pa, .slice A_pc pc.length c_pc, .slice A_pr pr.length c_pr] 38)).heap.size (((w.alloc (.cells #[.int .i64 p, .int .i64 q, .int .i64 g] 33)).alloc (.cells #[.int .i64 bh, .slice A bs.length d] 35)).alloc (.cells #[.slice A_pa pa.length c_pa, .slice A_pc pc.length c_pc, .slice A_pr pr.length c_pr] 38)) w1 := bnext (by repeat (first | exact Below.refl _ _ | refine bnew ?_ _ | refine Below.drew ?_ | refine Below.drewN ?_ _ | (refine below_set _ ?_ ?_; rotate_left; focus (first | omega | (simp; done) | (simp <;> omega))))) hb1
  have hT1 : Below w.heap.size w w1 := bnext hT0 hX1
  replace c0 : w1.cell? ⟨w.heap.size, 0, none⟩ = some (.int .i64 p) := cell_keep hX1 c0
  replace c1 : w1.cell? ⟨w.heap.size, 1, none⟩ = some (.int .i64 q) := cell_keep hX1 c1
  replace c2 : w1.cell? ⟨w.heap.size, 2, none⟩ = some (.int .i64 g) := cell_keep hX1 c2
  replace c3 : w1.cell? ⟨w.heap.size + 1, 0, none⟩ = some (.int .i64 bh) := cell_keep hX1 c3
  replace c4 : w1.cell? ⟨w.heap.size + 1, 1, none⟩ = some (.slice A bs.length d) := cell_keep hX1 c4
  replace c5 : w1.cell? ⟨w.heap.size + 1 + 1, 0, none⟩ = some (.slice A_pa pa.length c_pa) := cell_keep hX1 c5
  replace c6 : w1.cell? ⟨w.heap.size + 1 + 1, 1, none⟩ = some (.slice A_pc pc.length c_pc) := cell_keep hX1 c6
  replace c7 : w1.cell? ⟨w.heap.size + 1 + 1, 2, none⟩ = some (.slice A_pr pr.length c_pr) := cell_keep hX1 c7
  replace x0 : RI w1 w1.heap.size A bs := (x0).next hX1
  replace x1 : RI w1 w1.heap.size A_pa pa := (x1).next hX1
  replace x2 : RI w1 w1.heap.size A_pc pc := (x2).next hX1
  replace x3 : RI w1 w1.heap.size A_pr pr := (x3).next hX1
  rcases Bool.eq_false_or_eq_true (l9B p q g bh bs) with h1 | h1
  rotate_left
  · have hR := Lib.hid (show verO p q g bh bs c pa pc pr = (false, false) by unfold verO; rw [if_neg fun hh => Bool.false_ne_true (h1.symm.trans hh.1)])
    go_wp2
    go_ret2
    exact ⟨ret_bb (by rw [hR.out]) (by rw [hR.out]), hT1⟩
  obtain ⟨hg, hbb⟩ := l9B_of h1
  obtain ⟨hbe, hb24, hbs⟩ := basesB_of hbb
  have hbd := elem_bd hbe
  have hG := M.goodB_of hg
  have g1 := hG.q2
  have g2 := hG.qp
  have g3 := hG.p3
  have g4 := hG.pM
  have HG := Lib.hid hG
  clear hG
  go_wp2_with fail
  refine (has_any p q g c HG.out _).mono ?_
  rintro e2 w2 ⟨rfl, hb2⟩
  have hX2 : Below w1.heap.size w1 w2 := bnext (by repeat (first | exact Below.refl _ _ | refine bnew ?_ _ | refine Below.drew ?_ | refine Below.drewN ?_ _ | (refine below_set _ ?_ ?_; rotate_left; focus (first | omega | (simp; done) | (simp <;> omega))))) hb2
  have hT2 : Below w.heap.size w w2 := bnext hT1 hX2
  replace c0 : w2.cell? ⟨w.heap.size, 0, none⟩ = some (.int .i64 p) := cell_keep hX2 c0
  replace c1 : w2.cell? ⟨w.heap.size, 1, none⟩ = some (.int .i64 q) := cell_keep hX2 c1
  replace c2 : w2.cell? ⟨w.heap.size, 2, none⟩ = some (.int .i64 g) := cell_keep hX2 c2
  replace c3 : w2.cell? ⟨w.heap.size + 1, 0, none⟩ = some (.int .i64 bh) := cell_keep hX2 c3
  replace c4 : w2.cell? ⟨w.heap.size + 1, 1, none⟩ = some (.slice A bs.length d) := cell_keep hX2 c4
  replace c5 : w2.cell? ⟨w.heap.size + 1 + 1, 0, none⟩ = some (.slice A_pa pa.length c_pa) := cell_keep hX2 c5
  replace c6 : w2.cell? ⟨w.heap.size + 1 + 1, 1, none⟩ = some (.slice A_pc pc.length c_pc) := cell_keep hX2 c6
  replace c7 : w2.cell? ⟨w.heap.size + 1 + 1, 2, none⟩ = some (.slice A_pr pr.length c_pr) := cell_keep hX2 c7
  replace x0 : RI w2 w2.heap.size A bs := (x0).next hX2
  replace x1 : RI w2 w2.heap.size A_pa pa := (x1).next hX2
  replace x2 : RI w2 w2.heap.size A_pc pc := (x2).next hX2
  replace x3 : RI w2 w2.heap.size A_pr pr := (x3).next hX2
  rcases Bool.eq_false_or_eq_true (elemB p q c) with h2 | h2
  rotate_left
  · have hR := Lib.hid (show verO p q g bh bs c pa pc pr = (false, false) by unfold verO; rw [if_neg fun hh => Bool.false_ne_true (h2.symm.trans hh.2)])
    go_wp2
    go_ret2
    exact ⟨ret_bb (by rw [hR.out]) (by rw [hR.out]), hT2⟩
  have hcd := elem_bd (elemB_t h2)
  have hR := Lib.hid (show verO p q g bh bs c pa pc pr = (opV p q g bh c pa pc pr, true) by unfold verO; rw [if_pos ⟨h1, h2⟩])
  obtain ⟨ad0, ea0⟩ := hx_pa.ad
  obtain ⟨ad1, ea1⟩ := hx_pc.ad
  obtain ⟨ad2, ea2⟩ := hx_pr.ad
  have EA0 := Lib.hid ea0
  have EA1 := Lib.hid ea1
  have EA2 := Lib.hid ea2
  obtain ⟨px, hpx⟩ : ∃ v : Int, v = pa.getD 0 0 := ⟨_, rfl⟩
  have HPX := Lib.hid hpx
  clear ea0 ea1 ea2 hpx
  go_wp2_with fail
  clear h1 h2
  obtain ⟨b1, hb1⟩ : ∃ b : Bool, b = (((pa.length : Int) != 1)) := ⟨_, rfl⟩
  have Hb1 := Lib.hid hb1
  clear hb1
  obtain ⟨b2, hb2⟩ : ∃ b : Bool, b = (((pc.length : Int) != 1)) := ⟨_, rfl⟩
  have Hb2 := Lib.hid hb2
  clear hb2
  obtain ⟨n3_9, hn3_9⟩ : ∃ b : Bool, b = (b1 || b2) := ⟨_, rfl⟩
  have Hn3_9 := Lib.hid hn3_9
  clear hn3_9
  obtain ⟨b3, hb3⟩ : ∃ b : Bool, b = (((pr.length : Int) != 2)) := ⟨_, rfl⟩
  have Hb3 := Lib.hid hb3
  clear hb3
  obtain ⟨n3_15, hn3_15⟩ : ∃ b : Bool, b = (n3_9 || b3) := ⟨_, rfl⟩
  have Hn3_15 := Lib.hid hn3_15
  clear hn3_15
  obtain ⟨b4, hb4⟩ : ∃ b : Bool, b = (elemB p q px) := ⟨_, rfl⟩
  have Hb4 := Lib.hid hb4
  clear hb4
  obtain ⟨n3_23, hn3_23⟩ : ∃ b : Bool, b = (!b4) := ⟨_, rfl⟩
  have Hn3_23 := Lib.hid hn3_23
  clear hn3_23
  obtain ⟨n3_24, hn3_24⟩ : ∃ b : Bool, b = (n3_15 || n3_23) := ⟨_, rfl⟩
  have Hn3_24 := Lib.hid hn3_24
  clear hn3_24
  obtain ⟨b5, hb5⟩ : ∃ b : Bool, b = (expsB q pr) := ⟨_, rfl⟩
  have Hb5 := Lib.hid hb5
  clear hb5
  obtain ⟨n3_30, hn3_30⟩ : ∃ b : Bool, b = (!b5) := ⟨_, rfl⟩
  have Hn3_30 := Lib.hid hn3_30
  clear hn3_30
  obtain ⟨n3_31, hn3_31⟩ : ∃ b : Bool, b = (n3_24 || n3_30) := ⟨_, rfl⟩
  have Hn3_31 := Lib.hid hn3_31
  clear hn3_31
  refine wp_region_chain (fun W => W.cell? ⟨w.heap.size, 0, none⟩ = some (.int .i64 p) ∧ W.cell? ⟨w.heap.size, 1, none⟩ = some (.int .i64 q) ∧ W.cell? ⟨w.heap.size, 2, none⟩ = some (.int .i64 g) ∧ W.cell? ⟨w.heap.size + 1, 0, none⟩ = some (.int .i64 bh) ∧ W.cell? ⟨w.heap.size + 1, 1, none⟩ = some (.slice A bs.length d) ∧ W.cell? ⟨w.heap.size + 1 + 1, 0, none⟩ = some (.slice A_pa pa.length c_pa) ∧ W.cell? ⟨w.heap.size + 1 + 1, 1, none⟩ = some (.slice A_pc pc.length c_pc) ∧ W.cell? ⟨w.heap.size + 1 + 1, 2, none⟩ = some (.slice A_pr pr.length c_pr) ∧ RI W W.heap.size A bs ∧ RI W W.heap.size A_pa pa ∧ RI W W.heap.size A_pc pc ∧ RI W W.heap.size A_pr pr)
    32 [some 23, some 24, some 25, some 26, some 27, some 28, some 29, some 30, some 31, some 32, some 33, some 34, some 35, some 36, some 37, some 38, some 39, some 40, some 41, some 42, some 43, some 44, some 45, some 46, some 47, some 48, some 49, some 50, some 51, some 52, some 53, some 54] (by kernel_rfl) (by kernel_rfl) (by kernel_rfl) (by decide) (by rfl) (by kernel_rfl) (by kernel_rfl) ?hS0 ?hSs ?hc
  case hS0 => exact ⟨cell_keep (Below.drew (by repeat (first | exact Below.refl _ _ | refine bnew ?_ _ | refine Below.drew ?_ | refine Below.drewN ?_ _ | (refine below_set _ ?_ ?_; rotate_left; focus (first | omega | (simp; done) | (simp <;> omega)))))) c0, cell_keep (Below.drew (by repeat (first | exact Below.refl _ _ | refine bnew ?_ _ | refine Below.drew ?_ | refine Below.drewN ?_ _ | (refine below_set _ ?_ ?_; rotate_left; focus (first | omega | (simp; done) | (simp <;> omega)))))) c1, cell_keep (Below.drew (by repeat (first | exact Below.refl _ _ | refine bnew ?_ _ | refine Below.drew ?_ | refine Below.drewN ?_ _ | (refine below_set _ ?_ ?_; rotate_left; focus (first | omega | (simp; done) | (simp <;> omega)))))) c2, cell_keep (Below.drew (by repeat (first | exact Below.refl _ _ | refine bnew ?_ _ | refine Below.drew ?_ | refine Below.drewN ?_ _ | (refine below_set _ ?_ ?_; rotate_left; focus (first | omega | (simp; done) | (simp <;> omega)))))) c3, cell_keep (Below.drew (by repeat (first | exact Below.refl _ _ | refine bnew ?_ _ | refine Below.drew ?_ | refine Below.drewN ?_ _ | (refine below_set _ ?_ ?_; rotate_left; focus (first | omega | (simp; done) | (simp <;> omega)))))) c4, cell_keep (Below.drew (by repeat (first | exact Below.refl _ _ | refine bnew ?_ _ | refine Below.drew ?_ | refine Below.drewN ?_ _ | (refine below_set _ ?_ ?_; rotate_left; focus (first | omega | (simp; done) | (simp <;> omega)))))) c5, cell_keep (Below.drew (by repeat (first | exact Below.refl _ _ | refine bnew ?_ _ | refine Below.drew ?_ | refine Below.drewN ?_ _ | (refine below_set _ ?_ ?_; rotate_left; focus (first | omega | (simp; done) | (simp <;> omega)))))) c6, cell_keep (Below.drew (by repeat (first | exact Below.refl _ _ | refine bnew ?_ _ | refine Below.drew ?_ | refine Below.drewN ?_ _ | (refine below_set _ ?_ ?_; rotate_left; focus (first | omega | (simp; done) | (simp <;> omega)))))) c7, (x0).next (Below.drew (by repeat (first | exact Below.refl _ _ | refine bnew ?_ _ | refine Below.drew ?_ | refine Below.drewN ?_ _ | (refine below_set _ ?_ ?_; rotate_left; focus (first | omega | (simp; done) | (simp <;> omega)))))), (x1).next (Below.drew (by repeat (first | exact Below.refl _ _ | refine bnew ?_ _ | refine Below.drew ?_ | refine Below.drewN ?_ _ | (refine below_set _ ?_ ?_; rotate_left; focus (first | omega | (simp; done) | (simp <;> omega)))))), (x2).next (Below.drew (by repeat (first | exact Below.refl _ _ | refine bnew ?_ _ | refine Below.drew ?_ | refine Below.drewN ?_ _ | (refine below_set _ ?_ ?_; rotate_left; focus (first | omega | (simp; done) | (simp <;> omega)))))), (x3).next (Below.drew (by repeat (first | exact Below.refl _ _ | refine bnew ?_ _ | refine Below.drew ?_ | refine Below.drewN ?_ _ | (refine below_set _ ?_ ?_; rotate_left; focus (first | omega | (simp; done) | (simp <;> omega))))))⟩
  case hSs => exact fun w1 w2 ⟨hc0, hc1, hc2, hc3, hc4, hc5, hc6, hc7, hx0, hx1, hx2, hx3⟩ hb => ⟨cell_keep hb hc0, cell_keep hb hc1, cell_keep hb hc2, cell_keep hb hc3, cell_keep hb hc4, cell_keep hb hc5, cell_keep hb hc6, cell_keep hb hc7, (hx0).next hb, (hx1).next hb, (hx2).next hb, (hx3).next hb⟩
  apply Chain.det
  · intro a w1 hS hb hd K hK
    obtain ⟨c0, c1, c2, c3, c4, c5, c6, c7, x0, x1, x2, x3⟩ := hS
    have b7 := hb 7 _ rfl (by decide)
    clear hb
    simp only [depsOK] at hd
    go_simp
    exact hK _ _ rfl (Below.refl _ _)
  show Chain _ _ _ _ _ _ _ _ _ _ _ 31 1 _
  apply Chain.det
  · intro a w1 hS hb hd K hK
    obtain ⟨c0, c1, c2, c3, c4, c5, c6, c7, x0, x1, x2, x3⟩ := hS
    clear hb
    simp only [depsOK, updR, Region.binds, reduceIte, forall_const, and_true, eqV, List.getElem?_cons_zero, exists_eq_right] at hd
    go_simp
    exact hK _ _ rfl (Below.refl _ _)
  show Chain _ _ _ _ _ _ _ _ _ _ _ 30 2 _
  apply Chain.det
  · intro a w1 hS hb hd K hK
    obtain ⟨c0, c1, c2, c3, c4, c5, c6, c7, x0, x1, x2, x3⟩ := hS
    clear hb
    simp only [depsOK, updR, Region.binds, reduceIte, forall_const, and_true, eqV, List.getElem?_cons_zero, List.getElem?_cons_succ, exists_eq_right, Nat.succ_ne_self] at hd
    go_simp
    exact hK _ _ rfl (Below.refl _ _)
  show Chain _ _ _ _ _ _ _ _ _ _ _ 29 3 _
  refine Chain.rel (eqV (.bool b1)) (stable_eq _) ?_ ?_
  · intro a w1 hS hb hd K hK
    obtain ⟨c0, c1, c2, c3, c4, c5, c6, c7, x0, x1, x2, x3⟩ := hS
    clear hb
    simp only [depsOK, updR, Region.binds, reduceIte, forall_const, and_true, eqV, List.getElem?_cons_zero, List.getElem?_cons_succ, exists_eq_right, reduceCtorEq, Nat.succ_ne_self] at hd
    go_simp
    exact hK _ _ (congrArg Value.bool Hb1.out.symm) (Below.refl _ _)
  show Chain _ _ _ _ _ _ _ _ _ _ _ 28 4 _
  apply Chain.det
  · intro a w1 hS hb hd K hK
    obtain ⟨c0, c1, c2, c3, c4, c5, c6, c7, x0, x1, x2, x3⟩ := hS
    clear hb
    simp only [depsOK, updR, Region.binds, reduceIte, Nat.reduceEqDiff, forall_const, and_true, eqV, List.getElem?_cons_zero, List.getElem?_cons_succ, exists_eq_right, reduceCtorEq, Nat.succ_ne_self] at hd
    go_simp
    exact hK _ _ rfl (Below.refl _ _)
  show Chain _ _ _ _ _ _ _ _ _ _ _ 27 5 _
  apply Chain.detg b1 false
  · intro a w1 hS hb hd K hK
    obtain ⟨c0, c1, c2, c3, c4, c5, c6, c7, x0, x1, x2, x3⟩ := hS
    have b7 := hb 7 _ rfl (by decide)
    clear hb
    simp only [depsOK, updR, Region.binds, reduceIte, Nat.reduceEqDiff, forall_const, and_true, eqV, List.getElem?_cons_zero, List.getElem?_cons_succ, exists_eq_right, reduceCtorEq, Nat.succ_ne_self] at hd
    rcases Bool.eq_false_or_eq_true b1 with e | e
    · simp only [e] at hd
      go_simp
      exact hK _ _ (fun h => Bool.noConfusion (e.symm.trans h)) (Below.refl _ _)
    · simp only [e] at hd
      go_simp
      exact hK _ _ (fun _ => rfl) (Below.refl _ _)
  show Chain _ _ _ _ _ _ _ _ _ _ _ 26 6 _
  apply Chain.detg b1 false
  · intro a w1 hS hb hd K hK
    obtain ⟨c0, c1, c2, c3, c4, c5, c6, c7, x0, x1, x2, x3⟩ := hS
    clear hb
    simp only [depsOK, updR, Region.binds, reduceIte, Nat.reduceEqDiff, forall_const, and_true, eqV, eqG, List.getElem?_cons_zero, List.getElem?_cons_succ, exists_eq_right, reduceCtorEq, Nat.succ_ne_self] at hd
    rcases Bool.eq_false_or_eq_true b1 with e | e
    · simp only [e, reduceCtorEq, false_imp_iff, and_true] at hd
      go_simp
      exact hK _ _ (fun h => Bool.noConfusion (e.symm.trans h)) (Below.refl _ _)
    · simp only [e, forall_const, exists_eq_right] at hd
      go_simp
      exact hK _ _ (fun _ => rfl) (Below.refl _ _)
  show Chain _ _ _ _ _ _ _ _ _ _ _ 25 7 _
  apply Chain.detg b1 false
  · intro a w1 hS hb hd K hK
    obtain ⟨c0, c1, c2, c3, c4, c5, c6, c7, x0, x1, x2, x3⟩ := hS
    clear hb
    simp only [depsOK, updR, Region.binds, reduceIte, Nat.reduceEqDiff, forall_const, and_true, eqV, eqG, List.getElem?_cons_zero, List.getElem?_cons_succ, exists_eq_right, reduceCtorEq, Nat.succ_ne_self] at hd
    rcases Bool.eq_false_or_eq_true b1 with e | e
    · simp only [e, reduceCtorEq, false_imp_iff, and_true] at hd
      go_simp
      exact hK _ _ (fun h => Bool.noConfusion (e.symm.trans h)) (Below.refl _ _)
    · simp only [e, forall_const, exists_eq_right] at hd
      go_simp
      exact hK _ _ (fun _ => rfl) (Below.refl _ _)
  show Chain _ _ _ _ _ _ _ _ _ _ _ 24 8 _
  refine Chain.rel (eqG b1 false (.bool b2)) (stable_eqG _ _ _) ?_ ?_
  · intro a w1 hS hb hd K hK
    obtain ⟨c0, c1, c2, c3, c4, c5, c6, c7, x0, x1, x2, x3⟩ := hS
    clear hb
    simp only [depsOK, updR, Region.binds, reduceIte, Nat.reduceEqDiff, forall_const, and_true, eqV, eqG, List.getElem?_cons_zero, List.getElem?_cons_succ, exists_eq_right, reduceCtorEq, Nat.succ_ne_self] at hd
    rcases Bool.eq_false_or_eq_true b1 with e | e
    · simp only [e, reduceCtorEq, false_imp_iff, and_true] at hd
      go_simp
      exact hK _ _ (fun h => Bool.noConfusion (e.symm.trans h)) (Below.refl _ _)
    · simp only [e, forall_const, exists_eq_right] at hd
      go_simp
      exact hK _ _ (fun _ => congrArg Value.bool Hb2.out.symm) (Below.refl _ _)
  show Chain _ _ _ _ _ _ _ _ _ _ _ 23 9 _
  refine Chain.rel (eqV (.bool n3_9)) (stable_eq _) ?_ ?_
  · intro a w1 hS hb hd K hK
    obtain ⟨c0, c1, c2, c3, c4, c5, c6, c7, x0, x1, x2, x3⟩ := hS
    clear hb
    simp only [depsOK, updR, Region.binds, reduceIte, Nat.reduceEqDiff, forall_const, and_true, eqV, eqG, List.getElem?_cons_zero, List.getElem?_cons_succ, exists_eq_right, reduceCtorEq, Nat.succ_ne_self] at hd
    rcases Bool.eq_false_or_eq_true b1 with e | e
    · simp only [e, reduceCtorEq, false_imp_iff, and_true] at hd
      go_simp
      exact hK _ _ (by show Value.bool _ = Value.bool _; rw [Hn3_9.out, e]; try rfl) (Below.refl _ _)
    · simp only [e, forall_const, exists_eq_right] at hd
      go_simp
      exact hK _ _ (by show Value.bool _ = Value.bool _; rw [Hn3_9.out, e]; try rfl) (Below.refl _ _)
  show Chain _ _ _ _ _ _ _ _ _ _ _ 22 10 _
  apply Chain.det
  · intro a w1 hS hb hd K hK
    obtain ⟨c0, c1, c2, c3, c4, c5, c6, c7, x0, x1, x2, x3⟩ := hS
    clear hb
    simp only [depsOK, updR, Region.binds, reduceIte, Nat.reduceEqDiff, forall_const, and_true, eqV, List.getElem?_cons_zero, List.getElem?_cons_succ, exists_eq_right, reduceCtorEq, Nat.succ_ne_self] at hd
    go_simp
    exact hK _ _ rfl (Below.refl _ _)
  show Chain _ _ _ _ _ _ _ _ _ _ _ 21 11 _
  apply Chain.detg n3_9 false
  · intro a w1 hS hb hd K hK
    obtain ⟨c0, c1, c2, c3, c4, c5, c6, c7, x0, x1, x2, x3⟩ := hS
    have b7 := hb 7 _ rfl (by decide)
    clear hb
    simp only [depsOK, updR, Region.binds, reduceIte, Nat.reduceEqDiff, forall_const, and_true, eqV, List.getElem?_cons_zero, List.getElem?_cons_succ, exists_eq_right, reduceCtorEq, Nat.succ_ne_self] at hd
    rcases Bool.eq_false_or_eq_true n3_9 with e | e
    · simp only [e] at hd
      go_simp
      exact hK _ _ (fun h => Bool.noConfusion (e.symm.trans h)) (Below.refl _ _)
    · simp only [e] at hd
      go_simp
      exact hK _ _ (fun _ => rfl) (Below.refl _ _)
  show Chain _ _ _ _ _ _ _ _ _ _ _ 20 12 _
  apply Chain.detg n3_9 false
  · intro a w1 hS hb hd K hK
    obtain ⟨c0, c1, c2, c3, c4, c5, c6, c7, x0, x1, x2, x3⟩ := hS
    clear hb
    simp only [depsOK, updR, Region.binds, reduceIte, Nat.reduceEqDiff, forall_const, and_true, eqV, eqG, List.getElem?_cons_zero, List.getElem?_cons_succ, exists_eq_right, reduceCtorEq, Nat.succ_ne_self] at hd
    rcases Bool.eq_false_or_eq_true n3_9 with e | e
    · simp only [e, reduceCtorEq, false_imp_iff, and_true] at hd
      go_simp
      exact hK _ _ (fun h => Bool.noConfusion (e.symm.trans h)) (Below.refl _ _)
    · simp only [e, forall_const, exists_eq_right] at hd
      go_simp
      exact hK _ _ (fun _ => rfl) (Below.refl _ _)
  show Chain _ _ _ _ _ _ _ _ _ _ _ 19 13 _
  apply Chain.detg n3_9 false
  · intro a w1 hS hb hd K hK
    obtain ⟨c0, c1, c2, c3, c4, c5, c6, c7, x0, x1, x2, x3⟩ := hS
    clear hb
    simp only [depsOK, updR, Region.binds, reduceIte, Nat.reduceEqDiff, forall_const, and_true, eqV, eqG, List.getElem?_cons_zero, List.getElem?_cons_succ, exists_eq_right, reduceCtorEq, Nat.succ_ne_self] at hd
    rcases Bool.eq_false_or_eq_true n3_9 with e | e
    · simp only [e, reduceCtorEq, false_imp_iff, and_true] at hd
      go_simp
      exact hK _ _ (fun h => Bool.noConfusion (e.symm.trans h)) (Below.refl _ _)
    · simp only [e, forall_const, exists_eq_right] at hd
      go_simp
      exact hK _ _ (fun _ => rfl) (Below.refl _ _)
  show Chain _ _ _ _ _ _ _ _ _ _ _ 18 14 _
  refine Chain.rel (eqG n3_9 false (.bool b3)) (stable_eqG _ _ _) ?_ ?_
  · intro a w1 hS hb hd K hK
    obtain ⟨c0, c1, c2, c3, c4, c5, c6, c7, x0, x1, x2, x3⟩ := hS
    clear hb
    simp only [depsOK, updR, Region.binds, reduceIte, Nat.reduceEqDiff, forall_const, and_true, eqV, eqG, List.getElem?_cons_zero, List.getElem?_cons_succ, exists_eq_right, reduceCtorEq, Nat.succ_ne_self] at hd
    rcases Bool.eq_false_or_eq_true n3_9 with e | e
    · simp only [e, reduceCtorEq, false_imp_iff, and_true] at hd
      go_simp
      exact hK _ _ (fun h => Bool.noConfusion (e.symm.trans h)) (Below.refl _ _)
    · simp only [e, forall_const, exists_eq_right] at hd
      go_simp
      exact hK _ _ (fun _ => congrArg Value.bool Hb3.out.symm) (Below.refl _ _)
  show Chain _ _ _ _ _ _ _ _ _ _ _ 17 15 _
  refine Chain.rel (eqV (.bool n3_15)) (stable_eq _) ?_ ?_
  · intro a w1 hS hb hd K hK
    obtain ⟨c0, c1, c2, c3, c4, c5, c6, c7, x0, x1, x2, x3⟩ := hS
    clear hb
    simp only [depsOK, updR, Region.binds, reduceIte, Nat.reduceEqDiff, forall_const, and_true, eqV, eqG, List.getElem?_cons_zero, List.getElem?_cons_succ, exists_eq_right, reduceCtorEq, Nat.succ_ne_self] at hd
    rcases Bool.eq_false_or_eq_true n3_9 with e | e
    · simp only [e, reduceCtorEq, false_imp_iff, and_true] at hd
      go_simp
      exact hK _ _ (by show Value.bool _ = Value.bool _; rw [Hn3_15.out, e]; try rfl) (Below.refl _ _)
    · simp only [e, forall_const, exists_eq_right] at hd
      go_simp
      exact hK _ _ (by show Value.bool _ = Value.bool _; rw [Hn3_15.out, e]; try rfl) (Below.refl _ _)
  show Chain _ _ _ _ _ _ _ _ _ _ _ 16 16 _
  apply Chain.det
  · intro a w1 hS hb hd K hK
    obtain ⟨c0, c1, c2, c3, c4, c5, c6, c7, x0, x1, x2, x3⟩ := hS
    clear hb
    simp only [depsOK, updR, Region.binds, reduceIte, Nat.reduceEqDiff, forall_const, and_true, eqV, List.getElem?_cons_zero, List.getElem?_cons_succ, exists_eq_right, reduceCtorEq, Nat.succ_ne_self] at hd
    go_simp
    exact hK _ _ rfl (Below.refl _ _)
  show Chain _ _ _ _ _ _ _ _ _ _ _ 15 17 _
  apply Chain.detg n3_15 false
  · intro a w1 hS hb hd K hK
    obtain ⟨c0, c1, c2, c3, c4, c5, c6, c7, x0, x1, x2, x3⟩ := hS
    have b4 := hb 4 _ rfl (by decide)
    clear hb
    simp only [depsOK, updR, Region.binds, reduceIte, Nat.reduceEqDiff, forall_const, and_true, eqV, List.getElem?_cons_zero, List.getElem?_cons_succ, exists_eq_right, reduceCtorEq, Nat.succ_ne_self] at hd
    rcases Bool.eq_false_or_eq_true n3_15 with e | e
    · simp only [e] at hd
      go_simp
      exact hK _ _ (fun h => Bool.noConfusion (e.symm.trans h)) (Below.refl _ _)
    · simp only [e] at hd
      have e3 := e
      rw [Hn3_15.out] at e3
      have e4 := (Bool.or_eq_false_iff.1 e3).1
      rw [Hn3_9.out] at e4
      have e5 := (Bool.or_eq_false_iff.1 e4).1
      rw [Hb1.out] at e5
      have l0 : 0 < pa.length := by
        have := (bne_eq_false_iff_eq.1 e5)
        omega
      have ea := EA0.out l0
      rw [ea] at x1
      have y0 := x1.get 0 l0
      rw [add0, ← HPX.out] at y0
      clear e3 e4 e5
      go_simp
      exact hK _ _ (fun _ => rfl) (Below.refl _ _)
  show Chain _ _ _ _ _ _ _ _ _ _ _ 14 18 _
  apply Chain.detg n3_15 false
  · intro a w1 hS hb hd K hK
    obtain ⟨c0, c1, c2, c3, c4, c5, c6, c7, x0, x1, x2, x3⟩ := hS
    have b7 := hb 7 _ rfl (by decide)
    clear hb
    simp only [depsOK, updR, Region.binds, reduceIte, Nat.reduceEqDiff, forall_const, and_true, eqV, List.getElem?_cons_zero, List.getElem?_cons_succ, exists_eq_right, reduceCtorEq, Nat.succ_ne_self] at hd
    rcases Bool.eq_false_or_eq_true n3_15 with e | e
    · simp only [e] at hd
      go_simp
      exact hK _ _ (fun h => Bool.noConfusion (e.symm.trans h)) (Below.refl _ _)
    · simp only [e] at hd
      have e3 := e
      rw [Hn3_15.out] at e3
      have e4 := (Bool.or_eq_false_iff.1 e3).1
      rw [Hn3_9.out] at e4
      have e5 := (Bool.or_eq_false_iff.1 e4).1
      rw [Hb1.out] at e5
      have l0 : 0 < pa.length := by
        have := (bne_eq_false_iff_eq.1 e5)
        omega
      have ea := EA0.out l0
      rw [ea] at x1
      have y0 := x1.get 0 l0
      rw [add0, ← HPX.out] at y0
      clear e3 e4 e5
      go_simp
      exact hK _ _ (fun _ => rfl) (Below.refl _ _)
  show Chain _ _ _ _ _ _ _ _ _ _ _ 13 19 _
  apply Chain.detg n3_15 false
  · intro a w1 hS hb hd K hK
    obtain ⟨c0, c1, c2, c3, c4, c5, c6, c7, x0, x1, x2, x3⟩ := hS
    clear hb
    simp only [depsOK, updR, Region.binds, reduceIte, Nat.reduceEqDiff, forall_const, and_true, eqV, eqG, List.getElem?_cons_zero, List.getElem?_cons_succ, exists_eq_right, reduceCtorEq, Nat.succ_ne_self] at hd
    rcases Bool.eq_false_or_eq_true n3_15 with e | e
    · simp only [e, reduceCtorEq, false_imp_iff, and_true] at hd
      go_simp
      exact hK _ _ (fun h => Bool.noConfusion (e.symm.trans h)) (Below.refl _ _)
    · simp only [e, forall_const, exists_eq_right] at hd
      have e3 := e
      rw [Hn3_15.out] at e3
      have e4 := (Bool.or_eq_false_iff.1 e3).1
      rw [Hn3_9.out] at e4
      have e5 := (Bool.or_eq_false_iff.1 e4).1
      rw [Hb1.out] at e5
      have l0 : 0 < pa.length := by
        have := (bne_eq_false_iff_eq.1 e5)
        omega
      have ea := EA0.out l0
      rw [ea] at x1
      have y0 := x1.get 0 l0
      rw [add0, ← HPX.out] at y0
      clear e3 e4 e5
      go_simp
      exact hK _ _ (fun _ => rfl) (Below.refl _ _)
  show Chain _ _ _ _ _ _ _ _ _ _ _ 12 20 _
  apply Chain.detg n3_15 false
  · intro a w1 hS hb hd K hK
    obtain ⟨c0, c1, c2, c3, c4, c5, c6, c7, x0, x1, x2, x3⟩ := hS
    clear hb
    simp only [depsOK, updR, Region.binds, reduceIte, Nat.reduceEqDiff, forall_const, and_true, eqV, eqG, List.getElem?_cons_zero, List.getElem?_cons_succ, exists_eq_right, reduceCtorEq, Nat.succ_ne_self] at hd
    rcases Bool.eq_false_or_eq_true n3_15 with e | e
    · simp only [e, reduceCtorEq, false_imp_iff, and_true] at hd
      go_simp
      exact hK _ _ (fun h => Bool.noConfusion (e.symm.trans h)) (Below.refl _ _)
    · simp only [e, forall_const, exists_eq_right] at hd
      have e3 := e
      rw [Hn3_15.out] at e3
      have e4 := (Bool.or_eq_false_iff.1 e3).1
      rw [Hn3_9.out] at e4
      have e5 := (Bool.or_eq_false_iff.1 e4).1
      rw [Hb1.out] at e5
      have l0 : 0 < pa.length := by
        have := (bne_eq_false_iff_eq.1 e5)
        omega
      have ea := EA0.out l0
      rw [ea] at x1
      have y0 := x1.get 0 l0
      rw [add0, ← HPX.out] at y0
      clear e3 e4 e5
      go_simp
      exact hK _ _ (fun _ => rfl) (Below.refl _ _)
  show Chain _ _ _ _ _ _ _ _ _ _ _ 11 21 _
  apply Chain.detg n3_15 false
  · intro a w1 hS hb hd K hK
    obtain ⟨c0, c1, c2, c3, c4, c5, c6, c7, x0, x1, x2, x3⟩ := hS
    clear hb
    simp only [depsOK, updR, Region.binds, reduceIte, Nat.reduceEqDiff, forall_const, and_true, eqV, eqG, List.getElem?_cons_zero, List.getElem?_cons_succ, exists_eq_right, reduceCtorEq, Nat.succ_ne_self] at hd
    rcases Bool.eq_false_or_eq_true n3_15 with e | e
    · simp only [e, reduceCtorEq, false_imp_iff, and_true] at hd
      go_simp
      exact hK _ _ (fun h => Bool.noConfusion (e.symm.trans h)) (Below.refl _ _)
    · simp only [e, forall_const, exists_eq_right] at hd
      have e3 := e
      rw [Hn3_15.out] at e3
      have e4 := (Bool.or_eq_false_iff.1 e3).1
      rw [Hn3_9.out] at e4
      have e5 := (Bool.or_eq_false_iff.1 e4).1
      rw [Hb1.out] at e5
      have l0 : 0 < pa.length := by
        have := (bne_eq_false_iff_eq.1 e5)
        omega
      have ea := EA0.out l0
      rw [ea] at x1
      have y0 := x1.get 0 l0
      rw [add0, ← HPX.out] at y0
      clear e3 e4 e5
      go_simp
      exact hK _ _ (fun _ => rfl) (Below.refl _ _)
  show Chain _ _ _ _ _ _ _ _ _ _ _ 10 22 _
  refine Chain.rel (eqG n3_15 false (.bool b4)) (stable_eqG _ _ _) ?_ ?_
  · intro a w1 hS hb hd K hK
    obtain ⟨c0, c1, c2, c3, c4, c5, c6, c7, x0, x1, x2, x3⟩ := hS
    clear hb
    simp only [depsOK, updR, Region.binds, reduceIte, Nat.reduceEqDiff, forall_const, and_true, eqV, eqG, List.getElem?_cons_zero, List.getElem?_cons_succ, exists_eq_right, reduceCtorEq, Nat.succ_ne_self] at hd
    rcases Bool.eq_false_or_eq_true n3_15 with e | e
    · simp only [e, reduceCtorEq, false_imp_iff, and_true] at hd
      go_simp
      exact hK _ _ (fun h => Bool.noConfusion (e.symm.trans h)) (Below.refl _ _)
    · simp only [e, forall_const, exists_eq_right] at hd
      have e3 := e
      rw [Hn3_15.out] at e3
      have e4 := (Bool.or_eq_false_iff.1 e3).1
      rw [Hn3_9.out] at e4
      have e5 := (Bool.or_eq_false_iff.1 e4).1
      rw [Hb1.out] at e5
      have l0 : 0 < pa.length := by
        have := (bne_eq_false_iff_eq.1 e5)
        omega
      have ea := EA0.out l0
      rw [ea] at x1
      have y0 := x1.get 0 l0
      rw [add0, ← HPX.out] at y0
      clear e3 e4 e5
      go_simp
      refine (has_any p q g px HG.out _).mono ?_
      rintro e9 w9 ⟨rfl, hb9⟩
      exact hK _ _ (fun _ => congrArg Value.bool Hb4.out.symm) hb9
  show Chain _ _ _ _ _ _ _ _ _ _ _ 9 23 _
  refine Chain.rel (eqG n3_15 false (.bool n3_23)) (stable_eqG _ _ _) ?_ ?_
  · intro a w1 hS hb hd K hK
    obtain ⟨c0, c1, c2, c3, c4, c5, c6, c7, x0, x1, x2, x3⟩ := hS
    clear hb
    simp only [depsOK, updR, Region.binds, reduceIte, Nat.reduceEqDiff, forall_const, and_true, eqV, eqG, List.getElem?_cons_zero, List.getElem?_cons_succ, exists_eq_right, reduceCtorEq, Nat.succ_ne_self] at hd
    rcases Bool.eq_false_or_eq_true n3_15 with e | e
    · simp only [e, reduceCtorEq, false_imp_iff, and_true] at hd
      go_simp
      exact hK _ _ (fun h => Bool.noConfusion (e.symm.trans h)) (Below.refl _ _)
    · simp only [e, forall_const, exists_eq_right] at hd
      have e3 := e
      rw [Hn3_15.out] at e3
      have e4 := (Bool.or_eq_false_iff.1 e3).1
      rw [Hn3_9.out] at e4
      have e5 := (Bool.or_eq_false_iff.1 e4).1
      rw [Hb1.out] at e5
      have l0 : 0 < pa.length := by
        have := (bne_eq_false_iff_eq.1 e5)
        omega
      have ea := EA0.out l0
      rw [ea] at x1
      have y0 := x1.get 0 l0
      rw [add0, ← HPX.out] at y0
      clear e3 e4 e5
      rcases Bool.eq_false_or_eq_true b4 with e | e
      · simp only [e] at hd
        go_simp
        exact hK _ _ (fun _ => by show Value.bool _ = Value.bool _; rw [Hn3_23.out, e]; try rfl) (Below.refl _ _)
      · simp only [e] at hd
        go_simp
        exact hK _ _ (fun _ => by show Value.bool _ = Value.bool _; rw [Hn3_23.out, e]; try rfl) (Below.refl _ _)
  show Chain _ _ _ _ _ _ _ _ _ _ _ 8 24 _
  refine Chain.rel (eqV (.bool n3_24)) (stable_eq _) ?_ ?_
  · intro a w1 hS hb hd K hK
    obtain ⟨c0, c1, c2, c3, c4, c5, c6, c7, x0, x1, x2, x3⟩ := hS
    clear hb
    simp only [depsOK, updR, Region.binds, reduceIte, Nat.reduceEqDiff, forall_const, and_true, eqV, eqG, List.getElem?_cons_zero, List.getElem?_cons_succ, exists_eq_right, reduceCtorEq, Nat.succ_ne_self] at hd
    rcases Bool.eq_false_or_eq_true n3_15 with e | e
    · simp only [e, reduceCtorEq, false_imp_iff, and_true] at hd
      go_simp
      exact hK _ _ (by show Value.bool _ = Value.bool _; rw [Hn3_24.out, e]; try rfl) (Below.refl _ _)
    · simp only [e, forall_const, exists_eq_right] at hd
      go_simp
      exact hK _ _ (by show Value.bool _ = Value.bool _; rw [Hn3_24.out, e]; try rfl) (Below.refl _ _)
  show Chain _ _ _ _ _ _ _ _ _ _ _ 7 25 _
  apply Chain.det
  · intro a w1 hS hb hd K hK
    obtain ⟨c0, c1, c2, c3, c4, c5, c6, c7, x0, x1, x2, x3⟩ := hS
    clear hb
    simp only [depsOK, updR, Region.binds, reduceIte, Nat.reduceEqDiff, forall_const, and_true, eqV, eqG, List.getElem?_cons_zero, List.getElem?_cons_succ, exists_eq_right, reduceCtorEq, Nat.succ_ne_self] at hd
    go_simp
    exact hK _ _ rfl (Below.refl _ _)
  show Chain _ _ _ _ _ _ _ _ _ _ _ 6 26 _
  apply Chain.detg n3_24 false
  · intro a w1 hS hb hd K hK
    obtain ⟨c0, c1, c2, c3, c4, c5, c6, c7, x0, x1, x2, x3⟩ := hS
    have b4 := hb 4 _ rfl (by decide)
    clear hb
    simp only [depsOK, updR, Region.binds, reduceIte, Nat.reduceEqDiff, forall_const, and_true, eqV, List.getElem?_cons_zero, List.getElem?_cons_succ, exists_eq_right, reduceCtorEq, Nat.succ_ne_self] at hd
    rcases Bool.eq_false_or_eq_true n3_24 with e | e
    · simp only [e] at hd
      go_simp
      exact hK _ _ (fun h => Bool.noConfusion (e.symm.trans h)) (Below.refl _ _)
    · simp only [e] at hd
      go_simp
      exact hK _ _ (fun _ => rfl) (Below.refl _ _)
  show Chain _ _ _ _ _ _ _ _ _ _ _ 5 27 _
  apply Chain.detg n3_24 false
  · intro a w1 hS hb hd K hK
    obtain ⟨c0, c1, c2, c3, c4, c5, c6, c7, x0, x1, x2, x3⟩ := hS
    have b7 := hb 7 _ rfl (by decide)
    clear hb
    simp only [depsOK, updR, Region.binds, reduceIte, Nat.reduceEqDiff, forall_const, and_true, eqV, List.getElem?_cons_zero, List.getElem?_cons_succ, exists_eq_right, reduceCtorEq, Nat.succ_ne_self] at hd
    rcases Bool.eq_false_or_eq_true n3_24 with e | e
    · simp only [e] at hd
      go_simp
      exact hK _ _ (fun h => Bool.noConfusion (e.symm.trans h)) (Below.refl _ _)
    · simp only [e] at hd
      go_simp
      exact hK _ _ (fun _ => rfl) (Below.refl _ _)
  show Chain _ _ _ _ _ _ _ _ _ _ _ 4 28 _
  apply Chain.detg n3_24 false
  · intro a w1 hS hb hd K hK
    obtain ⟨c0, c1, c2, c3, c4, c5, c6, c7, x0, x1, x2, x3⟩ := hS
    clear hb
    simp only [depsOK, updR, Region.binds, reduceIte, Nat.reduceEqDiff, forall_const, and_true, eqV, eqG, List.getElem?_cons_zero, List.getElem?_cons_succ, exists_eq_right, reduceCtorEq, Nat.succ_ne_self] at hd
    rcases Bool.eq_false_or_eq_true n3_24 with e | e
    · simp only [e, reduceCtorEq, false_imp_iff, and_true] at hd
      go_simp
      exact hK _ _ (fun h => Bool.noConfusion (e.symm.trans h)) (Below.refl _ _)
    · simp only [e, forall_const, exists_eq_right] at hd
      go_simp
      exact hK _ _ (fun _ => rfl) (Below.refl _ _)
  show Chain _ _ _ _ _ _ _ _ _ _ _ 3 29 _
  refine Chain.rel (eqG n3_24 false (.bool b5)) (stable_eqG _ _ _) ?_ ?_
  · intro a w1 hS hb hd K hK
    obtain ⟨c0, c1, c2, c3, c4, c5, c6, c7, x0, x1, x2, x3⟩ := hS
    clear hb
    simp only [depsOK, updR, Region.binds, reduceIte, Nat.reduceEqDiff, forall_const, and_true, eqV, eqG, List.getElem?_cons_zero, List.getElem?_cons_succ, exists_eq_right, reduceCtorEq, Nat.succ_ne_self] at hd
    rcases Bool.eq_false_or_eq_true n3_24 with e | e
    · simp only [e, reduceCtorEq, false_imp_iff, and_true] at hd
      go_simp
      exact hK _ _ (fun h => Bool.noConfusion (e.symm.trans h)) (Below.refl _ _)
    · simp only [e, forall_const, exists_eq_right] at hd
      go_simp
      refine (areExps_any p q g A_pr c_pr pr _ (by omega) x3 hl_pr).mono ?_
      rintro e9 w9 ⟨rfl, hb9⟩
      exact hK _ _ (fun _ => congrArg Value.bool Hb5.out.symm) hb9
  show Chain _ _ _ _ _ _ _ _ _ _ _ 2 30 _
  refine Chain.rel (eqG n3_24 false (.bool n3_30)) (stable_eqG _ _ _) ?_ ?_
  · intro a w1 hS hb hd K hK
    obtain ⟨c0, c1, c2, c3, c4, c5, c6, c7, x0, x1, x2, x3⟩ := hS
    clear hb
    simp only [depsOK, updR, Region.binds, reduceIte, Nat.reduceEqDiff, forall_const, and_true, eqV, eqG, List.getElem?_cons_zero, List.getElem?_cons_succ, exists_eq_right, reduceCtorEq, Nat.succ_ne_self] at hd
    rcases Bool.eq_false_or_eq_true n3_24 with e | e
    · simp only [e, reduceCtorEq, false_imp_iff, and_true] at hd
      go_simp
      exact hK _ _ (fun h => Bool.noConfusion (e.symm.trans h)) (Below.refl _ _)
    · simp only [e, forall_const, exists_eq_right] at hd
      rcases Bool.eq_false_or_eq_true b5 with e | e
      · simp only [e] at hd
        go_simp
        exact hK _ _ (fun _ => by show Value.bool _ = Value.bool _; rw [Hn3_30.out, e]; try rfl) (Below.refl _ _)
      · simp only [e] at hd
        go_simp
        exact hK _ _ (fun _ => by show Value.bool _ = Value.bool _; rw [Hn3_30.out, e]; try rfl) (Below.refl _ _)
  show Chain _ _ _ _ _ _ _ _ _ _ _ 1 31 _
  refine Chain.rel (eqV (.bool n3_31)) (stable_eq _) ?_ ?_
  · intro a w1 hS hb hd K hK
    obtain ⟨c0, c1, c2, c3, c4, c5, c6, c7, x0, x1, x2, x3⟩ := hS
    clear hb
    simp only [depsOK, updR, Region.binds, reduceIte, Nat.reduceEqDiff, forall_const, and_true, eqV, eqG, List.getElem?_cons_zero, List.getElem?_cons_succ, exists_eq_right, reduceCtorEq, Nat.succ_ne_self] at hd
    rcases Bool.eq_false_or_eq_true n3_24 with e | e
    · simp only [e, reduceCtorEq, false_imp_iff, and_true] at hd
      go_simp
      exact hK _ _ (by show Value.bool _ = Value.bool _; rw [Hn3_31.out, e]; try rfl) (Below.refl _ _)
    · simp only [e, forall_const, exists_eq_right] at hd
      go_simp
      exact hK _ _ (by show Value.bool _ = Value.bool _; rw [Hn3_31.out, e]; try rfl) (Below.refl _ _)
  show Chain _ _ _ _ _ _ _ _ _ _ _ 0 32 _
  intro x w3 hS hB3 hR y hY hA hE
  have r31 := hR 31 _ rfl
  simp only [updR, reduceIte, Nat.reduceEqDiff, eqV] at r31
  clear hR hY hA hE
  simp only [TailWp, fillB, Act.put, List.setIfInBounds_toArray, List.set_cons_zero, List.set_cons_succ, Nat.reduceAdd, r31]
  clear r31
  have hX3 : Below w2.heap.size w2 w3 := bnext (Below.drew (by repeat (first | exact Below.refl _ _ | refine bnew ?_ _ | refine Below.drew ?_ | refine Below.drewN ?_ _ | (refine below_set _ ?_ ?_; rotate_left; focus (first | omega | (simp; done) | (simp <;> omega)))))) hB3
  clear hB3
  have hT3 : Below w.heap.size w w3 := bnext hT2 hX3
  clear c0 c1 c2 c3 c4 c5 c6 c7 x0 x1 x2 x3
  obtain ⟨c0, c1, c2, c3, c4, c5, c6, c7, x0, x1, x2, x3⟩ := hS
  have hn : n3_31 = !(((pa.length : Int) == 1) && ((pc.length : Int) == 1) && ((pr.length : Int) == 2) && elemB p q (pa.getD 0 0) && expsB q pr) := by
    rw [Hn3_31.out, Hn3_30.out, Hn3_24.out, Hn3_23.out, Hn3_15.out, Hn3_9.out, Hb1.out, Hb2.out, Hb3.out, Hb4.out, Hb5.out, HPX.out]
    simp only [bne]
    cases ((pa.length : Int) == 1) <;> cases ((pc.length : Int) == 1) <;> cases ((pr.length : Int) == 2) <;> cases elemB p q (pa.getD 0 0) <;> cases expsB q pr <;> rfl
  have HN := Lib.hid hn
  clear hn
  rcases Bool.eq_false_or_eq_true (!n3_31) with h3 | h3
  rotate_left
  · have h3' : n3_31 = true := by simpa using h3
    have hO := Lib.hid (show opV p q g bh c pa pc pr = false by
      have := HN.out
      rw [h3'] at this
      have h5 := of_true_not this
      unfold opV
      rw [h5]; rfl)
    clear h3
    subst h3'
    go_wp2
    go_ret2
    exact ⟨ret_bb (by rw [hR.out, hO.out]) (by rw [hR.out]), hT3⟩
  have h3p : n3_31 = false := by simpa using h3
  have h4 := HN.out
  rw [h3p] at h4
  have h5 := of_false_not h4
  simp only [Bool.and_eq_true, beq_iff_eq] at h5
  obtain ⟨⟨⟨⟨o1, o2⟩, o3⟩, o4⟩, o5⟩ := h5
  have l1 : 0 < pa.length := by omega
  have l2 : 0 < pc.length := by omega
  have l3 : 1 < pr.length := by omega
  have l4 : 0 < pr.length := by omega
  obtain ⟨pe, hpe⟩ : ∃ v : Int, v = pc.getD 0 0 := ⟨_, rfl⟩
  obtain ⟨pz, hpz⟩ : ∃ v : Int, v = pr.getD 0 0 := ⟨_, rfl⟩
  obtain ⟨pt, hpt⟩ : ∃ v : Int, v = pr.getD 1 0 := ⟨_, rfl⟩
  have hpx := HPX.out
  have m0 : 0 ≤ px ∧ px < p := hpx ▸ elem_bd (elemB_t o4)
  have m2 : 0 ≤ pz ∧ pz < q := hpz ▸ expsB_mem o5 (getD_mem (k := 0) l4)
  have m3 : 0 ≤ pt ∧ pt < q := hpt ▸ expsB_mem o5 (getD_mem l3)
  obtain ⟨ee, hee⟩ : ∃ v : Int, v = chO p q g bh c px := ⟨_, rfl⟩
  have be : 0 ≤ ee ∧ ee < q := hee ▸ M.chal_lt g1 _ _
  have HO := Lib.hid (show opV p q g bh c pa pc pr = ((pe == ee) && (cmt p q g bh pz pt == px * M.gpw p q c ee % p)) by
    unfold opV
    rw [o1, o2, o3, o5, o4, ← hpx, ← hpe, ← hpz, ← hpt, ← hee]
    simp only [beq_self_eq_true, Bool.true_and])
  have HE := Lib.hid hee
  obtain rfl := EA0.out l1
  obtain rfl := EA1.out l2
  obtain rfl := EA2.out l4
  have z4 : (1 : Int) < (pr.length : Int) := by omega
  clear o1 o2 o3 o4 o5 h4 hee h3
  subst h3p
  have y0 : w3.cell? ad0 = some (.int .i64 px) := by
    have := x1.get 0 (by omega)
    rwa [add0, ← hpx] at this
  have y1 : w3.cell? ad1 = some (.int .i64 pe) := by
    have := x2.get 0 (by omega)
    rwa [add0, ← hpe] at this
  have y2 : w3.cell? ad2 = some (.int .i64 pz) := by
    have := x3.get 0 (by omega)
    rwa [add0, ← hpz] at this
  have y3 : w3.cell? ⟨ad2.block, ad2.off + 1, none⟩ = some (.int .i64 pt) := by
    have := x3.get 1 (by omega)
    rwa [← hpt] at this
  clear hpx hpe hpz hpt
  go_wp2_with fail
  refine (openingChallenge_any p q g bh c px A bs.length d HG.out hbd hcd m0 _).mono ?_
  rw [← HE.out]
  rintro e4 w4 ⟨rfl, hb4⟩
  have hX4 : Below w3.heap.size w3 w4 := bnext (by repeat (first | exact Below.refl _ _ | refine bnew ?_ _ | refine Below.drew ?_ | refine Below.drewN ?_ _ | (refine below_set _ ?_ ?_; rotate_left; focus (first | omega | (simp; done) | (simp <;> omega))))) hb4
  have hT4 : Below w.heap.size w w4 := bnext hT3 hX4
  replace c0 : w4.cell? ⟨w.heap.size, 0, none⟩ = some (.int .i64 p) := cell_keep hX4 c0
  replace c1 : w4.cell? ⟨w.heap.size, 1, none⟩ = some (.int .i64 q) := cell_keep hX4 c1
  replace c2 : w4.cell? ⟨w.heap.size, 2, none⟩ = some (.int .i64 g) := cell_keep hX4 c2
  replace c3 : w4.cell? ⟨w.heap.size + 1, 0, none⟩ = some (.int .i64 bh) := cell_keep hX4 c3
  replace c4 : w4.cell? ⟨w.heap.size + 1, 1, none⟩ = some (.slice A bs.length d) := cell_keep hX4 c4
  replace c5 : w4.cell? ⟨w.heap.size + 1 + 1, 0, none⟩ = some (.slice (some ad0) pa.length c_pa) := cell_keep hX4 c5
  replace c6 : w4.cell? ⟨w.heap.size + 1 + 1, 1, none⟩ = some (.slice (some ad1) pc.length c_pc) := cell_keep hX4 c6
  replace c7 : w4.cell? ⟨w.heap.size + 1 + 1, 2, none⟩ = some (.slice (some ad2) pr.length c_pr) := cell_keep hX4 c7
  replace x0 : RI w4 w4.heap.size A bs := (x0).next hX4
  replace x1 : RI w4 w4.heap.size (some ad0) pa := (x1).next hX4
  replace x2 : RI w4 w4.heap.size (some ad1) pc := (x2).next hX4
  replace x3 : RI w4 w4.heap.size (some ad2) pr := (x3).next hX4
  replace y0 : w4.cell? ad0 = some (.int .i64 px) := cell_keep hX4 y0
  replace y1 : w4.cell? ad1 = some (.int .i64 pe) := cell_keep hX4 y1
  replace y2 : w4.cell? ad2 = some (.int .i64 pz) := cell_keep hX4 y2
  replace y3 : w4.cell? ⟨ad2.block, ad2.off + 1, none⟩ = some (.int .i64 pt) := cell_keep hX4 y3
  go_wp2_with fail
  obtain ⟨d1, hd1⟩ : ∃ b : Bool, b = (pe == ee) := ⟨_, rfl⟩
  have Hd1 := Lib.hid hd1
  clear hd1
  obtain ⟨d2, hd2⟩ : ∃ b : Bool, b = (cmt p q g bh pz pt == px * M.gpw p q c ee % p) := ⟨_, rfl⟩
  have Hd2 := Lib.hid hd2
  clear hd2
  obtain ⟨n5_27, hn5_27⟩ : ∃ b : Bool, b = (d1 && d2) := ⟨_, rfl⟩
  have Hn5_27 := Lib.hid hn5_27
  clear hn5_27
  refine wp_region_chain (fun W => W.cell? ⟨w.heap.size, 0, none⟩ = some (.int .i64 p) ∧ W.cell? ⟨w.heap.size, 1, none⟩ = some (.int .i64 q) ∧ W.cell? ⟨w.heap.size, 2, none⟩ = some (.int .i64 g) ∧ W.cell? ⟨w.heap.size + 1, 0, none⟩ = some (.int .i64 bh) ∧ W.cell? ⟨w.heap.size + 1, 1, none⟩ = some (.slice A bs.length d) ∧ W.cell? ⟨w.heap.size + 1 + 1, 0, none⟩ = some (.slice (some ad0) pa.length c_pa) ∧ W.cell? ⟨w.heap.size + 1 + 1, 1, none⟩ = some (.slice (some ad1) pc.length c_pc) ∧ W.cell? ⟨w.heap.size + 1 + 1, 2, none⟩ = some (.slice (some ad2) pr.length c_pr) ∧ RI W W.heap.size A bs ∧ RI W W.heap.size (some ad0) pa ∧ RI W W.heap.size (some ad1) pc ∧ RI W W.heap.size (some ad2) pr ∧ W.cell? ad0 = some (.int .i64 px) ∧ W.cell? ad1 = some (.int .i64 pe) ∧ W.cell? ad2 = some (.int .i64 pz) ∧ W.cell? ⟨ad2.block, ad2.off + 1, none⟩ = some (.int .i64 pt))
    30 [some 67, some 68, some 69, some 70, some 71, some 72, some 73, some 74, some 75, some 76, some 77, some 78, some 79, some 80, some 81, some 82, some 83, some 84, some 85, some 86, some 87, some 88, some 89, some 90, some 91, some 92, some 93, some 94, some 8, some 9] (by kernel_rfl) (by kernel_rfl) (by kernel_rfl) (by decide) (by rfl) (by kernel_rfl) (by kernel_rfl) ?hS0 ?hSs ?hc
  case hS0 => exact ⟨cell_keep (Below.drew (by repeat (first | exact Below.refl _ _ | refine bnew ?_ _ | refine Below.drew ?_ | refine Below.drewN ?_ _ | (refine below_set _ ?_ ?_; rotate_left; focus (first | omega | (simp; done) | (simp <;> omega)))))) c0, cell_keep (Below.drew (by repeat (first | exact Below.refl _ _ | refine bnew ?_ _ | refine Below.drew ?_ | refine Below.drewN ?_ _ | (refine below_set _ ?_ ?_; rotate_left; focus (first | omega | (simp; done) | (simp <;> omega)))))) c1, cell_keep (Below.drew (by repeat (first | exact Below.refl _ _ | refine bnew ?_ _ | refine Below.drew ?_ | refine Below.drewN ?_ _ | (refine below_set _ ?_ ?_; rotate_left; focus (first | omega | (simp; done) | (simp <;> omega)))))) c2, cell_keep (Below.drew (by repeat (first | exact Below.refl _ _ | refine bnew ?_ _ | refine Below.drew ?_ | refine Below.drewN ?_ _ | (refine below_set _ ?_ ?_; rotate_left; focus (first | omega | (simp; done) | (simp <;> omega)))))) c3, cell_keep (Below.drew (by repeat (first | exact Below.refl _ _ | refine bnew ?_ _ | refine Below.drew ?_ | refine Below.drewN ?_ _ | (refine below_set _ ?_ ?_; rotate_left; focus (first | omega | (simp; done) | (simp <;> omega)))))) c4, cell_keep (Below.drew (by repeat (first | exact Below.refl _ _ | refine bnew ?_ _ | refine Below.drew ?_ | refine Below.drewN ?_ _ | (refine below_set _ ?_ ?_; rotate_left; focus (first | omega | (simp; done) | (simp <;> omega)))))) c5, cell_keep (Below.drew (by repeat (first | exact Below.refl _ _ | refine bnew ?_ _ | refine Below.drew ?_ | refine Below.drewN ?_ _ | (refine below_set _ ?_ ?_; rotate_left; focus (first | omega | (simp; done) | (simp <;> omega)))))) c6, cell_keep (Below.drew (by repeat (first | exact Below.refl _ _ | refine bnew ?_ _ | refine Below.drew ?_ | refine Below.drewN ?_ _ | (refine below_set _ ?_ ?_; rotate_left; focus (first | omega | (simp; done) | (simp <;> omega)))))) c7, (x0).next (Below.drew (by repeat (first | exact Below.refl _ _ | refine bnew ?_ _ | refine Below.drew ?_ | refine Below.drewN ?_ _ | (refine below_set _ ?_ ?_; rotate_left; focus (first | omega | (simp; done) | (simp <;> omega)))))), (x1).next (Below.drew (by repeat (first | exact Below.refl _ _ | refine bnew ?_ _ | refine Below.drew ?_ | refine Below.drewN ?_ _ | (refine below_set _ ?_ ?_; rotate_left; focus (first | omega | (simp; done) | (simp <;> omega)))))), (x2).next (Below.drew (by repeat (first | exact Below.refl _ _ | refine bnew ?_ _ | refine Below.drew ?_ | refine Below.drewN ?_ _ | (refine below_set _ ?_ ?_; rotate_left; focus (first | omega | (simp; done) | (simp <;> omega)))))), (x3).next (Below.drew (by repeat (first | exact Below.refl _ _ | refine bnew ?_ _ | refine Below.drew ?_ | refine Below.drewN ?_ _ | (refine below_set _ ?_ ?_; rotate_left; focus (first | omega | (simp; done) | (simp <;> omega)))))), cell_keep (Below.drew (by repeat (first | exact Below.refl _ _ | refine bnew ?_ _ | refine Below.drew ?_ | refine Below.drewN ?_ _ | (refine below_set _ ?_ ?_; rotate_left; focus (first | omega | (simp; done) | (simp <;> omega)))))) y0, cell_keep (Below.drew (by repeat (first | exact Below.refl _ _ | refine bnew ?_ _ | refine Below.drew ?_ | refine Below.drewN ?_ _ | (refine below_set _ ?_ ?_; rotate_left; focus (first | omega | (simp; done) | (simp <;> omega)))))) y1, cell_keep (Below.drew (by repeat (first | exact Below.refl _ _ | refine bnew ?_ _ | refine Below.drew ?_ | refine Below.drewN ?_ _ | (refine below_set _ ?_ ?_; rotate_left; focus (first | omega | (simp; done) | (simp <;> omega)))))) y2, cell_keep (Below.drew (by repeat (first | exact Below.refl _ _ | refine bnew ?_ _ | refine Below.drew ?_ | refine Below.drewN ?_ _ | (refine below_set _ ?_ ?_; rotate_left; focus (first | omega | (simp; done) | (simp <;> omega)))))) y3⟩
  case hSs => exact fun w1 w2 ⟨hc0, hc1, hc2, hc3, hc4, hc5, hc6, hc7, hx0, hx1, hx2, hx3, hy0, hy1, hy2, hy3⟩ hb => ⟨cell_keep hb hc0, cell_keep hb hc1, cell_keep hb hc2, cell_keep hb hc3, cell_keep hb hc4, cell_keep hb hc5, cell_keep hb hc6, cell_keep hb hc7, (hx0).next hb, (hx1).next hb, (hx2).next hb, (hx3).next hb, cell_keep hb hy0, cell_keep hb hy1, cell_keep hb hy2, cell_keep hb hy3⟩
  apply Chain.det
  · intro a w1 hS hb hd K hK
    obtain ⟨c0, c1, c2, c3, c4, c5, c6, c7, x0, x1, x2, x3, y0, y1, y2, y3⟩ := hS
    have b7 := hb 7 _ rfl (by decide)
    clear hb
    simp only [depsOK] at hd
    go_simp
    exact hK _ _ rfl (Below.refl _ _)
  show Chain _ _ _ _ _ _ _ _ _ _ _ 29 1 _
  apply Chain.det
  · intro a w1 hS hb hd K hK
    obtain ⟨c0, c1, c2, c3, c4, c5, c6, c7, x0, x1, x2, x3, y0, y1, y2, y3⟩ := hS
    clear hb
    simp only [depsOK, updR, Region.binds, reduceIte, forall_const, and_true, eqV, List.getElem?_cons_zero, exists_eq_right] at hd
    go_simp
    exact hK _ _ rfl (Below.refl _ _)
  show Chain _ _ _ _ _ _ _ _ _ _ _ 28 2 _
  apply Chain.det
  · intro a w1 hS hb hd K hK
    obtain ⟨c0, c1, c2, c3, c4, c5, c6, c7, x0, x1, x2, x3, y0, y1, y2, y3⟩ := hS
    clear hb
    simp only [depsOK, updR, Region.binds, reduceIte, forall_const, and_true, eqV, List.getElem?_cons_zero, List.getElem?_cons_succ, exists_eq_right, Nat.succ_ne_self] at hd
    go_simp
    exact hK _ _ rfl (Below.refl _ _)
  show Chain _ _ _ _ _ _ _ _ _ _ _ 27 3 _
  apply Chain.det
  · intro a w1 hS hb hd K hK
    obtain ⟨c0, c1, c2, c3, c4, c5, c6, c7, x0, x1, x2, x3, y0, y1, y2, y3⟩ := hS
    clear hb
    simp only [depsOK, updR, Region.binds, reduceIte, forall_const, and_true, eqV, List.getElem?_cons_zero, List.getElem?_cons_succ, exists_eq_right, reduceCtorEq, Nat.succ_ne_self] at hd
    go_simp
    exact hK _ _ rfl (Below.refl _ _)
  show Chain _ _ _ _ _ _ _ _ _ _ _ 26 4 _
  apply Chain.det
  · intro a w1 hS hb hd K hK
    obtain ⟨c0, c1, c2, c3, c4, c5, c6, c7, x0, x1, x2, x3, y0, y1, y2, y3⟩ := hS
    have b11 := hb 11 _ rfl (by decide)
    clear hb
    simp only [depsOK] at hd
    go_simp
    exact hK _ _ rfl (Below.refl _ _)
  show Chain _ _ _ _ _ _ _ _ _ _ _ 25 5 _
  refine Chain.rel (eqV (.bool d1)) (stable_eq _) ?_ ?_
  · intro a w1 hS hb hd K hK
    obtain ⟨c0, c1, c2, c3, c4, c5, c6, c7, x0, x1, x2, x3, y0, y1, y2, y3⟩ := hS
    clear hb
    simp only [depsOK, updR, Region.binds, reduceIte, Nat.reduceEqDiff, forall_const, and_true, eqV, List.getElem?_cons_zero, List.getElem?_cons_succ, exists_eq_right, reduceCtorEq, Nat.succ_ne_self] at hd
    go_simp
    exact hK _ _ (congrArg Value.bool Hd1.out.symm) (Below.refl _ _)
  show Chain _ _ _ _ _ _ _ _ _ _ _ 24 6 _
  apply Chain.det
  · intro a w1 hS hb hd K hK
    obtain ⟨c0, c1, c2, c3, c4, c5, c6, c7, x0, x1, x2, x3, y0, y1, y2, y3⟩ := hS
    clear hb
    simp only [depsOK, updR, Region.binds, reduceIte, Nat.reduceEqDiff, forall_const, and_true, eqV, List.getElem?_cons_zero, List.getElem?_cons_succ, exists_eq_right, reduceCtorEq, Nat.succ_ne_self] at hd
    go_simp
    exact hK _ _ rfl (Below.refl _ _)
  show Chain _ _ _ _ _ _ _ _ _ _ _ 23 7 _
  apply Chain.detg d1 true
  · intro a w1 hS hb hd K hK
    obtain ⟨c0, c1, c2, c3, c4, c5, c6, c7, x0, x1, x2, x3, y0, y1, y2, y3⟩ := hS
    have b4 := hb 4 _ rfl (by decide)
    clear hb
    simp only [depsOK, updR, Region.binds, reduceIte, Nat.reduceEqDiff, forall_const, and_true, eqV, List.getElem?_cons_zero, List.getElem?_cons_succ, exists_eq_right, reduceCtorEq, Nat.succ_ne_self] at hd
    rcases Bool.eq_false_or_eq_true d1 with e | e
    · simp only [e] at hd
      go_simp
      exact hK _ _ (fun _ => rfl) (Below.refl _ _)
    · simp only [e] at hd
      go_simp
      exact hK _ _ (fun h => Bool.noConfusion (e.symm.trans h)) (Below.refl _ _)
  show Chain _ _ _ _ _ _ _ _ _ _ _ 22 8 _
  apply Chain.detg d1 true
  · intro a w1 hS hb hd K hK
    obtain ⟨c0, c1, c2, c3, c4, c5, c6, c7, x0, x1, x2, x3, y0, y1, y2, y3⟩ := hS
    have b5 := hb 5 _ rfl (by decide)
    clear hb
    simp only [depsOK, updR, Region.binds, reduceIte, Nat.reduceEqDiff, forall_const, and_true, eqV, List.getElem?_cons_zero, List.getElem?_cons_succ, exists_eq_right, reduceCtorEq, Nat.succ_ne_self] at hd
    rcases Bool.eq_false_or_eq_true d1 with e | e
    · simp only [e] at hd
      go_simp
      exact hK _ _ (fun _ => rfl) (Below.refl _ _)
    · simp only [e] at hd
      go_simp
      exact hK _ _ (fun h => Bool.noConfusion (e.symm.trans h)) (Below.refl _ _)
  show Chain _ _ _ _ _ _ _ _ _ _ _ 21 9 _
  apply Chain.detg d1 true
  · intro a w1 hS hb hd K hK
    obtain ⟨c0, c1, c2, c3, c4, c5, c6, c7, x0, x1, x2, x3, y0, y1, y2, y3⟩ := hS
    have b7 := hb 7 _ rfl (by decide)
    clear hb
    simp only [depsOK, updR, Region.binds, reduceIte, Nat.reduceEqDiff, forall_const, and_true, eqV, List.getElem?_cons_zero, List.getElem?_cons_succ, exists_eq_right, reduceCtorEq, Nat.succ_ne_self] at hd
    rcases Bool.eq_false_or_eq_true d1 with e | e
    · simp only [e] at hd
      go_simp
      exact hK _ _ (fun _ => rfl) (Below.refl _ _)
    · simp only [e] at hd
      go_simp
      exact hK _ _ (fun h => Bool.noConfusion (e.symm.trans h)) (Below.refl _ _)
  show Chain _ _ _ _ _ _ _ _ _ _ _ 20 10 _
  apply Chain.detg d1 true
  · intro a w1 hS hb hd K hK
    obtain ⟨c0, c1, c2, c3, c4, c5, c6, c7, x0, x1, x2, x3, y0, y1, y2, y3⟩ := hS
    clear hb
    simp only [depsOK, updR, Region.binds, reduceIte, Nat.reduceEqDiff, forall_const, and_true, eqV, eqG, List.getElem?_cons_zero, List.getElem?_cons_succ, exists_eq_right, reduceCtorEq, Nat.succ_ne_self] at hd
    rcases Bool.eq_false_or_eq_true d1 with e | e
    · simp only [e, forall_const, exists_eq_right] at hd
      go_simp
      exact hK _ _ (fun _ => rfl) (Below.refl _ _)
    · simp only [e, reduceCtorEq, false_imp_iff, and_true] at hd
      go_simp
      exact hK _ _ (fun h => Bool.noConfusion (e.symm.trans h)) (Below.refl _ _)
  show Chain _ _ _ _ _ _ _ _ _ _ _ 19 11 _
  apply Chain.detg d1 true
  · intro a w1 hS hb hd K hK
    obtain ⟨c0, c1, c2, c3, c4, c5, c6, c7, x0, x1, x2, x3, y0, y1, y2, y3⟩ := hS
    clear hb
    simp only [depsOK, updR, Region.binds, reduceIte, Nat.reduceEqDiff, forall_const, and_true, eqV, eqG, List.getElem?_cons_zero, List.getElem?_cons_succ, exists_eq_right, reduceCtorEq, Nat.succ_ne_self] at hd
    rcases Bool.eq_false_or_eq_true d1 with e | e
    · simp only [e, forall_const, exists_eq_right] at hd
      go_simp
      exact hK _ _ (fun _ => rfl) (Below.refl _ _)
    · simp only [e, reduceCtorEq, false_imp_iff, and_true] at hd
      go_simp
      exact hK _ _ (fun h => Bool.noConfusion (e.symm.trans h)) (Below.refl _ _)
  show Chain _ _ _ _ _ _ _ _ _ _ _ 18 12 _
  apply Chain.detg d1 true
  · intro a w1 hS hb hd K hK
    obtain ⟨c0, c1, c2, c3, c4, c5, c6, c7, x0, x1, x2, x3, y0, y1, y2, y3⟩ := hS
    clear hb
    simp only [depsOK, updR, Region.binds, reduceIte, Nat.reduceEqDiff, forall_const, and_true, eqV, eqG, List.getElem?_cons_zero, List.getElem?_cons_succ, exists_eq_right, reduceCtorEq, Nat.succ_ne_self] at hd
    rcases Bool.eq_false_or_eq_true d1 with e | e
    · simp only [e, forall_const, exists_eq_right] at hd
      go_simp
      exact hK _ _ (fun _ => rfl) (Below.refl _ _)
    · simp only [e, reduceCtorEq, false_imp_iff, and_true] at hd
      go_simp
      exact hK _ _ (fun h => Bool.noConfusion (e.symm.trans h)) (Below.refl _ _)
  show Chain _ _ _ _ _ _ _ _ _ _ _ 17 13 _
  apply Chain.detg d1 true
  · intro a w1 hS hb hd K hK
    obtain ⟨c0, c1, c2, c3, c4, c5, c6, c7, x0, x1, x2, x3, y0, y1, y2, y3⟩ := hS
    have b7 := hb 7 _ rfl (by decide)
    clear hb
    simp only [depsOK, updR, Region.binds, reduceIte, Nat.reduceEqDiff, forall_const, and_true, eqV, List.getElem?_cons_zero, List.getElem?_cons_succ, exists_eq_right, reduceCtorEq, Nat.succ_ne_self] at hd
    rcases Bool.eq_false_or_eq_true d1 with e | e
    · simp only [e] at hd
      go_simp
      exact hK _ _ (fun _ => rfl) (Below.refl _ _)
    · simp only [e] at hd
      go_simp
      exact hK _ _ (fun h => Bool.noConfusion (e.symm.trans h)) (Below.refl _ _)
  show Chain _ _ _ _ _ _ _ _ _ _ _ 16 14 _
  apply Chain.detg d1 true
  · intro a w1 hS hb hd K hK
    obtain ⟨c0, c1, c2, c3, c4, c5, c6, c7, x0, x1, x2, x3, y0, y1, y2, y3⟩ := hS
    clear hb
    simp only [depsOK, updR, Region.binds, reduceIte, Nat.reduceEqDiff, forall_const, and_true, eqV, eqG, List.getElem?_cons_zero, List.getElem?_cons_succ, exists_eq_right, reduceCtorEq, Nat.succ_ne_self] at hd
    rcases Bool.eq_false_or_eq_true d1 with e | e
    · simp only [e, forall_const, exists_eq_right] at hd
      go_simp
      exact hK _ _ (fun _ => rfl) (Below.refl _ _)
    · simp only [e, reduceCtorEq, false_imp_iff, and_true] at hd
      go_simp
      exact hK _ _ (fun h => Bool.noConfusion (e.symm.trans h)) (Below.refl _ _)
  show Chain _ _ _ _ _ _ _ _ _ _ _ 15 15 _
  apply Chain.detg d1 true
  · intro a w1 hS hb hd K hK
    obtain ⟨c0, c1, c2, c3, c4, c5, c6, c7, x0, x1, x2, x3, y0, y1, y2, y3⟩ := hS
    clear hb
    simp only [depsOK, updR, Region.binds, reduceIte, Nat.reduceEqDiff, forall_const, and_true, eqV, eqG, List.getElem?_cons_zero, List.getElem?_cons_succ, exists_eq_right, reduceCtorEq, Nat.succ_ne_self] at hd
    rcases Bool.eq_false_or_eq_true d1 with e | e
    · simp only [e, forall_const, exists_eq_right] at hd
      go_simp
      exact hK _ _ (fun _ => rfl) (Below.refl _ _)
    · simp only [e, reduceCtorEq, false_imp_iff, and_true] at hd
      go_simp
      exact hK _ _ (fun h => Bool.noConfusion (e.symm.trans h)) (Below.refl _ _)
  show Chain _ _ _ _ _ _ _ _ _ _ _ 14 16 _
  apply Chain.detg d1 true
  · intro a w1 hS hb hd K hK
    obtain ⟨c0, c1, c2, c3, c4, c5, c6, c7, x0, x1, x2, x3, y0, y1, y2, y3⟩ := hS
    clear hb
    simp only [depsOK, updR, Region.binds, reduceIte, Nat.reduceEqDiff, forall_const, and_true, eqV, eqG, List.getElem?_cons_zero, List.getElem?_cons_succ, exists_eq_right, reduceCtorEq, Nat.succ_ne_self] at hd
    rcases Bool.eq_false_or_eq_true d1 with e | e
    · simp only [e, forall_const, exists_eq_right] at hd
      go_simp
      exact hK _ _ (fun _ => rfl) (Below.refl _ _)
    · simp only [e, reduceCtorEq, false_imp_iff, and_true] at hd
      go_simp
      exact hK _ _ (fun h => Bool.noConfusion (e.symm.trans h)) (Below.refl _ _)
  show Chain _ _ _ _ _ _ _ _ _ _ _ 13 17 _
  apply Chain.detg d1 true
  · intro a w1 hS hb hd K hK
    obtain ⟨c0, c1, c2, c3, c4, c5, c6, c7, x0, x1, x2, x3, y0, y1, y2, y3⟩ := hS
    clear hb
    simp only [depsOK, updR, Region.binds, reduceIte, Nat.reduceEqDiff, forall_const, and_true, eqV, eqG, List.getElem?_cons_zero, List.getElem?_cons_succ, exists_eq_right, reduceCtorEq, Nat.succ_ne_self] at hd
    rcases Bool.eq_false_or_eq_true d1 with e | e
    · simp only [e, forall_const, exists_eq_right] at hd
      go_simp
      refine (commit_any p q g bh pz pt A bs.length d HG.out hbd m2 m3 _).mono ?_
      rintro e9 w9 ⟨rfl, hb9⟩
      exact hK _ _ (fun _ => rfl) hb9
    · simp only [e, reduceCtorEq, false_imp_iff, and_true] at hd
      go_simp
      exact hK _ _ (fun h => Bool.noConfusion (e.symm.trans h)) (Below.refl _ _)
  show Chain _ _ _ _ _ _ _ _ _ _ _ 12 18 _
  apply Chain.detg d1 true
  · intro a w1 hS hb hd K hK
    obtain ⟨c0, c1, c2, c3, c4, c5, c6, c7, x0, x1, x2, x3, y0, y1, y2, y3⟩ := hS
    have b4 := hb 4 _ rfl (by decide)
    clear hb
    simp only [depsOK, updR, Region.binds, reduceIte, Nat.reduceEqDiff, forall_const, and_true, eqV, List.getElem?_cons_zero, List.getElem?_cons_succ, exists_eq_right, reduceCtorEq, Nat.succ_ne_self] at hd
    rcases Bool.eq_false_or_eq_true d1 with e | e
    · simp only [e] at hd
      go_simp
      exact hK _ _ (fun _ => rfl) (Below.refl _ _)
    · simp only [e] at hd
      go_simp
      exact hK _ _ (fun h => Bool.noConfusion (e.symm.trans h)) (Below.refl _ _)
  show Chain _ _ _ _ _ _ _ _ _ _ _ 11 19 _
  apply Chain.detg d1 true
  · intro a w1 hS hb hd K hK
    obtain ⟨c0, c1, c2, c3, c4, c5, c6, c7, x0, x1, x2, x3, y0, y1, y2, y3⟩ := hS
    have b10 := hb 10 _ rfl (by decide)
    clear hb
    simp only [depsOK, updR, Region.binds, reduceIte, Nat.reduceEqDiff, forall_const, and_true, eqV, List.getElem?_cons_zero, List.getElem?_cons_succ, exists_eq_right, reduceCtorEq, Nat.succ_ne_self] at hd
    rcases Bool.eq_false_or_eq_true d1 with e | e
    · simp only [e] at hd
      go_simp
      exact hK _ _ (fun _ => rfl) (Below.refl _ _)
    · simp only [e] at hd
      go_simp
      exact hK _ _ (fun h => Bool.noConfusion (e.symm.trans h)) (Below.refl _ _)
  show Chain _ _ _ _ _ _ _ _ _ _ _ 10 20 _
  apply Chain.detg d1 true
  · intro a w1 hS hb hd K hK
    obtain ⟨c0, c1, c2, c3, c4, c5, c6, c7, x0, x1, x2, x3, y0, y1, y2, y3⟩ := hS
    have b4 := hb 4 _ rfl (by decide)
    clear hb
    simp only [depsOK, updR, Region.binds, reduceIte, Nat.reduceEqDiff, forall_const, and_true, eqV, List.getElem?_cons_zero, List.getElem?_cons_succ, exists_eq_right, reduceCtorEq, Nat.succ_ne_self] at hd
    rcases Bool.eq_false_or_eq_true d1 with e | e
    · simp only [e] at hd
      go_simp
      exact hK _ _ (fun _ => rfl) (Below.refl _ _)
    · simp only [e] at hd
      go_simp
      exact hK _ _ (fun h => Bool.noConfusion (e.symm.trans h)) (Below.refl _ _)
  show Chain _ _ _ _ _ _ _ _ _ _ _ 9 21 _
  apply Chain.detg d1 true
  · intro a w1 hS hb hd K hK
    obtain ⟨c0, c1, c2, c3, c4, c5, c6, c7, x0, x1, x2, x3, y0, y1, y2, y3⟩ := hS
    have b2 := hb 2 _ rfl (by decide)
    clear hb
    simp only [depsOK, updR, Region.binds, reduceIte, Nat.reduceEqDiff, forall_const, and_true, eqV, List.getElem?_cons_zero, List.getElem?_cons_succ, exists_eq_right, reduceCtorEq, Nat.succ_ne_self] at hd
    rcases Bool.eq_false_or_eq_true d1 with e | e
    · simp only [e] at hd
      go_simp
      exact hK _ _ (fun _ => rfl) (Below.refl _ _)
    · simp only [e] at hd
      go_simp
      exact hK _ _ (fun h => Bool.noConfusion (e.symm.trans h)) (Below.refl _ _)
  show Chain _ _ _ _ _ _ _ _ _ _ _ 8 22 _
  apply Chain.detg d1 true
  · intro a w1 hS hb hd K hK
    obtain ⟨c0, c1, c2, c3, c4, c5, c6, c7, x0, x1, x2, x3, y0, y1, y2, y3⟩ := hS
    have b11 := hb 11 _ rfl (by decide)
    clear hb
    simp only [depsOK, updR, Region.binds, reduceIte, Nat.reduceEqDiff, forall_const, and_true, eqV, List.getElem?_cons_zero, List.getElem?_cons_succ, exists_eq_right, reduceCtorEq, Nat.succ_ne_self] at hd
    rcases Bool.eq_false_or_eq_true d1 with e | e
    · simp only [e] at hd
      go_simp
      exact hK _ _ (fun _ => rfl) (Below.refl _ _)
    · simp only [e] at hd
      go_simp
      exact hK _ _ (fun h => Bool.noConfusion (e.symm.trans h)) (Below.refl _ _)
  show Chain _ _ _ _ _ _ _ _ _ _ _ 7 23 _
  apply Chain.detg d1 true
  · intro a w1 hS hb hd K hK
    obtain ⟨c0, c1, c2, c3, c4, c5, c6, c7, x0, x1, x2, x3, y0, y1, y2, y3⟩ := hS
    clear hb
    simp only [depsOK, updR, Region.binds, reduceIte, Nat.reduceEqDiff, forall_const, and_true, eqV, eqG, List.getElem?_cons_zero, List.getElem?_cons_succ, exists_eq_right, reduceCtorEq, Nat.succ_ne_self] at hd
    rcases Bool.eq_false_or_eq_true d1 with e | e
    · simp only [e, forall_const, exists_eq_right] at hd
      go_simp
      refine (pow_any p q g c ee HG.out hcd (by omega) _).mono ?_
      rintro e9 w9 ⟨rfl, hb9⟩
      exact hK _ _ (fun _ => rfl) hb9
    · simp only [e, reduceCtorEq, false_imp_iff, and_true] at hd
      go_simp
      exact hK _ _ (fun h => Bool.noConfusion (e.symm.trans h)) (Below.refl _ _)
  show Chain _ _ _ _ _ _ _ _ _ _ _ 6 24 _
  refine Chain.rel (onG d1 true (isF 2 [px, M.gpw p q c ee])) (stable_onG (stable_isF _ _)) ?_ ?_
  · intro a w1 hS hb hd K hK
    obtain ⟨c0, c1, c2, c3, c4, c5, c6, c7, x0, x1, x2, x3, y0, y1, y2, y3⟩ := hS
    clear hb
    simp only [depsOK, updR, Region.binds, reduceIte, Nat.reduceEqDiff, forall_const, and_true, eqV, eqG, List.getElem?_cons_zero, List.getElem?_cons_succ, exists_eq_right, reduceCtorEq, Nat.succ_ne_self] at hd
    rcases Bool.eq_false_or_eq_true d1 with e | e
    · simp only [e, forall_const, exists_eq_right] at hd
      go_simp
      exact hK _ _ (fun _ => ⟨_, rfl, RI.lit w1 [px, M.gpw p q c ee] _ rfl⟩) (below_new _ _)
    · simp only [e, reduceCtorEq, false_imp_iff, and_true] at hd
      go_simp
      exact hK _ _ (fun h => Bool.noConfusion (e.symm.trans h)) (Below.refl _ _)
  show Chain _ _ _ _ _ _ _ _ _ _ _ 5 25 _
  apply Chain.detg d1 true
  · intro a w1 hS hb hd K hK
    obtain ⟨c0, c1, c2, c3, c4, c5, c6, c7, x0, x1, x2, x3, y0, y1, y2, y3⟩ := hS
    clear hb
    simp only [depsOK, updR, Region.binds, reduceIte, Nat.reduceEqDiff, forall_const, and_true, eqV, eqG, onG, List.getElem?_cons_zero, List.getElem?_cons_succ, exists_eq_right, reduceCtorEq, Nat.succ_ne_self] at hd
    rcases Bool.eq_false_or_eq_true d1 with e | e
    · simp only [e, forall_const, exists_eq_right] at hd
      obtain ⟨h1, ⟨v2, e2, A2, rfl, r2⟩, _⟩ := hd
      go_simp
      refine (mul2_any p q g px (M.gpw p q c ee) HG.out m0 (M.gpw_lt g3) A2 2 _ r2).mono ?_
      rintro e9 w9 ⟨rfl, hb9⟩
      exact hK _ _ (fun _ => rfl) hb9
    · simp only [e, reduceCtorEq, false_imp_iff, and_true] at hd
      go_simp
      exact hK _ _ (fun h => Bool.noConfusion (e.symm.trans h)) (Below.refl _ _)
  show Chain _ _ _ _ _ _ _ _ _ _ _ 4 26 _
  refine Chain.rel (eqG d1 true (.bool d2)) (stable_eqG _ _ _) ?_ ?_
  · intro a w1 hS hb hd K hK
    obtain ⟨c0, c1, c2, c3, c4, c5, c6, c7, x0, x1, x2, x3, y0, y1, y2, y3⟩ := hS
    clear hb
    simp only [depsOK, updR, Region.binds, reduceIte, Nat.reduceEqDiff, forall_const, and_true, eqV, eqG, List.getElem?_cons_zero, List.getElem?_cons_succ, exists_eq_right, reduceCtorEq, Nat.succ_ne_self] at hd
    rcases Bool.eq_false_or_eq_true d1 with e | e
    · simp only [e, forall_const, exists_eq_right] at hd
      go_simp
      exact hK _ _ (fun _ => congrArg Value.bool Hd2.out.symm) (Below.refl _ _)
    · simp only [e, reduceCtorEq, false_imp_iff, and_true] at hd
      go_simp
      exact hK _ _ (fun h => Bool.noConfusion (e.symm.trans h)) (Below.refl _ _)
  show Chain _ _ _ _ _ _ _ _ _ _ _ 3 27 _
  refine Chain.rel (eqV (.bool n5_27)) (stable_eq _) ?_ ?_
  · intro a w1 hS hb hd K hK
    obtain ⟨c0, c1, c2, c3, c4, c5, c6, c7, x0, x1, x2, x3, y0, y1, y2, y3⟩ := hS
    clear hb
    simp only [depsOK, updR, Region.binds, reduceIte, Nat.reduceEqDiff, forall_const, and_true, eqV, eqG, List.getElem?_cons_zero, List.getElem?_cons_succ, exists_eq_right, reduceCtorEq, Nat.succ_ne_self] at hd
    rcases Bool.eq_false_or_eq_true d1 with e | e
    · simp only [e, forall_const, exists_eq_right] at hd
      go_simp
      exact hK _ _ (by show Value.bool _ = Value.bool _; rw [Hn5_27.out, e]; try rfl) (Below.refl _ _)
    · simp only [e, reduceCtorEq, false_imp_iff, and_true] at hd
      go_simp
      exact hK _ _ (by show Value.bool _ = Value.bool _; rw [Hn5_27.out, e]; try rfl) (Below.refl _ _)
  show Chain _ _ _ _ _ _ _ _ _ _ _ 2 28 _
  apply Chain.det
  · intro a w1 hS hb hd K hK
    obtain ⟨c0, c1, c2, c3, c4, c5, c6, c7, x0, x1, x2, x3, y0, y1, y2, y3⟩ := hS
    clear hb
    simp only [depsOK, updR, Region.binds, reduceIte, Nat.reduceEqDiff, forall_const, and_true, eqV, eqG, onG, List.getElem?_cons_zero, List.getElem?_cons_succ, exists_eq_right, reduceCtorEq, Nat.succ_ne_self] at hd
    go_simp
    exact hK _ _ rfl (Below.refl _ _)
  show Chain _ _ _ _ _ _ _ _ _ _ _ 1 29 _
  apply Chain.det
  · intro a w1 hS hb hd K hK
    obtain ⟨c0, c1, c2, c3, c4, c5, c6, c7, x0, x1, x2, x3, y0, y1, y2, y3⟩ := hS
    clear hb
    simp only [depsOK, updR, Region.binds, reduceIte, Nat.reduceEqDiff, forall_const, and_true, eqV, eqG, onG, List.getElem?_cons_zero, List.getElem?_cons_succ, exists_eq_right, reduceCtorEq, Nat.succ_ne_self] at hd
    go_simp
    exact hK _ _ rfl (Below.refl _ _)
  show Chain _ _ _ _ _ _ _ _ _ _ _ 0 30 _
  intro x w5 hS hB5 hR y hY hA hE
  have r28 := hR 28 _ rfl
  simp only [updR, reduceIte, Nat.reduceEqDiff, eqV] at r28
  have r29 := hR 29 _ rfl
  simp only [updR, reduceIte, Nat.reduceEqDiff, eqV] at r29
  clear hR hY hA hE
  simp only [TailWp, fillB, Act.put, List.setIfInBounds_toArray, List.set_cons_zero, List.set_cons_succ, Nat.reduceAdd, r28, r29]
  clear r28
  clear r29
  have hX5 : Below w4.heap.size w4 w5 := bnext (Below.drew (by repeat (first | exact Below.refl _ _ | refine bnew ?_ _ | refine Below.drew ?_ | refine Below.drewN ?_ _ | (refine below_set _ ?_ ?_; rotate_left; focus (first | omega | (simp; done) | (simp <;> omega)))))) hB5
  clear hB5
  have hT5 : Below w.heap.size w w5 := bnext hT4 hX5
  clear c0 c1 c2 c3 c4 c5 c6 c7 x0 x1 x2 x3 y0 y1 y2 y3
  obtain ⟨c0, c1, c2, c3, c4, c5, c6, c7, x0, x1, x2, x3, y0, y1, y2, y3⟩ := hS
  go_wp2
  go_ret2
  exact ⟨ret_bb (by rw [hR.out, HO.out, Hn5_27.out, Hd1.out, Hd2.out]) (by rw [hR.out]), hT5⟩
end Go.Proofs.Ytljlimlgdnbllaa
