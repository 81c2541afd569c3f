import Derived.Test.YtgnnmifpfgpllaaZE9
import Derived.Test.YtgnnmifpfgpllaaZH1
/- Walks: proofs of openings. -/
set_option linter.all false
set_option linter.unusedVariables false
set_option linter.unusedSimpArgs false
namespace Go.Proofs.Ytgnnmifpfgpllaa
open Go.RowKit
theorem RI.ad {w : World} {B : Nat} {A : Option Addr} {xs : List Int} (h : RI w B A xs) : ∃ ad : Addr, 0 < xs.length → A = some ad := by
  rcases Nat.eq_zero_or_pos xs.length with h0 | h0
  · exact ⟨default, fun h => by omega⟩
  · obtain ⟨ad, e, _⟩ := h.2 h0
    exact ⟨ad, fun _ => e⟩
theorem RI.get {w : World} {B : Nat} {ad : Addr} {xs : List Int} (h : RI w B (some ad) xs) (k : Nat) (hk : k < xs.length) : w.cell? (ad.add k) = some (.int .i64 (xs.getD k 0)) := by
  obtain ⟨ad', e, _, hc⟩ := h.at_ hk
  cases e
  rw [hc, List.getD_eq_getElem?_getD, List.getElem?_eq_getElem hk]; rfl
theorem add0 (ad : Addr) : ad.add 0 = ad := by unfold Addr.add; simp
theorem len2 {l : List Int} (h : l.length = 2) : l = [l.getD 0 0, l.getD 1 0] := by
  match l, h with | [a, b], _ => rfl
theorem getD_mem {l : List Int} {k : Nat} (h : k < l.length) : l.getD k 0 ∈ l := by rw [List.getD_eq_getElem?_getD, List.getElem?_eq_getElem h]; exact List.getElem_mem h
def formB (p q : Int) (pa pc pr : List Int) (a b c : Int) : Bool := ((pa.length : Int) == a) && ((pc.length : Int) == b) && ((pr.length : Int) == c) && elemsB p q pa && expsB q pc && expsB q pr
set_option maxRecDepth 100000 in
set_option maxHeartbeats 800000 in
theorem l9Form_any (p q g a b c : Int) (hG : M.Grp p q g) (A_pa : Option Addr) (c_pa : Nat) (pa : List Int) (A_pc : Option Addr) (c_pc : Nat) (pc : List Int) (A_pr : Option Addr) (c_pr : Nat) (pr : List Int) (hl_pa : pa.length ≤ 9223372036854775807) (hl_pc : pc.length ≤ 9223372036854775807) (hl_pr : pr.length ≤ 9223372036854775807) (w : World) (hx_pa : RI w w.heap.size A_pa pa) (hx_pc : RI w w.heap.size A_pc pc) (hx_pr : RI w w.heap.size A_pr pr) :
    Calls Try.prog 100 #[.agg #[.int .i64 p, .int .i64 q, .int .i64 g], .agg #[.slice A_pa pa.length c_pa, .slice A_pc pc.length c_pc, .slice A_pr pr.length c_pr], .int .i64 a, .int .i64 b, .int .i64 c] w fun en w' => en = .returned (.bool (formB p q pa pc pr a b c)) ∧ Below w.heap.size w w' := by
  have g1 := hG.q2
  have g2 := hG.qp
  have g4 := hG.pM
  have HG := Lib.hid hG
  clear hG
  have hT0 : Below w.heap.size w ((w.alloc (.cells #[.int .i64 p, .int .i64 q, .int .i64 g] 34)).alloc (.cells #[.slice A_pa pa.length c_pa, .slice A_pc pc.length c_pc, .slice A_pr pr.length c_pr] 100)) := by repeat (first | exact Below.refl _ _ | refine bnew ?_ _)
  have c0 : ((w.alloc (.cells #[.int .i64 p, .int .i64 q, .int .i64 g] 34)).alloc (.cells #[.slice A_pa pa.length c_pa, .slice A_pc pc.length c_pc, .slice A_pr pr.length c_pr] 100)).cell? ⟨w.heap.size, 0, none⟩ = some (.int .i64 p) := by
    repeat (first | with_reducible assumption | (with_reducible apply set1b; with_reducible assumption) | (with_reducible refine (sc_other _ ?_).trans ?_; focus (simp; done)) | (refine cell_new' ?_ _ _ _ rfl; focus (simp; done)) | with_reducible refine cell_keep (below_new _ _) ?_)
  have c1 : ((w.alloc (.cells #[.int .i64 p, .int .i64 q, .int .i64 g] 34)).alloc (.cells #[.slice A_pa pa.length c_pa, .slice A_pc pc.length c_pc, .slice A_pr pr.length c_pr] 100)).cell? ⟨w.heap.size, 1, none⟩ = some (.int .i64 q) := by
    repeat (first | with_reducible assumption | (with_reducible apply set1b; with_reducible assumption) | (with_reducible refine (sc_other _ ?_).trans ?_; focus (simp; done)) | (refine cell_new' ?_ _ _ _ rfl; focus (simp; done)) | with_reducible refine cell_keep (below_new _ _) ?_)
  have c2 : ((w.alloc (.cells #[.int .i64 p, .int .i64 q, .int .i64 g] 34)).alloc (.cells #[.slice A_pa pa.length c_pa, .slice A_pc pc.length c_pc, .slice A_pr pr.length c_pr] 100)).cell? ⟨w.heap.size, 2, none⟩ = some (.int .i64 g) := by
    repeat (first | with_reducible assumption | (with_reducible apply set1b; with_reducible assumption) | (with_reducible refine (sc_other _ ?_).trans ?_; focus (simp; done)) | (refine cell_new' ?_ _ _ _ rfl; focus (simp; done)) | with_reducible refine cell_keep (below_new _ _) ?_)
  have c3 : ((w.alloc (.cells #[.int .i64 p, .int .i64 q, .int .i64 g] 34)).alloc (.cells #[.slice A_pa pa.length c_pa, .slice A_pc pc.length c_pc, .slice A_pr pr.length c_pr] 100)).cell? ⟨w.heap.size + 1, 0, none⟩ = some (.slice A_pa pa.length c_pa) := by
    repeat (first | with_reducible assumption | (with_reducible apply set1b; with_reducible assumption) | (with_reducible refine (sc_other _ ?_).trans ?_; focus (simp; done)) | (refine cell_new' ?_ _ _ _ rfl; focus (simp; done)) | with_reducible refine cell_keep (below_new _ _) ?_)
  have c4 : ((w.alloc (.cells #[.int .i64 p, .int .i64 q, .int .i64 g] 34)).alloc (.cells #[.slice A_pa pa.length c_pa, .slice A_pc pc.length c_pc, .slice A_pr pr.length c_pr] 100)).cell? ⟨w.heap.size + 1, 1, none⟩ = some (.slice A_pc pc.length c_pc) := by
    repeat (first | with_reducible assumption | (with_reducible apply set1b; with_reducible assumption) | (with_reducible refine (sc_other _ ?_).trans ?_; focus (simp; done)) | (refine cell_new' ?_ _ _ _ rfl; focus (simp; done)) | with_reducible refine cell_keep (below_new _ _) ?_)
  have c5 : ((w.alloc (.cells #[.int .i64 p, .int .i64 q, .int .i64 g] 34)).alloc (.cells #[.slice A_pa pa.length c_pa, .slice A_pc pc.length c_pc, .slice A_pr pr.length c_pr] 100)).cell? ⟨w.heap.size + 1, 2, none⟩ = some (.slice A_pr pr.length c_pr) := by
    repeat (first | with_reducible assumption | (with_reducible apply set1b; with_reducible assumption) | (with_reducible refine (sc_other _ ?_).trans ?_; focus (simp; done)) | (refine cell_new' ?_ _ _ _ rfl; focus (simp; done)) | with_reducible refine cell_keep (below_new _ _) ?_)
  have x0 : RI ((w.alloc (.cells #[.int .i64 p, .int .i64 q, .int .i64 g] 34)).alloc (.cells #[.slice A_pa pa.length c_pa, .slice A_pc pc.length c_pc, .slice A_pr pr.length c_pr] 100)) ((w.alloc (.cells #[.int .i64 p, .int .i64 q, .int .i64 g] 34)).alloc (.cells #[.slice A_pa pa.length c_pa, .slice A_pc pc.length c_pc, .slice A_pr pr.length c_pr] 100)).heap.size A_pa pa := hx_pa.next hT0
  have x1 : RI ((w.alloc (.cells #[.int .i64 p, .int .i64 q, .int .i64 g] 34)).alloc (.cells #[.slice A_pa pa.length c_pa, .slice A_pc pc.length c_pc, .slice A_pr pr.length c_pr] 100)) ((w.alloc (.cells #[.int .i64 p, .int .i64 q, .int .i64 g] 34)).alloc (.cells #[.slice A_pa pa.length c_pa, .slice A_pc pc.length c_pc, .slice A_pr pr.length c_pr] 100)).heap.size A_pc pc := hx_pc.next hT0
  have x2 : RI ((w.alloc (.cells #[.int .i64 p, .int .i64 q, .int .i64 g] 34)).alloc (.cells #[.slice A_pa pa.length c_pa, .slice A_pc pc.length c_pc, .slice A_pr pr.length c_pr] 100)) ((w.alloc (.cells #[.int .i64 p, .int .i64 q, .int .i64 g] 34)).alloc (.cells #[.slice A_pa pa.length c_pa, .slice A_pc pc.length c_pc, .slice A_pr pr.length c_pr] 100)).heap.size A_pr pr := hx_pr.next hT0
  go_enter Try.func100, Try.ntmps100
  rcases Bool.eq_false_or_eq_true (((pa.length : Int) == a)) with q0 | q0
  rotate_left
  · have hR := Lib.hid (show formB p q pa pc pr a b c = false by unfold formB; rw [q0]; simp)
    go_wp2
    go_ret
    exact ⟨ret_bool hR.out.symm, hT0⟩
  rcases Bool.eq_false_or_eq_true (((pc.length : Int) == b)) with q1 | q1
  rotate_left
  · have hR := Lib.hid (show formB p q pa pc pr a b c = false by unfold formB; rw [q1]; simp)
    go_wp2
    go_ret
    exact ⟨ret_bool hR.out.symm, hT0⟩
  rcases Bool.eq_false_or_eq_true (((pr.length : Int) == c)) with q2 | q2
  rotate_left
  · have hR := Lib.hid (show formB p q pa pc pr a b c = false by unfold formB; rw [q2]; simp)
    go_wp2
    go_ret
    exact ⟨ret_bool hR.out.symm, hT0⟩
  go_wp2_with fail
  refine (gIs_any p q g HG.out A_pa c_pa pa hl_pa _ ((x0).next (by repeat (first | exact Below.refl _ _ | refine bnew ?_ _ | refine Below.drew ?_ | refine Below.drewN ?_ _ | (refine below_set _ ?_ ?_; rotate_left; focus (first | omega | (simp; done) | (simp <;> omega))))))).mono ?_
  rintro e1 w1 ⟨rfl, hb1⟩
  have hX1 : Below ((w.alloc (.cells #[.int .i64 p, .int .i64 q, .int .i64 g] 34)).alloc (.cells #[.slice A_pa pa.length c_pa, .slice A_pc pc.length c_pc, .slice A_pr pr.length c_pr] 100)).heap.size ((w.alloc (.cells #[.int .i64 p, .int .i64 q, .int .i64 g] 34)).alloc (.cells #[.slice A_pa pa.length c_pa, .slice A_pc pc.length c_pc, .slice A_pr pr.length c_pr] 100)) w1 := bnext (by repeat (first | exact Below.refl _ _ | refine bnew ?_ _ | refine Below.drew ?_ | refine Below.drewN ?_ _ | (refine below_set _ ?_ ?_; rotate_left; focus (first | omega | (simp; done) | (simp <;> omega))))) hb1
  have hT1 : Below w.heap.size w w1 := bnext hT0 hX1
  replace c0 : w1.cell? ⟨w.heap.size, 0, none⟩ = some (.int .i64 p) := cell_keep hX1 c0
  replace c1 : w1.cell? ⟨w.heap.size, 1, none⟩ = some (.int .i64 q) := cell_keep hX1 c1
  replace c2 : w1.cell? ⟨w.heap.size, 2, none⟩ = some (.int .i64 g) := cell_keep hX1 c2
  replace c3 : w1.cell? ⟨w.heap.size + 1, 0, none⟩ = some (.slice A_pa pa.length c_pa) := cell_keep hX1 c3
  replace c4 : w1.cell? ⟨w.heap.size + 1, 1, none⟩ = some (.slice A_pc pc.length c_pc) := cell_keep hX1 c4
  replace c5 : w1.cell? ⟨w.heap.size + 1, 2, none⟩ = some (.slice A_pr pr.length c_pr) := cell_keep hX1 c5
  replace x0 : RI w1 w1.heap.size A_pa pa := (x0).next hX1
  replace x1 : RI w1 w1.heap.size A_pc pc := (x1).next hX1
  replace x2 : RI w1 w1.heap.size A_pr pr := (x2).next hX1
  rcases Bool.eq_false_or_eq_true (elemsB p q pa) with q3 | q3
  rotate_left
  · have hR := Lib.hid (show formB p q pa pc pr a b c = false by unfold formB; rw [q3]; simp)
    go_wp2
    go_ret
    exact ⟨ret_bool hR.out.symm, hT1⟩
  go_wp2_with fail
  refine (gExps_any p q g A_pc c_pc pc _ (by omega) ((x1).next (by repeat (first | exact Below.refl _ _ | refine bnew ?_ _ | refine Below.drew ?_ | refine Below.drewN ?_ _ | (refine below_set _ ?_ ?_; rotate_left; focus (first | omega | (simp; done) | (simp <;> omega)))))) hl_pc).mono ?_
  rintro e2 w2 ⟨rfl, hb2⟩
  have hX2 : Below w1.heap.size w1 w2 := bnext (by repeat (first | exact Below.refl _ _ | refine bnew ?_ _ | refine Below.drew ?_ | refine Below.drewN ?_ _ | (refine below_set _ ?_ ?_; rotate_left; focus (first | omega | (simp; done) | (simp <;> omega))))) hb2
  have hT2 : Below w.heap.size w w2 := bnext hT1 hX2
  replace c0 : w2.cell? ⟨w.heap.size, 0, none⟩ = some (.int .i64 p) := cell_keep hX2 c0
  replace c1 : w2.cell? ⟨w.heap.size, 1, none⟩ = some (.int .i64 q) := cell_keep hX2 c1
  replace c2 : w2.cell? ⟨w.heap.size, 2, none⟩ = some (.int .i64 g) := cell_keep hX2 c2
  replace c3 : w2.cell? ⟨w.heap.size + 1, 0, none⟩ = some (.slice A_pa pa.length c_pa) := cell_keep hX2 c3
  replace c4 : w2.cell? ⟨w.heap.size + 1, 1, none⟩ = some (.slice A_pc pc.length c_pc) := cell_keep hX2 c4
  replace c5 : w2.cell? ⟨w.heap.size + 1, 2, none⟩ = some (.slice A_pr pr.length c_pr) := cell_keep hX2 c5
  replace x0 : RI w2 w2.heap.size A_pa pa := (x0).next hX2
  replace x1 : RI w2 w2.heap.size A_pc pc := (x1).next hX2
  replace x2 : RI w2 w2.heap.size A_pr pr := (x2).next hX2
  rcases Bool.eq_false_or_eq_true (expsB q pc) with q4 | q4
  rotate_left
  · have hR := Lib.hid (show formB p q pa pc pr a b c = false by unfold formB; rw [q4]; simp)
    go_wp2
    go_ret
    exact ⟨ret_bool hR.out.symm, hT2⟩
  go_wp2_with fail
  refine (gExps_any p q g A_pr c_pr pr _ (by omega) ((x2).next (by repeat (first | exact Below.refl _ _ | refine bnew ?_ _ | refine Below.drew ?_ | refine Below.drewN ?_ _ | (refine below_set _ ?_ ?_; rotate_left; focus (first | omega | (simp; done) | (simp <;> omega)))))) hl_pr).mono ?_
  rintro e3 w3 ⟨rfl, hb3⟩
  have hX3 : Below w2.heap.size w2 w3 := bnext (by repeat (first | exact Below.refl _ _ | refine bnew ?_ _ | refine Below.drew ?_ | refine Below.drewN ?_ _ | (refine below_set _ ?_ ?_; rotate_left; focus (first | omega | (simp; done) | (simp <;> omega))))) hb3
  have hT3 : Below w.heap.size w w3 := bnext hT2 hX3
  replace c0 : w3.cell? ⟨w.heap.size, 0, none⟩ = some (.int .i64 p) := cell_keep hX3 c0
  replace c1 : w3.cell? ⟨w.heap.size, 1, none⟩ = some (.int .i64 q) := cell_keep hX3 c1
  replace c2 : w3.cell? ⟨w.heap.size, 2, none⟩ = some (.int .i64 g) := cell_keep hX3 c2
  replace c3 : w3.cell? ⟨w.heap.size + 1, 0, none⟩ = some (.slice A_pa pa.length c_pa) := cell_keep hX3 c3
  replace c4 : w3.cell? ⟨w.heap.size + 1, 1, none⟩ = some (.slice A_pc pc.length c_pc) := cell_keep hX3 c4
  replace c5 : w3.cell? ⟨w.heap.size + 1, 2, none⟩ = some (.slice A_pr pr.length c_pr) := cell_keep hX3 c5
  replace x0 : RI w3 w3.heap.size A_pa pa := (x0).next hX3
  replace x1 : RI w3 w3.heap.size A_pc pc := (x1).next hX3
  replace x2 : RI w3 w3.heap.size A_pr pr := (x2).next hX3
  have hR := Lib.hid (show formB p q pa pc pr a b c = expsB q pr by unfold formB; rw [q0, q1, q2, q3, q4]; rfl)
  go_wp2
  go_ret
  exact ⟨ret_bool hR.out.symm, hT3⟩
end Go.Proofs.Ytgnnmifpfgpllaa
