/- Walks: VerifySum. -/
import Derived.Test.YtljlimlgdnbllaaO1
namespace Go.Proofs.Ytljlimlgdnbllaa
open Go.RowKit
/-- the bytes of "sum" -/
def lSum : List UInt8 := [115, 117, 109]
def chS (p q g bh c t x : Int) : Int := M.chal p q g lSum [bh, c, t, x]
def sumV (p q g bh c t : Int) (pa pc pr : List Int) : Bool := ((pa.length : Int) == 1) && ((pc.length : Int) == 1) && ((pr.length : Int) == 1) && elemB p q (pa.getD 0 0) && inr (pr.getD 0 0) 0 (q - 1) && (pc.getD 0 0 == chS p q g bh c t (pa.getD 0 0)) && (M.gpw p q bh (pr.getD 0 0) == pa.getD 0 0 * M.gpw p q (c * M.gpw p q g (-t) % p) (chS p q g bh c t (pa.getD 0 0)) % p)
noncomputable def vsV (p q g bh : Int) (bs cs : List Int) (t : Int) (pa pc pr : List Int) : Bool × Bool := if l9B p q g bh bs = true ∧ inr cs.length 1 24 = true ∧ elemsB p q cs = true ∧ inr t 0 (q - 1) = true then (sumV p q g bh (M.mulL p cs) t pa pc pr, true) else (false, false)
theorem chS_lt {p q g bh c t x : Int} (hq : 2 ≤ q) : 0 ≤ chS p q g bh c t x ∧ chS p q g bh c t x < q := M.chal_lt hq _ _
theorem dig4 {p q a b c d : Int} (hp : p ≤ 2000000000) (hq : q ≤ p) (ha : 0 ≤ a ∧ a < p) (hb : 0 ≤ b ∧ b < p) (hc : 0 ≤ c ∧ c < q) (hd : 0 ≤ d ∧ d < p) : ∀ x ∈ [a, b, c, d], 0 ≤ x ∧ x ≤ 4611686018427387903 := by
  intro x h
  simp only [List.mem_cons, List.not_mem_nil, or_false] at h
  rcases h with rfl | rfl | rfl | rfl <;> omega
theorem elemsB_bd {p q : Int} {l : List Int} (h : elemsB p q l = true) : ∀ x ∈ l, 0 ≤ x ∧ x < p := fun _ hx => elem_bd (elemsB_mem h hx)
set_option maxRecDepth 100000 in
set_option maxHeartbeats 800000 in
theorem rSumChallenge_any (p q g bh c t x : Int) (A : Option Addr) (n d : Nat) (hG : M.Grp p q g) (hb : 0 ≤ bh ∧ bh < p) (hc : 0 ≤ c ∧ c < p) (ht : 0 ≤ t ∧ t < q) (hx : 0 ≤ x ∧ x < p) (w : World) :
    Calls Try.prog 68 #[.agg #[.int .i64 p, .int .i64 q, .int .i64 g], .agg #[.int .i64 bh, .slice A n d], .int .i64 c, .int .i64 t, .int .i64 x] w fun en w' => en = .returned (.int .i64 (chS p q g bh c t x)) ∧ Below w.heap.size w w' := by
  have HD := Lib.hid (dig4 hG.pM (by have := hG.qp; omega) hb hc ht hx)
  have HG := Lib.hid hG
  clear hG
  have hT0 : Below w.heap.size w ((w.alloc (.cells #[.int .i64 p, .int .i64 q, .int .i64 g] 33)).alloc (.cells #[.int .i64 bh, .slice A n d] 35)) := by repeat (first | exact Below.refl _ _ | refine bnew ?_ _)
  have c0 : ((w.alloc (.cells #[.int .i64 p, .int .i64 q, .int .i64 g] 33)).alloc (.cells #[.int .i64 bh, .slice A n d] 35)).cell? ⟨w.heap.size, 0, none⟩ = some (.int .i64 p) := by
    repeat (first | with_reducible assumption | (with_reducible apply set1b; with_reducible assumption) | (with_reducible refine (sc_other _ ?_).trans ?_; focus (simp; done)) | (refine cell_new' ?_ _ _ _ rfl; focus (simp; done)) | with_reducible refine cell_keep (below_new _ _) ?_)
  have c1 : ((w.alloc (.cells #[.int .i64 p, .int .i64 q, .int .i64 g] 33)).alloc (.cells #[.int .i64 bh, .slice A n d] 35)).cell? ⟨w.heap.size, 1, none⟩ = some (.int .i64 q) := by
    repeat (first | with_reducible assumption | (with_reducible apply set1b; with_reducible assumption) | (with_reducible refine (sc_other _ ?_).trans ?_; focus (simp; done)) | (refine cell_new' ?_ _ _ _ rfl; focus (simp; done)) | with_reducible refine cell_keep (below_new _ _) ?_)
  have c2 : ((w.alloc (.cells #[.int .i64 p, .int .i64 q, .int .i64 g] 33)).alloc (.cells #[.int .i64 bh, .slice A n d] 35)).cell? ⟨w.heap.size, 2, none⟩ = some (.int .i64 g) := by
    repeat (first | with_reducible assumption | (with_reducible apply set1b; with_reducible assumption) | (with_reducible refine (sc_other _ ?_).trans ?_; focus (simp; done)) | (refine cell_new' ?_ _ _ _ rfl; focus (simp; done)) | with_reducible refine cell_keep (below_new _ _) ?_)
  have c3 : ((w.alloc (.cells #[.int .i64 p, .int .i64 q, .int .i64 g] 33)).alloc (.cells #[.int .i64 bh, .slice A n d] 35)).cell? ⟨w.heap.size + 1, 0, none⟩ = some (.int .i64 bh) := by
    repeat (first | with_reducible assumption | (with_reducible apply set1b; with_reducible assumption) | (with_reducible refine (sc_other _ ?_).trans ?_; focus (simp; done)) | (refine cell_new' ?_ _ _ _ rfl; focus (simp; done)) | with_reducible refine cell_keep (below_new _ _) ?_)
  have c4 : ((w.alloc (.cells #[.int .i64 p, .int .i64 q, .int .i64 g] 33)).alloc (.cells #[.int .i64 bh, .slice A n d] 35)).cell? ⟨w.heap.size + 1, 1, none⟩ = some (.slice A n d) := by
    repeat (first | with_reducible assumption | (with_reducible apply set1b; with_reducible assumption) | (with_reducible refine (sc_other _ ?_).trans ?_; focus (simp; done)) | (refine cell_new' ?_ _ _ _ rfl; focus (simp; done)) | with_reducible refine cell_keep (below_new _ _) ?_)
  go_enter Try.func68, Try.ntmps68
  go_wp2_with fail
  refine (hChallenge_any p q g HG.out ⟨lSum.toArray⟩ (by decide) _ 4 [bh, c, t, x] (by simp) (by simp) HD.out _ (RI.lit _ [bh, c, t, x] _ (by simp))).mono ?_
  rintro e1 w1 ⟨rfl, hb1⟩
  have hX1 : Below ((w.alloc (.cells #[.int .i64 p, .int .i64 q, .int .i64 g] 33)).alloc (.cells #[.int .i64 bh, .slice A n d] 35)).heap.size ((w.alloc (.cells #[.int .i64 p, .int .i64 q, .int .i64 g] 33)).alloc (.cells #[.int .i64 bh, .slice A n d] 35)) w1 := bnext (by repeat (first | exact Below.refl _ _ | refine bnew ?_ _ | refine Below.drew ?_ | refine Below.drewN ?_ _ | (refine below_set _ ?_ ?_; rotate_left; focus (first | omega | (simp; done) | (simp <;> omega))))) hb1
  have hT1 : Below w.heap.size w w1 := bnext hT0 hX1
  replace c0 : w1.cell? ⟨w.heap.size, 0, none⟩ = some (.int .i64 p) := cell_keep hX1 c0
  replace c1 : w1.cell? ⟨w.heap.size, 1, none⟩ = some (.int .i64 q) := cell_keep hX1 c1
  replace c2 : w1.cell? ⟨w.heap.size, 2, none⟩ = some (.int .i64 g) := cell_keep hX1 c2
  replace c3 : w1.cell? ⟨w.heap.size + 1, 0, none⟩ = some (.int .i64 bh) := cell_keep hX1 c3
  replace c4 : w1.cell? ⟨w.heap.size + 1, 1, none⟩ = some (.slice A n d) := cell_keep hX1 c4
  go_wp2
  go_ret
  exact ⟨rfl, hT1⟩
set_option maxRecDepth 100000 in
set_option maxHeartbeats 3200000 in
theorem verifySumS (p q g bh t : Int) (A : Option Addr) (d : Nat) (bs : List Int) (hl : bs.length ≤ 9223372036854775807) (A_c : Option Addr) (c_c : Nat) (cs : List Int) (hl_c : cs.length ≤ 9223372036854775807) (A_pa : Option Addr) (c_pa : Nat) (pa : List Int) (A_pc : Option Addr) (c_pc : Nat) (pc : List Int) (A_pr : Option Addr) (c_pr : Nat) (pr : List Int) (hl_pa : pa.length ≤ 9223372036854775807) (hl_pc : pc.length ≤ 9223372036854775807) (hl_pr : pr.length ≤ 9223372036854775807) (w : World) (hx : RI w w.heap.size A bs) (hx_c : RI w w.heap.size A_c cs) (hx_pa : RI w w.heap.size A_pa pa) (hx_pc : RI w w.heap.size A_pc pc) (hx_pr : RI w w.heap.size A_pr pr) :
    Calls Try.prog 17 #[.agg #[.int .i64 p, .int .i64 q, .int .i64 g], .agg #[.int .i64 bh, .slice A bs.length d], .slice A_c cs.length c_c, .int .i64 t, .agg #[.slice A_pa pa.length c_pa, .slice A_pc pc.length c_pc, .slice A_pr pr.length c_pr]] w fun en w' => en = .returned (.tuple #[.bool (vsV p q g bh bs cs t pa pc pr).1, .bool (vsV p q g bh bs cs t pa pc pr).2]) ∧ Below w.heap.size w w' := by
  have hT0 : Below w.heap.size w (((w.alloc (.cells #[.int .i64 p, .int .i64 q, .int .i64 g] 33)).alloc (.cells #[.int .i64 bh, .slice A bs.length d] 35)).alloc (.cells #[.slice A_pa pa.length c_pa, .slice A_pc pc.length c_pc, .slice A_pr pr.length c_pr] 38)) := by repeat (first | exact Below.refl _ _ | refine bnew ?_ _)
  have c0 : (((w.alloc (.cells #[.int .i64 p, .int .i64 q, .int .i64 g] 33)).alloc (.cells #[.int .i64 bh, .slice A bs.length d] 35)).alloc (.cells #[.slice A_pa pa.length c_pa, .slice A_pc pc.length c_pc, .slice A_pr pr.length c_pr] 38)).cell? ⟨w.heap.size, 0, none⟩ = some (.int .i64 p) := by
    repeat (first | with_reducible assumption | (with_reducible apply set1b; with_reducible assumption) | (with_reducible refine (sc_other _ ?_).trans ?_; focus (simp; done)) | (refine cell_new' ?_ _ _ _ rfl; focus (simp; done)) | with_reducible refine cell_keep (below_new _ _) ?_)
  have c1 : (((w.alloc (.cells #[.int .i64 p, .int .i64 q, .int .i64 g] 33)).alloc (.cells #[.int .i64 bh, .slice A bs.length d] 35)).alloc (.cells #[.slice A_pa pa.length c_pa, .slice A_pc pc.length c_pc, .slice A_pr pr.length c_pr] 38)).cell? ⟨w.heap.size, 1, none⟩ = some (.int .i64 q) := by
    repeat (first | with_reducible assumption | (with_reducible apply set1b; with_reducible assumption) | (with_reducible refine (sc_other _ ?_).trans ?_; focus (simp; done)) | (refine cell_new' ?_ _ _ _ rfl; focus (simp; done)) | with_reducible refine cell_keep (below_new _ _) ?_)
  have c2 : (((w.alloc (.cells #[.int .i64 p, .int .i64 q, .int .i64 g] 33)).alloc (.cells #[.int .i64 bh, .slice A bs.length d] 35)).alloc (.cells #[.slice A_pa pa.length c_pa, .slice A_pc pc.length c_pc, .slice A_pr pr.length c_pr] 38)).cell? ⟨w.heap.size, 2, none⟩ = some (.int .i64 g) := by
    repeat (first | with_reducible assumption | (with_reducible apply set1b; with_reducible assumption) | (with_reducible refine (sc_other _ ?_).trans ?_; focus (simp; done)) | (refine cell_new' ?_ _ _ _ rfl; focus (simp; done)) | with_reducible refine cell_keep (below_new _ _) ?_)
  have c3 : (((w.alloc (.cells #[.int .i64 p, .int .i64 q, .int .i64 g] 33)).alloc (.cells #[.int .i64 bh, .slice A bs.length d] 35)).alloc (.cells #[.slice A_pa pa.length c_pa, .slice A_pc pc.length c_pc, .slice A_pr pr.length c_pr] 38)).cell? ⟨w.heap.size + 1, 0, none⟩ = some (.int .i64 bh) := by
    repeat (first | with_reducible assumption | (with_reducible apply set1b; with_reducible assumption) | (with_reducible refine (sc_other _ ?_).trans ?_; focus (simp; done)) | (refine cell_new' ?_ _ _ _ rfl; focus (simp; done)) | with_reducible refine cell_keep (below_new _ _) ?_)
  have c4 : (((w.alloc (.cells #[.int .i64 p, .int .i64 q, .int .i64 g] 33)).alloc (.cells #[.int .i64 bh, .slice A bs.length d] 35)).alloc (.cells #[.slice A_pa pa.length c_pa, .slice A_pc pc.length c_pc, .slice A_pr pr.length c_pr] 38)).cell? ⟨w.heap.size + 1, 1, none⟩ = some (.slice A bs.length d) := by
    repeat (first | with_reducible assumption | (with_reducible apply set1b; with_reducible assumption) | (with_reducible refine (sc_other _ ?_).trans ?_; focus (simp; done)) | (refine cell_new' ?_ _ _ _ rfl; focus (simp; done)) | with_reducible refine cell_keep (below_new _ _) ?_)
  have c5 : (((w.alloc (.cells #[.int .i64 p, .int .i64 q, .int .i64 g] 33)).alloc (.cells #[.int .i64 bh, .slice A bs.length d] 35)).alloc (.cells #[.slice A_pa pa.length c_pa, .slice A_pc pc.length c_pc, .slice A_pr pr.length c_pr] 38)).cell? ⟨w.heap.size + 1 + 1, 0, none⟩ = some (.slice A_pa pa.length c_pa) := by
    repeat (first | with_reducible assumption | (with_reducible apply set1b; with_reducible assumption) | (with_reducible refine (sc_other _ ?_).trans ?_; focus (simp; done)) | (refine cell_new' ?_ _ _ _ rfl; focus (simp; done)) | with_reducible refine cell_keep (below_new _ _) ?_)
  have c6 : (((w.alloc (.cells #[.int .i64 p, .int .i64 q, .int .i64 g] 33)).alloc (.cells #[.int .i64 bh, .slice A bs.length d] 35)).alloc (.cells #[.slice A_pa pa.length c_pa, .slice A_pc pc.length c_pc, .slice A_pr pr.length c_pr] 38)).cell? ⟨w.heap.size + 1 + 1, 1, none⟩ = some (.slice A_pc pc.length c_pc) := by
    repeat (first | with_reducible assumption | (with_reducible apply set1b; with_reducible assumption) | (with_reducible refine (sc_other _ ?_).trans ?_; focus (simp; done)) | (refine cell_new' ?_ _ _ _ rfl; focus (simp; done)) | with_reducible refine cell_keep (below_new _ _) ?_)
  have c7 : (((w.alloc (.cells #[.int .i64 p, .int .i64 q, .int .i64 g] 33)).alloc (.cells #[.int .i64 bh, .slice A bs.length d] 35)).alloc (.cells #[.slice A_pa pa.length c_pa, .slice A_pc pc.length c_pc, .slice A_pr pr.length c_pr] 38)).cell? ⟨w.heap.size + 1 + 1, 2, none⟩ = some (.slice A_pr pr.length c_pr) := by
    repeat (first | with_reducible assumption | (with_reducible apply set1b; with_reducible assumption) | (with_reducible refine (sc_other _ ?_).trans ?_; focus (simp; done)) | (refine cell_new' ?_ _ _ _ rfl; focus (simp; done)) | with_reducible refine cell_keep (below_new _ _) ?_)
  have x0 : RI (((w.alloc (.cells #[.int .i64 p, .int .i64 q, .int .i64 g] 33)).alloc (.cells #[.int .i64 bh, .slice A bs.length d] 35)).alloc (.cells #[.slice A_pa pa.length c_pa, .slice A_pc pc.length c_pc, .slice A_pr pr.length c_pr] 38)) (((w.alloc (.cells #[.int .i64 p, .int .i64 q, .int .i64 g] 33)).alloc (.cells #[.int .i64 bh, .slice A bs.length d] 35)).alloc (.cells #[.slice A_pa pa.length c_pa, .slice A_pc pc.length c_pc, .slice A_pr pr.length c_pr] 38)).heap.size A bs := hx.next hT0
  have x1 : RI (((w.alloc (.cells #[.int .i64 p, .int .i64 q, .int .i64 g] 33)).alloc (.cells #[.int .i64 bh, .slice A bs.length d] 35)).alloc (.cells #[.slice A_pa pa.length c_pa, .slice A_pc pc.length c_pc, .slice A_pr pr.length c_pr] 38)) (((w.alloc (.cells #[.int .i64 p, .int .i64 q, .int .i64 g] 33)).alloc (.cells #[.int .i64 bh, .slice A bs.length d] 35)).alloc (.cells #[.slice A_pa pa.length c_pa, .slice A_pc pc.length c_pc, .slice A_pr pr.length c_pr] 38)).heap.size A_c cs := hx_c.next hT0
  have x2 : RI (((w.alloc (.cells #[.int .i64 p, .int .i64 q, .int .i64 g] 33)).alloc (.cells #[.int .i64 bh, .slice A bs.length d] 35)).alloc (.cells #[.slice A_pa pa.length c_pa, .slice A_pc pc.length c_pc, .slice A_pr pr.length c_pr] 38)) (((w.alloc (.cells #[.int .i64 p, .int .i64 q, .int .i64 g] 33)).alloc (.cells #[.int .i64 bh, .slice A bs.length d] 35)).alloc (.cells #[.slice A_pa pa.length c_pa, .slice A_pc pc.length c_pc, .slice A_pr pr.length c_pr] 38)).heap.size A_pa pa := hx_pa.next hT0
  have x3 : RI (((w.alloc (.cells #[.int .i64 p, .int .i64 q, .int .i64 g] 33)).alloc (.cells #[.int .i64 bh, .slice A bs.length d] 35)).alloc (.cells #[.slice A_pa pa.length c_pa, .slice A_pc pc.length c_pc, .slice A_pr pr.length c_pr] 38)) (((w.alloc (.cells #[.int .i64 p, .int .i64 q, .int .i64 g] 33)).alloc (.cells #[.int .i64 bh, .slice A bs.length d] 35)).alloc (.cells #[.slice A_pa pa.length c_pa, .slice A_pc pc.length c_pc, .slice A_pr pr.length c_pr] 38)).heap.size A_pc pc := hx_pc.next hT0
  have x4 : RI (((w.alloc (.cells #[.int .i64 p, .int .i64 q, .int .i64 g] 33)).alloc (.cells #[.int .i64 bh, .slice A bs.length d] 35)).alloc (.cells #[.slice A_pa pa.length c_pa, .slice A_pc pc.length c_pc, .slice A_pr pr.length c_pr] 38)) (((w.alloc (.cells #[.int .i64 p, .int .i64 q, .int .i64 g] 33)).alloc (.cells #[.int .i64 bh, .slice A bs.length d] 35)).alloc (.cells #[.slice A_pa pa.length c_pa, .slice A_pc pc.length c_pc, .slice A_pr pr.length c_pr] 38)).heap.size A_pr pr := hx_pr.next hT0
  go_enter Try.func17, Try.ntmps17
  go_wp2_with fail
  refine (l9Good_any p q g bh A d bs hl _ ((x0).next (by repeat (first | exact Below.refl _ _ | refine bnew ?_ _ | refine Below.drew ?_ | refine Below.drewN ?_ _ | (refine below_set _ ?_ ?_; rotate_left; focus (first | omega | (simp; done) | (simp <;> omega))))))).mono ?_
  rintro e1 w1 ⟨rfl, hb1⟩
  have hX1 : Below (((w.alloc (.cells #[.int .i64 p, .int .i64 q, .int .i64 g] 33)).alloc (.cells #[.int .i64 bh, .slice A bs.length d] 35)).alloc (.cells #[.slice A_pa pa.length c_pa, .slice A_pc pc.length c_pc, .slice A_pr pr.length c_pr] 38)).heap.size (((w.alloc (.cells #[.int .i64 p, .int .i64 q, .int .i64 g] 33)).alloc (.cells #[.int .i64 bh, .slice A bs.length d] 35)).alloc (.cells #[.slice A_pa pa.length c_pa, .slice A_pc pc.length c_pc, .slice A_pr pr.length c_pr] 38)) w1 := bnext (by repeat (first | exact Below.refl _ _ | refine bnew ?_ _ | refine Below.drew ?_ | refine Below.drewN ?_ _ | (refine below_set _ ?_ ?_; rotate_left; focus (first | omega | (simp; done) | (simp <;> omega))))) hb1
  have hT1 : Below w.heap.size w w1 := bnext hT0 hX1
  replace c0 : w1.cell? ⟨w.heap.size, 0, none⟩ = some (.int .i64 p) := cell_keep hX1 c0
  replace c1 : w1.cell? ⟨w.heap.size, 1, none⟩ = some (.int .i64 q) := cell_keep hX1 c1
  replace c2 : w1.cell? ⟨w.heap.size, 2, none⟩ = some (.int .i64 g) := cell_keep hX1 c2
  replace c3 : w1.cell? ⟨w.heap.size + 1, 0, none⟩ = some (.int .i64 bh) := cell_keep hX1 c3
  replace c4 : w1.cell? ⟨w.heap.size + 1, 1, none⟩ = some (.slice A bs.length d) := cell_keep hX1 c4
  replace c5 : w1.cell? ⟨w.heap.size + 1 + 1, 0, none⟩ = some (.slice A_pa pa.length c_pa) := cell_keep hX1 c5
  replace c6 : w1.cell? ⟨w.heap.size + 1 + 1, 1, none⟩ = some (.slice A_pc pc.length c_pc) := cell_keep hX1 c6
  replace c7 : w1.cell? ⟨w.heap.size + 1 + 1, 2, none⟩ = some (.slice A_pr pr.length c_pr) := cell_keep hX1 c7
  replace x0 : RI w1 w1.heap.size A bs := (x0).next hX1
  replace x1 : RI w1 w1.heap.size A_c cs := (x1).next hX1
  replace x2 : RI w1 w1.heap.size A_pa pa := (x2).next hX1
  replace x3 : RI w1 w1.heap.size A_pc pc := (x3).next hX1
  replace x4 : RI w1 w1.heap.size A_pr pr := (x4).next hX1
  rcases Bool.eq_false_or_eq_true (l9B p q g bh bs) with h1 | h1
  rotate_left
  · have hR := Lib.hid (show vsV p q g bh bs cs t pa pc pr = (false, false) by unfold vsV; rw [if_neg fun hh => Bool.false_ne_true (h1.symm.trans hh.1)])
    go_wp2
    go_ret2
    exact ⟨ret_bb (by rw [hR.out]) (by rw [hR.out]), hT1⟩
  obtain ⟨hg, hbb⟩ := l9B_of h1
  obtain ⟨hbe, hb24, hbs⟩ := basesB_of hbb
  have hbd := elem_bd hbe
  have hG := M.goodB_of hg
  have g1 := hG.q2
  have g2 := hG.qp
  have g3 := hG.p3
  have g4 := hG.pM
  have HG := Lib.hid hG
  clear hG
  go_wp2_with fail
  refine (l1In_any _ _ _ _).mono ?_
  rintro e2 w2 ⟨rfl, rfl⟩
  rcases Bool.eq_false_or_eq_true (inr cs.length 1 24) with h2 | h2
  rotate_left
  · have hR := Lib.hid (show vsV p q g bh bs cs t pa pc pr = (false, false) by unfold vsV; rw [if_neg fun hh => Bool.false_ne_true (h2.symm.trans hh.2.1)])
    go_wp2
    go_ret2
    exact ⟨ret_bb (by rw [hR.out]) (by rw [hR.out]), hT1⟩
  go_wp2_with fail
  refine (gIs_any p q g HG.out A_c c_c cs hl_c _ ((x1).next (by repeat (first | exact Below.refl _ _ | refine bnew ?_ _ | refine Below.drew ?_ | refine Below.drewN ?_ _ | (refine below_set _ ?_ ?_; rotate_left; focus (first | omega | (simp; done) | (simp <;> omega))))))).mono ?_
  rintro e3 w3 ⟨rfl, hb3⟩
  have hX3 : Below w1.heap.size w1 w3 := bnext (by repeat (first | exact Below.refl _ _ | refine bnew ?_ _ | refine Below.drew ?_ | refine Below.drewN ?_ _ | (refine below_set _ ?_ ?_; rotate_left; focus (first | omega | (simp; done) | (simp <;> omega))))) hb3
  have hT3 : Below w.heap.size w w3 := bnext hT1 hX3
  replace c0 : w3.cell? ⟨w.heap.size, 0, none⟩ = some (.int .i64 p) := cell_keep hX3 c0
  replace c1 : w3.cell? ⟨w.heap.size, 1, none⟩ = some (.int .i64 q) := cell_keep hX3 c1
  replace c2 : w3.cell? ⟨w.heap.size, 2, none⟩ = some (.int .i64 g) := cell_keep hX3 c2
  replace c3 : w3.cell? ⟨w.heap.size + 1, 0, none⟩ = some (.int .i64 bh) := cell_keep hX3 c3
  replace c4 : w3.cell? ⟨w.heap.size + 1, 1, none⟩ = some (.slice A bs.length d) := cell_keep hX3 c4
  replace c5 : w3.cell? ⟨w.heap.size + 1 + 1, 0, none⟩ = some (.slice A_pa pa.length c_pa) := cell_keep hX3 c5
  replace c6 : w3.cell? ⟨w.heap.size + 1 + 1, 1, none⟩ = some (.slice A_pc pc.length c_pc) := cell_keep hX3 c6
  replace c7 : w3.cell? ⟨w.heap.size + 1 + 1, 2, none⟩ = some (.slice A_pr pr.length c_pr) := cell_keep hX3 c7
  replace x0 : RI w3 w3.heap.size A bs := (x0).next hX3
  replace x1 : RI w3 w3.heap.size A_c cs := (x1).next hX3
  replace x2 : RI w3 w3.heap.size A_pa pa := (x2).next hX3
  replace x3 : RI w3 w3.heap.size A_pc pc := (x3).next hX3
  replace x4 : RI w3 w3.heap.size A_pr pr := (x4).next hX3
  rcases Bool.eq_false_or_eq_true (elemsB p q cs) with h3 | h3
  rotate_left
  · have hR := Lib.hid (show vsV p q g bh bs cs t pa pc pr = (false, false) by unfold vsV; rw [if_neg fun hh => Bool.false_ne_true (h3.symm.trans hh.2.2.1)])
    go_wp2
    go_ret2
    exact ⟨ret_bb (by rw [hR.out]) (by rw [hR.out]), hT3⟩
  go_wp2_with fail
  refine (gExps_any p q g _ _ [t] _ (by omega) (RI.lit _ [t] _ (by simp)) (by simp)).mono ?_
  rw [show expsB q [t] = inr t 0 (q - 1) from by simp [expsB]]
  rintro e4 w4 ⟨rfl, hb4⟩
  have hX4 : Below w3.heap.size w3 w4 := bnext (by repeat (first | exact Below.refl _ _ | refine bnew ?_ _ | refine Below.drew ?_ | refine Below.drewN ?_ _ | (refine below_set _ ?_ ?_; rotate_left; focus (first | omega | (simp; done) | (simp <;> omega))))) hb4
  have hT4 : Below w.heap.size w w4 := bnext hT3 hX4
  replace c0 : w4.cell? ⟨w.heap.size, 0, none⟩ = some (.int .i64 p) := cell_keep hX4 c0
  replace c1 : w4.cell? ⟨w.heap.size, 1, none⟩ = some (.int .i64 q) := cell_keep hX4 c1
  replace c2 : w4.cell? ⟨w.heap.size, 2, none⟩ = some (.int .i64 g) := cell_keep hX4 c2
  replace c3 : w4.cell? ⟨w.heap.size + 1, 0, none⟩ = some (.int .i64 bh) := cell_keep hX4 c3
  replace c4 : w4.cell? ⟨w.heap.size + 1, 1, none⟩ = some (.slice A bs.length d) := cell_keep hX4 c4
  replace c5 : w4.cell? ⟨w.heap.size + 1 + 1, 0, none⟩ = some (.slice A_pa pa.length c_pa) := cell_keep hX4 c5
  replace c6 : w4.cell? ⟨w.heap.size + 1 + 1, 1, none⟩ = some (.slice A_pc pc.length c_pc) := cell_keep hX4 c6
  replace c7 : w4.cell? ⟨w.heap.size + 1 + 1, 2, none⟩ = some (.slice A_pr pr.length c_pr) := cell_keep hX4 c7
  replace x0 : RI w4 w4.heap.size A bs := (x0).next hX4
  replace x1 : RI w4 w4.heap.size A_c cs := (x1).next hX4
  replace x2 : RI w4 w4.heap.size A_pa pa := (x2).next hX4
  replace x3 : RI w4 w4.heap.size A_pc pc := (x3).next hX4
  replace x4 : RI w4 w4.heap.size A_pr pr := (x4).next hX4
  rcases Bool.eq_false_or_eq_true (inr t 0 (q - 1)) with h4 | h4
  rotate_left
  · have hR := Lib.hid (show vsV p q g bh bs cs t pa pc pr = (false, false) by unfold vsV; rw [if_neg fun hh => Bool.false_ne_true (h4.symm.trans hh.2.2.2)])
    go_wp2
    go_ret2
    exact ⟨ret_bb (by rw [hR.out]) (by rw [hR.out]), hT4⟩
  have bt := inr_exp h4
  have hcl := Lib.hid (elemsB_bd h3)
  obtain ⟨cc, hcc⟩ : ∃ v : Int, v = M.mulL p cs := ⟨_, rfl⟩
  have bc : 0 ≤ cc ∧ cc < p := hcc ▸ mulL_bd g3 cs
  have hR := Lib.hid (show vsV p q g bh bs cs t pa pc pr = (sumV p q g bh cc t pa pc pr, true) by unfold vsV; rw [if_pos ⟨h1, h2, h3, h4⟩, hcc])
  have HC := Lib.hid hcc
  have g5 : 0 ≤ g ∧ g < p := ⟨by have := HG.out.g2; omega, HG.out.gp⟩
  have wnt : IntKind.i64.wrap (-t) = -t := IntWalk.i64_in _ (by omega)
  clear hcc h1 h2 h3
  go_wp2_with fail
  refine (l9Form_any p q g 1 1 1 HG.out A_pa c_pa pa A_pc c_pc pc A_pr c_pr pr hl_pa hl_pc hl_pr _ ((x2).next (by repeat (first | exact Below.refl _ _ | refine bnew ?_ _ | refine Below.drew ?_ | refine Below.drewN ?_ _ | (refine below_set _ ?_ ?_; rotate_left; focus (first | omega | (simp; done) | (simp <;> omega)))))) ((x3).next (by repeat (first | exact Below.refl _ _ | refine bnew ?_ _ | refine Below.drew ?_ | refine Below.drewN ?_ _ | (refine below_set _ ?_ ?_; rotate_left; focus (first | omega | (simp; done) | (simp <;> omega)))))) ((x4).next (by repeat (first | exact Below.refl _ _ | refine bnew ?_ _ | refine Below.drew ?_ | refine Below.drewN ?_ _ | (refine below_set _ ?_ ?_; rotate_left; focus (first | omega | (simp; done) | (simp <;> omega))))))).mono ?_
  rintro e5 w5 ⟨rfl, hb5⟩
  have hX5 : Below w4.heap.size w4 w5 := bnext (by repeat (first | exact Below.refl _ _ | refine bnew ?_ _ | refine Below.drew ?_ | refine Below.drewN ?_ _ | (refine below_set _ ?_ ?_; rotate_left; focus (first | omega | (simp; done) | (simp <;> omega))))) hb5
  have hT5 : Below w.heap.size w w5 := bnext hT4 hX5
  replace c0 : w5.cell? ⟨w.heap.size, 0, none⟩ = some (.int .i64 p) := cell_keep hX5 c0
  replace c1 : w5.cell? ⟨w.heap.size, 1, none⟩ = some (.int .i64 q) := cell_keep hX5 c1
  replace c2 : w5.cell? ⟨w.heap.size, 2, none⟩ = some (.int .i64 g) := cell_keep hX5 c2
  replace c3 : w5.cell? ⟨w.heap.size + 1, 0, none⟩ = some (.int .i64 bh) := cell_keep hX5 c3
  replace c4 : w5.cell? ⟨w.heap.size + 1, 1, none⟩ = some (.slice A bs.length d) := cell_keep hX5 c4
  replace c5 : w5.cell? ⟨w.heap.size + 1 + 1, 0, none⟩ = some (.slice A_pa pa.length c_pa) := cell_keep hX5 c5
  replace c6 : w5.cell? ⟨w.heap.size + 1 + 1, 1, none⟩ = some (.slice A_pc pc.length c_pc) := cell_keep hX5 c6
  replace c7 : w5.cell? ⟨w.heap.size + 1 + 1, 2, none⟩ = some (.slice A_pr pr.length c_pr) := cell_keep hX5 c7
  replace x0 : RI w5 w5.heap.size A bs := (x0).next hX5
  replace x1 : RI w5 w5.heap.size A_c cs := (x1).next hX5
  replace x2 : RI w5 w5.heap.size A_pa pa := (x2).next hX5
  replace x3 : RI w5 w5.heap.size A_pc pc := (x3).next hX5
  replace x4 : RI w5 w5.heap.size A_pr pr := (x4).next hX5
  rcases Bool.eq_false_or_eq_true (formB p q pa pc pr 1 1 1) with hf | hf
  rotate_left
  · have hO := Lib.hid (show sumV p q g bh cc t pa pc pr = false by
      cases ho : sumV p q g bh cc t pa pc pr with
      | false => rfl
      | true =>
        unfold sumV at ho
        simp only [Bool.and_eq_true, beq_iff_eq] at ho
        obtain ⟨⟨⟨⟨⟨⟨o1, o2⟩, o3⟩, o4⟩, o5⟩, o6⟩, o7⟩ := ho
        have e1 := len1 (l := pa) (by omega)
        have e2 := len1 (l := pc) (by omega)
        have e3 := len1 (l := pr) (by omega)
        have h : formB p q pa pc pr 1 1 1 = true := by
          unfold formB
          simp only [Bool.and_eq_true, beq_iff_eq]
          refine ⟨⟨⟨⟨⟨o1, o2⟩, o3⟩, ?_⟩, ?_⟩, ?_⟩
          · rw [e1]; simpa [elemsB] using o4
          · rw [e2, o6]
            have := chS_lt (p := p) (g := g) (bh := bh) (c := cc) (t := t) (x := pa.getD 0 0) g1
            simp only [expsB, List.all_cons, List.all_nil, Bool.and_true]
            exact inr_mk ⟨this.1, by have := this.2; omega⟩
          · rw [e3]; simpa [expsB] using o5
        rw [h] at hf; cases hf)
    go_wp2
    go_ret2
    exact ⟨ret_bb (by rw [hR.out, hO.out]) (by rw [hR.out]), hT5⟩
  have hfk := hf
  unfold formB at hf
  simp only [Bool.and_eq_true, beq_iff_eq] at hf
  obtain ⟨⟨⟨⟨⟨o1, o2⟩, o3⟩, o4⟩, o5⟩, o6⟩ := hf
  obtain ⟨px, hpx⟩ : ∃ v : Int, v = pa.getD 0 0 := ⟨_, rfl⟩
  obtain ⟨pe, hpe⟩ : ∃ v : Int, v = pc.getD 0 0 := ⟨_, rfl⟩
  obtain ⟨pz, hpz⟩ : ∃ v : Int, v = pr.getD 0 0 := ⟨_, rfl⟩
  have l1 : 0 < pa.length := by omega
  have l2 : 0 < pc.length := by omega
  have l3 : 0 < pr.length := by omega
  have m0 : 0 ≤ px ∧ px < p := hpx ▸ elem_bd (elemsB_mem o4 (getD_mem l1))
  have m1 : 0 ≤ pe ∧ pe < q := hpe ▸ expsB_mem o5 (getD_mem l2)
  have m2 : 0 ≤ pz ∧ pz < q := hpz ▸ expsB_mem o6 (getD_mem l3)
  obtain ⟨ee, hee⟩ : ∃ v : Int, v = chS p q g bh cc t px := ⟨_, rfl⟩
  have HO := Lib.hid (show sumV p q g bh cc t pa pc pr = ((pe == ee) && (M.gpw p q bh pz == px * M.gpw p q (cc * M.gpw p q g (-t) % p) ee % p)) by
    have e1 := elemsB_mem o4 (getD_mem l1)
    unfold sumV
    rw [o1, o2, o3, elemB_mk e1, ← hpz, inr_mk ⟨m2.1, by omega⟩, ← hpx, ← hpe, ← hee]
    simp only [beq_self_eq_true, Bool.true_and])
  have HE := Lib.hid hee
  obtain ⟨ad0, ea0⟩ := hx_pa.ad
  obtain rfl := ea0 l1
  obtain ⟨ad1, ea1⟩ := hx_pc.ad
  obtain rfl := ea1 l2
  obtain ⟨ad2, ea2⟩ := hx_pr.ad
  obtain rfl := ea2 l3
  have z1 : (0 : Int) < (pa.length : Int) := by omega
  have z2 : (0 : Int) < (pc.length : Int) := by omega
  have z3 : (0 : Int) < (pr.length : Int) := by omega
  clear o1 o2 o3 o4 o5 o6 ea0 ea1 ea2 hee
  have y0 : w5.cell? ad0 = some (.int .i64 px) := by
    have := x2.get 0 (by omega)
    rwa [add0, ← hpx] at this
  have y1 : w5.cell? ad1 = some (.int .i64 pe) := by
    have := x3.get 0 (by omega)
    rwa [add0, ← hpe] at this
  have y2 : w5.cell? ad2 = some (.int .i64 pz) := by
    have := x4.get 0 (by omega)
    rwa [add0, ← hpz] at this
  clear hpx hpe hpz
  go_wp2_with fail
  refine (gMul_any p q g HG.out A_c c_c cs hl_c _ ((x1).next (by repeat (first | exact Below.refl _ _ | refine bnew ?_ _ | refine Below.drew ?_ | refine Below.drewN ?_ _ | (refine below_set _ ?_ ?_; rotate_left; focus (first | omega | (simp; done) | (simp <;> omega)))))) hcl.out).mono ?_
  rw [← HC.out]
  rintro e6 w6 ⟨rfl, hb6⟩
  have hX6 : Below w5.heap.size w5 w6 := bnext (by repeat (first | exact Below.refl _ _ | refine bnew ?_ _ | refine Below.drew ?_ | refine Below.drewN ?_ _ | (refine below_set _ ?_ ?_; rotate_left; focus (first | omega | (simp; done) | (simp <;> omega))))) hb6
  have hT6 : Below w.heap.size w w6 := bnext hT5 hX6
  replace c0 : w6.cell? ⟨w.heap.size, 0, none⟩ = some (.int .i64 p) := cell_keep hX6 c0
  replace c1 : w6.cell? ⟨w.heap.size, 1, none⟩ = some (.int .i64 q) := cell_keep hX6 c1
  replace c2 : w6.cell? ⟨w.heap.size, 2, none⟩ = some (.int .i64 g) := cell_keep hX6 c2
  replace c3 : w6.cell? ⟨w.heap.size + 1, 0, none⟩ = some (.int .i64 bh) := cell_keep hX6 c3
  replace c4 : w6.cell? ⟨w.heap.size + 1, 1, none⟩ = some (.slice A bs.length d) := cell_keep hX6 c4
  replace c5 : w6.cell? ⟨w.heap.size + 1 + 1, 0, none⟩ = some (.slice (some ad0) pa.length c_pa) := cell_keep hX6 c5
  replace c6 : w6.cell? ⟨w.heap.size + 1 + 1, 1, none⟩ = some (.slice (some ad1) pc.length c_pc) := cell_keep hX6 c6
  replace c7 : w6.cell? ⟨w.heap.size + 1 + 1, 2, none⟩ = some (.slice (some ad2) pr.length c_pr) := cell_keep hX6 c7
  replace x0 : RI w6 w6.heap.size A bs := (x0).next hX6
  replace x1 : RI w6 w6.heap.size A_c cs := (x1).next hX6
  replace x2 : RI w6 w6.heap.size (some ad0) pa := (x2).next hX6
  replace x3 : RI w6 w6.heap.size (some ad1) pc := (x3).next hX6
  replace x4 : RI w6 w6.heap.size (some ad2) pr := (x4).next hX6
  replace y0 : w6.cell? ad0 = some (.int .i64 px) := cell_keep hX6 y0
  replace y1 : w6.cell? ad1 = some (.int .i64 pe) := cell_keep hX6 y1
  replace y2 : w6.cell? ad2 = some (.int .i64 pz) := cell_keep hX6 y2
  go_wp2_with fail
  refine wp_region_chain (fun W => W.cell? ⟨w.heap.size, 0, none⟩ = some (.int .i64 p) ∧ W.cell? ⟨w.heap.size, 1, none⟩ = some (.int .i64 q) ∧ W.cell? ⟨w.heap.size, 2, none⟩ = some (.int .i64 g) ∧ W.cell? ⟨w.heap.size + 1, 0, none⟩ = some (.int .i64 bh) ∧ W.cell? ⟨w.heap.size + 1, 1, none⟩ = some (.slice A bs.length d) ∧ W.cell? ⟨w.heap.size + 1 + 1, 0, none⟩ = some (.slice (some ad0) pa.length c_pa) ∧ W.cell? ⟨w.heap.size + 1 + 1, 1, none⟩ = some (.slice (some ad1) pc.length c_pc) ∧ W.cell? ⟨w.heap.size + 1 + 1, 2, none⟩ = some (.slice (some ad2) pr.length c_pr) ∧ RI W W.heap.size A bs ∧ RI W W.heap.size A_c cs ∧ RI W W.heap.size (some ad0) pa ∧ RI W W.heap.size (some ad1) pc ∧ RI W W.heap.size (some ad2) pr ∧ W.cell? ad0 = some (.int .i64 px) ∧ W.cell? ad1 = some (.int .i64 pe) ∧ W.cell? ad2 = some (.int .i64 pz))
    10 [some 45, some 46, some 47, some 48, some 49, some 50, some 51, some 52, some 13, some 14] (by kernel_rfl) (by kernel_rfl) (by kernel_rfl) (by decide) (by rfl) (by kernel_rfl) (by kernel_rfl) ?hS0 ?hSs ?hc
  case hS0 => exact ⟨cell_keep (Below.drew (by repeat (first | exact Below.refl _ _ | refine bnew ?_ _ | refine Below.drew ?_ | refine Below.drewN ?_ _ | (refine below_set _ ?_ ?_; rotate_left; focus (first | omega | (simp; done) | (simp <;> omega)))))) c0, cell_keep (Below.drew (by repeat (first | exact Below.refl _ _ | refine bnew ?_ _ | refine Below.drew ?_ | refine Below.drewN ?_ _ | (refine below_set _ ?_ ?_; rotate_left; focus (first | omega | (simp; done) | (simp <;> omega)))))) c1, cell_keep (Below.drew (by repeat (first | exact Below.refl _ _ | refine bnew ?_ _ | refine Below.drew ?_ | refine Below.drewN ?_ _ | (refine below_set _ ?_ ?_; rotate_left; focus (first | omega | (simp; done) | (simp <;> omega)))))) c2, cell_keep (Below.drew (by repeat (first | exact Below.refl _ _ | refine bnew ?_ _ | refine Below.drew ?_ | refine Below.drewN ?_ _ | (refine below_set _ ?_ ?_; rotate_left; focus (first | omega | (simp; done) | (simp <;> omega)))))) c3, cell_keep (Below.drew (by repeat (first | exact Below.refl _ _ | refine bnew ?_ _ | refine Below.drew ?_ | refine Below.drewN ?_ _ | (refine below_set _ ?_ ?_; rotate_left; focus (first | omega | (simp; done) | (simp <;> omega)))))) c4, cell_keep (Below.drew (by repeat (first | exact Below.refl _ _ | refine bnew ?_ _ | refine Below.drew ?_ | refine Below.drewN ?_ _ | (refine below_set _ ?_ ?_; rotate_left; focus (first | omega | (simp; done) | (simp <;> omega)))))) c5, cell_keep (Below.drew (by repeat (first | exact Below.refl _ _ | refine bnew ?_ _ | refine Below.drew ?_ | refine Below.drewN ?_ _ | (refine below_set _ ?_ ?_; rotate_left; focus (first | omega | (simp; done) | (simp <;> omega)))))) c6, cell_keep (Below.drew (by repeat (first | exact Below.refl _ _ | refine bnew ?_ _ | refine Below.drew ?_ | refine Below.drewN ?_ _ | (refine below_set _ ?_ ?_; rotate_left; focus (first | omega | (simp; done) | (simp <;> omega)))))) c7, (x0).next (Below.drew (by repeat (first | exact Below.refl _ _ | refine bnew ?_ _ | refine Below.drew ?_ | refine Below.drewN ?_ _ | (refine below_set _ ?_ ?_; rotate_left; focus (first | omega | (simp; done) | (simp <;> omega)))))), (x1).next (Below.drew (by repeat (first | exact Below.refl _ _ | refine bnew ?_ _ | refine Below.drew ?_ | refine Below.drewN ?_ _ | (refine below_set _ ?_ ?_; rotate_left; focus (first | omega | (simp; done) | (simp <;> omega)))))), (x2).next (Below.drew (by repeat (first | exact Below.refl _ _ | refine bnew ?_ _ | refine Below.drew ?_ | refine Below.drewN ?_ _ | (refine below_set _ ?_ ?_; rotate_left; focus (first | omega | (simp; done) | (simp <;> omega)))))), (x3).next (Below.drew (by repeat (first | exact Below.refl _ _ | refine bnew ?_ _ | refine Below.drew ?_ | refine Below.drewN ?_ _ | (refine below_set _ ?_ ?_; rotate_left; focus (first | omega | (simp; done) | (simp <;> omega)))))), (x4).next (Below.drew (by repeat (first | exact Below.refl _ _ | refine bnew ?_ _ | refine Below.drew ?_ | refine Below.drewN ?_ _ | (refine below_set _ ?_ ?_; rotate_left; focus (first | omega | (simp; done) | (simp <;> omega)))))), cell_keep (Below.drew (by repeat (first | exact Below.refl _ _ | refine bnew ?_ _ | refine Below.drew ?_ | refine Below.drewN ?_ _ | (refine below_set _ ?_ ?_; rotate_left; focus (first | omega | (simp; done) | (simp <;> omega)))))) y0, cell_keep (Below.drew (by repeat (first | exact Below.refl _ _ | refine bnew ?_ _ | refine Below.drew ?_ | refine Below.drewN ?_ _ | (refine below_set _ ?_ ?_; rotate_left; focus (first | omega | (simp; done) | (simp <;> omega)))))) y1, cell_keep (Below.drew (by repeat (first | exact Below.refl _ _ | refine bnew ?_ _ | refine Below.drew ?_ | refine Below.drewN ?_ _ | (refine below_set _ ?_ ?_; rotate_left; focus (first | omega | (simp; done) | (simp <;> omega)))))) y2⟩
  case hSs => exact fun w1 w2 ⟨hc0, hc1, hc2, hc3, hc4, hc5, hc6, hc7, hx0, hx1, hx2, hx3, hx4, hy0, hy1, hy2⟩ hb => ⟨cell_keep hb hc0, cell_keep hb hc1, cell_keep hb hc2, cell_keep hb hc3, cell_keep hb hc4, cell_keep hb hc5, cell_keep hb hc6, cell_keep hb hc7, (hx0).next hb, (hx1).next hb, (hx2).next hb, (hx3).next hb, (hx4).next hb, cell_keep hb hy0, cell_keep hb hy1, cell_keep hb hy2⟩
  apply Chain.det
  · intro a w1 hS hb hd K hK
    obtain ⟨c0, c1, c2, c3, c4, c5, c6, c7, x0, x1, x2, x3, x4, y0, y1, y2⟩ := hS
    have b9 := hb 9 _ rfl (by decide)
    clear hb
    simp only [depsOK] at hd
    go_simp
    exact hK _ _ rfl (Below.refl _ _)
  show Chain _ _ _ _ _ _ _ _ _ _ _ 9 1 _
  apply Chain.det
  · intro a w1 hS hb hd K hK
    obtain ⟨c0, c1, c2, c3, c4, c5, c6, c7, x0, x1, x2, x3, x4, y0, y1, y2⟩ := hS
    clear hb
    simp only [depsOK, updR, Region.binds, reduceIte, forall_const, and_true, eqV, List.getElem?_cons_zero, exists_eq_right] at hd
    go_simp
    exact hK _ _ rfl (Below.refl _ _)
  show Chain _ _ _ _ _ _ _ _ _ _ _ 8 2 _
  apply Chain.det
  · intro a w1 hS hb hd K hK
    obtain ⟨c0, c1, c2, c3, c4, c5, c6, c7, x0, x1, x2, x3, x4, y0, y1, y2⟩ := hS
    clear hb
    simp only [depsOK, updR, Region.binds, reduceIte, forall_const, and_true, eqV, List.getElem?_cons_zero, List.getElem?_cons_succ, exists_eq_right, Nat.succ_ne_self] at hd
    go_simp
    exact hK _ _ rfl (Below.refl _ _)
  show Chain _ _ _ _ _ _ _ _ _ _ _ 7 3 _
  apply Chain.det
  · intro a w1 hS hb hd K hK
    obtain ⟨c0, c1, c2, c3, c4, c5, c6, c7, x0, x1, x2, x3, x4, y0, y1, y2⟩ := hS
    clear hb
    simp only [depsOK, updR, Region.binds, reduceIte, forall_const, and_true, eqV, List.getElem?_cons_zero, List.getElem?_cons_succ, exists_eq_right, reduceCtorEq, Nat.succ_ne_self] at hd
    go_simp
    exact hK _ _ rfl (Below.refl _ _)
  show Chain _ _ _ _ _ _ _ _ _ _ _ 6 4 _
  apply Chain.det
  · intro a w1 hS hb hd K hK
    obtain ⟨c0, c1, c2, c3, c4, c5, c6, c7, x0, x1, x2, x3, x4, y0, y1, y2⟩ := hS
    have b9 := hb 9 _ rfl (by decide)
    clear hb
    simp only [depsOK, updR, Region.binds, reduceIte, Nat.reduceEqDiff, and_true, List.getElem?_cons_zero, List.getElem?_cons_succ, reduceCtorEq] at hd
    go_simp
    exact hK _ _ rfl (Below.refl _ _)
  show Chain _ _ _ _ _ _ _ _ _ _ _ 5 5 _
  apply Chain.det
  · intro a w1 hS hb hd K hK
    obtain ⟨c0, c1, c2, c3, c4, c5, c6, c7, x0, x1, x2, x3, x4, y0, y1, y2⟩ := hS
    clear hb
    simp only [depsOK, updR, Region.binds, reduceIte, Nat.reduceEqDiff, forall_const, and_true, eqV, List.getElem?_cons_zero, List.getElem?_cons_succ, exists_eq_right, reduceCtorEq, Nat.succ_ne_self] at hd
    go_simp
    exact hK _ _ rfl (Below.refl _ _)
  show Chain _ _ _ _ _ _ _ _ _ _ _ 4 6 _
  apply Chain.det
  · intro a w1 hS hb hd K hK
    obtain ⟨c0, c1, c2, c3, c4, c5, c6, c7, x0, x1, x2, x3, x4, y0, y1, y2⟩ := hS
    clear hb
    simp only [depsOK, updR, Region.binds, reduceIte, Nat.reduceEqDiff, forall_const, and_true, eqV, List.getElem?_cons_zero, List.getElem?_cons_succ, exists_eq_right, reduceCtorEq, Nat.succ_ne_self] at hd
    go_simp
    exact hK _ _ rfl (Below.refl _ _)
  show Chain _ _ _ _ _ _ _ _ _ _ _ 3 7 _
  apply Chain.det
  · intro a w1 hS hb hd K hK
    obtain ⟨c0, c1, c2, c3, c4, c5, c6, c7, x0, x1, x2, x3, x4, y0, y1, y2⟩ := hS
    clear hb
    simp only [depsOK, updR, Region.binds, reduceIte, Nat.reduceEqDiff, forall_const, and_true, eqV, List.getElem?_cons_zero, List.getElem?_cons_succ, exists_eq_right, reduceCtorEq, Nat.succ_ne_self] at hd
    go_simp
    exact hK _ _ rfl (Below.refl _ _)
  show Chain _ _ _ _ _ _ _ _ _ _ _ 2 8 _
  apply Chain.det
  · intro a w1 hS hb hd K hK
    obtain ⟨c0, c1, c2, c3, c4, c5, c6, c7, x0, x1, x2, x3, x4, y0, y1, y2⟩ := hS
    clear hb
    simp only [depsOK, updR, Region.binds, reduceIte, Nat.reduceEqDiff, forall_const, and_true, eqV, List.getElem?_cons_zero, List.getElem?_cons_succ, exists_eq_right, reduceCtorEq, Nat.succ_ne_self] at hd
    go_simp
    exact hK _ _ rfl (Below.refl _ _)
  show Chain _ _ _ _ _ _ _ _ _ _ _ 1 9 _
  apply Chain.det
  · intro a w1 hS hb hd K hK
    obtain ⟨c0, c1, c2, c3, c4, c5, c6, c7, x0, x1, x2, x3, x4, y0, y1, y2⟩ := hS
    clear hb
    simp only [depsOK, updR, Region.binds, reduceIte, Nat.reduceEqDiff, forall_const, and_true, eqV, List.getElem?_cons_zero, List.getElem?_cons_succ, exists_eq_right, reduceCtorEq, Nat.succ_ne_self] at hd
    go_simp
    exact hK _ _ rfl (Below.refl _ _)
  show Chain _ _ _ _ _ _ _ _ _ _ _ 0 10 _
  intro x w7 hS hB7 hR y hY hA hE
  have r8 := hR 8 _ rfl
  simp only [updR, reduceIte, Nat.reduceEqDiff, eqV] at r8
  have r9 := hR 9 _ rfl
  simp only [updR, reduceIte, Nat.reduceEqDiff, eqV] at r9
  clear hR hY hA hE
  simp only [TailWp, fillB, Act.put, List.setIfInBounds_toArray, List.set_cons_zero, List.set_cons_succ, Nat.reduceAdd, r8, r9]
  clear r8
  clear r9
  have hX7 : Below w6.heap.size w6 w7 := bnext (Below.drew (by repeat (first | exact Below.refl _ _ | refine bnew ?_ _ | refine Below.drew ?_ | refine Below.drewN ?_ _ | (refine below_set _ ?_ ?_; rotate_left; focus (first | omega | (simp; done) | (simp <;> omega)))))) hB7
  clear hB7
  have hT7 : Below w.heap.size w w7 := bnext hT6 hX7
  clear c0 c1 c2 c3 c4 c5 c6 c7 x0 x1 x2 x3 x4 y0 y1 y2
  obtain ⟨c0, c1, c2, c3, c4, c5, c6, c7, x0, x1, x2, x3, x4, y0, y1, y2⟩ := hS
  go_wp2_with fail
  refine (rSumChallenge_any p q g bh cc t px A bs.length d HG.out hbd bc bt m0 _).mono ?_
  rw [← HE.out]
  rintro e8 w8 ⟨rfl, hb8⟩
  have hX8 : Below w7.heap.size w7 w8 := bnext (by repeat (first | exact Below.refl _ _ | refine bnew ?_ _ | refine Below.drew ?_ | refine Below.drewN ?_ _ | (refine below_set _ ?_ ?_; rotate_left; focus (first | omega | (simp; done) | (simp <;> omega))))) hb8
  have hT8 : Below w.heap.size w w8 := bnext hT7 hX8
  replace c0 : w8.cell? ⟨w.heap.size, 0, none⟩ = some (.int .i64 p) := cell_keep hX8 c0
  replace c1 : w8.cell? ⟨w.heap.size, 1, none⟩ = some (.int .i64 q) := cell_keep hX8 c1
  replace c2 : w8.cell? ⟨w.heap.size, 2, none⟩ = some (.int .i64 g) := cell_keep hX8 c2
  replace c3 : w8.cell? ⟨w.heap.size + 1, 0, none⟩ = some (.int .i64 bh) := cell_keep hX8 c3
  replace c4 : w8.cell? ⟨w.heap.size + 1, 1, none⟩ = some (.slice A bs.length d) := cell_keep hX8 c4
  replace c5 : w8.cell? ⟨w.heap.size + 1 + 1, 0, none⟩ = some (.slice (some ad0) pa.length c_pa) := cell_keep hX8 c5
  replace c6 : w8.cell? ⟨w.heap.size + 1 + 1, 1, none⟩ = some (.slice (some ad1) pc.length c_pc) := cell_keep hX8 c6
  replace c7 : w8.cell? ⟨w.heap.size + 1 + 1, 2, none⟩ = some (.slice (some ad2) pr.length c_pr) := cell_keep hX8 c7
  replace x0 : RI w8 w8.heap.size A bs := (x0).next hX8
  replace x1 : RI w8 w8.heap.size A_c cs := (x1).next hX8
  replace x2 : RI w8 w8.heap.size (some ad0) pa := (x2).next hX8
  replace x3 : RI w8 w8.heap.size (some ad1) pc := (x3).next hX8
  replace x4 : RI w8 w8.heap.size (some ad2) pr := (x4).next hX8
  replace y0 : w8.cell? ad0 = some (.int .i64 px) := cell_keep hX8 y0
  replace y1 : w8.cell? ad1 = some (.int .i64 pe) := cell_keep hX8 y1
  replace y2 : w8.cell? ad2 = some (.int .i64 pz) := cell_keep hX8 y2
  rcases Bool.eq_false_or_eq_true ((pe == ee)) with h5 | h5
  rotate_left
  · have h5n : (pe != ee) = true := by rw [bne, h5]; rfl
    have hO := Lib.hid (show sumV p q g bh cc t pa pc pr = false by rw [HO.out, h5]; rfl)
    go_wp2
    go_ret2
    exact ⟨ret_bb (by rw [hR.out, hO.out]) (by rw [hR.out]), hT8⟩
  have h5n : (pe != ee) = false := by rw [bne, h5]; rfl
  obtain rfl := beq_iff_eq.1 h5
  have be : 0 ≤ pe ∧ pe < q := m1
  go_wp2_with fail
  clear h5n h5
  obtain ⟨b1, hb1⟩ : ∃ b : Bool, b = (M.gpw p q bh pz == px * M.gpw p q (cc * M.gpw p q g (-t) % p) pe % p) := ⟨_, rfl⟩
  have Hb1 := Lib.hid hb1
  clear hb1
  refine wp_region_chain (fun W => W.cell? ⟨w.heap.size, 0, none⟩ = some (.int .i64 p) ∧ W.cell? ⟨w.heap.size, 1, none⟩ = some (.int .i64 q) ∧ W.cell? ⟨w.heap.size, 2, none⟩ = some (.int .i64 g) ∧ W.cell? ⟨w.heap.size + 1, 0, none⟩ = some (.int .i64 bh) ∧ W.cell? ⟨w.heap.size + 1, 1, none⟩ = some (.slice A bs.length d) ∧ W.cell? ⟨w.heap.size + 1 + 1, 0, none⟩ = some (.slice (some ad0) pa.length c_pa) ∧ W.cell? ⟨w.heap.size + 1 + 1, 1, none⟩ = some (.slice (some ad1) pc.length c_pc) ∧ W.cell? ⟨w.heap.size + 1 + 1, 2, none⟩ = some (.slice (some ad2) pr.length c_pr) ∧ RI W W.heap.size A bs ∧ RI W W.heap.size A_c cs ∧ RI W W.heap.size (some ad0) pa ∧ RI W W.heap.size (some ad1) pc ∧ RI W W.heap.size (some ad2) pr ∧ W.cell? ad0 = some (.int .i64 px) ∧ W.cell? ad1 = some (.int .i64 pe) ∧ W.cell? ad2 = some (.int .i64 pz))
    28 [some 61, some 62, some 63, some 64, some 65, some 66, some 67, some 68, some 69, some 70, some 71, some 72, some 73, some 74, some 75, some 76, some 77, some 78, some 79, some 80, some 81, some 82, some 83, some 84, some 85, some 86, some 10, some 11] (by kernel_rfl) (by kernel_rfl) (by kernel_rfl) (by decide) (by rfl) (by kernel_rfl) (by kernel_rfl) ?hS0 ?hSs ?hc
  case hS0 => exact ⟨cell_keep (Below.drew (by repeat (first | exact Below.refl _ _ | refine bnew ?_ _ | refine Below.drew ?_ | refine Below.drewN ?_ _ | (refine below_set _ ?_ ?_; rotate_left; focus (first | omega | (simp; done) | (simp <;> omega)))))) c0, cell_keep (Below.drew (by repeat (first | exact Below.refl _ _ | refine bnew ?_ _ | refine Below.drew ?_ | refine Below.drewN ?_ _ | (refine below_set _ ?_ ?_; rotate_left; focus (first | omega | (simp; done) | (simp <;> omega)))))) c1, cell_keep (Below.drew (by repeat (first | exact Below.refl _ _ | refine bnew ?_ _ | refine Below.drew ?_ | refine Below.drewN ?_ _ | (refine below_set _ ?_ ?_; rotate_left; focus (first | omega | (simp; done) | (simp <;> omega)))))) c2, cell_keep (Below.drew (by repeat (first | exact Below.refl _ _ | refine bnew ?_ _ | refine Below.drew ?_ | refine Below.drewN ?_ _ | (refine below_set _ ?_ ?_; rotate_left; focus (first | omega | (simp; done) | (simp <;> omega)))))) c3, cell_keep (Below.drew (by repeat (first | exact Below.refl _ _ | refine bnew ?_ _ | refine Below.drew ?_ | refine Below.drewN ?_ _ | (refine below_set _ ?_ ?_; rotate_left; focus (first | omega | (simp; done) | (simp <;> omega)))))) c4, cell_keep (Below.drew (by repeat (first | exact Below.refl _ _ | refine bnew ?_ _ | refine Below.drew ?_ | refine Below.drewN ?_ _ | (refine below_set _ ?_ ?_; rotate_left; focus (first | omega | (simp; done) | (simp <;> omega)))))) c5, cell_keep (Below.drew (by repeat (first | exact Below.refl _ _ | refine bnew ?_ _ | refine Below.drew ?_ | refine Below.drewN ?_ _ | (refine below_set _ ?_ ?_; rotate_left; focus (first | omega | (simp; done) | (simp <;> omega)))))) c6, cell_keep (Below.drew (by repeat (first | exact Below.refl _ _ | refine bnew ?_ _ | refine Below.drew ?_ | refine Below.drewN ?_ _ | (refine below_set _ ?_ ?_; rotate_left; focus (first | omega | (simp; done) | (simp <;> omega)))))) c7, (x0).next (Below.drew (by repeat (first | exact Below.refl _ _ | refine bnew ?_ _ | refine Below.drew ?_ | refine Below.drewN ?_ _ | (refine below_set _ ?_ ?_; rotate_left; focus (first | omega | (simp; done) | (simp <;> omega)))))), (x1).next (Below.drew (by repeat (first | exact Below.refl _ _ | refine bnew ?_ _ | refine Below.drew ?_ | refine Below.drewN ?_ _ | (refine below_set _ ?_ ?_; rotate_left; focus (first | omega | (simp; done) | (simp <;> omega)))))), (x2).next (Below.drew (by repeat (first | exact Below.refl _ _ | refine bnew ?_ _ | refine Below.drew ?_ | refine Below.drewN ?_ _ | (refine below_set _ ?_ ?_; rotate_left; focus (first | omega | (simp; done) | (simp <;> omega)))))), (x3).next (Below.drew (by repeat (first | exact Below.refl _ _ | refine bnew ?_ _ | refine Below.drew ?_ | refine Below.drewN ?_ _ | (refine below_set _ ?_ ?_; rotate_left; focus (first | omega | (simp; done) | (simp <;> omega)))))), (x4).next (Below.drew (by repeat (first | exact Below.refl _ _ | refine bnew ?_ _ | refine Below.drew ?_ | refine Below.drewN ?_ _ | (refine below_set _ ?_ ?_; rotate_left; focus (first | omega | (simp; done) | (simp <;> omega)))))), cell_keep (Below.drew (by repeat (first | exact Below.refl _ _ | refine bnew ?_ _ | refine Below.drew ?_ | refine Below.drewN ?_ _ | (refine below_set _ ?_ ?_; rotate_left; focus (first | omega | (simp; done) | (simp <;> omega)))))) y0, cell_keep (Below.drew (by repeat (first | exact Below.refl _ _ | refine bnew ?_ _ | refine Below.drew ?_ | refine Below.drewN ?_ _ | (refine below_set _ ?_ ?_; rotate_left; focus (first | omega | (simp; done) | (simp <;> omega)))))) y1, cell_keep (Below.drew (by repeat (first | exact Below.refl _ _ | refine bnew ?_ _ | refine Below.drew ?_ | refine Below.drewN ?_ _ | (refine below_set _ ?_ ?_; rotate_left; focus (first | omega | (simp; done) | (simp <;> omega)))))) y2⟩
  case hSs => exact fun w1 w2 ⟨hc0, hc1, hc2, hc3, hc4, hc5, hc6, hc7, hx0, hx1, hx2, hx3, hx4, hy0, hy1, hy2⟩ hb => ⟨cell_keep hb hc0, cell_keep hb hc1, cell_keep hb hc2, cell_keep hb hc3, cell_keep hb hc4, cell_keep hb hc5, cell_keep hb hc6, cell_keep hb hc7, (hx0).next hb, (hx1).next hb, (hx2).next hb, (hx3).next hb, (hx4).next hb, cell_keep hb hy0, cell_keep hb hy1, cell_keep hb hy2⟩
  apply Chain.det
  · intro a w1 hS hb hd K hK
    obtain ⟨c0, c1, c2, c3, c4, c5, c6, c7, x0, x1, x2, x3, x4, y0, y1, y2⟩ := hS
    have b5 := hb 5 _ rfl (by decide)
    clear hb
    simp only [depsOK] at hd
    go_simp
    exact hK _ _ rfl (Below.refl _ _)
  show Chain _ _ _ _ _ _ _ _ _ _ _ 27 1 _
  apply Chain.det
  · intro a w1 hS hb hd K hK
    obtain ⟨c0, c1, c2, c3, c4, c5, c6, c7, x0, x1, x2, x3, x4, y0, y1, y2⟩ := hS
    have b6 := hb 6 _ rfl (by decide)
    clear hb
    simp only [depsOK] at hd
    go_simp
    exact hK _ _ rfl (Below.refl _ _)
  show Chain _ _ _ _ _ _ _ _ _ _ _ 26 2 _
  apply Chain.det
  · intro a w1 hS hb hd K hK
    obtain ⟨c0, c1, c2, c3, c4, c5, c6, c7, x0, x1, x2, x3, x4, y0, y1, y2⟩ := hS
    clear hb
    simp only [depsOK, updR, Region.binds, reduceIte, forall_const, and_true, eqV, List.getElem?_cons_zero, List.getElem?_cons_succ, exists_eq_right, Nat.succ_ne_self] at hd
    go_simp
    exact hK _ _ rfl (Below.refl _ _)
  show Chain _ _ _ _ _ _ _ _ _ _ _ 25 3 _
  apply Chain.det
  · intro a w1 hS hb hd K hK
    obtain ⟨c0, c1, c2, c3, c4, c5, c6, c7, x0, x1, x2, x3, x4, y0, y1, y2⟩ := hS
    have b9 := hb 9 _ rfl (by decide)
    clear hb
    simp only [depsOK] at hd
    go_simp
    exact hK _ _ rfl (Below.refl _ _)
  show Chain _ _ _ _ _ _ _ _ _ _ _ 24 4 _
  apply Chain.det
  · intro a w1 hS hb hd K hK
    obtain ⟨c0, c1, c2, c3, c4, c5, c6, c7, x0, x1, x2, x3, x4, y0, y1, y2⟩ := hS
    clear hb
    simp only [depsOK, updR, Region.binds, reduceIte, Nat.reduceEqDiff, forall_const, and_true, eqV, List.getElem?_cons_zero, List.getElem?_cons_succ, exists_eq_right, reduceCtorEq, Nat.succ_ne_self] at hd
    go_simp
    exact hK _ _ rfl (Below.refl _ _)
  show Chain _ _ _ _ _ _ _ _ _ _ _ 23 5 _
  apply Chain.det
  · intro a w1 hS hb hd K hK
    obtain ⟨c0, c1, c2, c3, c4, c5, c6, c7, x0, x1, x2, x3, x4, y0, y1, y2⟩ := hS
    clear hb
    simp only [depsOK, updR, Region.binds, reduceIte, Nat.reduceEqDiff, forall_const, and_true, eqV, List.getElem?_cons_zero, List.getElem?_cons_succ, exists_eq_right, reduceCtorEq, Nat.succ_ne_self] at hd
    go_simp
    exact hK _ _ rfl (Below.refl _ _)
  show Chain _ _ _ _ _ _ _ _ _ _ _ 22 6 _
  apply Chain.det
  · intro a w1 hS hb hd K hK
    obtain ⟨c0, c1, c2, c3, c4, c5, c6, c7, x0, x1, x2, x3, x4, y0, y1, y2⟩ := hS
    clear hb
    simp only [depsOK, updR, Region.binds, reduceIte, Nat.reduceEqDiff, forall_const, and_true, eqV, List.getElem?_cons_zero, List.getElem?_cons_succ, exists_eq_right, reduceCtorEq, Nat.succ_ne_self] at hd
    go_simp
    exact hK _ _ rfl (Below.refl _ _)
  show Chain _ _ _ _ _ _ _ _ _ _ _ 21 7 _
  apply Chain.det
  · intro a w1 hS hb hd K hK
    obtain ⟨c0, c1, c2, c3, c4, c5, c6, c7, x0, x1, x2, x3, x4, y0, y1, y2⟩ := hS
    clear hb
    simp only [depsOK, updR, Region.binds, reduceIte, Nat.reduceEqDiff, forall_const, and_true, eqV, List.getElem?_cons_zero, List.getElem?_cons_succ, exists_eq_right, reduceCtorEq, Nat.succ_ne_self] at hd
    go_simp
    refine (gExp_any p q g bh pz HG.out hbd (by omega) _).mono ?_
    rintro e9 w9 ⟨rfl, hb9⟩
    exact hK _ _ (rfl) hb9
  show Chain _ _ _ _ _ _ _ _ _ _ _ 20 8 _
  apply Chain.det
  · intro a w1 hS hb hd K hK
    obtain ⟨c0, c1, c2, c3, c4, c5, c6, c7, x0, x1, x2, x3, x4, y0, y1, y2⟩ := hS
    have b5 := hb 5 _ rfl (by decide)
    clear hb
    simp only [depsOK] at hd
    go_simp
    exact hK _ _ rfl (Below.refl _ _)
  show Chain _ _ _ _ _ _ _ _ _ _ _ 19 9 _
  apply Chain.det
  · intro a w1 hS hb hd K hK
    obtain ⟨c0, c1, c2, c3, c4, c5, c6, c7, x0, x1, x2, x3, x4, y0, y1, y2⟩ := hS
    have b13 := hb 13 _ rfl (by decide)
    clear hb
    simp only [depsOK] at hd
    go_simp
    exact hK _ _ rfl (Below.refl _ _)
  show Chain _ _ _ _ _ _ _ _ _ _ _ 18 10 _
  apply Chain.det
  · intro a w1 hS hb hd K hK
    obtain ⟨c0, c1, c2, c3, c4, c5, c6, c7, x0, x1, x2, x3, x4, y0, y1, y2⟩ := hS
    have b5 := hb 5 _ rfl (by decide)
    clear hb
    simp only [depsOK] at hd
    go_simp
    exact hK _ _ rfl (Below.refl _ _)
  show Chain _ _ _ _ _ _ _ _ _ _ _ 17 11 _
  apply Chain.det
  · intro a w1 hS hb hd K hK
    obtain ⟨c0, c1, c2, c3, c4, c5, c6, c7, x0, x1, x2, x3, x4, y0, y1, y2⟩ := hS
    have b5 := hb 5 _ rfl (by decide)
    clear hb
    simp only [depsOK] at hd
    go_simp
    exact hK _ _ rfl (Below.refl _ _)
  show Chain _ _ _ _ _ _ _ _ _ _ _ 16 12 _
  apply Chain.det
  · intro a w1 hS hb hd K hK
    obtain ⟨c0, c1, c2, c3, c4, c5, c6, c7, x0, x1, x2, x3, x4, y0, y1, y2⟩ := hS
    have b12 := hb 12 _ rfl (by decide)
    clear hb
    simp only [depsOK] at hd
    go_simp
    exact hK _ _ rfl (Below.refl _ _)
  show Chain _ _ _ _ _ _ _ _ _ _ _ 15 13 _
  apply Chain.det
  · intro a w1 hS hb hd K hK
    obtain ⟨c0, c1, c2, c3, c4, c5, c6, c7, x0, x1, x2, x3, x4, y0, y1, y2⟩ := hS
    have b5 := hb 5 _ rfl (by decide)
    clear hb
    simp only [depsOK] at hd
    go_simp
    exact hK _ _ rfl (Below.refl _ _)
  show Chain _ _ _ _ _ _ _ _ _ _ _ 14 14 _
  apply Chain.det
  · intro a w1 hS hb hd K hK
    obtain ⟨c0, c1, c2, c3, c4, c5, c6, c7, x0, x1, x2, x3, x4, y0, y1, y2⟩ := hS
    have b5 := hb 5 _ rfl (by decide)
    clear hb
    simp only [depsOK] at hd
    go_simp
    exact hK _ _ rfl (Below.refl _ _)
  show Chain _ _ _ _ _ _ _ _ _ _ _ 13 15 _
  apply Chain.det
  · intro a w1 hS hb hd K hK
    obtain ⟨c0, c1, c2, c3, c4, c5, c6, c7, x0, x1, x2, x3, x4, y0, y1, y2⟩ := hS
    clear hb
    simp only [depsOK, updR, Region.binds, reduceIte, Nat.reduceEqDiff, forall_const, and_true, eqV, List.getElem?_cons_zero, List.getElem?_cons_succ, exists_eq_right, reduceCtorEq, Nat.succ_ne_self] at hd
    go_simp
    exact hK _ _ rfl (Below.refl _ _)
  show Chain _ _ _ _ _ _ _ _ _ _ _ 12 16 _
  apply Chain.det
  · intro a w1 hS hb hd K hK
    obtain ⟨c0, c1, c2, c3, c4, c5, c6, c7, x0, x1, x2, x3, x4, y0, y1, y2⟩ := hS
    have b3 := hb 3 _ rfl (by decide)
    clear hb
    simp only [depsOK] at hd
    go_simp
    exact hK _ _ rfl (Below.refl _ _)
  show Chain _ _ _ _ _ _ _ _ _ _ _ 11 17 _
  apply Chain.det
  · intro a w1 hS hb hd K hK
    obtain ⟨c0, c1, c2, c3, c4, c5, c6, c7, x0, x1, x2, x3, x4, y0, y1, y2⟩ := hS
    clear hb
    simp only [depsOK, updR, Region.binds, reduceIte, Nat.reduceEqDiff, forall_const, and_true, eqV, List.getElem?_cons_zero, List.getElem?_cons_succ, exists_eq_right, reduceCtorEq, Nat.succ_ne_self] at hd
    go_simp
    exact hK _ _ rfl (Below.refl _ _)
  show Chain _ _ _ _ _ _ _ _ _ _ _ 10 18 _
  apply Chain.det
  · intro a w1 hS hb hd K hK
    obtain ⟨c0, c1, c2, c3, c4, c5, c6, c7, x0, x1, x2, x3, x4, y0, y1, y2⟩ := hS
    clear hb
    simp only [depsOK, updR, Region.binds, reduceIte, Nat.reduceEqDiff, forall_const, and_true, eqV, List.getElem?_cons_zero, List.getElem?_cons_succ, exists_eq_right, reduceCtorEq, Nat.succ_ne_self] at hd
    go_simp
    refine (gExp_any p q g g (-t) HG.out g5 (by omega) _).mono ?_
    rintro e9 w9 ⟨rfl, hb9⟩
    exact hK _ _ (rfl) hb9
  show Chain _ _ _ _ _ _ _ _ _ _ _ 9 19 _
  refine Chain.rel (isF 2 [cc, M.gpw p q g (-t)]) (stable_isF _ _) ?_ ?_
  · intro a w1 hS hb hd K hK
    obtain ⟨c0, c1, c2, c3, c4, c5, c6, c7, x0, x1, x2, x3, x4, y0, y1, y2⟩ := hS
    clear hb
    simp only [depsOK, updR, Region.binds, reduceIte, Nat.reduceEqDiff, forall_const, and_true, eqV, List.getElem?_cons_zero, List.getElem?_cons_succ, exists_eq_right, reduceCtorEq, Nat.succ_ne_self] at hd
    go_simp
    exact hK _ _ ⟨_, rfl, RI.lit w1 [cc, M.gpw p q g (-t)] _ rfl⟩ (below_new _ _)
  show Chain _ _ _ _ _ _ _ _ _ _ _ 8 20 _
  apply Chain.det
  · intro a w1 hS hb hd K hK
    obtain ⟨c0, c1, c2, c3, c4, c5, c6, c7, x0, x1, x2, x3, x4, y0, y1, y2⟩ := hS
    clear hb
    simp only [depsOK, updR, Region.binds, reduceIte, Nat.reduceEqDiff, forall_const, and_true, eqV, List.getElem?_cons_zero, List.getElem?_cons_succ, exists_eq_right, reduceCtorEq, Nat.succ_ne_self] at hd
    obtain ⟨h1, ⟨v2, e2, A2, rfl, r2⟩, _⟩ := hd
    go_simp
    refine (gMul2_any p q g cc (M.gpw p q g (-t)) HG.out bc (M.gpw_lt g3) A2 2 _ r2).mono ?_
    rintro e9 w9 ⟨rfl, hb9⟩
    exact hK _ _ rfl hb9
  show Chain _ _ _ _ _ _ _ _ _ _ _ 7 21 _
  apply Chain.det
  · intro a w1 hS hb hd K hK
    obtain ⟨c0, c1, c2, c3, c4, c5, c6, c7, x0, x1, x2, x3, x4, y0, y1, y2⟩ := hS
    have b14 := hb 14 _ rfl (by decide)
    clear hb
    simp only [depsOK] at hd
    go_simp
    exact hK _ _ rfl (Below.refl _ _)
  show Chain _ _ _ _ _ _ _ _ _ _ _ 6 22 _
  apply Chain.det
  · intro a w1 hS hb hd K hK
    obtain ⟨c0, c1, c2, c3, c4, c5, c6, c7, x0, x1, x2, x3, x4, y0, y1, y2⟩ := hS
    clear hb
    simp only [depsOK, updR, Region.binds, reduceIte, Nat.reduceEqDiff, forall_const, and_true, eqV, List.getElem?_cons_zero, List.getElem?_cons_succ, exists_eq_right, reduceCtorEq, Nat.succ_ne_self] at hd
    go_simp
    refine (gExp_any p q g _ pe HG.out ⟨Int.emod_nonneg _ (by omega), Int.emod_lt_of_pos _ (by omega)⟩ (by omega) _).mono ?_
    rintro e9 w9 ⟨rfl, hb9⟩
    exact hK _ _ (rfl) hb9
  show Chain _ _ _ _ _ _ _ _ _ _ _ 5 23 _
  refine Chain.rel (isF 2 [px, M.gpw p q (cc * M.gpw p q g (-t) % p) pe]) (stable_isF _ _) ?_ ?_
  · intro a w1 hS hb hd K hK
    obtain ⟨c0, c1, c2, c3, c4, c5, c6, c7, x0, x1, x2, x3, x4, y0, y1, y2⟩ := hS
    clear hb
    simp only [depsOK, updR, Region.binds, reduceIte, Nat.reduceEqDiff, forall_const, and_true, eqV, List.getElem?_cons_zero, List.getElem?_cons_succ, exists_eq_right, reduceCtorEq, Nat.succ_ne_self] at hd
    go_simp
    exact hK _ _ ⟨_, rfl, RI.lit w1 [px, M.gpw p q (cc * M.gpw p q g (-t) % p) pe] _ rfl⟩ (below_new _ _)
  show Chain _ _ _ _ _ _ _ _ _ _ _ 4 24 _
  apply Chain.det
  · intro a w1 hS hb hd K hK
    obtain ⟨c0, c1, c2, c3, c4, c5, c6, c7, x0, x1, x2, x3, x4, y0, y1, y2⟩ := hS
    clear hb
    simp only [depsOK, updR, Region.binds, reduceIte, Nat.reduceEqDiff, forall_const, and_true, eqV, List.getElem?_cons_zero, List.getElem?_cons_succ, exists_eq_right, reduceCtorEq, Nat.succ_ne_self] at hd
    obtain ⟨h1, ⟨v2, e2, A2, rfl, r2⟩, _⟩ := hd
    go_simp
    refine (gMul2_any p q g px (M.gpw p q (cc * M.gpw p q g (-t) % p) pe) HG.out m0 (M.gpw_lt g3) A2 2 _ r2).mono ?_
    rintro e9 w9 ⟨rfl, hb9⟩
    exact hK _ _ rfl hb9
  show Chain _ _ _ _ _ _ _ _ _ _ _ 3 25 _
  refine Chain.rel (eqV (.bool b1)) (stable_eq _) ?_ ?_
  · intro a w1 hS hb hd K hK
    obtain ⟨c0, c1, c2, c3, c4, c5, c6, c7, x0, x1, x2, x3, x4, y0, y1, y2⟩ := hS
    clear hb
    simp only [depsOK, updR, Region.binds, reduceIte, Nat.reduceEqDiff, forall_const, and_true, eqV, List.getElem?_cons_zero, List.getElem?_cons_succ, exists_eq_right, reduceCtorEq, Nat.succ_ne_self] at hd
    go_simp
    exact hK _ _ (congrArg Value.bool Hb1.out.symm) (Below.refl _ _)
  show Chain _ _ _ _ _ _ _ _ _ _ _ 2 26 _
  apply Chain.det
  · intro a w1 hS hb hd K hK
    obtain ⟨c0, c1, c2, c3, c4, c5, c6, c7, x0, x1, x2, x3, x4, y0, y1, y2⟩ := hS
    clear hb
    simp only [depsOK, updR, Region.binds, reduceIte, Nat.reduceEqDiff, forall_const, and_true, eqV, List.getElem?_cons_zero, List.getElem?_cons_succ, exists_eq_right, reduceCtorEq, Nat.succ_ne_self] at hd
    go_simp
    exact hK _ _ rfl (Below.refl _ _)
  show Chain _ _ _ _ _ _ _ _ _ _ _ 1 27 _
  apply Chain.det
  · intro a w1 hS hb hd K hK
    obtain ⟨c0, c1, c2, c3, c4, c5, c6, c7, x0, x1, x2, x3, x4, y0, y1, y2⟩ := hS
    clear hb
    simp only [depsOK, updR, Region.binds, reduceIte, Nat.reduceEqDiff, forall_const, and_true, eqV, List.getElem?_cons_zero, List.getElem?_cons_succ, exists_eq_right, reduceCtorEq, Nat.succ_ne_self] at hd
    go_simp
    exact hK _ _ rfl (Below.refl _ _)
  show Chain _ _ _ _ _ _ _ _ _ _ _ 0 28 _
  intro x w9 hS hB9 hR y hY hA hE
  have r26 := hR 26 _ rfl
  simp only [updR, reduceIte, Nat.reduceEqDiff, eqV] at r26
  have r27 := hR 27 _ rfl
  simp only [updR, reduceIte, Nat.reduceEqDiff, eqV] at r27
  clear hR hY hA hE
  simp only [TailWp, fillB, Act.put, List.setIfInBounds_toArray, List.set_cons_zero, List.set_cons_succ, Nat.reduceAdd, r26, r27]
  clear r26
  clear r27
  have hX9 : Below w8.heap.size w8 w9 := bnext (Below.drew (by repeat (first | exact Below.refl _ _ | refine bnew ?_ _ | refine Below.drew ?_ | refine Below.drewN ?_ _ | (refine below_set _ ?_ ?_; rotate_left; focus (first | omega | (simp; done) | (simp <;> omega)))))) hB9
  clear hB9
  have hT9 : Below w.heap.size w w9 := bnext hT8 hX9
  clear c0 c1 c2 c3 c4 c5 c6 c7 x0 x1 x2 x3 x4 y0 y1 y2
  obtain ⟨c0, c1, c2, c3, c4, c5, c6, c7, x0, x1, x2, x3, x4, y0, y1, y2⟩ := hS
  go_wp2
  go_ret2
  exact ⟨ret_bb (by rw [hR.out, HO.out, Hb1.out]; simp) (by rw [hR.out]), hT9⟩
set_option maxRecDepth 100000 in
set_option maxHeartbeats 3200000 in
theorem verifySumI (p q g bh t : Int) (A : Option Addr) (d : Nat) (bs : List Int) (hl : bs.length ≤ 9223372036854775807) (A_c : Option Addr) (c_c : Nat) (cs : List Int) (hl_c : cs.length ≤ 9223372036854775807) (A_pa : Option Addr) (c_pa : Nat) (pa : List Int) (A_pc : Option Addr) (c_pc : Nat) (pc : List Int) (A_pr : Option Addr) (c_pr : Nat) (pr : List Int) (hl_pa : pa.length ≤ 9223372036854775807) (hl_pc : pc.length ≤ 9223372036854775807) (hl_pr : pr.length ≤ 9223372036854775807) (w : World) (hx : RI w w.heap.size A bs) (hx_c : RI w w.heap.size A_c cs) (hx_pa : RI w w.heap.size A_pa pa) (hx_pc : RI w w.heap.size A_pc pc) (hx_pr : RI w w.heap.size A_pr pr) :
    Calls Try.prog 22 #[.agg #[.int .i64 p, .int .i64 q, .int .i64 g], .agg #[.int .i64 bh, .slice A bs.length d], .slice A_c cs.length c_c, .int .i64 t, .agg #[.slice A_pa pa.length c_pa, .slice A_pc pc.length c_pc, .slice A_pr pr.length c_pr]] w fun en w' => en = .returned (.tuple #[.bool (vsV p q g bh bs cs t pa pc pr).1, .bool (vsV p q g bh bs cs t pa pc pr).2]) ∧ Below w.heap.size w w' := by
  have hT0 : Below w.heap.size w (((w.alloc (.cells #[.int .i64 p, .int .i64 q, .int .i64 g] 33)).alloc (.cells #[.int .i64 bh, .slice A bs.length d] 35)).alloc (.cells #[.slice A_pa pa.length c_pa, .slice A_pc pc.length c_pc, .slice A_pr pr.length c_pr] 38)) := by repeat (first | exact Below.refl _ _ | refine bnew ?_ _)
  have c0 : (((w.alloc (.cells #[.int .i64 p, .int .i64 q, .int .i64 g] 33)).alloc (.cells #[.int .i64 bh, .slice A bs.length d] 35)).alloc (.cells #[.slice A_pa pa.length c_pa, .slice A_pc pc.length c_pc, .slice A_pr pr.length c_pr] 38)).cell? ⟨w.heap.size, 0, none⟩ = some (.int .i64 p) := by
    repeat (first | with_reducible assumption | (with_reducible apply set1b; with_reducible assumption) | (with_reducible refine (sc_other _ ?_).trans ?_; focus (simp; done)) | (refine cell_new' ?_ _ _ _ rfl; focus (simp; done)) | with_reducible refine cell_keep (below_new _ _) ?_)
  have c1 : (((w.alloc (.cells #[.int .i64 p, .int .i64 q, .int .i64 g] 33)).alloc (.cells #[.int .i64 bh, .slice A bs.length d] 35)).alloc (.cells #[.slice A_pa pa.length c_pa, .slice A_pc pc.length c_pc, .slice A_pr pr.length c_pr] 38)).cell? ⟨w.heap.size, 1, none⟩ = some (.int .i64 q) := by
    repeat (first | with_reducible assumption | (with_reducible apply set1b; with_reducible assumption) | (with_reducible refine (sc_other _ ?_).trans ?_; focus (simp; done)) | (refine cell_new' ?_ _ _ _ rfl; focus (simp; done)) | with_reducible refine cell_keep (below_new _ _) ?_)
  have c2 : (((w.alloc (.cells #[.int .i64 p, .int .i64 q, .int .i64 g] 33)).alloc (.cells #[.int .i64 bh, .slice A bs.length d] 35)).alloc (.cells #[.slice A_pa pa.length c_pa, .slice A_pc pc.length c_pc, .slice A_pr pr.length c_pr] 38)).cell? ⟨w.heap.size, 2, none⟩ = some (.int .i64 g) := by
    repeat (first | with_reducible assumption | (with_reducible apply set1b; with_reducible assumption) | (with_reducible refine (sc_other _ ?_).trans ?_; focus (simp; done)) | (refine cell_new' ?_ _ _ _ rfl; focus (simp; done)) | with_reducible refine cell_keep (below_new _ _) ?_)
  have c3 : (((w.alloc (.cells #[.int .i64 p, .int .i64 q, .int .i64 g] 33)).alloc (.cells #[.int .i64 bh, .slice A bs.length d] 35)).alloc (.cells #[.slice A_pa pa.length c_pa, .slice A_pc pc.length c_pc, .slice A_pr pr.length c_pr] 38)).cell? ⟨w.heap.size + 1, 0, none⟩ = some (.int .i64 bh) := by
    repeat (first | with_reducible assumption | (with_reducible apply set1b; with_reducible assumption) | (with_reducible refine (sc_other _ ?_).trans ?_; focus (simp; done)) | (refine cell_new' ?_ _ _ _ rfl; focus (simp; done)) | with_reducible refine cell_keep (below_new _ _) ?_)
  have c4 : (((w.alloc (.cells #[.int .i64 p, .int .i64 q, .int .i64 g] 33)).alloc (.cells #[.int .i64 bh, .slice A bs.length d] 35)).alloc (.cells #[.slice A_pa pa.length c_pa, .slice A_pc pc.length c_pc, .slice A_pr pr.length c_pr] 38)).cell? ⟨w.heap.size + 1, 1, none⟩ = some (.slice A bs.length d) := by
    repeat (first | with_reducible assumption | (with_reducible apply set1b; with_reducible assumption) | (with_reducible refine (sc_other _ ?_).trans ?_; focus (simp; done)) | (refine cell_new' ?_ _ _ _ rfl; focus (simp; done)) | with_reducible refine cell_keep (below_new _ _) ?_)
  have c5 : (((w.alloc (.cells #[.int .i64 p, .int .i64 q, .int .i64 g] 33)).alloc (.cells #[.int .i64 bh, .slice A bs.length d] 35)).alloc (.cells #[.slice A_pa pa.length c_pa, .slice A_pc pc.length c_pc, .slice A_pr pr.length c_pr] 38)).cell? ⟨w.heap.size + 1 + 1, 0, none⟩ = some (.slice A_pa pa.length c_pa) := by
    repeat (first | with_reducible assumption | (with_reducible apply set1b; with_reducible assumption) | (with_reducible refine (sc_other _ ?_).trans ?_; focus (simp; done)) | (refine cell_new' ?_ _ _ _ rfl; focus (simp; done)) | with_reducible refine cell_keep (below_new _ _) ?_)
  have c6 : (((w.alloc (.cells #[.int .i64 p, .int .i64 q, .int .i64 g] 33)).alloc (.cells #[.int .i64 bh, .slice A bs.length d] 35)).alloc (.cells #[.slice A_pa pa.length c_pa, .slice A_pc pc.length c_pc, .slice A_pr pr.length c_pr] 38)).cell? ⟨w.heap.size + 1 + 1, 1, none⟩ = some (.slice A_pc pc.length c_pc) := by
    repeat (first | with_reducible assumption | (with_reducible apply set1b; with_reducible assumption) | (with_reducible refine (sc_other _ ?_).trans ?_; focus (simp; done)) | (refine cell_new' ?_ _ _ _ rfl; focus (simp; done)) | with_reducible refine cell_keep (below_new _ _) ?_)
  have c7 : (((w.alloc (.cells #[.int .i64 p, .int .i64 q, .int .i64 g] 33)).alloc (.cells #[.int .i64 bh, .slice A bs.length d] 35)).alloc (.cells #[.slice A_pa pa.length c_pa, .slice A_pc pc.length c_pc, .slice A_pr pr.length c_pr] 38)).cell? ⟨w.heap.size + 1 + 1, 2, none⟩ = some (.slice A_pr pr.length c_pr) := by
    repeat (first | with_reducible assumption | (with_reducible apply set1b; with_reducible assumption) | (with_reducible refine (sc_other _ ?_).trans ?_; focus (simp; done)) | (refine cell_new' ?_ _ _ _ rfl; focus (simp; done)) | with_reducible refine cell_keep (below_new _ _) ?_)
  have x0 : RI (((w.alloc (.cells #[.int .i64 p, .int .i64 q, .int .i64 g] 33)).alloc (.cells #[.int .i64 bh, .slice A bs.length d] 35)).alloc (.cells #[.slice A_pa pa.length c_pa, .slice A_pc pc.length c_pc, .slice A_pr pr.length c_pr] 38)) (((w.alloc (.cells #[.int .i64 p, .int .i64 q, .int .i64 g] 33)).alloc (.cells #[.int .i64 bh, .slice A bs.length d] 35)).alloc (.cells #[.slice A_pa pa.length c_pa, .slice A_pc pc.length c_pc, .slice A_pr pr.length c_pr] 38)).heap.size A bs := hx.next hT0
  have x1 : RI (((w.alloc (.cells #[.int .i64 p, .int .i64 q, .int .i64 g] 33)).alloc (.cells #[.int .i64 bh, .slice A bs.length d] 35)).alloc (.cells #[.slice A_pa pa.length c_pa, .slice A_pc pc.length c_pc, .slice A_pr pr.length c_pr] 38)) (((w.alloc (.cells #[.int .i64 p, .int .i64 q, .int .i64 g] 33)).alloc (.cells #[.int .i64 bh, .slice A bs.length d] 35)).alloc (.cells #[.slice A_pa pa.length c_pa, .slice A_pc pc.length c_pc, .slice A_pr pr.length c_pr] 38)).heap.size A_c cs := hx_c.next hT0
  have x2 : RI (((w.alloc (.cells #[.int .i64 p, .int .i64 q, .int .i64 g] 33)).alloc (.cells #[.int .i64 bh, .slice A bs.length d] 35)).alloc (.cells #[.slice A_pa pa.length c_pa, .slice A_pc pc.length c_pc, .slice A_pr pr.length c_pr] 38)) (((w.alloc (.cells #[.int .i64 p, .int .i64 q, .int .i64 g] 33)).alloc (.cells #[.int .i64 bh, .slice A bs.length d] 35)).alloc (.cells #[.slice A_pa pa.length c_pa, .slice A_pc pc.length c_pc, .slice A_pr pr.length c_pr] 38)).heap.size A_pa pa := hx_pa.next hT0
  have x3 : RI (((w.alloc (.cells #[.int .i64 p, .int .i64 q, .int .i64 g] 33)).alloc (.cells #[.int .i64 bh, .slice A bs.length d] 35)).alloc (.cells #[.slice A_pa pa.length c_pa, .slice A_pc pc.length c_pc, .slice A_pr pr.length c_pr] 38)) (((w.alloc (.cells #[.int .i64 p, .int .i64 q, .int .i64 g] 33)).alloc (.cells #[.int .i64 bh, .slice A bs.length d] 35)).alloc (.cells #[.slice A_pa pa.length c_pa, .slice A_pc pc.length c_pc, .slice A_pr pr.length c_pr] 38)).heap.size A_pc pc := hx_pc.next hT0
  have x4 : RI (((w.alloc (.cells #[.int .i64 p, .int .i64 q, .int .i64 g] 33)).alloc (.cells #[.int .i64 bh, .slice A bs.length d] 35)).alloc (.cells #[.slice A_pa pa.length c_pa, .slice A_pc pc.length c_pc, .slice A_pr pr.length c_pr] 38)) (((w.alloc (.cells #[.int .i64 p, .int .i64 q, .int .i64 g] 33)).alloc (.cells #[.int .i64 bh, .slice A bs.length d] 35)).alloc (.cells #[.slice A_pa pa.length c_pa, .slice A_pc pc.length c_pc, .slice A_pr pr.length c_pr] 38)).heap.size A_pr pr := hx_pr.next hT0
  go_enter Try.func22, Try.ntmps22
  go_wp2_with fail
  refine (isValidBasesI_any p q g bh A d bs hl _ ((x0).next (by repeat (first | exact Below.refl _ _ | refine bnew ?_ _ | refine Below.drew ?_ | refine Below.drewN ?_ _ | (refine below_set _ ?_ ?_; rotate_left; focus (first | omega | (simp; done) | (simp <;> omega))))))).mono ?_
  rintro e1 w1 ⟨rfl, hb1⟩
  have hX1 : Below (((w.alloc (.cells #[.int .i64 p, .int .i64 q, .int .i64 g] 33)).alloc (.cells #[.int .i64 bh, .slice A bs.length d] 35)).alloc (.cells #[.slice A_pa pa.length c_pa, .slice A_pc pc.length c_pc, .slice A_pr pr.length c_pr] 38)).heap.size (((w.alloc (.cells #[.int .i64 p, .int .i64 q, .int .i64 g] 33)).alloc (.cells #[.int .i64 bh, .slice A bs.length d] 35)).alloc (.cells #[.slice A_pa pa.length c_pa, .slice A_pc pc.length c_pc, .slice A_pr pr.length c_pr] 38)) w1 := bnext (by repeat (first | exact Below.refl _ _ | refine bnew ?_ _ | refine Below.drew ?_ | refine Below.drewN ?_ _ | (refine below_set _ ?_ ?_; rotate_left; focus (first | omega | (simp; done) | (simp <;> omega))))) hb1
  have hT1 : Below w.heap.size w w1 := bnext hT0 hX1
  replace c0 : w1.cell? ⟨w.heap.size, 0, none⟩ = some (.int .i64 p) := cell_keep hX1 c0
  replace c1 : w1.cell? ⟨w.heap.size, 1, none⟩ = some (.int .i64 q) := cell_keep hX1 c1
  replace c2 : w1.cell? ⟨w.heap.size, 2, none⟩ = some (.int .i64 g) := cell_keep hX1 c2
  replace c3 : w1.cell? ⟨w.heap.size + 1, 0, none⟩ = some (.int .i64 bh) := cell_keep hX1 c3
  replace c4 : w1.cell? ⟨w.heap.size + 1, 1, none⟩ = some (.slice A bs.length d) := cell_keep hX1 c4
  replace c5 : w1.cell? ⟨w.heap.size + 1 + 1, 0, none⟩ = some (.slice A_pa pa.length c_pa) := cell_keep hX1 c5
  replace c6 : w1.cell? ⟨w.heap.size + 1 + 1, 1, none⟩ = some (.slice A_pc pc.length c_pc) := cell_keep hX1 c6
  replace c7 : w1.cell? ⟨w.heap.size + 1 + 1, 2, none⟩ = some (.slice A_pr pr.length c_pr) := cell_keep hX1 c7
  replace x0 : RI w1 w1.heap.size A bs := (x0).next hX1
  replace x1 : RI w1 w1.heap.size A_c cs := (x1).next hX1
  replace x2 : RI w1 w1.heap.size A_pa pa := (x2).next hX1
  replace x3 : RI w1 w1.heap.size A_pc pc := (x3).next hX1
  replace x4 : RI w1 w1.heap.size A_pr pr := (x4).next hX1
  rcases Bool.eq_false_or_eq_true (l9B p q g bh bs) with h1 | h1
  rotate_left
  · have hR := Lib.hid (show vsV p q g bh bs cs t pa pc pr = (false, false) by unfold vsV; rw [if_neg fun hh => Bool.false_ne_true (h1.symm.trans hh.1)])
    go_wp2
    go_ret2
    exact ⟨ret_bb (by rw [hR.out]) (by rw [hR.out]), hT1⟩
  obtain ⟨hg, hbb⟩ := l9B_of h1
  obtain ⟨hbe, hb24, hbs⟩ := basesB_of hbb
  have hbd := elem_bd hbe
  have hG := M.goodB_of hg
  have g1 := hG.q2
  have g2 := hG.qp
  have g3 := hG.p3
  have g4 := hG.pM
  have HG := Lib.hid hG
  clear hG
  go_wp2_with fail
  refine (within_any _ _ _ _).mono ?_
  rintro e2 w2 ⟨rfl, rfl⟩
  rcases Bool.eq_false_or_eq_true (inr cs.length 1 24) with h2 | h2
  rotate_left
  · have hR := Lib.hid (show vsV p q g bh bs cs t pa pc pr = (false, false) by unfold vsV; rw [if_neg fun hh => Bool.false_ne_true (h2.symm.trans hh.2.1)])
    go_wp2
    go_ret2
    exact ⟨ret_bb (by rw [hR.out]) (by rw [hR.out]), hT1⟩
  go_wp2_with fail
  refine (hasAll_any p q g HG.out A_c c_c cs hl_c _ ((x1).next (by repeat (first | exact Below.refl _ _ | refine bnew ?_ _ | refine Below.drew ?_ | refine Below.drewN ?_ _ | (refine below_set _ ?_ ?_; rotate_left; focus (first | omega | (simp; done) | (simp <;> omega))))))).mono ?_
  rintro e3 w3 ⟨rfl, hb3⟩
  have hX3 : Below w1.heap.size w1 w3 := bnext (by repeat (first | exact Below.refl _ _ | refine bnew ?_ _ | refine Below.drew ?_ | refine Below.drewN ?_ _ | (refine below_set _ ?_ ?_; rotate_left; focus (first | omega | (simp; done) | (simp <;> omega))))) hb3
  have hT3 : Below w.heap.size w w3 := bnext hT1 hX3
  replace c0 : w3.cell? ⟨w.heap.size, 0, none⟩ = some (.int .i64 p) := cell_keep hX3 c0
  replace c1 : w3.cell? ⟨w.heap.size, 1, none⟩ = some (.int .i64 q) := cell_keep hX3 c1
  replace c2 : w3.cell? ⟨w.heap.size, 2, none⟩ = some (.int .i64 g) := cell_keep hX3 c2
  replace c3 : w3.cell? ⟨w.heap.size + 1, 0, none⟩ = some (.int .i64 bh) := cell_keep hX3 c3
  replace c4 : w3.cell? ⟨w.heap.size + 1, 1, none⟩ = some (.slice A bs.length d) := cell_keep hX3 c4
  replace c5 : w3.cell? ⟨w.heap.size + 1 + 1, 0, none⟩ = some (.slice A_pa pa.length c_pa) := cell_keep hX3 c5
  replace c6 : w3.cell? ⟨w.heap.size + 1 + 1, 1, none⟩ = some (.slice A_pc pc.length c_pc) := cell_keep hX3 c6
  replace c7 : w3.cell? ⟨w.heap.size + 1 + 1, 2, none⟩ = some (.slice A_pr pr.length c_pr) := cell_keep hX3 c7
  replace x0 : RI w3 w3.heap.size A bs := (x0).next hX3
  replace x1 : RI w3 w3.heap.size A_c cs := (x1).next hX3
  replace x2 : RI w3 w3.heap.size A_pa pa := (x2).next hX3
  replace x3 : RI w3 w3.heap.size A_pc pc := (x3).next hX3
  replace x4 : RI w3 w3.heap.size A_pr pr := (x4).next hX3
  rcases Bool.eq_false_or_eq_true (elemsB p q cs) with h3 | h3
  rotate_left
  · have hR := Lib.hid (show vsV p q g bh bs cs t pa pc pr = (false, false) by unfold vsV; rw [if_neg fun hh => Bool.false_ne_true (h3.symm.trans hh.2.2.1)])
    go_wp2
    go_ret2
    exact ⟨ret_bb (by rw [hR.out]) (by rw [hR.out]), hT3⟩
  go_wp2_with fail
  refine (isExp_any p q g t _ (by omega)).mono ?_
  rintro e4 w4 ⟨rfl, hb4⟩
  have hX4 : Below w3.heap.size w3 w4 := bnext (by repeat (first | exact Below.refl _ _ | refine bnew ?_ _ | refine Below.drew ?_ | refine Below.drewN ?_ _ | (refine below_set _ ?_ ?_; rotate_left; focus (first | omega | (simp; done) | (simp <;> omega))))) hb4
  have hT4 : Below w.heap.size w w4 := bnext hT3 hX4
  replace c0 : w4.cell? ⟨w.heap.size, 0, none⟩ = some (.int .i64 p) := cell_keep hX4 c0
  replace c1 : w4.cell? ⟨w.heap.size, 1, none⟩ = some (.int .i64 q) := cell_keep hX4 c1
  replace c2 : w4.cell? ⟨w.heap.size, 2, none⟩ = some (.int .i64 g) := cell_keep hX4 c2
  replace c3 : w4.cell? ⟨w.heap.size + 1, 0, none⟩ = some (.int .i64 bh) := cell_keep hX4 c3
  replace c4 : w4.cell? ⟨w.heap.size + 1, 1, none⟩ = some (.slice A bs.length d) := cell_keep hX4 c4
  replace c5 : w4.cell? ⟨w.heap.size + 1 + 1, 0, none⟩ = some (.slice A_pa pa.length c_pa) := cell_keep hX4 c5
  replace c6 : w4.cell? ⟨w.heap.size + 1 + 1, 1, none⟩ = some (.slice A_pc pc.length c_pc) := cell_keep hX4 c6
  replace c7 : w4.cell? ⟨w.heap.size + 1 + 1, 2, none⟩ = some (.slice A_pr pr.length c_pr) := cell_keep hX4 c7
  replace x0 : RI w4 w4.heap.size A bs := (x0).next hX4
  replace x1 : RI w4 w4.heap.size A_c cs := (x1).next hX4
  replace x2 : RI w4 w4.heap.size A_pa pa := (x2).next hX4
  replace x3 : RI w4 w4.heap.size A_pc pc := (x3).next hX4
  replace x4 : RI w4 w4.heap.size A_pr pr := (x4).next hX4
  rcases Bool.eq_false_or_eq_true (inr t 0 (q - 1)) with h4 | h4
  rotate_left
  · have hR := Lib.hid (show vsV p q g bh bs cs t pa pc pr = (false, false) by unfold vsV; rw [if_neg fun hh => Bool.false_ne_true (h4.symm.trans hh.2.2.2)])
    go_wp2
    go_ret2
    exact ⟨ret_bb (by rw [hR.out]) (by rw [hR.out]), hT4⟩
  have bt := inr_exp h4
  have hcl := Lib.hid (elemsB_bd h3)
  obtain ⟨cc, hcc⟩ : ∃ v : Int, v = M.mulL p cs := ⟨_, rfl⟩
  have bc : 0 ≤ cc ∧ cc < p := hcc ▸ mulL_bd g3 cs
  have hR := Lib.hid (show vsV p q g bh bs cs t pa pc pr = (sumV p q g bh cc t pa pc pr, true) by unfold vsV; rw [if_pos ⟨h1, h2, h3, h4⟩, hcc])
  have HC := Lib.hid hcc
  have g5 : 0 ≤ g ∧ g < p := ⟨by have := HG.out.g2; omega, HG.out.gp⟩
  have wnt : IntKind.i64.wrap (-t) = -t := IntWalk.i64_in _ (by omega)
  clear hcc h1 h2 h3
  obtain ⟨ad0, ea0⟩ := hx_pa.ad
  obtain ⟨ad1, ea1⟩ := hx_pc.ad
  obtain ⟨ad2, ea2⟩ := hx_pr.ad
  have EA0 := Lib.hid ea0
  have EA1 := Lib.hid ea1
  have EA2 := Lib.hid ea2
  obtain ⟨px, hpx⟩ : ∃ v : Int, v = pa.getD 0 0 := ⟨_, rfl⟩
  obtain ⟨pe, hpe⟩ : ∃ v : Int, v = pc.getD 0 0 := ⟨_, rfl⟩
  obtain ⟨pz, hpz⟩ : ∃ v : Int, v = pr.getD 0 0 := ⟨_, rfl⟩
  have HPX := Lib.hid hpx
  have HPE := Lib.hid hpe
  have HPZ := Lib.hid hpz
  clear ea0 ea1 ea2 hpx hpe hpz
  go_wp2_with fail
  obtain ⟨b1, hb1⟩ : ∃ b : Bool, b = (((pa.length : Int) != 1)) := ⟨_, rfl⟩
  have Hb1 := Lib.hid hb1
  clear hb1
  obtain ⟨b2, hb2⟩ : ∃ b : Bool, b = (((pc.length : Int) != 1)) := ⟨_, rfl⟩
  have Hb2 := Lib.hid hb2
  clear hb2
  obtain ⟨n5_9, hn5_9⟩ : ∃ b : Bool, b = (b1 || b2) := ⟨_, rfl⟩
  have Hn5_9 := Lib.hid hn5_9
  clear hn5_9
  obtain ⟨b3, hb3⟩ : ∃ b : Bool, b = (((pr.length : Int) != 1)) := ⟨_, rfl⟩
  have Hb3 := Lib.hid hb3
  clear hb3
  obtain ⟨n5_15, hn5_15⟩ : ∃ b : Bool, b = (n5_9 || b3) := ⟨_, rfl⟩
  have Hn5_15 := Lib.hid hn5_15
  clear hn5_15
  obtain ⟨b4, hb4⟩ : ∃ b : Bool, b = (elemB p q px) := ⟨_, rfl⟩
  have Hb4 := Lib.hid hb4
  clear hb4
  obtain ⟨n5_23, hn5_23⟩ : ∃ b : Bool, b = (!b4) := ⟨_, rfl⟩
  have Hn5_23 := Lib.hid hn5_23
  clear hn5_23
  obtain ⟨n5_24, hn5_24⟩ : ∃ b : Bool, b = (n5_15 || n5_23) := ⟨_, rfl⟩
  have Hn5_24 := Lib.hid hn5_24
  clear hn5_24
  obtain ⟨b5, hb5⟩ : ∃ b : Bool, b = (inr pz 0 (q - 1)) := ⟨_, rfl⟩
  have Hb5 := Lib.hid hb5
  clear hb5
  obtain ⟨n5_32, hn5_32⟩ : ∃ b : Bool, b = (!b5) := ⟨_, rfl⟩
  have Hn5_32 := Lib.hid hn5_32
  clear hn5_32
  obtain ⟨n5_33, hn5_33⟩ : ∃ b : Bool, b = (n5_24 || n5_32) := ⟨_, rfl⟩
  have Hn5_33 := Lib.hid hn5_33
  clear hn5_33
  refine wp_region_chain (fun W => W.cell? ⟨w.heap.size, 0, none⟩ = some (.int .i64 p) ∧ W.cell? ⟨w.heap.size, 1, none⟩ = some (.int .i64 q) ∧ W.cell? ⟨w.heap.size, 2, none⟩ = some (.int .i64 g) ∧ W.cell? ⟨w.heap.size + 1, 0, none⟩ = some (.int .i64 bh) ∧ W.cell? ⟨w.heap.size + 1, 1, none⟩ = some (.slice A bs.length d) ∧ W.cell? ⟨w.heap.size + 1 + 1, 0, none⟩ = some (.slice A_pa pa.length c_pa) ∧ W.cell? ⟨w.heap.size + 1 + 1, 1, none⟩ = some (.slice A_pc pc.length c_pc) ∧ W.cell? ⟨w.heap.size + 1 + 1, 2, none⟩ = some (.slice A_pr pr.length c_pr) ∧ RI W W.heap.size A bs ∧ RI W W.heap.size A_c cs ∧ RI W W.heap.size A_pa pa ∧ RI W W.heap.size A_pc pc ∧ RI W W.heap.size A_pr pr)
    34 [some 38, some 39, some 40, some 41, some 42, some 43, some 44, some 45, some 46, some 47, some 48, some 49, some 50, some 51, some 52, some 53, some 54, some 55, some 56, some 57, some 58, some 59, some 60, some 61, some 62, some 63, some 64, some 65, some 66, some 67, some 68, some 69, some 70, some 71] (by kernel_rfl) (by kernel_rfl) (by kernel_rfl) (by decide) (by rfl) (by kernel_rfl) (by kernel_rfl) ?hS0 ?hSs ?hc
  case hS0 => exact ⟨cell_keep (Below.drew (by repeat (first | exact Below.refl _ _ | refine bnew ?_ _ | refine Below.drew ?_ | refine Below.drewN ?_ _ | (refine below_set _ ?_ ?_; rotate_left; focus (first | omega | (simp; done) | (simp <;> omega)))))) c0, cell_keep (Below.drew (by repeat (first | exact Below.refl _ _ | refine bnew ?_ _ | refine Below.drew ?_ | refine Below.drewN ?_ _ | (refine below_set _ ?_ ?_; rotate_left; focus (first | omega | (simp; done) | (simp <;> omega)))))) c1, cell_keep (Below.drew (by repeat (first | exact Below.refl _ _ | refine bnew ?_ _ | refine Below.drew ?_ | refine Below.drewN ?_ _ | (refine below_set _ ?_ ?_; rotate_left; focus (first | omega | (simp; done) | (simp <;> omega)))))) c2, cell_keep (Below.drew (by repeat (first | exact Below.refl _ _ | refine bnew ?_ _ | refine Below.drew ?_ | refine Below.drewN ?_ _ | (refine below_set _ ?_ ?_; rotate_left; focus (first | omega | (simp; done) | (simp <;> omega)))))) c3, cell_keep (Below.drew (by repeat (first | exact Below.refl _ _ | refine bnew ?_ _ | refine Below.drew ?_ | refine Below.drewN ?_ _ | (refine below_set _ ?_ ?_; rotate_left; focus (first | omega | (simp; done) | (simp <;> omega)))))) c4, cell_keep (Below.drew (by repeat (first | exact Below.refl _ _ | refine bnew ?_ _ | refine Below.drew ?_ | refine Below.drewN ?_ _ | (refine below_set _ ?_ ?_; rotate_left; focus (first | omega | (simp; done) | (simp <;> omega)))))) c5, cell_keep (Below.drew (by repeat (first | exact Below.refl _ _ | refine bnew ?_ _ | refine Below.drew ?_ | refine Below.drewN ?_ _ | (refine below_set _ ?_ ?_; rotate_left; focus (first | omega | (simp; done) | (simp <;> omega)))))) c6, cell_keep (Below.drew (by repeat (first | exact Below.refl _ _ | refine bnew ?_ _ | refine Below.drew ?_ | refine Below.drewN ?_ _ | (refine below_set _ ?_ ?_; rotate_left; focus (first | omega | (simp; done) | (simp <;> omega)))))) c7, (x0).next (Below.drew (by repeat (first | exact Below.refl _ _ | refine bnew ?_ _ | refine Below.drew ?_ | refine Below.drewN ?_ _ | (refine below_set _ ?_ ?_; rotate_left; focus (first | omega | (simp; done) | (simp <;> omega)))))), (x1).next (Below.drew (by repeat (first | exact Below.refl _ _ | refine bnew ?_ _ | refine Below.drew ?_ | refine Below.drewN ?_ _ | (refine below_set _ ?_ ?_; rotate_left; focus (first | omega | (simp; done) | (simp <;> omega)))))), (x2).next (Below.drew (by repeat (first | exact Below.refl _ _ | refine bnew ?_ _ | refine Below.drew ?_ | refine Below.drewN ?_ _ | (refine below_set _ ?_ ?_; rotate_left; focus (first | omega | (simp; done) | (simp <;> omega)))))), (x3).next (Below.drew (by repeat (first | exact Below.refl _ _ | refine bnew ?_ _ | refine Below.drew ?_ | refine Below.drewN ?_ _ | (refine below_set _ ?_ ?_; rotate_left; focus (first | omega | (simp; done) | (simp <;> omega)))))), (x4).next (Below.drew (by repeat (first | exact Below.refl _ _ | refine bnew ?_ _ | refine Below.drew ?_ | refine Below.drewN ?_ _ | (refine below_set _ ?_ ?_; rotate_left; focus (first | omega | (simp; done) | (simp <;> omega))))))⟩
  case hSs => exact fun w1 w2 ⟨hc0, hc1, hc2, hc3, hc4, hc5, hc6, hc7, hx0, hx1, hx2, hx3, hx4⟩ hb => ⟨cell_keep hb hc0, cell_keep hb hc1, cell_keep hb hc2, cell_keep hb hc3, cell_keep hb hc4, cell_keep hb hc5, cell_keep hb hc6, cell_keep hb hc7, (hx0).next hb, (hx1).next hb, (hx2).next hb, (hx3).next hb, (hx4).next hb⟩
  apply Chain.det
  · intro a w1 hS hb hd K hK
    obtain ⟨c0, c1, c2, c3, c4, c5, c6, c7, x0, x1, x2, x3, x4⟩ := hS
    have b9 := hb 9 _ rfl (by decide)
    clear hb
    simp only [depsOK] at hd
    go_simp
    exact hK _ _ rfl (Below.refl _ _)
  show Chain _ _ _ _ _ _ _ _ _ _ _ 33 1 _
  apply Chain.det
  · intro a w1 hS hb hd K hK
    obtain ⟨c0, c1, c2, c3, c4, c5, c6, c7, x0, x1, x2, x3, x4⟩ := hS
    clear hb
    simp only [depsOK, updR, Region.binds, reduceIte, forall_const, and_true, eqV, List.getElem?_cons_zero, exists_eq_right] at hd
    go_simp
    exact hK _ _ rfl (Below.refl _ _)
  show Chain _ _ _ _ _ _ _ _ _ _ _ 32 2 _
  apply Chain.det
  · intro a w1 hS hb hd K hK
    obtain ⟨c0, c1, c2, c3, c4, c5, c6, c7, x0, x1, x2, x3, x4⟩ := hS
    clear hb
    simp only [depsOK, updR, Region.binds, reduceIte, forall_const, and_true, eqV, List.getElem?_cons_zero, List.getElem?_cons_succ, exists_eq_right, Nat.succ_ne_self] at hd
    go_simp
    exact hK _ _ rfl (Below.refl _ _)
  show Chain _ _ _ _ _ _ _ _ _ _ _ 31 3 _
  refine Chain.rel (eqV (.bool b1)) (stable_eq _) ?_ ?_
  · intro a w1 hS hb hd K hK
    obtain ⟨c0, c1, c2, c3, c4, c5, c6, c7, x0, x1, x2, x3, x4⟩ := hS
    clear hb
    simp only [depsOK, updR, Region.binds, reduceIte, forall_const, and_true, eqV, List.getElem?_cons_zero, List.getElem?_cons_succ, exists_eq_right, reduceCtorEq, Nat.succ_ne_self] at hd
    go_simp
    exact hK _ _ (congrArg Value.bool Hb1.out.symm) (Below.refl _ _)
  show Chain _ _ _ _ _ _ _ _ _ _ _ 30 4 _
  apply Chain.det
  · intro a w1 hS hb hd K hK
    obtain ⟨c0, c1, c2, c3, c4, c5, c6, c7, x0, x1, x2, x3, x4⟩ := hS
    clear hb
    simp only [depsOK, updR, Region.binds, reduceIte, Nat.reduceEqDiff, forall_const, and_true, eqV, List.getElem?_cons_zero, List.getElem?_cons_succ, exists_eq_right, reduceCtorEq, Nat.succ_ne_self] at hd
    go_simp
    exact hK _ _ rfl (Below.refl _ _)
  show Chain _ _ _ _ _ _ _ _ _ _ _ 29 5 _
  apply Chain.detg b1 false
  · intro a w1 hS hb hd K hK
    obtain ⟨c0, c1, c2, c3, c4, c5, c6, c7, x0, x1, x2, x3, x4⟩ := hS
    have b9 := hb 9 _ rfl (by decide)
    clear hb
    simp only [depsOK, updR, Region.binds, reduceIte, Nat.reduceEqDiff, forall_const, and_true, eqV, List.getElem?_cons_zero, List.getElem?_cons_succ, exists_eq_right, reduceCtorEq, Nat.succ_ne_self] at hd
    rcases Bool.eq_false_or_eq_true b1 with e | e
    · simp only [e] at hd
      go_simp
      exact hK _ _ (fun h => Bool.noConfusion (e.symm.trans h)) (Below.refl _ _)
    · simp only [e] at hd
      go_simp
      exact hK _ _ (fun _ => rfl) (Below.refl _ _)
  show Chain _ _ _ _ _ _ _ _ _ _ _ 28 6 _
  apply Chain.detg b1 false
  · intro a w1 hS hb hd K hK
    obtain ⟨c0, c1, c2, c3, c4, c5, c6, c7, x0, x1, x2, x3, x4⟩ := hS
    clear hb
    simp only [depsOK, updR, Region.binds, reduceIte, Nat.reduceEqDiff, forall_const, and_true, eqV, eqG, List.getElem?_cons_zero, List.getElem?_cons_succ, exists_eq_right, reduceCtorEq, Nat.succ_ne_self] at hd
    rcases Bool.eq_false_or_eq_true b1 with e | e
    · simp only [e, reduceCtorEq, false_imp_iff, and_true] at hd
      go_simp
      exact hK _ _ (fun h => Bool.noConfusion (e.symm.trans h)) (Below.refl _ _)
    · simp only [e, forall_const, exists_eq_right] at hd
      go_simp
      exact hK _ _ (fun _ => rfl) (Below.refl _ _)
  show Chain _ _ _ _ _ _ _ _ _ _ _ 27 7 _
  apply Chain.detg b1 false
  · intro a w1 hS hb hd K hK
    obtain ⟨c0, c1, c2, c3, c4, c5, c6, c7, x0, x1, x2, x3, x4⟩ := hS
    clear hb
    simp only [depsOK, updR, Region.binds, reduceIte, Nat.reduceEqDiff, forall_const, and_true, eqV, eqG, List.getElem?_cons_zero, List.getElem?_cons_succ, exists_eq_right, reduceCtorEq, Nat.succ_ne_self] at hd
    rcases Bool.eq_false_or_eq_true b1 with e | e
    · simp only [e, reduceCtorEq, false_imp_iff, and_true] at hd
      go_simp
      exact hK _ _ (fun h => Bool.noConfusion (e.symm.trans h)) (Below.refl _ _)
    · simp only [e, forall_const, exists_eq_right] at hd
      go_simp
      exact hK _ _ (fun _ => rfl) (Below.refl _ _)
  show Chain _ _ _ _ _ _ _ _ _ _ _ 26 8 _
  refine Chain.rel (eqG b1 false (.bool b2)) (stable_eqG _ _ _) ?_ ?_
  · intro a w1 hS hb hd K hK
    obtain ⟨c0, c1, c2, c3, c4, c5, c6, c7, x0, x1, x2, x3, x4⟩ := hS
    clear hb
    simp only [depsOK, updR, Region.binds, reduceIte, Nat.reduceEqDiff, forall_const, and_true, eqV, eqG, List.getElem?_cons_zero, List.getElem?_cons_succ, exists_eq_right, reduceCtorEq, Nat.succ_ne_self] at hd
    rcases Bool.eq_false_or_eq_true b1 with e | e
    · simp only [e, reduceCtorEq, false_imp_iff, and_true] at hd
      go_simp
      exact hK _ _ (fun h => Bool.noConfusion (e.symm.trans h)) (Below.refl _ _)
    · simp only [e, forall_const, exists_eq_right] at hd
      go_simp
      exact hK _ _ (fun _ => congrArg Value.bool Hb2.out.symm) (Below.refl _ _)
  show Chain _ _ _ _ _ _ _ _ _ _ _ 25 9 _
  refine Chain.rel (eqV (.bool n5_9)) (stable_eq _) ?_ ?_
  · intro a w1 hS hb hd K hK
    obtain ⟨c0, c1, c2, c3, c4, c5, c6, c7, x0, x1, x2, x3, x4⟩ := hS
    clear hb
    simp only [depsOK, updR, Region.binds, reduceIte, Nat.reduceEqDiff, forall_const, and_true, eqV, eqG, List.getElem?_cons_zero, List.getElem?_cons_succ, exists_eq_right, reduceCtorEq, Nat.succ_ne_self] at hd
    rcases Bool.eq_false_or_eq_true b1 with e | e
    · simp only [e, reduceCtorEq, false_imp_iff, and_true] at hd
      go_simp
      exact hK _ _ (by show Value.bool _ = Value.bool _; rw [Hn5_9.out, e]; try rfl) (Below.refl _ _)
    · simp only [e, forall_const, exists_eq_right] at hd
      go_simp
      exact hK _ _ (by show Value.bool _ = Value.bool _; rw [Hn5_9.out, e]; try rfl) (Below.refl _ _)
  show Chain _ _ _ _ _ _ _ _ _ _ _ 24 10 _
  apply Chain.det
  · intro a w1 hS hb hd K hK
    obtain ⟨c0, c1, c2, c3, c4, c5, c6, c7, x0, x1, x2, x3, x4⟩ := hS
    clear hb
    simp only [depsOK, updR, Region.binds, reduceIte, Nat.reduceEqDiff, forall_const, and_true, eqV, List.getElem?_cons_zero, List.getElem?_cons_succ, exists_eq_right, reduceCtorEq, Nat.succ_ne_self] at hd
    go_simp
    exact hK _ _ rfl (Below.refl _ _)
  show Chain _ _ _ _ _ _ _ _ _ _ _ 23 11 _
  apply Chain.detg n5_9 false
  · intro a w1 hS hb hd K hK
    obtain ⟨c0, c1, c2, c3, c4, c5, c6, c7, x0, x1, x2, x3, x4⟩ := hS
    have b9 := hb 9 _ rfl (by decide)
    clear hb
    simp only [depsOK, updR, Region.binds, reduceIte, Nat.reduceEqDiff, forall_const, and_true, eqV, List.getElem?_cons_zero, List.getElem?_cons_succ, exists_eq_right, reduceCtorEq, Nat.succ_ne_self] at hd
    rcases Bool.eq_false_or_eq_true n5_9 with e | e
    · simp only [e] at hd
      go_simp
      exact hK _ _ (fun h => Bool.noConfusion (e.symm.trans h)) (Below.refl _ _)
    · simp only [e] at hd
      go_simp
      exact hK _ _ (fun _ => rfl) (Below.refl _ _)
  show Chain _ _ _ _ _ _ _ _ _ _ _ 22 12 _
  apply Chain.detg n5_9 false
  · intro a w1 hS hb hd K hK
    obtain ⟨c0, c1, c2, c3, c4, c5, c6, c7, x0, x1, x2, x3, x4⟩ := hS
    clear hb
    simp only [depsOK, updR, Region.binds, reduceIte, Nat.reduceEqDiff, forall_const, and_true, eqV, eqG, List.getElem?_cons_zero, List.getElem?_cons_succ, exists_eq_right, reduceCtorEq, Nat.succ_ne_self] at hd
    rcases Bool.eq_false_or_eq_true n5_9 with e | e
    · simp only [e, reduceCtorEq, false_imp_iff, and_true] at hd
      go_simp
      exact hK _ _ (fun h => Bool.noConfusion (e.symm.trans h)) (Below.refl _ _)
    · simp only [e, forall_const, exists_eq_right] at hd
      go_simp
      exact hK _ _ (fun _ => rfl) (Below.refl _ _)
  show Chain _ _ _ _ _ _ _ _ _ _ _ 21 13 _
  apply Chain.detg n5_9 false
  · intro a w1 hS hb hd K hK
    obtain ⟨c0, c1, c2, c3, c4, c5, c6, c7, x0, x1, x2, x3, x4⟩ := hS
    clear hb
    simp only [depsOK, updR, Region.binds, reduceIte, Nat.reduceEqDiff, forall_const, and_true, eqV, eqG, List.getElem?_cons_zero, List.getElem?_cons_succ, exists_eq_right, reduceCtorEq, Nat.succ_ne_self] at hd
    rcases Bool.eq_false_or_eq_true n5_9 with e | e
    · simp only [e, reduceCtorEq, false_imp_iff, and_true] at hd
      go_simp
      exact hK _ _ (fun h => Bool.noConfusion (e.symm.trans h)) (Below.refl _ _)
    · simp only [e, forall_const, exists_eq_right] at hd
      go_simp
      exact hK _ _ (fun _ => rfl) (Below.refl _ _)
  show Chain _ _ _ _ _ _ _ _ _ _ _ 20 14 _
  refine Chain.rel (eqG n5_9 false (.bool b3)) (stable_eqG _ _ _) ?_ ?_
  · intro a w1 hS hb hd K hK
    obtain ⟨c0, c1, c2, c3, c4, c5, c6, c7, x0, x1, x2, x3, x4⟩ := hS
    clear hb
    simp only [depsOK, updR, Region.binds, reduceIte, Nat.reduceEqDiff, forall_const, and_true, eqV, eqG, List.getElem?_cons_zero, List.getElem?_cons_succ, exists_eq_right, reduceCtorEq, Nat.succ_ne_self] at hd
    rcases Bool.eq_false_or_eq_true n5_9 with e | e
    · simp only [e, reduceCtorEq, false_imp_iff, and_true] at hd
      go_simp
      exact hK _ _ (fun h => Bool.noConfusion (e.symm.trans h)) (Below.refl _ _)
    · simp only [e, forall_const, exists_eq_right] at hd
      go_simp
      exact hK _ _ (fun _ => congrArg Value.bool Hb3.out.symm) (Below.refl _ _)
  show Chain _ _ _ _ _ _ _ _ _ _ _ 19 15 _
  refine Chain.rel (eqV (.bool n5_15)) (stable_eq _) ?_ ?_
  · intro a w1 hS hb hd K hK
    obtain ⟨c0, c1, c2, c3, c4, c5, c6, c7, x0, x1, x2, x3, x4⟩ := hS
    clear hb
    simp only [depsOK, updR, Region.binds, reduceIte, Nat.reduceEqDiff, forall_const, and_true, eqV, eqG, List.getElem?_cons_zero, List.getElem?_cons_succ, exists_eq_right, reduceCtorEq, Nat.succ_ne_self] at hd
    rcases Bool.eq_false_or_eq_true n5_9 with e | e
    · simp only [e, reduceCtorEq, false_imp_iff, and_true] at hd
      go_simp
      exact hK _ _ (by show Value.bool _ = Value.bool _; rw [Hn5_15.out, e]; try rfl) (Below.refl _ _)
    · simp only [e, forall_const, exists_eq_right] at hd
      go_simp
      exact hK _ _ (by show Value.bool _ = Value.bool _; rw [Hn5_15.out, e]; try rfl) (Below.refl _ _)
  show Chain _ _ _ _ _ _ _ _ _ _ _ 18 16 _
  apply Chain.det
  · intro a w1 hS hb hd K hK
    obtain ⟨c0, c1, c2, c3, c4, c5, c6, c7, x0, x1, x2, x3, x4⟩ := hS
    clear hb
    simp only [depsOK, updR, Region.binds, reduceIte, Nat.reduceEqDiff, forall_const, and_true, eqV, List.getElem?_cons_zero, List.getElem?_cons_succ, exists_eq_right, reduceCtorEq, Nat.succ_ne_self] at hd
    go_simp
    exact hK _ _ rfl (Below.refl _ _)
  show Chain _ _ _ _ _ _ _ _ _ _ _ 17 17 _
  apply Chain.detg n5_15 false
  · intro a w1 hS hb hd K hK
    obtain ⟨c0, c1, c2, c3, c4, c5, c6, c7, x0, x1, x2, x3, x4⟩ := hS
    have b5 := hb 5 _ rfl (by decide)
    clear hb
    simp only [depsOK, updR, Region.binds, reduceIte, Nat.reduceEqDiff, forall_const, and_true, eqV, List.getElem?_cons_zero, List.getElem?_cons_succ, exists_eq_right, reduceCtorEq, Nat.succ_ne_self] at hd
    rcases Bool.eq_false_or_eq_true n5_15 with e | e
    · simp only [e] at hd
      go_simp
      exact hK _ _ (fun h => Bool.noConfusion (e.symm.trans h)) (Below.refl _ _)
    · simp only [e] at hd
      have e3 := e
      rw [Hn5_15.out] at e3
      have e4 := (Bool.or_eq_false_iff.1 e3).1
      rw [Hn5_9.out] at e4
      have e5 := (Bool.or_eq_false_iff.1 e4).1
      rw [Hb1.out] at e5
      have l0 : 0 < pa.length := by
        have := (bne_eq_false_iff_eq.1 e5)
        omega
      have ea := EA0.out l0
      rw [ea] at x2
      have y0 := x2.get 0 l0
      rw [add0, ← HPX.out] at y0
      clear e3 e4 e5
      go_simp
      exact hK _ _ (fun _ => rfl) (Below.refl _ _)
  show Chain _ _ _ _ _ _ _ _ _ _ _ 16 18 _
  apply Chain.detg n5_15 false
  · intro a w1 hS hb hd K hK
    obtain ⟨c0, c1, c2, c3, c4, c5, c6, c7, x0, x1, x2, x3, x4⟩ := hS
    have b9 := hb 9 _ rfl (by decide)
    clear hb
    simp only [depsOK, updR, Region.binds, reduceIte, Nat.reduceEqDiff, forall_const, and_true, eqV, List.getElem?_cons_zero, List.getElem?_cons_succ, exists_eq_right, reduceCtorEq, Nat.succ_ne_self] at hd
    rcases Bool.eq_false_or_eq_true n5_15 with e | e
    · simp only [e] at hd
      go_simp
      exact hK _ _ (fun h => Bool.noConfusion (e.symm.trans h)) (Below.refl _ _)
    · simp only [e] at hd
      have e3 := e
      rw [Hn5_15.out] at e3
      have e4 := (Bool.or_eq_false_iff.1 e3).1
      rw [Hn5_9.out] at e4
      have e5 := (Bool.or_eq_false_iff.1 e4).1
      rw [Hb1.out] at e5
      have l0 : 0 < pa.length := by
        have := (bne_eq_false_iff_eq.1 e5)
        omega
      have ea := EA0.out l0
      rw [ea] at x2
      have y0 := x2.get 0 l0
      rw [add0, ← HPX.out] at y0
      clear e3 e4 e5
      go_simp
      exact hK _ _ (fun _ => rfl) (Below.refl _ _)
  show Chain _ _ _ _ _ _ _ _ _ _ _ 15 19 _
  apply Chain.detg n5_15 false
  · intro a w1 hS hb hd K hK
    obtain ⟨c0, c1, c2, c3, c4, c5, c6, c7, x0, x1, x2, x3, x4⟩ := hS
    clear hb
    simp only [depsOK, updR, Region.binds, reduceIte, Nat.reduceEqDiff, forall_const, and_true, eqV, eqG, List.getElem?_cons_zero, List.getElem?_cons_succ, exists_eq_right, reduceCtorEq, Nat.succ_ne_self] at hd
    rcases Bool.eq_false_or_eq_true n5_15 with e | e
    · simp only [e, reduceCtorEq, false_imp_iff, and_true] at hd
      go_simp
      exact hK _ _ (fun h => Bool.noConfusion (e.symm.trans h)) (Below.refl _ _)
    · simp only [e, forall_const, exists_eq_right] at hd
      have e3 := e
      rw [Hn5_15.out] at e3
      have e4 := (Bool.or_eq_false_iff.1 e3).1
      rw [Hn5_9.out] at e4
      have e5 := (Bool.or_eq_false_iff.1 e4).1
      rw [Hb1.out] at e5
      have l0 : 0 < pa.length := by
        have := (bne_eq_false_iff_eq.1 e5)
        omega
      have ea := EA0.out l0
      rw [ea] at x2
      have y0 := x2.get 0 l0
      rw [add0, ← HPX.out] at y0
      clear e3 e4 e5
      go_simp
      exact hK _ _ (fun _ => rfl) (Below.refl _ _)
  show Chain _ _ _ _ _ _ _ _ _ _ _ 14 20 _
  apply Chain.detg n5_15 false
  · intro a w1 hS hb hd K hK
    obtain ⟨c0, c1, c2, c3, c4, c5, c6, c7, x0, x1, x2, x3, x4⟩ := hS
    clear hb
    simp only [depsOK, updR, Region.binds, reduceIte, Nat.reduceEqDiff, forall_const, and_true, eqV, eqG, List.getElem?_cons_zero, List.getElem?_cons_succ, exists_eq_right, reduceCtorEq, Nat.succ_ne_self] at hd
    rcases Bool.eq_false_or_eq_true n5_15 with e | e
    · simp only [e, reduceCtorEq, false_imp_iff, and_true] at hd
      go_simp
      exact hK _ _ (fun h => Bool.noConfusion (e.symm.trans h)) (Below.refl _ _)
    · simp only [e, forall_const, exists_eq_right] at hd
      have e3 := e
      rw [Hn5_15.out] at e3
      have e4 := (Bool.or_eq_false_iff.1 e3).1
      rw [Hn5_9.out] at e4
      have e5 := (Bool.or_eq_false_iff.1 e4).1
      rw [Hb1.out] at e5
      have l0 : 0 < pa.length := by
        have := (bne_eq_false_iff_eq.1 e5)
        omega
      have ea := EA0.out l0
      rw [ea] at x2
      have y0 := x2.get 0 l0
      rw [add0, ← HPX.out] at y0
      clear e3 e4 e5
      go_simp
      exact hK _ _ (fun _ => rfl) (Below.refl _ _)
  show Chain _ _ _ _ _ _ _ _ _ _ _ 13 21 _
  apply Chain.detg n5_15 false
  · intro a w1 hS hb hd K hK
    obtain ⟨c0, c1, c2, c3, c4, c5, c6, c7, x0, x1, x2, x3, x4⟩ := hS
    clear hb
    simp only [depsOK, updR, Region.binds, reduceIte, Nat.reduceEqDiff, forall_const, and_true, eqV, eqG, List.getElem?_cons_zero, List.getElem?_cons_succ, exists_eq_right, reduceCtorEq, Nat.succ_ne_self] at hd
    rcases Bool.eq_false_or_eq_true n5_15 with e | e
    · simp only [e, reduceCtorEq, false_imp_iff, and_true] at hd
      go_simp
      exact hK _ _ (fun h => Bool.noConfusion (e.symm.trans h)) (Below.refl _ _)
    · simp only [e, forall_const, exists_eq_right] at hd
      have e3 := e
      rw [Hn5_15.out] at e3
      have e4 := (Bool.or_eq_false_iff.1 e3).1
      rw [Hn5_9.out] at e4
      have e5 := (Bool.or_eq_false_iff.1 e4).1
      rw [Hb1.out] at e5
      have l0 : 0 < pa.length := by
        have := (bne_eq_false_iff_eq.1 e5)
        omega
      have ea := EA0.out l0
      rw [ea] at x2
      have y0 := x2.get 0 l0
      rw [add0, ← HPX.out] at y0
      clear e3 e4 e5
      go_simp
      exact hK _ _ (fun _ => rfl) (Below.refl _ _)
  show Chain _ _ _ _ _ _ _ _ _ _ _ 12 22 _
  refine Chain.rel (eqG n5_15 false (.bool b4)) (stable_eqG _ _ _) ?_ ?_
  · intro a w1 hS hb hd K hK
    obtain ⟨c0, c1, c2, c3, c4, c5, c6, c7, x0, x1, x2, x3, x4⟩ := hS
    clear hb
    simp only [depsOK, updR, Region.binds, reduceIte, Nat.reduceEqDiff, forall_const, and_true, eqV, eqG, List.getElem?_cons_zero, List.getElem?_cons_succ, exists_eq_right, reduceCtorEq, Nat.succ_ne_self] at hd
    rcases Bool.eq_false_or_eq_true n5_15 with e | e
    · simp only [e, reduceCtorEq, false_imp_iff, and_true] at hd
      go_simp
      exact hK _ _ (fun h => Bool.noConfusion (e.symm.trans h)) (Below.refl _ _)
    · simp only [e, forall_const, exists_eq_right] at hd
      have e3 := e
      rw [Hn5_15.out] at e3
      have e4 := (Bool.or_eq_false_iff.1 e3).1
      rw [Hn5_9.out] at e4
      have e5 := (Bool.or_eq_false_iff.1 e4).1
      rw [Hb1.out] at e5
      have l0 : 0 < pa.length := by
        have := (bne_eq_false_iff_eq.1 e5)
        omega
      have ea := EA0.out l0
      rw [ea] at x2
      have y0 := x2.get 0 l0
      rw [add0, ← HPX.out] at y0
      clear e3 e4 e5
      go_simp
      refine (has_any p q g px HG.out _).mono ?_
      rintro e9 w9 ⟨rfl, hb9⟩
      exact hK _ _ (fun _ => congrArg Value.bool Hb4.out.symm) hb9
  show Chain _ _ _ _ _ _ _ _ _ _ _ 11 23 _
  refine Chain.rel (eqG n5_15 false (.bool n5_23)) (stable_eqG _ _ _) ?_ ?_
  · intro a w1 hS hb hd K hK
    obtain ⟨c0, c1, c2, c3, c4, c5, c6, c7, x0, x1, x2, x3, x4⟩ := hS
    clear hb
    simp only [depsOK, updR, Region.binds, reduceIte, Nat.reduceEqDiff, forall_const, and_true, eqV, eqG, List.getElem?_cons_zero, List.getElem?_cons_succ, exists_eq_right, reduceCtorEq, Nat.succ_ne_self] at hd
    rcases Bool.eq_false_or_eq_true n5_15 with e | e
    · simp only [e, reduceCtorEq, false_imp_iff, and_true] at hd
      go_simp
      exact hK _ _ (fun h => Bool.noConfusion (e.symm.trans h)) (Below.refl _ _)
    · simp only [e, forall_const, exists_eq_right] at hd
      have e3 := e
      rw [Hn5_15.out] at e3
      have e4 := (Bool.or_eq_false_iff.1 e3).1
      rw [Hn5_9.out] at e4
      have e5 := (Bool.or_eq_false_iff.1 e4).1
      rw [Hb1.out] at e5
      have l0 : 0 < pa.length := by
        have := (bne_eq_false_iff_eq.1 e5)
        omega
      have ea := EA0.out l0
      rw [ea] at x2
      have y0 := x2.get 0 l0
      rw [add0, ← HPX.out] at y0
      clear e3 e4 e5
      rcases Bool.eq_false_or_eq_true b4 with e | e
      · simp only [e] at hd
        go_simp
        exact hK _ _ (fun _ => by show Value.bool _ = Value.bool _; rw [Hn5_23.out, e]; try rfl) (Below.refl _ _)
      · simp only [e] at hd
        go_simp
        exact hK _ _ (fun _ => by show Value.bool _ = Value.bool _; rw [Hn5_23.out, e]; try rfl) (Below.refl _ _)
  show Chain _ _ _ _ _ _ _ _ _ _ _ 10 24 _
  refine Chain.rel (eqV (.bool n5_24)) (stable_eq _) ?_ ?_
  · intro a w1 hS hb hd K hK
    obtain ⟨c0, c1, c2, c3, c4, c5, c6, c7, x0, x1, x2, x3, x4⟩ := hS
    clear hb
    simp only [depsOK, updR, Region.binds, reduceIte, Nat.reduceEqDiff, forall_const, and_true, eqV, eqG, List.getElem?_cons_zero, List.getElem?_cons_succ, exists_eq_right, reduceCtorEq, Nat.succ_ne_self] at hd
    rcases Bool.eq_false_or_eq_true n5_15 with e | e
    · simp only [e, reduceCtorEq, false_imp_iff, and_true] at hd
      go_simp
      exact hK _ _ (by show Value.bool _ = Value.bool _; rw [Hn5_24.out, e]; try rfl) (Below.refl _ _)
    · simp only [e, forall_const, exists_eq_right] at hd
      go_simp
      exact hK _ _ (by show Value.bool _ = Value.bool _; rw [Hn5_24.out, e]; try rfl) (Below.refl _ _)
  show Chain _ _ _ _ _ _ _ _ _ _ _ 9 25 _
  apply Chain.det
  · intro a w1 hS hb hd K hK
    obtain ⟨c0, c1, c2, c3, c4, c5, c6, c7, x0, x1, x2, x3, x4⟩ := hS
    clear hb
    simp only [depsOK, updR, Region.binds, reduceIte, Nat.reduceEqDiff, forall_const, and_true, eqV, eqG, List.getElem?_cons_zero, List.getElem?_cons_succ, exists_eq_right, reduceCtorEq, Nat.succ_ne_self] at hd
    go_simp
    exact hK _ _ rfl (Below.refl _ _)
  show Chain _ _ _ _ _ _ _ _ _ _ _ 8 26 _
  apply Chain.detg n5_24 false
  · intro a w1 hS hb hd K hK
    obtain ⟨c0, c1, c2, c3, c4, c5, c6, c7, x0, x1, x2, x3, x4⟩ := hS
    have b5 := hb 5 _ rfl (by decide)
    clear hb
    simp only [depsOK, updR, Region.binds, reduceIte, Nat.reduceEqDiff, forall_const, and_true, eqV, List.getElem?_cons_zero, List.getElem?_cons_succ, exists_eq_right, reduceCtorEq, Nat.succ_ne_self] at hd
    rcases Bool.eq_false_or_eq_true n5_24 with e | e
    · simp only [e] at hd
      go_simp
      exact hK _ _ (fun h => Bool.noConfusion (e.symm.trans h)) (Below.refl _ _)
    · simp only [e] at hd
      have e3 := e
      rw [Hn5_24.out] at e3
      have e4 := (Bool.or_eq_false_iff.1 e3).1
      rw [Hn5_15.out] at e4
      have e5 := (Bool.or_eq_false_iff.1 e4).2
      rw [Hb3.out] at e5
      have l0 : 0 < pr.length := by
        have := (bne_eq_false_iff_eq.1 e5)
        omega
      have ea := EA2.out l0
      rw [ea] at x4
      have y0 := x4.get 0 l0
      rw [add0, ← HPZ.out] at y0
      clear e3 e4 e5
      go_simp
      exact hK _ _ (fun _ => rfl) (Below.refl _ _)
  show Chain _ _ _ _ _ _ _ _ _ _ _ 7 27 _
  apply Chain.detg n5_24 false
  · intro a w1 hS hb hd K hK
    obtain ⟨c0, c1, c2, c3, c4, c5, c6, c7, x0, x1, x2, x3, x4⟩ := hS
    have b9 := hb 9 _ rfl (by decide)
    clear hb
    simp only [depsOK, updR, Region.binds, reduceIte, Nat.reduceEqDiff, forall_const, and_true, eqV, List.getElem?_cons_zero, List.getElem?_cons_succ, exists_eq_right, reduceCtorEq, Nat.succ_ne_self] at hd
    rcases Bool.eq_false_or_eq_true n5_24 with e | e
    · simp only [e] at hd
      go_simp
      exact hK _ _ (fun h => Bool.noConfusion (e.symm.trans h)) (Below.refl _ _)
    · simp only [e] at hd
      have e3 := e
      rw [Hn5_24.out] at e3
      have e4 := (Bool.or_eq_false_iff.1 e3).1
      rw [Hn5_15.out] at e4
      have e5 := (Bool.or_eq_false_iff.1 e4).2
      rw [Hb3.out] at e5
      have l0 : 0 < pr.length := by
        have := (bne_eq_false_iff_eq.1 e5)
        omega
      have ea := EA2.out l0
      rw [ea] at x4
      have y0 := x4.get 0 l0
      rw [add0, ← HPZ.out] at y0
      clear e3 e4 e5
      go_simp
      exact hK _ _ (fun _ => rfl) (Below.refl _ _)
  show Chain _ _ _ _ _ _ _ _ _ _ _ 6 28 _
  apply Chain.detg n5_24 false
  · intro a w1 hS hb hd K hK
    obtain ⟨c0, c1, c2, c3, c4, c5, c6, c7, x0, x1, x2, x3, x4⟩ := hS
    clear hb
    simp only [depsOK, updR, Region.binds, reduceIte, Nat.reduceEqDiff, forall_const, and_true, eqV, eqG, List.getElem?_cons_zero, List.getElem?_cons_succ, exists_eq_right, reduceCtorEq, Nat.succ_ne_self] at hd
    rcases Bool.eq_false_or_eq_true n5_24 with e | e
    · simp only [e, reduceCtorEq, false_imp_iff, and_true] at hd
      go_simp
      exact hK _ _ (fun h => Bool.noConfusion (e.symm.trans h)) (Below.refl _ _)
    · simp only [e, forall_const, exists_eq_right] at hd
      have e3 := e
      rw [Hn5_24.out] at e3
      have e4 := (Bool.or_eq_false_iff.1 e3).1
      rw [Hn5_15.out] at e4
      have e5 := (Bool.or_eq_false_iff.1 e4).2
      rw [Hb3.out] at e5
      have l0 : 0 < pr.length := by
        have := (bne_eq_false_iff_eq.1 e5)
        omega
      have ea := EA2.out l0
      rw [ea] at x4
      have y0 := x4.get 0 l0
      rw [add0, ← HPZ.out] at y0
      clear e3 e4 e5
      go_simp
      exact hK _ _ (fun _ => rfl) (Below.refl _ _)
  show Chain _ _ _ _ _ _ _ _ _ _ _ 5 29 _
  apply Chain.detg n5_24 false
  · intro a w1 hS hb hd K hK
    obtain ⟨c0, c1, c2, c3, c4, c5, c6, c7, x0, x1, x2, x3, x4⟩ := hS
    clear hb
    simp only [depsOK, updR, Region.binds, reduceIte, Nat.reduceEqDiff, forall_const, and_true, eqV, eqG, List.getElem?_cons_zero, List.getElem?_cons_succ, exists_eq_right, reduceCtorEq, Nat.succ_ne_self] at hd
    rcases Bool.eq_false_or_eq_true n5_24 with e | e
    · simp only [e, reduceCtorEq, false_imp_iff, and_true] at hd
      go_simp
      exact hK _ _ (fun h => Bool.noConfusion (e.symm.trans h)) (Below.refl _ _)
    · simp only [e, forall_const, exists_eq_right] at hd
      have e3 := e
      rw [Hn5_24.out] at e3
      have e4 := (Bool.or_eq_false_iff.1 e3).1
      rw [Hn5_15.out] at e4
      have e5 := (Bool.or_eq_false_iff.1 e4).2
      rw [Hb3.out] at e5
      have l0 : 0 < pr.length := by
        have := (bne_eq_false_iff_eq.1 e5)
        omega
      have ea := EA2.out l0
      rw [ea] at x4
      have y0 := x4.get 0 l0
      rw [add0, ← HPZ.out] at y0
      clear e3 e4 e5
      go_simp
      exact hK _ _ (fun _ => rfl) (Below.refl _ _)
  show Chain _ _ _ _ _ _ _ _ _ _ _ 4 30 _
  apply Chain.detg n5_24 false
  · intro a w1 hS hb hd K hK
    obtain ⟨c0, c1, c2, c3, c4, c5, c6, c7, x0, x1, x2, x3, x4⟩ := hS
    clear hb
    simp only [depsOK, updR, Region.binds, reduceIte, Nat.reduceEqDiff, forall_const, and_true, eqV, eqG, List.getElem?_cons_zero, List.getElem?_cons_succ, exists_eq_right, reduceCtorEq, Nat.succ_ne_self] at hd
    rcases Bool.eq_false_or_eq_true n5_24 with e | e
    · simp only [e, reduceCtorEq, false_imp_iff, and_true] at hd
      go_simp
      exact hK _ _ (fun h => Bool.noConfusion (e.symm.trans h)) (Below.refl _ _)
    · simp only [e, forall_const, exists_eq_right] at hd
      have e3 := e
      rw [Hn5_24.out] at e3
      have e4 := (Bool.or_eq_false_iff.1 e3).1
      rw [Hn5_15.out] at e4
      have e5 := (Bool.or_eq_false_iff.1 e4).2
      rw [Hb3.out] at e5
      have l0 : 0 < pr.length := by
        have := (bne_eq_false_iff_eq.1 e5)
        omega
      have ea := EA2.out l0
      rw [ea] at x4
      have y0 := x4.get 0 l0
      rw [add0, ← HPZ.out] at y0
      clear e3 e4 e5
      go_simp
      exact hK _ _ (fun _ => rfl) (Below.refl _ _)
  show Chain _ _ _ _ _ _ _ _ _ _ _ 3 31 _
  refine Chain.rel (eqG n5_24 false (.bool b5)) (stable_eqG _ _ _) ?_ ?_
  · intro a w1 hS hb hd K hK
    obtain ⟨c0, c1, c2, c3, c4, c5, c6, c7, x0, x1, x2, x3, x4⟩ := hS
    clear hb
    simp only [depsOK, updR, Region.binds, reduceIte, Nat.reduceEqDiff, forall_const, and_true, eqV, eqG, List.getElem?_cons_zero, List.getElem?_cons_succ, exists_eq_right, reduceCtorEq, Nat.succ_ne_self] at hd
    rcases Bool.eq_false_or_eq_true n5_24 with e | e
    · simp only [e, reduceCtorEq, false_imp_iff, and_true] at hd
      go_simp
      exact hK _ _ (fun h => Bool.noConfusion (e.symm.trans h)) (Below.refl _ _)
    · simp only [e, forall_const, exists_eq_right] at hd
      have e3 := e
      rw [Hn5_24.out] at e3
      have e4 := (Bool.or_eq_false_iff.1 e3).1
      rw [Hn5_15.out] at e4
      have e5 := (Bool.or_eq_false_iff.1 e4).2
      rw [Hb3.out] at e5
      have l0 : 0 < pr.length := by
        have := (bne_eq_false_iff_eq.1 e5)
        omega
      have ea := EA2.out l0
      rw [ea] at x4
      have y0 := x4.get 0 l0
      rw [add0, ← HPZ.out] at y0
      clear e3 e4 e5
      go_simp
      refine (isExp_any p q g pz _ (by omega)).mono ?_
      rintro e9 w9 ⟨rfl, hb9⟩
      exact hK _ _ (fun _ => congrArg Value.bool Hb5.out.symm) hb9
  show Chain _ _ _ _ _ _ _ _ _ _ _ 2 32 _
  refine Chain.rel (eqG n5_24 false (.bool n5_32)) (stable_eqG _ _ _) ?_ ?_
  · intro a w1 hS hb hd K hK
    obtain ⟨c0, c1, c2, c3, c4, c5, c6, c7, x0, x1, x2, x3, x4⟩ := hS
    clear hb
    simp only [depsOK, updR, Region.binds, reduceIte, Nat.reduceEqDiff, forall_const, and_true, eqV, eqG, List.getElem?_cons_zero, List.getElem?_cons_succ, exists_eq_right, reduceCtorEq, Nat.succ_ne_self] at hd
    rcases Bool.eq_false_or_eq_true n5_24 with e | e
    · simp only [e, reduceCtorEq, false_imp_iff, and_true] at hd
      go_simp
      exact hK _ _ (fun h => Bool.noConfusion (e.symm.trans h)) (Below.refl _ _)
    · simp only [e, forall_const, exists_eq_right] at hd
      have e3 := e
      rw [Hn5_24.out] at e3
      have e4 := (Bool.or_eq_false_iff.1 e3).1
      rw [Hn5_15.out] at e4
      have e5 := (Bool.or_eq_false_iff.1 e4).2
      rw [Hb3.out] at e5
      have l0 : 0 < pr.length := by
        have := (bne_eq_false_iff_eq.1 e5)
        omega
      have ea := EA2.out l0
      rw [ea] at x4
      have y0 := x4.get 0 l0
      rw [add0, ← HPZ.out] at y0
      clear e3 e4 e5
      rcases Bool.eq_false_or_eq_true b5 with e | e
      · simp only [e] at hd
        go_simp
        exact hK _ _ (fun _ => by show Value.bool _ = Value.bool _; rw [Hn5_32.out, e]; try rfl) (Below.refl _ _)
      · simp only [e] at hd
        go_simp
        exact hK _ _ (fun _ => by show Value.bool _ = Value.bool _; rw [Hn5_32.out, e]; try rfl) (Below.refl _ _)
  show Chain _ _ _ _ _ _ _ _ _ _ _ 1 33 _
  refine Chain.rel (eqV (.bool n5_33)) (stable_eq _) ?_ ?_
  · intro a w1 hS hb hd K hK
    obtain ⟨c0, c1, c2, c3, c4, c5, c6, c7, x0, x1, x2, x3, x4⟩ := hS
    clear hb
    simp only [depsOK, updR, Region.binds, reduceIte, Nat.reduceEqDiff, forall_const, and_true, eqV, eqG, List.getElem?_cons_zero, List.getElem?_cons_succ, exists_eq_right, reduceCtorEq, Nat.succ_ne_self] at hd
    rcases Bool.eq_false_or_eq_true n5_24 with e | e
    · simp only [e, reduceCtorEq, false_imp_iff, and_true] at hd
      go_simp
      exact hK _ _ (by show Value.bool _ = Value.bool _; rw [Hn5_33.out, e]; try rfl) (Below.refl _ _)
    · simp only [e, forall_const, exists_eq_right] at hd
      go_simp
      exact hK _ _ (by show Value.bool _ = Value.bool _; rw [Hn5_33.out, e]; try rfl) (Below.refl _ _)
  show Chain _ _ _ _ _ _ _ _ _ _ _ 0 34 _
  intro x w5 hS hB5 hR y hY hA hE
  have r33 := hR 33 _ rfl
  simp only [updR, reduceIte, Nat.reduceEqDiff, eqV] at r33
  clear hR hY hA hE
  simp only [TailWp, fillB, Act.put, List.setIfInBounds_toArray, List.set_cons_zero, List.set_cons_succ, Nat.reduceAdd, r33]
  clear r33
  have hX5 : Below w4.heap.size w4 w5 := bnext (Below.drew (by repeat (first | exact Below.refl _ _ | refine bnew ?_ _ | refine Below.drew ?_ | refine Below.drewN ?_ _ | (refine below_set _ ?_ ?_; rotate_left; focus (first | omega | (simp; done) | (simp <;> omega)))))) hB5
  clear hB5
  have hT5 : Below w.heap.size w w5 := bnext hT4 hX5
  clear c0 c1 c2 c3 c4 c5 c6 c7 x0 x1 x2 x3 x4
  obtain ⟨c0, c1, c2, c3, c4, c5, c6, c7, x0, x1, x2, x3, x4⟩ := hS
  have hn : n5_33 = !(((pa.length : Int) == 1) && ((pc.length : Int) == 1) && ((pr.length : Int) == 1) && elemB p q (pa.getD 0 0) && inr (pr.getD 0 0) 0 (q - 1)) := by
    rw [Hn5_33.out, Hn5_32.out, Hn5_24.out, Hn5_23.out, Hn5_15.out, Hn5_9.out, Hb1.out, Hb2.out, Hb3.out, Hb4.out, Hb5.out, HPX.out, HPZ.out]
    simp only [bne]
    cases ((pa.length : Int) == 1) <;> cases ((pc.length : Int) == 1) <;> cases ((pr.length : Int) == 1) <;> cases elemB p q (pa.getD 0 0) <;> cases inr (pr.getD 0 0) 0 (q - 1) <;> rfl
  have HN := Lib.hid hn
  clear hn
  rcases Bool.eq_false_or_eq_true (!n5_33) with h3 | h3
  rotate_left
  · have h3' : n5_33 = true := by simpa using h3
    have hO := Lib.hid (show sumV p q g bh cc t pa pc pr = false by
      have := HN.out
      rw [h3'] at this
      have h5 := of_true_not this
      unfold sumV
      rw [h5]; rfl)
    clear h3
    subst h3'
    go_wp2
    go_ret2
    exact ⟨ret_bb (by rw [hR.out, hO.out]) (by rw [hR.out]), hT5⟩
  have h3p : n5_33 = false := by simpa using h3
  have h4 := HN.out
  rw [h3p] at h4
  have h5 := of_false_not h4
  simp only [Bool.and_eq_true, beq_iff_eq] at h5
  obtain ⟨⟨⟨⟨o1, o2⟩, o3⟩, o4⟩, o5⟩ := h5
  have l1 : 0 < pa.length := by omega
  have l2 : 0 < pc.length := by omega
  have l3 : 0 < pr.length := by omega
  have hpx := HPX.out
  have hpe := HPE.out
  have hpz := HPZ.out
  have m0 : 0 ≤ px ∧ px < p := hpx ▸ elem_bd (elemB_t o4)
  have m2 : 0 ≤ pz ∧ pz < q := hpz ▸ inr_exp o5
  obtain ⟨ee, hee⟩ : ∃ v : Int, v = chS p q g bh cc t px := ⟨_, rfl⟩
  have be : 0 ≤ ee ∧ ee < q := hee ▸ chS_lt g1
  have HO := Lib.hid (show sumV p q g bh cc t pa pc pr = ((pe == ee) && (M.gpw p q bh pz == px * M.gpw p q (cc * M.gpw p q g (-t) % p) ee % p)) by
    unfold sumV
    rw [o1, o2, o3, o4, o5, ← hpx, ← hpe, ← hpz, ← hee]
    simp only [beq_self_eq_true, Bool.true_and])
  have HE := Lib.hid hee
  obtain rfl := EA0.out l1
  obtain rfl := EA1.out l2
  obtain rfl := EA2.out l3
  have z1 : (0 : Int) < (pa.length : Int) := by omega
  have z2 : (0 : Int) < (pc.length : Int) := by omega
  have z3 : (0 : Int) < (pr.length : Int) := by omega
  clear o1 o2 o3 o4 o5 h4 hee h3
  subst h3p
  have y0 : w5.cell? ad0 = some (.int .i64 px) := by
    have := x2.get 0 (by omega)
    rwa [add0, ← hpx] at this
  have y1 : w5.cell? ad1 = some (.int .i64 pe) := by
    have := x3.get 0 (by omega)
    rwa [add0, ← hpe] at this
  have y2 : w5.cell? ad2 = some (.int .i64 pz) := by
    have := x4.get 0 (by omega)
    rwa [add0, ← hpz] at this
  clear hpx hpe hpz
  go_wp2_with fail
  refine wp_region_chain (fun W => W.cell? ⟨w.heap.size, 0, none⟩ = some (.int .i64 p) ∧ W.cell? ⟨w.heap.size, 1, none⟩ = some (.int .i64 q) ∧ W.cell? ⟨w.heap.size, 2, none⟩ = some (.int .i64 g) ∧ W.cell? ⟨w.heap.size + 1, 0, none⟩ = some (.int .i64 bh) ∧ W.cell? ⟨w.heap.size + 1, 1, none⟩ = some (.slice A bs.length d) ∧ W.cell? ⟨w.heap.size + 1 + 1, 0, none⟩ = some (.slice (some ad0) pa.length c_pa) ∧ W.cell? ⟨w.heap.size + 1 + 1, 1, none⟩ = some (.slice (some ad1) pc.length c_pc) ∧ W.cell? ⟨w.heap.size + 1 + 1, 2, none⟩ = some (.slice (some ad2) pr.length c_pr) ∧ RI W W.heap.size A bs ∧ RI W W.heap.size A_c cs ∧ RI W W.heap.size (some ad0) pa ∧ RI W W.heap.size (some ad1) pc ∧ RI W W.heap.size (some ad2) pr ∧ W.cell? ad0 = some (.int .i64 px) ∧ W.cell? ad1 = some (.int .i64 pe) ∧ W.cell? ad2 = some (.int .i64 pz))
    9 [some 72, some 73, some 74, some 75, some 76, some 77, some 78, some 12, some 13] (by kernel_rfl) (by kernel_rfl) (by kernel_rfl) (by decide) (by rfl) (by kernel_rfl) (by kernel_rfl) ?hS0 ?hSs ?hc
  case hS0 => exact ⟨cell_keep (Below.drew (by repeat (first | exact Below.refl _ _ | refine bnew ?_ _ | refine Below.drew ?_ | refine Below.drewN ?_ _ | (refine below_set _ ?_ ?_; rotate_left; focus (first | omega | (simp; done) | (simp <;> omega)))))) c0, cell_keep (Below.drew (by repeat (first | exact Below.refl _ _ | refine bnew ?_ _ | refine Below.drew ?_ | refine Below.drewN ?_ _ | (refine below_set _ ?_ ?_; rotate_left; focus (first | omega | (simp; done) | (simp <;> omega)))))) c1, cell_keep (Below.drew (by repeat (first | exact Below.refl _ _ | refine bnew ?_ _ | refine Below.drew ?_ | refine Below.drewN ?_ _ | (refine below_set _ ?_ ?_; rotate_left; focus (first | omega | (simp; done) | (simp <;> omega)))))) c2, cell_keep (Below.drew (by repeat (first | exact Below.refl _ _ | refine bnew ?_ _ | refine Below.drew ?_ | refine Below.drewN ?_ _ | (refine below_set _ ?_ ?_; rotate_left; focus (first | omega | (simp; done) | (simp <;> omega)))))) c3, cell_keep (Below.drew (by repeat (first | exact Below.refl _ _ | refine bnew ?_ _ | refine Below.drew ?_ | refine Below.drewN ?_ _ | (refine below_set _ ?_ ?_; rotate_left; focus (first | omega | (simp; done) | (simp <;> omega)))))) c4, cell_keep (Below.drew (by repeat (first | exact Below.refl _ _ | refine bnew ?_ _ | refine Below.drew ?_ | refine Below.drewN ?_ _ | (refine below_set _ ?_ ?_; rotate_left; focus (first | omega | (simp; done) | (simp <;> omega)))))) c5, cell_keep (Below.drew (by repeat (first | exact Below.refl _ _ | refine bnew ?_ _ | refine Below.drew ?_ | refine Below.drewN ?_ _ | (refine below_set _ ?_ ?_; rotate_left; focus (first | omega | (simp; done) | (simp <;> omega)))))) c6, cell_keep (Below.drew (by repeat (first | exact Below.refl _ _ | refine bnew ?_ _ | refine Below.drew ?_ | refine Below.drewN ?_ _ | (refine below_set _ ?_ ?_; rotate_left; focus (first | omega | (simp; done) | (simp <;> omega)))))) c7, (x0).next (Below.drew (by repeat (first | exact Below.refl _ _ | refine bnew ?_ _ | refine Below.drew ?_ | refine Below.drewN ?_ _ | (refine below_set _ ?_ ?_; rotate_left; focus (first | omega | (simp; done) | (simp <;> omega)))))), (x1).next (Below.drew (by repeat (first | exact Below.refl _ _ | refine bnew ?_ _ | refine Below.drew ?_ | refine Below.drewN ?_ _ | (refine below_set _ ?_ ?_; rotate_left; focus (first | omega | (simp; done) | (simp <;> omega)))))), (x2).next (Below.drew (by repeat (first | exact Below.refl _ _ | refine bnew ?_ _ | refine Below.drew ?_ | refine Below.drewN ?_ _ | (refine below_set _ ?_ ?_; rotate_left; focus (first | omega | (simp; done) | (simp <;> omega)))))), (x3).next (Below.drew (by repeat (first | exact Below.refl _ _ | refine bnew ?_ _ | refine Below.drew ?_ | refine Below.drewN ?_ _ | (refine below_set _ ?_ ?_; rotate_left; focus (first | omega | (simp; done) | (simp <;> omega)))))), (x4).next (Below.drew (by repeat (first | exact Below.refl _ _ | refine bnew ?_ _ | refine Below.drew ?_ | refine Below.drewN ?_ _ | (refine below_set _ ?_ ?_; rotate_left; focus (first | omega | (simp; done) | (simp <;> omega)))))), cell_keep (Below.drew (by repeat (first | exact Below.refl _ _ | refine bnew ?_ _ | refine Below.drew ?_ | refine Below.drewN ?_ _ | (refine below_set _ ?_ ?_; rotate_left; focus (first | omega | (simp; done) | (simp <;> omega)))))) y0, cell_keep (Below.drew (by repeat (first | exact Below.refl _ _ | refine bnew ?_ _ | refine Below.drew ?_ | refine Below.drewN ?_ _ | (refine below_set _ ?_ ?_; rotate_left; focus (first | omega | (simp; done) | (simp <;> omega)))))) y1, cell_keep (Below.drew (by repeat (first | exact Below.refl _ _ | refine bnew ?_ _ | refine Below.drew ?_ | refine Below.drewN ?_ _ | (refine below_set _ ?_ ?_; rotate_left; focus (first | omega | (simp; done) | (simp <;> omega)))))) y2⟩
  case hSs => exact fun w1 w2 ⟨hc0, hc1, hc2, hc3, hc4, hc5, hc6, hc7, hx0, hx1, hx2, hx3, hx4, hy0, hy1, hy2⟩ hb => ⟨cell_keep hb hc0, cell_keep hb hc1, cell_keep hb hc2, cell_keep hb hc3, cell_keep hb hc4, cell_keep hb hc5, cell_keep hb hc6, cell_keep hb hc7, (hx0).next hb, (hx1).next hb, (hx2).next hb, (hx3).next hb, (hx4).next hb, cell_keep hb hy0, cell_keep hb hy1, cell_keep hb hy2⟩
  apply Chain.det
  · intro a w1 hS hb hd K hK
    obtain ⟨c0, c1, c2, c3, c4, c5, c6, c7, x0, x1, x2, x3, x4, y0, y1, y2⟩ := hS
    have b5 := hb 5 _ rfl (by decide)
    clear hb
    simp only [depsOK] at hd
    go_simp
    exact hK _ _ rfl (Below.refl _ _)
  show Chain _ _ _ _ _ _ _ _ _ _ _ 8 1 _
  apply Chain.det
  · intro a w1 hS hb hd K hK
    obtain ⟨c0, c1, c2, c3, c4, c5, c6, c7, x0, x1, x2, x3, x4, y0, y1, y2⟩ := hS
    have b2 := hb 2 _ rfl (by decide)
    clear hb
    simp only [depsOK] at hd
    go_simp
    exact hK _ _ rfl (Below.refl _ _)
  show Chain _ _ _ _ _ _ _ _ _ _ _ 7 2 _
  apply Chain.det
  · intro a w1 hS hb hd K hK
    obtain ⟨c0, c1, c2, c3, c4, c5, c6, c7, x0, x1, x2, x3, x4, y0, y1, y2⟩ := hS
    clear hb
    simp only [depsOK, updR, Region.binds, reduceIte, forall_const, and_true, eqV, List.getElem?_cons_zero, List.getElem?_cons_succ, exists_eq_right, reduceCtorEq, Nat.succ_ne_self] at hd
    go_simp
    refine (mul_any p q g HG.out A_c c_c cs hl_c _ x1 hcl.out).mono ?_
    rw [← HC.out]
    rintro e9 w9 ⟨rfl, hb9⟩
    exact hK _ _ rfl hb9
  show Chain _ _ _ _ _ _ _ _ _ _ _ 6 3 _
  apply Chain.det
  · intro a w1 hS hb hd K hK
    obtain ⟨c0, c1, c2, c3, c4, c5, c6, c7, x0, x1, x2, x3, x4, y0, y1, y2⟩ := hS
    have b9 := hb 9 _ rfl (by decide)
    clear hb
    simp only [depsOK, updR, Region.binds, reduceIte, Nat.reduceEqDiff, and_true, List.getElem?_cons_zero, List.getElem?_cons_succ, reduceCtorEq] at hd
    go_simp
    exact hK _ _ rfl (Below.refl _ _)
  show Chain _ _ _ _ _ _ _ _ _ _ _ 5 4 _
  apply Chain.det
  · intro a w1 hS hb hd K hK
    obtain ⟨c0, c1, c2, c3, c4, c5, c6, c7, x0, x1, x2, x3, x4, y0, y1, y2⟩ := hS
    clear hb
    simp only [depsOK, updR, Region.binds, reduceIte, Nat.reduceEqDiff, forall_const, and_true, eqV, List.getElem?_cons_zero, List.getElem?_cons_succ, exists_eq_right, reduceCtorEq, Nat.succ_ne_self] at hd
    go_simp
    exact hK _ _ rfl (Below.refl _ _)
  show Chain _ _ _ _ _ _ _ _ _ _ _ 4 5 _
  apply Chain.det
  · intro a w1 hS hb hd K hK
    obtain ⟨c0, c1, c2, c3, c4, c5, c6, c7, x0, x1, x2, x3, x4, y0, y1, y2⟩ := hS
    clear hb
    simp only [depsOK, updR, Region.binds, reduceIte, Nat.reduceEqDiff, forall_const, and_true, eqV, List.getElem?_cons_zero, List.getElem?_cons_succ, exists_eq_right, reduceCtorEq, Nat.succ_ne_self] at hd
    go_simp
    exact hK _ _ rfl (Below.refl _ _)
  show Chain _ _ _ _ _ _ _ _ _ _ _ 3 6 _
  apply Chain.det
  · intro a w1 hS hb hd K hK
    obtain ⟨c0, c1, c2, c3, c4, c5, c6, c7, x0, x1, x2, x3, x4, y0, y1, y2⟩ := hS
    clear hb
    simp only [depsOK, updR, Region.binds, reduceIte, Nat.reduceEqDiff, forall_const, and_true, eqV, List.getElem?_cons_zero, List.getElem?_cons_succ, exists_eq_right, reduceCtorEq, Nat.succ_ne_self] at hd
    go_simp
    exact hK _ _ rfl (Below.refl _ _)
  show Chain _ _ _ _ _ _ _ _ _ _ _ 2 7 _
  apply Chain.det
  · intro a w1 hS hb hd K hK
    obtain ⟨c0, c1, c2, c3, c4, c5, c6, c7, x0, x1, x2, x3, x4, y0, y1, y2⟩ := hS
    clear hb
    simp only [depsOK, updR, Region.binds, reduceIte, Nat.reduceEqDiff, forall_const, and_true, eqV, List.getElem?_cons_zero, List.getElem?_cons_succ, exists_eq_right, reduceCtorEq, Nat.succ_ne_self] at hd
    go_simp
    exact hK _ _ rfl (Below.refl _ _)
  show Chain _ _ _ _ _ _ _ _ _ _ _ 1 8 _
  apply Chain.det
  · intro a w1 hS hb hd K hK
    obtain ⟨c0, c1, c2, c3, c4, c5, c6, c7, x0, x1, x2, x3, x4, y0, y1, y2⟩ := hS
    clear hb
    simp only [depsOK, updR, Region.binds, reduceIte, Nat.reduceEqDiff, forall_const, and_true, eqV, List.getElem?_cons_zero, List.getElem?_cons_succ, exists_eq_right, reduceCtorEq, Nat.succ_ne_self] at hd
    go_simp
    exact hK _ _ rfl (Below.refl _ _)
  show Chain _ _ _ _ _ _ _ _ _ _ _ 0 9 _
  intro x w6 hS hB6 hR y hY hA hE
  have r7 := hR 7 _ rfl
  simp only [updR, reduceIte, Nat.reduceEqDiff, eqV] at r7
  have r8 := hR 8 _ rfl
  simp only [updR, reduceIte, Nat.reduceEqDiff, eqV] at r8
  clear hR hY hA hE
  simp only [TailWp, fillB, Act.put, List.setIfInBounds_toArray, List.set_cons_zero, List.set_cons_succ, Nat.reduceAdd, r7, r8]
  clear r7
  clear r8
  have hX6 : Below w5.heap.size w5 w6 := bnext (Below.drew (by repeat (first | exact Below.refl _ _ | refine bnew ?_ _ | refine Below.drew ?_ | refine Below.drewN ?_ _ | (refine below_set _ ?_ ?_; rotate_left; focus (first | omega | (simp; done) | (simp <;> omega)))))) hB6
  clear hB6
  have hT6 : Below w.heap.size w w6 := bnext hT5 hX6
  clear c0 c1 c2 c3 c4 c5 c6 c7 x0 x1 x2 x3 x4 y0 y1 y2
  obtain ⟨c0, c1, c2, c3, c4, c5, c6, c7, x0, x1, x2, x3, x4, y0, y1, y2⟩ := hS
  have HD := Lib.hid (dig4 g4 (by omega) hbd bc bt m0 : ∀ x ∈ [bh, cc, t, px], 0 ≤ x ∧ x ≤ 4611686018427387903)
  go_wp2_with fail
  refine (challenge_any p q g HG.out ⟨lSum.toArray⟩ (by decide) _ 4 [bh, cc, t, px] (by simp) (by simp) HD.out _ (RI.lit _ [bh, cc, t, px] _ (by simp))).mono ?_
  rintro e7 w7 ⟨rfl, hb7⟩
  have hX7 : Below w6.heap.size w6 w7 := bnext (by repeat (first | exact Below.refl _ _ | refine bnew ?_ _ | refine Below.drew ?_ | refine Below.drewN ?_ _ | (refine below_set _ ?_ ?_; rotate_left; focus (first | omega | (simp; done) | (simp <;> omega))))) hb7
  have hT7 : Below w.heap.size w w7 := bnext hT6 hX7
  replace c0 : w7.cell? ⟨w.heap.size, 0, none⟩ = some (.int .i64 p) := cell_keep hX7 c0
  replace c1 : w7.cell? ⟨w.heap.size, 1, none⟩ = some (.int .i64 q) := cell_keep hX7 c1
  replace c2 : w7.cell? ⟨w.heap.size, 2, none⟩ = some (.int .i64 g) := cell_keep hX7 c2
  replace c3 : w7.cell? ⟨w.heap.size + 1, 0, none⟩ = some (.int .i64 bh) := cell_keep hX7 c3
  replace c4 : w7.cell? ⟨w.heap.size + 1, 1, none⟩ = some (.slice A bs.length d) := cell_keep hX7 c4
  replace c5 : w7.cell? ⟨w.heap.size + 1 + 1, 0, none⟩ = some (.slice (some ad0) pa.length c_pa) := cell_keep hX7 c5
  replace c6 : w7.cell? ⟨w.heap.size + 1 + 1, 1, none⟩ = some (.slice (some ad1) pc.length c_pc) := cell_keep hX7 c6
  replace c7 : w7.cell? ⟨w.heap.size + 1 + 1, 2, none⟩ = some (.slice (some ad2) pr.length c_pr) := cell_keep hX7 c7
  replace x0 : RI w7 w7.heap.size A bs := (x0).next hX7
  replace x1 : RI w7 w7.heap.size A_c cs := (x1).next hX7
  replace x2 : RI w7 w7.heap.size (some ad0) pa := (x2).next hX7
  replace x3 : RI w7 w7.heap.size (some ad1) pc := (x3).next hX7
  replace x4 : RI w7 w7.heap.size (some ad2) pr := (x4).next hX7
  replace y0 : w7.cell? ad0 = some (.int .i64 px) := cell_keep hX7 y0
  replace y1 : w7.cell? ad1 = some (.int .i64 pe) := cell_keep hX7 y1
  replace y2 : w7.cell? ad2 = some (.int .i64 pz) := cell_keep hX7 y2
  have HE2 : M.chal p q g lSum [bh, cc, t, px] = ee := HE.out.symm
  go_wp2_with fail
  obtain ⟨d1, hd1⟩ : ∃ b : Bool, b = (pe == ee) := ⟨_, rfl⟩
  have Hd1 := Lib.hid hd1
  clear hd1
  obtain ⟨d2, hd2⟩ : ∃ b : Bool, b = (M.gpw p q bh pz == px * M.gpw p q (cc * M.gpw p q g (-t) % p) ee % p) := ⟨_, rfl⟩
  have Hd2 := Lib.hid hd2
  clear hd2
  obtain ⟨n8_33, hn8_33⟩ : ∃ b : Bool, b = (d1 && d2) := ⟨_, rfl⟩
  have Hn8_33 := Lib.hid hn8_33
  clear hn8_33
  refine wp_region_chain (fun W => W.cell? ⟨w.heap.size, 0, none⟩ = some (.int .i64 p) ∧ W.cell? ⟨w.heap.size, 1, none⟩ = some (.int .i64 q) ∧ W.cell? ⟨w.heap.size, 2, none⟩ = some (.int .i64 g) ∧ W.cell? ⟨w.heap.size + 1, 0, none⟩ = some (.int .i64 bh) ∧ W.cell? ⟨w.heap.size + 1, 1, none⟩ = some (.slice A bs.length d) ∧ W.cell? ⟨w.heap.size + 1 + 1, 0, none⟩ = some (.slice (some ad0) pa.length c_pa) ∧ W.cell? ⟨w.heap.size + 1 + 1, 1, none⟩ = some (.slice (some ad1) pc.length c_pc) ∧ W.cell? ⟨w.heap.size + 1 + 1, 2, none⟩ = some (.slice (some ad2) pr.length c_pr) ∧ RI W W.heap.size A bs ∧ RI W W.heap.size A_c cs ∧ RI W W.heap.size (some ad0) pa ∧ RI W W.heap.size (some ad1) pc ∧ RI W W.heap.size (some ad2) pr ∧ W.cell? ad0 = some (.int .i64 px) ∧ W.cell? ad1 = some (.int .i64 pe) ∧ W.cell? ad2 = some (.int .i64 pz))
    36 [some 90, some 91, some 92, some 93, some 94, some 95, some 96, some 97, some 98, some 99, some 100, some 101, some 102, some 103, some 104, some 105, some 106, some 107, some 108, some 109, some 110, some 111, some 112, some 113, some 114, some 115, some 116, some 117, some 118, some 119, some 120, some 121, some 122, some 123, some 10, some 11] (by kernel_rfl) (by kernel_rfl) (by kernel_rfl) (by decide) (by rfl) (by kernel_rfl) (by kernel_rfl) ?hS0 ?hSs ?hc
  case hS0 => exact ⟨cell_keep (Below.drew (by repeat (first | exact Below.refl _ _ | refine bnew ?_ _ | refine Below.drew ?_ | refine Below.drewN ?_ _ | (refine below_set _ ?_ ?_; rotate_left; focus (first | omega | (simp; done) | (simp <;> omega)))))) c0, cell_keep (Below.drew (by repeat (first | exact Below.refl _ _ | refine bnew ?_ _ | refine Below.drew ?_ | refine Below.drewN ?_ _ | (refine below_set _ ?_ ?_; rotate_left; focus (first | omega | (simp; done) | (simp <;> omega)))))) c1, cell_keep (Below.drew (by repeat (first | exact Below.refl _ _ | refine bnew ?_ _ | refine Below.drew ?_ | refine Below.drewN ?_ _ | (refine below_set _ ?_ ?_; rotate_left; focus (first | omega | (simp; done) | (simp <;> omega)))))) c2, cell_keep (Below.drew (by repeat (first | exact Below.refl _ _ | refine bnew ?_ _ | refine Below.drew ?_ | refine Below.drewN ?_ _ | (refine below_set _ ?_ ?_; rotate_left; focus (first | omega | (simp; done) | (simp <;> omega)))))) c3, cell_keep (Below.drew (by repeat (first | exact Below.refl _ _ | refine bnew ?_ _ | refine Below.drew ?_ | refine Below.drewN ?_ _ | (refine below_set _ ?_ ?_; rotate_left; focus (first | omega | (simp; done) | (simp <;> omega)))))) c4, cell_keep (Below.drew (by repeat (first | exact Below.refl _ _ | refine bnew ?_ _ | refine Below.drew ?_ | refine Below.drewN ?_ _ | (refine below_set _ ?_ ?_; rotate_left; focus (first | omega | (simp; done) | (simp <;> omega)))))) c5, cell_keep (Below.drew (by repeat (first | exact Below.refl _ _ | refine bnew ?_ _ | refine Below.drew ?_ | refine Below.drewN ?_ _ | (refine below_set _ ?_ ?_; rotate_left; focus (first | omega | (simp; done) | (simp <;> omega)))))) c6, cell_keep (Below.drew (by repeat (first | exact Below.refl _ _ | refine bnew ?_ _ | refine Below.drew ?_ | refine Below.drewN ?_ _ | (refine below_set _ ?_ ?_; rotate_left; focus (first | omega | (simp; done) | (simp <;> omega)))))) c7, (x0).next (Below.drew (by repeat (first | exact Below.refl _ _ | refine bnew ?_ _ | refine Below.drew ?_ | refine Below.drewN ?_ _ | (refine below_set _ ?_ ?_; rotate_left; focus (first | omega | (simp; done) | (simp <;> omega)))))), (x1).next (Below.drew (by repeat (first | exact Below.refl _ _ | refine bnew ?_ _ | refine Below.drew ?_ | refine Below.drewN ?_ _ | (refine below_set _ ?_ ?_; rotate_left; focus (first | omega | (simp; done) | (simp <;> omega)))))), (x2).next (Below.drew (by repeat (first | exact Below.refl _ _ | refine bnew ?_ _ | refine Below.drew ?_ | refine Below.drewN ?_ _ | (refine below_set _ ?_ ?_; rotate_left; focus (first | omega | (simp; done) | (simp <;> omega)))))), (x3).next (Below.drew (by repeat (first | exact Below.refl _ _ | refine bnew ?_ _ | refine Below.drew ?_ | refine Below.drewN ?_ _ | (refine below_set _ ?_ ?_; rotate_left; focus (first | omega | (simp; done) | (simp <;> omega)))))), (x4).next (Below.drew (by repeat (first | exact Below.refl _ _ | refine bnew ?_ _ | refine Below.drew ?_ | refine Below.drewN ?_ _ | (refine below_set _ ?_ ?_; rotate_left; focus (first | omega | (simp; done) | (simp <;> omega)))))), cell_keep (Below.drew (by repeat (first | exact Below.refl _ _ | refine bnew ?_ _ | refine Below.drew ?_ | refine Below.drewN ?_ _ | (refine below_set _ ?_ ?_; rotate_left; focus (first | omega | (simp; done) | (simp <;> omega)))))) y0, cell_keep (Below.drew (by repeat (first | exact Below.refl _ _ | refine bnew ?_ _ | refine Below.drew ?_ | refine Below.drewN ?_ _ | (refine below_set _ ?_ ?_; rotate_left; focus (first | omega | (simp; done) | (simp <;> omega)))))) y1, cell_keep (Below.drew (by repeat (first | exact Below.refl _ _ | refine bnew ?_ _ | refine Below.drew ?_ | refine Below.drewN ?_ _ | (refine below_set _ ?_ ?_; rotate_left; focus (first | omega | (simp; done) | (simp <;> omega)))))) y2⟩
  case hSs => exact fun w1 w2 ⟨hc0, hc1, hc2, hc3, hc4, hc5, hc6, hc7, hx0, hx1, hx2, hx3, hx4, hy0, hy1, hy2⟩ hb => ⟨cell_keep hb hc0, cell_keep hb hc1, cell_keep hb hc2, cell_keep hb hc3, cell_keep hb hc4, cell_keep hb hc5, cell_keep hb hc6, cell_keep hb hc7, (hx0).next hb, (hx1).next hb, (hx2).next hb, (hx3).next hb, (hx4).next hb, cell_keep hb hy0, cell_keep hb hy1, cell_keep hb hy2⟩
  apply Chain.det
  · intro a w1 hS hb hd K hK
    obtain ⟨c0, c1, c2, c3, c4, c5, c6, c7, x0, x1, x2, x3, x4, y0, y1, y2⟩ := hS
    have b9 := hb 9 _ rfl (by decide)
    clear hb
    simp only [depsOK] at hd
    go_simp
    exact hK _ _ rfl (Below.refl _ _)
  show Chain _ _ _ _ _ _ _ _ _ _ _ 35 1 _
  apply Chain.det
  · intro a w1 hS hb hd K hK
    obtain ⟨c0, c1, c2, c3, c4, c5, c6, c7, x0, x1, x2, x3, x4, y0, y1, y2⟩ := hS
    clear hb
    simp only [depsOK, updR, Region.binds, reduceIte, forall_const, and_true, eqV, List.getElem?_cons_zero, exists_eq_right] at hd
    go_simp
    exact hK _ _ rfl (Below.refl _ _)
  show Chain _ _ _ _ _ _ _ _ _ _ _ 34 2 _
  apply Chain.det
  · intro a w1 hS hb hd K hK
    obtain ⟨c0, c1, c2, c3, c4, c5, c6, c7, x0, x1, x2, x3, x4, y0, y1, y2⟩ := hS
    clear hb
    simp only [depsOK, updR, Region.binds, reduceIte, forall_const, and_true, eqV, List.getElem?_cons_zero, List.getElem?_cons_succ, exists_eq_right, Nat.succ_ne_self] at hd
    go_simp
    exact hK _ _ rfl (Below.refl _ _)
  show Chain _ _ _ _ _ _ _ _ _ _ _ 33 3 _
  apply Chain.det
  · intro a w1 hS hb hd K hK
    obtain ⟨c0, c1, c2, c3, c4, c5, c6, c7, x0, x1, x2, x3, x4, y0, y1, y2⟩ := hS
    clear hb
    simp only [depsOK, updR, Region.binds, reduceIte, forall_const, and_true, eqV, List.getElem?_cons_zero, List.getElem?_cons_succ, exists_eq_right, reduceCtorEq, Nat.succ_ne_self] at hd
    go_simp
    exact hK _ _ rfl (Below.refl _ _)
  show Chain _ _ _ _ _ _ _ _ _ _ _ 32 4 _
  apply Chain.det
  · intro a w1 hS hb hd K hK
    obtain ⟨c0, c1, c2, c3, c4, c5, c6, c7, x0, x1, x2, x3, x4, y0, y1, y2⟩ := hS
    have b14 := hb 14 _ rfl (by decide)
    clear hb
    simp only [depsOK] at hd
    go_simp
    exact hK _ _ rfl (Below.refl _ _)
  show Chain _ _ _ _ _ _ _ _ _ _ _ 31 5 _
  refine Chain.rel (eqV (.bool d1)) (stable_eq _) ?_ ?_
  · intro a w1 hS hb hd K hK
    obtain ⟨c0, c1, c2, c3, c4, c5, c6, c7, x0, x1, x2, x3, x4, y0, y1, y2⟩ := hS
    clear hb
    simp only [depsOK, updR, Region.binds, reduceIte, Nat.reduceEqDiff, forall_const, and_true, eqV, List.getElem?_cons_zero, List.getElem?_cons_succ, exists_eq_right, reduceCtorEq, Nat.succ_ne_self] at hd
    go_simp
    exact hK _ _ (congrArg Value.bool Hd1.out.symm) (Below.refl _ _)
  show Chain _ _ _ _ _ _ _ _ _ _ _ 30 6 _
  apply Chain.det
  · intro a w1 hS hb hd K hK
    obtain ⟨c0, c1, c2, c3, c4, c5, c6, c7, x0, x1, x2, x3, x4, y0, y1, y2⟩ := hS
    clear hb
    simp only [depsOK, updR, Region.binds, reduceIte, Nat.reduceEqDiff, forall_const, and_true, eqV, List.getElem?_cons_zero, List.getElem?_cons_succ, exists_eq_right, reduceCtorEq, Nat.succ_ne_self] at hd
    go_simp
    exact hK _ _ rfl (Below.refl _ _)
  show Chain _ _ _ _ _ _ _ _ _ _ _ 29 7 _
  apply Chain.detg d1 true
  · intro a w1 hS hb hd K hK
    obtain ⟨c0, c1, c2, c3, c4, c5, c6, c7, x0, x1, x2, x3, x4, y0, y1, y2⟩ := hS
    have b5 := hb 5 _ rfl (by decide)
    clear hb
    simp only [depsOK, updR, Region.binds, reduceIte, Nat.reduceEqDiff, forall_const, and_true, eqV, List.getElem?_cons_zero, List.getElem?_cons_succ, exists_eq_right, reduceCtorEq, Nat.succ_ne_self] at hd
    rcases Bool.eq_false_or_eq_true d1 with e | e
    · simp only [e] at hd
      go_simp
      exact hK _ _ (fun _ => rfl) (Below.refl _ _)
    · simp only [e] at hd
      go_simp
      exact hK _ _ (fun h => Bool.noConfusion (e.symm.trans h)) (Below.refl _ _)
  show Chain _ _ _ _ _ _ _ _ _ _ _ 28 8 _
  apply Chain.detg d1 true
  · intro a w1 hS hb hd K hK
    obtain ⟨c0, c1, c2, c3, c4, c5, c6, c7, x0, x1, x2, x3, x4, y0, y1, y2⟩ := hS
    have b6 := hb 6 _ rfl (by decide)
    clear hb
    simp only [depsOK, updR, Region.binds, reduceIte, Nat.reduceEqDiff, forall_const, and_true, eqV, List.getElem?_cons_zero, List.getElem?_cons_succ, exists_eq_right, reduceCtorEq, Nat.succ_ne_self] at hd
    rcases Bool.eq_false_or_eq_true d1 with e | e
    · simp only [e] at hd
      go_simp
      exact hK _ _ (fun _ => rfl) (Below.refl _ _)
    · simp only [e] at hd
      go_simp
      exact hK _ _ (fun h => Bool.noConfusion (e.symm.trans h)) (Below.refl _ _)
  show Chain _ _ _ _ _ _ _ _ _ _ _ 27 9 _
  apply Chain.detg d1 true
  · intro a w1 hS hb hd K hK
    obtain ⟨c0, c1, c2, c3, c4, c5, c6, c7, x0, x1, x2, x3, x4, y0, y1, y2⟩ := hS
    clear hb
    simp only [depsOK, updR, Region.binds, reduceIte, Nat.reduceEqDiff, forall_const, and_true, eqV, eqG, List.getElem?_cons_zero, List.getElem?_cons_succ, exists_eq_right, reduceCtorEq, Nat.succ_ne_self] at hd
    rcases Bool.eq_false_or_eq_true d1 with e | e
    · simp only [e, forall_const, exists_eq_right] at hd
      go_simp
      exact hK _ _ (fun _ => rfl) (Below.refl _ _)
    · simp only [e, reduceCtorEq, false_imp_iff, and_true] at hd
      go_simp
      exact hK _ _ (fun h => Bool.noConfusion (e.symm.trans h)) (Below.refl _ _)
  show Chain _ _ _ _ _ _ _ _ _ _ _ 26 10 _
  apply Chain.detg d1 true
  · intro a w1 hS hb hd K hK
    obtain ⟨c0, c1, c2, c3, c4, c5, c6, c7, x0, x1, x2, x3, x4, y0, y1, y2⟩ := hS
    have b9 := hb 9 _ rfl (by decide)
    clear hb
    simp only [depsOK, updR, Region.binds, reduceIte, Nat.reduceEqDiff, forall_const, and_true, eqV, List.getElem?_cons_zero, List.getElem?_cons_succ, exists_eq_right, reduceCtorEq, Nat.succ_ne_self] at hd
    rcases Bool.eq_false_or_eq_true d1 with e | e
    · simp only [e] at hd
      go_simp
      exact hK _ _ (fun _ => rfl) (Below.refl _ _)
    · simp only [e] at hd
      go_simp
      exact hK _ _ (fun h => Bool.noConfusion (e.symm.trans h)) (Below.refl _ _)
  show Chain _ _ _ _ _ _ _ _ _ _ _ 25 11 _
  apply Chain.detg d1 true
  · intro a w1 hS hb hd K hK
    obtain ⟨c0, c1, c2, c3, c4, c5, c6, c7, x0, x1, x2, x3, x4, y0, y1, y2⟩ := hS
    clear hb
    simp only [depsOK, updR, Region.binds, reduceIte, Nat.reduceEqDiff, forall_const, and_true, eqV, eqG, List.getElem?_cons_zero, List.getElem?_cons_succ, exists_eq_right, reduceCtorEq, Nat.succ_ne_self] at hd
    rcases Bool.eq_false_or_eq_true d1 with e | e
    · simp only [e, forall_const, exists_eq_right] at hd
      go_simp
      exact hK _ _ (fun _ => rfl) (Below.refl _ _)
    · simp only [e, reduceCtorEq, false_imp_iff, and_true] at hd
      go_simp
      exact hK _ _ (fun h => Bool.noConfusion (e.symm.trans h)) (Below.refl _ _)
  show Chain _ _ _ _ _ _ _ _ _ _ _ 24 12 _
  apply Chain.detg d1 true
  · intro a w1 hS hb hd K hK
    obtain ⟨c0, c1, c2, c3, c4, c5, c6, c7, x0, x1, x2, x3, x4, y0, y1, y2⟩ := hS
    clear hb
    simp only [depsOK, updR, Region.binds, reduceIte, Nat.reduceEqDiff, forall_const, and_true, eqV, eqG, List.getElem?_cons_zero, List.getElem?_cons_succ, exists_eq_right, reduceCtorEq, Nat.succ_ne_self] at hd
    rcases Bool.eq_false_or_eq_true d1 with e | e
    · simp only [e, forall_const, exists_eq_right] at hd
      go_simp
      exact hK _ _ (fun _ => rfl) (Below.refl _ _)
    · simp only [e, reduceCtorEq, false_imp_iff, and_true] at hd
      go_simp
      exact hK _ _ (fun h => Bool.noConfusion (e.symm.trans h)) (Below.refl _ _)
  show Chain _ _ _ _ _ _ _ _ _ _ _ 23 13 _
  apply Chain.detg d1 true
  · intro a w1 hS hb hd K hK
    obtain ⟨c0, c1, c2, c3, c4, c5, c6, c7, x0, x1, x2, x3, x4, y0, y1, y2⟩ := hS
    clear hb
    simp only [depsOK, updR, Region.binds, reduceIte, Nat.reduceEqDiff, forall_const, and_true, eqV, eqG, List.getElem?_cons_zero, List.getElem?_cons_succ, exists_eq_right, reduceCtorEq, Nat.succ_ne_self] at hd
    rcases Bool.eq_false_or_eq_true d1 with e | e
    · simp only [e, forall_const, exists_eq_right] at hd
      go_simp
      exact hK _ _ (fun _ => rfl) (Below.refl _ _)
    · simp only [e, reduceCtorEq, false_imp_iff, and_true] at hd
      go_simp
      exact hK _ _ (fun h => Bool.noConfusion (e.symm.trans h)) (Below.refl _ _)
  show Chain _ _ _ _ _ _ _ _ _ _ _ 22 14 _
  apply Chain.detg d1 true
  · intro a w1 hS hb hd K hK
    obtain ⟨c0, c1, c2, c3, c4, c5, c6, c7, x0, x1, x2, x3, x4, y0, y1, y2⟩ := hS
    clear hb
    simp only [depsOK, updR, Region.binds, reduceIte, Nat.reduceEqDiff, forall_const, and_true, eqV, eqG, List.getElem?_cons_zero, List.getElem?_cons_succ, exists_eq_right, reduceCtorEq, Nat.succ_ne_self] at hd
    rcases Bool.eq_false_or_eq_true d1 with e | e
    · simp only [e, forall_const, exists_eq_right] at hd
      go_simp
      refine (pow_any p q g bh pz HG.out hbd (by omega) _).mono ?_
      rintro e9 w9 ⟨rfl, hb9⟩
      exact hK _ _ (fun _ => rfl) hb9
    · simp only [e, reduceCtorEq, false_imp_iff, and_true] at hd
      go_simp
      exact hK _ _ (fun h => Bool.noConfusion (e.symm.trans h)) (Below.refl _ _)
  show Chain _ _ _ _ _ _ _ _ _ _ _ 21 15 _
  apply Chain.detg d1 true
  · intro a w1 hS hb hd K hK
    obtain ⟨c0, c1, c2, c3, c4, c5, c6, c7, x0, x1, x2, x3, x4, y0, y1, y2⟩ := hS
    have b5 := hb 5 _ rfl (by decide)
    clear hb
    simp only [depsOK, updR, Region.binds, reduceIte, Nat.reduceEqDiff, forall_const, and_true, eqV, List.getElem?_cons_zero, List.getElem?_cons_succ, exists_eq_right, reduceCtorEq, Nat.succ_ne_self] at hd
    rcases Bool.eq_false_or_eq_true d1 with e | e
    · simp only [e] at hd
      go_simp
      exact hK _ _ (fun _ => rfl) (Below.refl _ _)
    · simp only [e] at hd
      go_simp
      exact hK _ _ (fun h => Bool.noConfusion (e.symm.trans h)) (Below.refl _ _)
  show Chain _ _ _ _ _ _ _ _ _ _ _ 20 16 _
  apply Chain.detg d1 true
  · intro a w1 hS hb hd K hK
    obtain ⟨c0, c1, c2, c3, c4, c5, c6, c7, x0, x1, x2, x3, x4, y0, y1, y2⟩ := hS
    have b13 := hb 13 _ rfl (by decide)
    clear hb
    simp only [depsOK, updR, Region.binds, reduceIte, Nat.reduceEqDiff, forall_const, and_true, eqV, List.getElem?_cons_zero, List.getElem?_cons_succ, exists_eq_right, reduceCtorEq, Nat.succ_ne_self] at hd
    rcases Bool.eq_false_or_eq_true d1 with e | e
    · simp only [e] at hd
      go_simp
      exact hK _ _ (fun _ => rfl) (Below.refl _ _)
    · simp only [e] at hd
      go_simp
      exact hK _ _ (fun h => Bool.noConfusion (e.symm.trans h)) (Below.refl _ _)
  show Chain _ _ _ _ _ _ _ _ _ _ _ 19 17 _
  apply Chain.detg d1 true
  · intro a w1 hS hb hd K hK
    obtain ⟨c0, c1, c2, c3, c4, c5, c6, c7, x0, x1, x2, x3, x4, y0, y1, y2⟩ := hS
    have b5 := hb 5 _ rfl (by decide)
    clear hb
    simp only [depsOK, updR, Region.binds, reduceIte, Nat.reduceEqDiff, forall_const, and_true, eqV, List.getElem?_cons_zero, List.getElem?_cons_succ, exists_eq_right, reduceCtorEq, Nat.succ_ne_self] at hd
    rcases Bool.eq_false_or_eq_true d1 with e | e
    · simp only [e] at hd
      go_simp
      exact hK _ _ (fun _ => rfl) (Below.refl _ _)
    · simp only [e] at hd
      go_simp
      exact hK _ _ (fun h => Bool.noConfusion (e.symm.trans h)) (Below.refl _ _)
  show Chain _ _ _ _ _ _ _ _ _ _ _ 18 18 _
  apply Chain.detg d1 true
  · intro a w1 hS hb hd K hK
    obtain ⟨c0, c1, c2, c3, c4, c5, c6, c7, x0, x1, x2, x3, x4, y0, y1, y2⟩ := hS
    have b5 := hb 5 _ rfl (by decide)
    clear hb
    simp only [depsOK, updR, Region.binds, reduceIte, Nat.reduceEqDiff, forall_const, and_true, eqV, List.getElem?_cons_zero, List.getElem?_cons_succ, exists_eq_right, reduceCtorEq, Nat.succ_ne_self] at hd
    rcases Bool.eq_false_or_eq_true d1 with e | e
    · simp only [e] at hd
      go_simp
      exact hK _ _ (fun _ => rfl) (Below.refl _ _)
    · simp only [e] at hd
      go_simp
      exact hK _ _ (fun h => Bool.noConfusion (e.symm.trans h)) (Below.refl _ _)
  show Chain _ _ _ _ _ _ _ _ _ _ _ 17 19 _
  apply Chain.detg d1 true
  · intro a w1 hS hb hd K hK
    obtain ⟨c0, c1, c2, c3, c4, c5, c6, c7, x0, x1, x2, x3, x4, y0, y1, y2⟩ := hS
    have b12 := hb 12 _ rfl (by decide)
    clear hb
    simp only [depsOK, updR, Region.binds, reduceIte, Nat.reduceEqDiff, forall_const, and_true, eqV, List.getElem?_cons_zero, List.getElem?_cons_succ, exists_eq_right, reduceCtorEq, Nat.succ_ne_self] at hd
    rcases Bool.eq_false_or_eq_true d1 with e | e
    · simp only [e] at hd
      go_simp
      exact hK _ _ (fun _ => rfl) (Below.refl _ _)
    · simp only [e] at hd
      go_simp
      exact hK _ _ (fun h => Bool.noConfusion (e.symm.trans h)) (Below.refl _ _)
  show Chain _ _ _ _ _ _ _ _ _ _ _ 16 20 _
  apply Chain.detg d1 true
  · intro a w1 hS hb hd K hK
    obtain ⟨c0, c1, c2, c3, c4, c5, c6, c7, x0, x1, x2, x3, x4, y0, y1, y2⟩ := hS
    have b5 := hb 5 _ rfl (by decide)
    clear hb
    simp only [depsOK, updR, Region.binds, reduceIte, Nat.reduceEqDiff, forall_const, and_true, eqV, List.getElem?_cons_zero, List.getElem?_cons_succ, exists_eq_right, reduceCtorEq, Nat.succ_ne_self] at hd
    rcases Bool.eq_false_or_eq_true d1 with e | e
    · simp only [e] at hd
      go_simp
      exact hK _ _ (fun _ => rfl) (Below.refl _ _)
    · simp only [e] at hd
      go_simp
      exact hK _ _ (fun h => Bool.noConfusion (e.symm.trans h)) (Below.refl _ _)
  show Chain _ _ _ _ _ _ _ _ _ _ _ 15 21 _
  apply Chain.detg d1 true
  · intro a w1 hS hb hd K hK
    obtain ⟨c0, c1, c2, c3, c4, c5, c6, c7, x0, x1, x2, x3, x4, y0, y1, y2⟩ := hS
    have b5 := hb 5 _ rfl (by decide)
    clear hb
    simp only [depsOK, updR, Region.binds, reduceIte, Nat.reduceEqDiff, forall_const, and_true, eqV, List.getElem?_cons_zero, List.getElem?_cons_succ, exists_eq_right, reduceCtorEq, Nat.succ_ne_self] at hd
    rcases Bool.eq_false_or_eq_true d1 with e | e
    · simp only [e] at hd
      go_simp
      exact hK _ _ (fun _ => rfl) (Below.refl _ _)
    · simp only [e] at hd
      go_simp
      exact hK _ _ (fun h => Bool.noConfusion (e.symm.trans h)) (Below.refl _ _)
  show Chain _ _ _ _ _ _ _ _ _ _ _ 14 22 _
  apply Chain.detg d1 true
  · intro a w1 hS hb hd K hK
    obtain ⟨c0, c1, c2, c3, c4, c5, c6, c7, x0, x1, x2, x3, x4, y0, y1, y2⟩ := hS
    clear hb
    simp only [depsOK, updR, Region.binds, reduceIte, Nat.reduceEqDiff, forall_const, and_true, eqV, eqG, List.getElem?_cons_zero, List.getElem?_cons_succ, exists_eq_right, reduceCtorEq, Nat.succ_ne_self] at hd
    rcases Bool.eq_false_or_eq_true d1 with e | e
    · simp only [e, forall_const, exists_eq_right] at hd
      go_simp
      exact hK _ _ (fun _ => rfl) (Below.refl _ _)
    · simp only [e, reduceCtorEq, false_imp_iff, and_true] at hd
      go_simp
      exact hK _ _ (fun h => Bool.noConfusion (e.symm.trans h)) (Below.refl _ _)
  show Chain _ _ _ _ _ _ _ _ _ _ _ 13 23 _
  apply Chain.detg d1 true
  · intro a w1 hS hb hd K hK
    obtain ⟨c0, c1, c2, c3, c4, c5, c6, c7, x0, x1, x2, x3, x4, y0, y1, y2⟩ := hS
    have b3 := hb 3 _ rfl (by decide)
    clear hb
    simp only [depsOK, updR, Region.binds, reduceIte, Nat.reduceEqDiff, forall_const, and_true, eqV, List.getElem?_cons_zero, List.getElem?_cons_succ, exists_eq_right, reduceCtorEq, Nat.succ_ne_self] at hd
    rcases Bool.eq_false_or_eq_true d1 with e | e
    · simp only [e] at hd
      go_simp
      exact hK _ _ (fun _ => rfl) (Below.refl _ _)
    · simp only [e] at hd
      go_simp
      exact hK _ _ (fun h => Bool.noConfusion (e.symm.trans h)) (Below.refl _ _)
  show Chain _ _ _ _ _ _ _ _ _ _ _ 12 24 _
  apply Chain.detg d1 true
  · intro a w1 hS hb hd K hK
    obtain ⟨c0, c1, c2, c3, c4, c5, c6, c7, x0, x1, x2, x3, x4, y0, y1, y2⟩ := hS
    clear hb
    simp only [depsOK, updR, Region.binds, reduceIte, Nat.reduceEqDiff, forall_const, and_true, eqV, eqG, List.getElem?_cons_zero, List.getElem?_cons_succ, exists_eq_right, reduceCtorEq, Nat.succ_ne_self] at hd
    rcases Bool.eq_false_or_eq_true d1 with e | e
    · simp only [e, forall_const, exists_eq_right] at hd
      go_simp
      exact hK _ _ (fun _ => rfl) (Below.refl _ _)
    · simp only [e, reduceCtorEq, false_imp_iff, and_true] at hd
      go_simp
      exact hK _ _ (fun h => Bool.noConfusion (e.symm.trans h)) (Below.refl _ _)
  show Chain _ _ _ _ _ _ _ _ _ _ _ 11 25 _
  apply Chain.detg d1 true
  · intro a w1 hS hb hd K hK
    obtain ⟨c0, c1, c2, c3, c4, c5, c6, c7, x0, x1, x2, x3, x4, y0, y1, y2⟩ := hS
    clear hb
    simp only [depsOK, updR, Region.binds, reduceIte, Nat.reduceEqDiff, forall_const, and_true, eqV, eqG, List.getElem?_cons_zero, List.getElem?_cons_succ, exists_eq_right, reduceCtorEq, Nat.succ_ne_self] at hd
    rcases Bool.eq_false_or_eq_true d1 with e | e
    · simp only [e, forall_const, exists_eq_right] at hd
      go_simp
      refine (pow_any p q g g (-t) HG.out g5 (by omega) _).mono ?_
      rintro e9 w9 ⟨rfl, hb9⟩
      exact hK _ _ (fun _ => rfl) hb9
    · simp only [e, reduceCtorEq, false_imp_iff, and_true] at hd
      go_simp
      exact hK _ _ (fun h => Bool.noConfusion (e.symm.trans h)) (Below.refl _ _)
  show Chain _ _ _ _ _ _ _ _ _ _ _ 10 26 _
  refine Chain.rel (onG d1 true (isF 2 [cc, M.gpw p q g (-t)])) (stable_onG (stable_isF _ _)) ?_ ?_
  · intro a w1 hS hb hd K hK
    obtain ⟨c0, c1, c2, c3, c4, c5, c6, c7, x0, x1, x2, x3, x4, y0, y1, y2⟩ := hS
    clear hb
    simp only [depsOK, updR, Region.binds, reduceIte, Nat.reduceEqDiff, forall_const, and_true, eqV, eqG, List.getElem?_cons_zero, List.getElem?_cons_succ, exists_eq_right, reduceCtorEq, Nat.succ_ne_self] at hd
    rcases Bool.eq_false_or_eq_true d1 with e | e
    · simp only [e, forall_const, exists_eq_right] at hd
      go_simp
      exact hK _ _ (fun _ => ⟨_, rfl, RI.lit w1 [cc, M.gpw p q g (-t)] _ rfl⟩) (below_new _ _)
    · simp only [e, reduceCtorEq, false_imp_iff, and_true] at hd
      go_simp
      exact hK _ _ (fun h => Bool.noConfusion (e.symm.trans h)) (Below.refl _ _)
  show Chain _ _ _ _ _ _ _ _ _ _ _ 9 27 _
  apply Chain.detg d1 true
  · intro a w1 hS hb hd K hK
    obtain ⟨c0, c1, c2, c3, c4, c5, c6, c7, x0, x1, x2, x3, x4, y0, y1, y2⟩ := hS
    clear hb
    simp only [depsOK, updR, Region.binds, reduceIte, Nat.reduceEqDiff, forall_const, and_true, eqV, eqG, onG, List.getElem?_cons_zero, List.getElem?_cons_succ, exists_eq_right, reduceCtorEq, Nat.succ_ne_self] at hd
    rcases Bool.eq_false_or_eq_true d1 with e | e
    · simp only [e, forall_const, exists_eq_right] at hd
      obtain ⟨h1, ⟨v2, e2, A2, rfl, r2⟩, _⟩ := hd
      go_simp
      refine (mul2_any p q g cc (M.gpw p q g (-t)) HG.out bc (M.gpw_lt g3) A2 2 _ r2).mono ?_
      rintro e9 w9 ⟨rfl, hb9⟩
      exact hK _ _ (fun _ => rfl) hb9
    · simp only [e, reduceCtorEq, false_imp_iff, and_true] at hd
      go_simp
      exact hK _ _ (fun h => Bool.noConfusion (e.symm.trans h)) (Below.refl _ _)
  show Chain _ _ _ _ _ _ _ _ _ _ _ 8 28 _
  apply Chain.detg d1 true
  · intro a w1 hS hb hd K hK
    obtain ⟨c0, c1, c2, c3, c4, c5, c6, c7, x0, x1, x2, x3, x4, y0, y1, y2⟩ := hS
    have b14 := hb 14 _ rfl (by decide)
    clear hb
    simp only [depsOK, updR, Region.binds, reduceIte, Nat.reduceEqDiff, forall_const, and_true, eqV, List.getElem?_cons_zero, List.getElem?_cons_succ, exists_eq_right, reduceCtorEq, Nat.succ_ne_self] at hd
    rcases Bool.eq_false_or_eq_true d1 with e | e
    · simp only [e] at hd
      go_simp
      exact hK _ _ (fun _ => rfl) (Below.refl _ _)
    · simp only [e] at hd
      go_simp
      exact hK _ _ (fun h => Bool.noConfusion (e.symm.trans h)) (Below.refl _ _)
  show Chain _ _ _ _ _ _ _ _ _ _ _ 7 29 _
  apply Chain.detg d1 true
  · intro a w1 hS hb hd K hK
    obtain ⟨c0, c1, c2, c3, c4, c5, c6, c7, x0, x1, x2, x3, x4, y0, y1, y2⟩ := hS
    clear hb
    simp only [depsOK, updR, Region.binds, reduceIte, Nat.reduceEqDiff, forall_const, and_true, eqV, eqG, List.getElem?_cons_zero, List.getElem?_cons_succ, exists_eq_right, reduceCtorEq, Nat.succ_ne_self] at hd
    rcases Bool.eq_false_or_eq_true d1 with e | e
    · simp only [e, forall_const, exists_eq_right] at hd
      go_simp
      refine (pow_any p q g (cc * M.gpw p q g (-t) % p) ee HG.out ⟨Int.emod_nonneg _ (by omega), Int.emod_lt_of_pos _ (by omega)⟩ (by omega) _).mono ?_
      rintro e9 w9 ⟨rfl, hb9⟩
      exact hK _ _ (fun _ => rfl) hb9
    · simp only [e, reduceCtorEq, false_imp_iff, and_true] at hd
      go_simp
      exact hK _ _ (fun h => Bool.noConfusion (e.symm.trans h)) (Below.refl _ _)
  show Chain _ _ _ _ _ _ _ _ _ _ _ 6 30 _
  refine Chain.rel (onG d1 true (isF 2 [px, M.gpw p q (cc * M.gpw p q g (-t) % p) ee])) (stable_onG (stable_isF _ _)) ?_ ?_
  · intro a w1 hS hb hd K hK
    obtain ⟨c0, c1, c2, c3, c4, c5, c6, c7, x0, x1, x2, x3, x4, y0, y1, y2⟩ := hS
    clear hb
    simp only [depsOK, updR, Region.binds, reduceIte, Nat.reduceEqDiff, forall_const, and_true, eqV, eqG, List.getElem?_cons_zero, List.getElem?_cons_succ, exists_eq_right, reduceCtorEq, Nat.succ_ne_self] at hd
    rcases Bool.eq_false_or_eq_true d1 with e | e
    · simp only [e, forall_const, exists_eq_right] at hd
      go_simp
      exact hK _ _ (fun _ => ⟨_, rfl, RI.lit w1 [px, M.gpw p q (cc * M.gpw p q g (-t) % p) ee] _ rfl⟩) (below_new _ _)
    · simp only [e, reduceCtorEq, false_imp_iff, and_true] at hd
      go_simp
      exact hK _ _ (fun h => Bool.noConfusion (e.symm.trans h)) (Below.refl _ _)
  show Chain _ _ _ _ _ _ _ _ _ _ _ 5 31 _
  apply Chain.detg d1 true
  · intro a w1 hS hb hd K hK
    obtain ⟨c0, c1, c2, c3, c4, c5, c6, c7, x0, x1, x2, x3, x4, y0, y1, y2⟩ := hS
    clear hb
    simp only [depsOK, updR, Region.binds, reduceIte, Nat.reduceEqDiff, forall_const, and_true, eqV, eqG, onG, List.getElem?_cons_zero, List.getElem?_cons_succ, exists_eq_right, reduceCtorEq, Nat.succ_ne_self] at hd
    rcases Bool.eq_false_or_eq_true d1 with e | e
    · simp only [e, forall_const, exists_eq_right] at hd
      obtain ⟨h1, ⟨v2, e2, A2, rfl, r2⟩, _⟩ := hd
      go_simp
      refine (mul2_any p q g px (M.gpw p q (cc * M.gpw p q g (-t) % p) ee) HG.out m0 (M.gpw_lt g3) A2 2 _ r2).mono ?_
      rintro e9 w9 ⟨rfl, hb9⟩
      exact hK _ _ (fun _ => rfl) hb9
    · simp only [e, reduceCtorEq, false_imp_iff, and_true] at hd
      go_simp
      exact hK _ _ (fun h => Bool.noConfusion (e.symm.trans h)) (Below.refl _ _)
  show Chain _ _ _ _ _ _ _ _ _ _ _ 4 32 _
  refine Chain.rel (eqG d1 true (.bool d2)) (stable_eqG _ _ _) ?_ ?_
  · intro a w1 hS hb hd K hK
    obtain ⟨c0, c1, c2, c3, c4, c5, c6, c7, x0, x1, x2, x3, x4, y0, y1, y2⟩ := hS
    clear hb
    simp only [depsOK, updR, Region.binds, reduceIte, Nat.reduceEqDiff, forall_const, and_true, eqV, eqG, List.getElem?_cons_zero, List.getElem?_cons_succ, exists_eq_right, reduceCtorEq, Nat.succ_ne_self] at hd
    rcases Bool.eq_false_or_eq_true d1 with e | e
    · simp only [e, forall_const, exists_eq_right] at hd
      go_simp
      exact hK _ _ (fun _ => congrArg Value.bool Hd2.out.symm) (Below.refl _ _)
    · simp only [e, reduceCtorEq, false_imp_iff, and_true] at hd
      go_simp
      exact hK _ _ (fun h => Bool.noConfusion (e.symm.trans h)) (Below.refl _ _)
  show Chain _ _ _ _ _ _ _ _ _ _ _ 3 33 _
  refine Chain.rel (eqV (.bool n8_33)) (stable_eq _) ?_ ?_
  · intro a w1 hS hb hd K hK
    obtain ⟨c0, c1, c2, c3, c4, c5, c6, c7, x0, x1, x2, x3, x4, y0, y1, y2⟩ := hS
    clear hb
    simp only [depsOK, updR, Region.binds, reduceIte, Nat.reduceEqDiff, forall_const, and_true, eqV, eqG, List.getElem?_cons_zero, List.getElem?_cons_succ, exists_eq_right, reduceCtorEq, Nat.succ_ne_self] at hd
    rcases Bool.eq_false_or_eq_true d1 with e | e
    · simp only [e, forall_const, exists_eq_right] at hd
      go_simp
      exact hK _ _ (by show Value.bool _ = Value.bool _; rw [Hn8_33.out, e]; try rfl) (Below.refl _ _)
    · simp only [e, reduceCtorEq, false_imp_iff, and_true] at hd
      go_simp
      exact hK _ _ (by show Value.bool _ = Value.bool _; rw [Hn8_33.out, e]; try rfl) (Below.refl _ _)
  show Chain _ _ _ _ _ _ _ _ _ _ _ 2 34 _
  apply Chain.det
  · intro a w1 hS hb hd K hK
    obtain ⟨c0, c1, c2, c3, c4, c5, c6, c7, x0, x1, x2, x3, x4, y0, y1, y2⟩ := hS
    clear hb
    simp only [depsOK, updR, Region.binds, reduceIte, Nat.reduceEqDiff, forall_const, and_true, eqV, eqG, onG, List.getElem?_cons_zero, List.getElem?_cons_succ, exists_eq_right, reduceCtorEq, Nat.succ_ne_self] at hd
    go_simp
    exact hK _ _ rfl (Below.refl _ _)
  show Chain _ _ _ _ _ _ _ _ _ _ _ 1 35 _
  apply Chain.det
  · intro a w1 hS hb hd K hK
    obtain ⟨c0, c1, c2, c3, c4, c5, c6, c7, x0, x1, x2, x3, x4, y0, y1, y2⟩ := hS
    clear hb
    simp only [depsOK, updR, Region.binds, reduceIte, Nat.reduceEqDiff, forall_const, and_true, eqV, eqG, onG, List.getElem?_cons_zero, List.getElem?_cons_succ, exists_eq_right, reduceCtorEq, Nat.succ_ne_self] at hd
    go_simp
    exact hK _ _ rfl (Below.refl _ _)
  show Chain _ _ _ _ _ _ _ _ _ _ _ 0 36 _
  intro x w8 hS hB8 hR y hY hA hE
  have r34 := hR 34 _ rfl
  simp only [updR, reduceIte, Nat.reduceEqDiff, eqV] at r34
  have r35 := hR 35 _ rfl
  simp only [updR, reduceIte, Nat.reduceEqDiff, eqV] at r35
  clear hR hY hA hE
  simp only [TailWp, fillB, Act.put, List.setIfInBounds_toArray, List.set_cons_zero, List.set_cons_succ, Nat.reduceAdd, r34, r35]
  clear r34
  clear r35
  have hX8 : Below w7.heap.size w7 w8 := bnext (Below.drew (by repeat (first | exact Below.refl _ _ | refine bnew ?_ _ | refine Below.drew ?_ | refine Below.drewN ?_ _ | (refine below_set _ ?_ ?_; rotate_left; focus (first | omega | (simp; done) | (simp <;> omega)))))) hB8
  clear hB8
  have hT8 : Below w.heap.size w w8 := bnext hT7 hX8
  clear c0 c1 c2 c3 c4 c5 c6 c7 x0 x1 x2 x3 x4 y0 y1 y2
  obtain ⟨c0, c1, c2, c3, c4, c5, c6, c7, x0, x1, x2, x3, x4, y0, y1, y2⟩ := hS
  go_wp2
  go_ret2
  exact ⟨ret_bb (by rw [hR.out, HO.out, Hn8_33.out, Hd1.out, Hd2.out]) (by rw [hR.out]), hT8⟩
end Go.Proofs.Ytljlimlgdnbllaa
