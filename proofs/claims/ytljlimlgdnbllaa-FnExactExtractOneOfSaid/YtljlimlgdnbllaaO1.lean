import Derived.Test.YtljlimlgdnbllaaE9
import Derived.Test.YtljlimlgdnbllaaH1
/- Walks: proofs of openings. -/
set_option linter.all false
set_option linter.unusedVariables false
set_option linter.unusedSimpArgs false
namespace Go.Proofs.Ytljlimlgdnbllaa
open Go.RowKit
theorem RI.ad {w : World} {B : Nat} {A : Option Addr} {xs : List Int} (h : RI w B A xs) : ∃ ad : Addr, 0 < xs.length → A = some ad := by
  rcases Nat.eq_zero_or_pos xs.length with h0 | h0
  · exact ⟨default, fun h => by omega⟩
  · obtain ⟨ad, e, _⟩ := h.2 h0
    exact ⟨ad, fun _ => e⟩
theorem RI.get {w : World} {B : Nat} {ad : Addr} {xs : List Int} (h : RI w B (some ad) xs) (k : Nat) (hk : k < xs.length) : w.cell? (ad.add k) = some (.int .i64 (xs.getD k 0)) := by
  obtain ⟨ad', e, _, hc⟩ := h.at_ hk
  cases e
  rw [hc, List.getD_eq_getElem?_getD, List.getElem?_eq_getElem hk]; rfl
theorem add0 (ad : Addr) : ad.add 0 = ad := by unfold Addr.add; simp
theorem len1 {l : List Int} (h : l.length = 1) : l = [l.getD 0 0] := by
  match l, h with | [a], _ => rfl
theorem len2 {l : List Int} (h : l.length = 2) : l = [l.getD 0 0, l.getD 1 0] := by
  match l, h with | [a, b], _ => rfl
theorem getD_mem {l : List Int} {k : Nat} (h : k < l.length) : l.getD k 0 ∈ l := by rw [List.getD_eq_getElem?_getD, List.getElem?_eq_getElem h]; exact List.getElem_mem h
def formB (p q : Int) (pa pc pr : List Int) (a b c : Int) : Bool := ((pa.length : Int) == a) && ((pc.length : Int) == b) && ((pr.length : Int) == c) && elemsB p q pa && expsB q pc && expsB q pr
/-- the bytes of "opening" -/
def lOpen : List UInt8 := [111, 112, 101, 110, 105, 110, 103]
def chO (p q g bh c x : Int) : Int := M.chal p q g lOpen [bh, c, x]
def opV (p q g bh c : Int) (pa pc pr : List Int) : Bool := ((pa.length : Int) == 1) && ((pc.length : Int) == 1) && ((pr.length : Int) == 2) && elemB p q (pa.getD 0 0) && expsB q pr && (pc.getD 0 0 == chO p q g bh c (pa.getD 0 0)) && (cmt p q g bh (pr.getD 0 0) (pr.getD 1 0) == pa.getD 0 0 * M.gpw p q c (chO p q g bh c (pa.getD 0 0)) % p)
noncomputable def verO (p q g bh : Int) (bs : List Int) (c : Int) (pa pc pr : List Int) : Bool × Bool := if l9B p q g bh bs = true ∧ elemB p q c = true then (opV p q g bh c pa pc pr, true) else (false, false)
theorem dig3 {p a b c : Int} (hp : p ≤ 2000000000) (ha : 0 ≤ a ∧ a < p) (hb : 0 ≤ b ∧ b < p) (hc : 0 ≤ c ∧ c < p) : ∀ x ∈ [a, b, c], 0 ≤ x ∧ x ≤ 4611686018427387903 := by
  intro x h
  simp only [List.mem_cons, List.not_mem_nil, or_false] at h
  rcases h with rfl | rfl | rfl <;> omega
set_option maxRecDepth 100000 in
set_option maxHeartbeats 800000 in
theorem openingChallenge_any (p q g bh c x : Int) (A : Option Addr) (n d : Nat) (hG : M.Grp p q g) (hb : 0 ≤ bh ∧ bh < p) (hc : 0 ≤ c ∧ c < p) (hx : 0 ≤ x ∧ x < p) (w : World) :
    Calls Try.prog 80 #[.agg #[.int .i64 p, .int .i64 q, .int .i64 g], .agg #[.int .i64 bh, .slice A n d], .int .i64 c, .int .i64 x] w fun en w' => en = .returned (.tuple #[.int .i64 (chO p q g bh c x), .bool true]) ∧ Below w.heap.size w w' := by
  have HD := Lib.hid (dig3 hG.pM hb hc hx)
  have HG := Lib.hid hG
  clear hG
  have hT0 : Below w.heap.size w ((w.alloc (.cells #[.int .i64 p, .int .i64 q, .int .i64 g] 33)).alloc (.cells #[.int .i64 bh, .slice A n d] 35)) := by repeat (first | exact Below.refl _ _ | refine bnew ?_ _)
  have c0 : ((w.alloc (.cells #[.int .i64 p, .int .i64 q, .int .i64 g] 33)).alloc (.cells #[.int .i64 bh, .slice A n d] 35)).cell? ⟨w.heap.size, 0, none⟩ = some (.int .i64 p) := by
    repeat (first | with_reducible assumption | (with_reducible apply set1b; with_reducible assumption) | (with_reducible refine (sc_other _ ?_).trans ?_; focus (simp; done)) | (refine cell_new' ?_ _ _ _ rfl; focus (simp; done)) | with_reducible refine cell_keep (below_new _ _) ?_)
  have c1 : ((w.alloc (.cells #[.int .i64 p, .int .i64 q, .int .i64 g] 33)).alloc (.cells #[.int .i64 bh, .slice A n d] 35)).cell? ⟨w.heap.size, 1, none⟩ = some (.int .i64 q) := by
    repeat (first | with_reducible assumption | (with_reducible apply set1b; with_reducible assumption) | (with_reducible refine (sc_other _ ?_).trans ?_; focus (simp; done)) | (refine cell_new' ?_ _ _ _ rfl; focus (simp; done)) | with_reducible refine cell_keep (below_new _ _) ?_)
  have c2 : ((w.alloc (.cells #[.int .i64 p, .int .i64 q, .int .i64 g] 33)).alloc (.cells #[.int .i64 bh, .slice A n d] 35)).cell? ⟨w.heap.size, 2, none⟩ = some (.int .i64 g) := by
    repeat (first | with_reducible assumption | (with_reducible apply set1b; with_reducible assumption) | (with_reducible refine (sc_other _ ?_).trans ?_; focus (simp; done)) | (refine cell_new' ?_ _ _ _ rfl; focus (simp; done)) | with_reducible refine cell_keep (below_new _ _) ?_)
  have c3 : ((w.alloc (.cells #[.int .i64 p, .int .i64 q, .int .i64 g] 33)).alloc (.cells #[.int .i64 bh, .slice A n d] 35)).cell? ⟨w.heap.size + 1, 0, none⟩ = some (.int .i64 bh) := by
    repeat (first | with_reducible assumption | (with_reducible apply set1b; with_reducible assumption) | (with_reducible refine (sc_other _ ?_).trans ?_; focus (simp; done)) | (refine cell_new' ?_ _ _ _ rfl; focus (simp; done)) | with_reducible refine cell_keep (below_new _ _) ?_)
  have c4 : ((w.alloc (.cells #[.int .i64 p, .int .i64 q, .int .i64 g] 33)).alloc (.cells #[.int .i64 bh, .slice A n d] 35)).cell? ⟨w.heap.size + 1, 1, none⟩ = some (.slice A n d) := by
    repeat (first | with_reducible assumption | (with_reducible apply set1b; with_reducible assumption) | (with_reducible refine (sc_other _ ?_).trans ?_; focus (simp; done)) | (refine cell_new' ?_ _ _ _ rfl; focus (simp; done)) | with_reducible refine cell_keep (below_new _ _) ?_)
  go_enter Try.func80, Try.ntmps80
  go_wp2_with fail
  refine (challenge_any p q g HG.out ⟨lOpen.toArray⟩ (by decide) _ 3 [bh, c, x] (by simp) (by simp) HD.out _ (RI.lit _ [bh, c, x] _ (by simp))).mono ?_
  rintro e1 w1 ⟨rfl, hb1⟩
  have hX1 : Below ((w.alloc (.cells #[.int .i64 p, .int .i64 q, .int .i64 g] 33)).alloc (.cells #[.int .i64 bh, .slice A n d] 35)).heap.size ((w.alloc (.cells #[.int .i64 p, .int .i64 q, .int .i64 g] 33)).alloc (.cells #[.int .i64 bh, .slice A n d] 35)) w1 := bnext (by repeat (first | exact Below.refl _ _ | refine bnew ?_ _ | refine Below.drew ?_ | refine Below.drewN ?_ _ | (refine below_set _ ?_ ?_; rotate_left; focus (first | omega | (simp; done) | (simp <;> omega))))) hb1
  have hT1 : Below w.heap.size w w1 := bnext hT0 hX1
  replace c0 : w1.cell? ⟨w.heap.size, 0, none⟩ = some (.int .i64 p) := cell_keep hX1 c0
  replace c1 : w1.cell? ⟨w.heap.size, 1, none⟩ = some (.int .i64 q) := cell_keep hX1 c1
  replace c2 : w1.cell? ⟨w.heap.size, 2, none⟩ = some (.int .i64 g) := cell_keep hX1 c2
  replace c3 : w1.cell? ⟨w.heap.size + 1, 0, none⟩ = some (.int .i64 bh) := cell_keep hX1 c3
  replace c4 : w1.cell? ⟨w.heap.size + 1, 1, none⟩ = some (.slice A n d) := cell_keep hX1 c4
  go_wp2
  go_ret2
  exact ⟨rfl, hT1⟩
set_option maxRecDepth 100000 in
set_option maxHeartbeats 800000 in
theorem l9Challenge_any (p q g bh c x : Int) (A : Option Addr) (n d : Nat) (hG : M.Grp p q g) (hb : 0 ≤ bh ∧ bh < p) (hc : 0 ≤ c ∧ c < p) (hx : 0 ≤ x ∧ x < p) (w : World) :
    Calls Try.prog 83 #[.agg #[.int .i64 p, .int .i64 q, .int .i64 g], .agg #[.int .i64 bh, .slice A n d], .int .i64 c, .int .i64 x] w fun en w' => en = .returned (.int .i64 (chO p q g bh c x)) ∧ Below w.heap.size w w' := by
  have HD := Lib.hid (dig3 hG.pM hb hc hx)
  have HG := Lib.hid hG
  clear hG
  have hT0 : Below w.heap.size w ((w.alloc (.cells #[.int .i64 p, .int .i64 q, .int .i64 g] 33)).alloc (.cells #[.int .i64 bh, .slice A n d] 35)) := by repeat (first | exact Below.refl _ _ | refine bnew ?_ _)
  have c0 : ((w.alloc (.cells #[.int .i64 p, .int .i64 q, .int .i64 g] 33)).alloc (.cells #[.int .i64 bh, .slice A n d] 35)).cell? ⟨w.heap.size, 0, none⟩ = some (.int .i64 p) := by
    repeat (first | with_reducible assumption | (with_reducible apply set1b; with_reducible assumption) | (with_reducible refine (sc_other _ ?_).trans ?_; focus (simp; done)) | (refine cell_new' ?_ _ _ _ rfl; focus (simp; done)) | with_reducible refine cell_keep (below_new _ _) ?_)
  have c1 : ((w.alloc (.cells #[.int .i64 p, .int .i64 q, .int .i64 g] 33)).alloc (.cells #[.int .i64 bh, .slice A n d] 35)).cell? ⟨w.heap.size, 1, none⟩ = some (.int .i64 q) := by
    repeat (first | with_reducible assumption | (with_reducible apply set1b; with_reducible assumption) | (with_reducible refine (sc_other _ ?_).trans ?_; focus (simp; done)) | (refine cell_new' ?_ _ _ _ rfl; focus (simp; done)) | with_reducible refine cell_keep (below_new _ _) ?_)
  have c2 : ((w.alloc (.cells #[.int .i64 p, .int .i64 q, .int .i64 g] 33)).alloc (.cells #[.int .i64 bh, .slice A n d] 35)).cell? ⟨w.heap.size, 2, none⟩ = some (.int .i64 g) := by
    repeat (first | with_reducible assumption | (with_reducible apply set1b; with_reducible assumption) | (with_reducible refine (sc_other _ ?_).trans ?_; focus (simp; done)) | (refine cell_new' ?_ _ _ _ rfl; focus (simp; done)) | with_reducible refine cell_keep (below_new _ _) ?_)
  have c3 : ((w.alloc (.cells #[.int .i64 p, .int .i64 q, .int .i64 g] 33)).alloc (.cells #[.int .i64 bh, .slice A n d] 35)).cell? ⟨w.heap.size + 1, 0, none⟩ = some (.int .i64 bh) := by
    repeat (first | with_reducible assumption | (with_reducible apply set1b; with_reducible assumption) | (with_reducible refine (sc_other _ ?_).trans ?_; focus (simp; done)) | (refine cell_new' ?_ _ _ _ rfl; focus (simp; done)) | with_reducible refine cell_keep (below_new _ _) ?_)
  have c4 : ((w.alloc (.cells #[.int .i64 p, .int .i64 q, .int .i64 g] 33)).alloc (.cells #[.int .i64 bh, .slice A n d] 35)).cell? ⟨w.heap.size + 1, 1, none⟩ = some (.slice A n d) := by
    repeat (first | with_reducible assumption | (with_reducible apply set1b; with_reducible assumption) | (with_reducible refine (sc_other _ ?_).trans ?_; focus (simp; done)) | (refine cell_new' ?_ _ _ _ rfl; focus (simp; done)) | with_reducible refine cell_keep (below_new _ _) ?_)
  go_enter Try.func83, Try.ntmps83
  go_wp2_with fail
  refine (hChallenge_any p q g HG.out ⟨lOpen.toArray⟩ (by decide) _ 3 [bh, c, x] (by simp) (by simp) HD.out _ (RI.lit _ [bh, c, x] _ (by simp))).mono ?_
  rintro e1 w1 ⟨rfl, hb1⟩
  have hX1 : Below ((w.alloc (.cells #[.int .i64 p, .int .i64 q, .int .i64 g] 33)).alloc (.cells #[.int .i64 bh, .slice A n d] 35)).heap.size ((w.alloc (.cells #[.int .i64 p, .int .i64 q, .int .i64 g] 33)).alloc (.cells #[.int .i64 bh, .slice A n d] 35)) w1 := bnext (by repeat (first | exact Below.refl _ _ | refine bnew ?_ _ | refine Below.drew ?_ | refine Below.drewN ?_ _ | (refine below_set _ ?_ ?_; rotate_left; focus (first | omega | (simp; done) | (simp <;> omega))))) hb1
  have hT1 : Below w.heap.size w w1 := bnext hT0 hX1
  replace c0 : w1.cell? ⟨w.heap.size, 0, none⟩ = some (.int .i64 p) := cell_keep hX1 c0
  replace c1 : w1.cell? ⟨w.heap.size, 1, none⟩ = some (.int .i64 q) := cell_keep hX1 c1
  replace c2 : w1.cell? ⟨w.heap.size, 2, none⟩ = some (.int .i64 g) := cell_keep hX1 c2
  replace c3 : w1.cell? ⟨w.heap.size + 1, 0, none⟩ = some (.int .i64 bh) := cell_keep hX1 c3
  replace c4 : w1.cell? ⟨w.heap.size + 1, 1, none⟩ = some (.slice A n d) := cell_keep hX1 c4
  go_wp2
  go_ret
  exact ⟨rfl, hT1⟩
set_option maxRecDepth 100000 in
set_option maxHeartbeats 800000 in
theorem l9Form_any (p q g a b c : Int) (hG : M.Grp p q g) (A_pa : Option Addr) (c_pa : Nat) (pa : List Int) (A_pc : Option Addr) (c_pc : Nat) (pc : List Int) (A_pr : Option Addr) (c_pr : Nat) (pr : List Int) (hl_pa : pa.length ≤ 9223372036854775807) (hl_pc : pc.length ≤ 9223372036854775807) (hl_pr : pr.length ≤ 9223372036854775807) (w : World) (hx_pa : RI w w.heap.size A_pa pa) (hx_pc : RI w w.heap.size A_pc pc) (hx_pr : RI w w.heap.size A_pr pr) :
    Calls Try.prog 66 #[.agg #[.int .i64 p, .int .i64 q, .int .i64 g], .agg #[.slice A_pa pa.length c_pa, .slice A_pc pc.length c_pc, .slice A_pr pr.length c_pr], .int .i64 a, .int .i64 b, .int .i64 c] w fun en w' => en = .returned (.bool (formB p q pa pc pr a b c)) ∧ Below w.heap.size w w' := by
  have g1 := hG.q2
  have g2 := hG.qp
  have g4 := hG.pM
  have HG := Lib.hid hG
  clear hG
  have hT0 : Below w.heap.size w ((w.alloc (.cells #[.int .i64 p, .int .i64 q, .int .i64 g] 33)).alloc (.cells #[.slice A_pa pa.length c_pa, .slice A_pc pc.length c_pc, .slice A_pr pr.length c_pr] 38)) := by repeat (first | exact Below.refl _ _ | refine bnew ?_ _)
  have c0 : ((w.alloc (.cells #[.int .i64 p, .int .i64 q, .int .i64 g] 33)).alloc (.cells #[.slice A_pa pa.length c_pa, .slice A_pc pc.length c_pc, .slice A_pr pr.length c_pr] 38)).cell? ⟨w.heap.size, 0, none⟩ = some (.int .i64 p) := by
    repeat (first | with_reducible assumption | (with_reducible apply set1b; with_reducible assumption) | (with_reducible refine (sc_other _ ?_).trans ?_; focus (simp; done)) | (refine cell_new' ?_ _ _ _ rfl; focus (simp; done)) | with_reducible refine cell_keep (below_new _ _) ?_)
  have c1 : ((w.alloc (.cells #[.int .i64 p, .int .i64 q, .int .i64 g] 33)).alloc (.cells #[.slice A_pa pa.length c_pa, .slice A_pc pc.length c_pc, .slice A_pr pr.length c_pr] 38)).cell? ⟨w.heap.size, 1, none⟩ = some (.int .i64 q) := by
    repeat (first | with_reducible assumption | (with_reducible apply set1b; with_reducible assumption) | (with_reducible refine (sc_other _ ?_).trans ?_; focus (simp; done)) | (refine cell_new' ?_ _ _ _ rfl; focus (simp; done)) | with_reducible refine cell_keep (below_new _ _) ?_)
  have c2 : ((w.alloc (.cells #[.int .i64 p, .int .i64 q, .int .i64 g] 33)).alloc (.cells #[.slice A_pa pa.length c_pa, .slice A_pc pc.length c_pc, .slice A_pr pr.length c_pr] 38)).cell? ⟨w.heap.size, 2, none⟩ = some (.int .i64 g) := by
    repeat (first | with_reducible assumption | (with_reducible apply set1b; with_reducible assumption) | (with_reducible refine (sc_other _ ?_).trans ?_; focus (simp; done)) | (refine cell_new' ?_ _ _ _ rfl; focus (simp; done)) | with_reducible refine cell_keep (below_new _ _) ?_)
  have c3 : ((w.alloc (.cells #[.int .i64 p, .int .i64 q, .int .i64 g] 33)).alloc (.cells #[.slice A_pa pa.length c_pa, .slice A_pc pc.length c_pc, .slice A_pr pr.length c_pr] 38)).cell? ⟨w.heap.size + 1, 0, none⟩ = some (.slice A_pa pa.length c_pa) := by
    repeat (first | with_reducible assumption | (with_reducible apply set1b; with_reducible assumption) | (with_reducible refine (sc_other _ ?_).trans ?_; focus (simp; done)) | (refine cell_new' ?_ _ _ _ rfl; focus (simp; done)) | with_reducible refine cell_keep (below_new _ _) ?_)
  have c4 : ((w.alloc (.cells #[.int .i64 p, .int .i64 q, .int .i64 g] 33)).alloc (.cells #[.slice A_pa pa.length c_pa, .slice A_pc pc.length c_pc, .slice A_pr pr.length c_pr] 38)).cell? ⟨w.heap.size + 1, 1, none⟩ = some (.slice A_pc pc.length c_pc) := by
    repeat (first | with_reducible assumption | (with_reducible apply set1b; with_reducible assumption) | (with_reducible refine (sc_other _ ?_).trans ?_; focus (simp; done)) | (refine cell_new' ?_ _ _ _ rfl; focus (simp; done)) | with_reducible refine cell_keep (below_new _ _) ?_)
  have c5 : ((w.alloc (.cells #[.int .i64 p, .int .i64 q, .int .i64 g] 33)).alloc (.cells #[.slice A_pa pa.length c_pa, .slice A_pc pc.length c_pc, .slice A_pr pr.length c_pr] 38)).cell? ⟨w.heap.size + 1, 2, none⟩ = some (.slice A_pr pr.length c_pr) := by
    repeat (first | with_reducible assumption | (with_reducible apply set1b; with_reducible assumption) | (with_reducible refine (sc_other _ ?_).trans ?_; focus (simp; done)) | (refine cell_new' ?_ _ _ _ rfl; focus (simp; done)) | with_reducible refine cell_keep (below_new _ _) ?_)
  have x0 : RI ((w.alloc (.cells #[.int .i64 p, .int .i64 q, .int .i64 g] 33)).alloc (.cells #[.slice A_pa pa.length c_pa, .slice A_pc pc.length c_pc, .slice A_pr pr.length c_pr] 38)) ((w.alloc (.cells #[.int .i64 p, .int .i64 q, .int .i64 g] 33)).alloc (.cells #[.slice A_pa pa.length c_pa, .slice A_pc pc.length c_pc, .slice A_pr pr.length c_pr] 38)).heap.size A_pa pa := hx_pa.next hT0
  have x1 : RI ((w.alloc (.cells #[.int .i64 p, .int .i64 q, .int .i64 g] 33)).alloc (.cells #[.slice A_pa pa.length c_pa, .slice A_pc pc.length c_pc, .slice A_pr pr.length c_pr] 38)) ((w.alloc (.cells #[.int .i64 p, .int .i64 q, .int .i64 g] 33)).alloc (.cells #[.slice A_pa pa.length c_pa, .slice A_pc pc.length c_pc, .slice A_pr pr.length c_pr] 38)).heap.size A_pc pc := hx_pc.next hT0
  have x2 : RI ((w.alloc (.cells #[.int .i64 p, .int .i64 q, .int .i64 g] 33)).alloc (.cells #[.slice A_pa pa.length c_pa, .slice A_pc pc.length c_pc, .slice A_pr pr.length c_pr] 38)) ((w.alloc (.cells #[.int .i64 p, .int .i64 q, .int .i64 g] 33)).alloc (.cells #[.slice A_pa pa.length c_pa, .slice A_pc pc.length c_pc, .slice A_pr pr.length c_pr] 38)).heap.size A_pr pr := hx_pr.next hT0
  go_enter Try.func66, Try.ntmps66
  rcases Bool.eq_false_or_eq_true (((pa.length : Int) == a)) with q0 | q0
  rotate_left
  · have hR := Lib.hid (show formB p q pa pc pr a b c = false by unfold formB; rw [q0]; simp)
    go_wp2
    go_ret
    exact ⟨ret_bool hR.out.symm, hT0⟩
  rcases Bool.eq_false_or_eq_true (((pc.length : Int) == b)) with q1 | q1
  rotate_left
  · have hR := Lib.hid (show formB p q pa pc pr a b c = false by unfold formB; rw [q1]; simp)
    go_wp2
    go_ret
    exact ⟨ret_bool hR.out.symm, hT0⟩
  rcases Bool.eq_false_or_eq_true (((pr.length : Int) == c)) with q2 | q2
  rotate_left
  · have hR := Lib.hid (show formB p q pa pc pr a b c = false by unfold formB; rw [q2]; simp)
    go_wp2
    go_ret
    exact ⟨ret_bool hR.out.symm, hT0⟩
  go_wp2_with fail
  refine (gIs_any p q g HG.out A_pa c_pa pa hl_pa _ ((x0).next (by repeat (first | exact Below.refl _ _ | refine bnew ?_ _ | refine Below.drew ?_ | refine Below.drewN ?_ _ | (refine below_set _ ?_ ?_; rotate_left; focus (first | omega | (simp; done) | (simp <;> omega))))))).mono ?_
  rintro e1 w1 ⟨rfl, hb1⟩
  have hX1 : Below ((w.alloc (.cells #[.int .i64 p, .int .i64 q, .int .i64 g] 33)).alloc (.cells #[.slice A_pa pa.length c_pa, .slice A_pc pc.length c_pc, .slice A_pr pr.length c_pr] 38)).heap.size ((w.alloc (.cells #[.int .i64 p, .int .i64 q, .int .i64 g] 33)).alloc (.cells #[.slice A_pa pa.length c_pa, .slice A_pc pc.length c_pc, .slice A_pr pr.length c_pr] 38)) w1 := bnext (by repeat (first | exact Below.refl _ _ | refine bnew ?_ _ | refine Below.drew ?_ | refine Below.drewN ?_ _ | (refine below_set _ ?_ ?_; rotate_left; focus (first | omega | (simp; done) | (simp <;> omega))))) hb1
  have hT1 : Below w.heap.size w w1 := bnext hT0 hX1
  replace c0 : w1.cell? ⟨w.heap.size, 0, none⟩ = some (.int .i64 p) := cell_keep hX1 c0
  replace c1 : w1.cell? ⟨w.heap.size, 1, none⟩ = some (.int .i64 q) := cell_keep hX1 c1
  replace c2 : w1.cell? ⟨w.heap.size, 2, none⟩ = some (.int .i64 g) := cell_keep hX1 c2
  replace c3 : w1.cell? ⟨w.heap.size + 1, 0, none⟩ = some (.slice A_pa pa.length c_pa) := cell_keep hX1 c3
  replace c4 : w1.cell? ⟨w.heap.size + 1, 1, none⟩ = some (.slice A_pc pc.length c_pc) := cell_keep hX1 c4
  replace c5 : w1.cell? ⟨w.heap.size + 1, 2, none⟩ = some (.slice A_pr pr.length c_pr) := cell_keep hX1 c5
  replace x0 : RI w1 w1.heap.size A_pa pa := (x0).next hX1
  replace x1 : RI w1 w1.heap.size A_pc pc := (x1).next hX1
  replace x2 : RI w1 w1.heap.size A_pr pr := (x2).next hX1
  rcases Bool.eq_false_or_eq_true (elemsB p q pa) with q3 | q3
  rotate_left
  · have hR := Lib.hid (show formB p q pa pc pr a b c = false by unfold formB; rw [q3]; simp)
    go_wp2
    go_ret
    exact ⟨ret_bool hR.out.symm, hT1⟩
  go_wp2_with fail
  refine (gExps_any p q g A_pc c_pc pc _ (by omega) ((x1).next (by repeat (first | exact Below.refl _ _ | refine bnew ?_ _ | refine Below.drew ?_ | refine Below.drewN ?_ _ | (refine below_set _ ?_ ?_; rotate_left; focus (first | omega | (simp; done) | (simp <;> omega)))))) hl_pc).mono ?_
  rintro e2 w2 ⟨rfl, hb2⟩
  have hX2 : Below w1.heap.size w1 w2 := bnext (by repeat (first | exact Below.refl _ _ | refine bnew ?_ _ | refine Below.drew ?_ | refine Below.drewN ?_ _ | (refine below_set _ ?_ ?_; rotate_left; focus (first | omega | (simp; done) | (simp <;> omega))))) hb2
  have hT2 : Below w.heap.size w w2 := bnext hT1 hX2
  replace c0 : w2.cell? ⟨w.heap.size, 0, none⟩ = some (.int .i64 p) := cell_keep hX2 c0
  replace c1 : w2.cell? ⟨w.heap.size, 1, none⟩ = some (.int .i64 q) := cell_keep hX2 c1
  replace c2 : w2.cell? ⟨w.heap.size, 2, none⟩ = some (.int .i64 g) := cell_keep hX2 c2
  replace c3 : w2.cell? ⟨w.heap.size + 1, 0, none⟩ = some (.slice A_pa pa.length c_pa) := cell_keep hX2 c3
  replace c4 : w2.cell? ⟨w.heap.size + 1, 1, none⟩ = some (.slice A_pc pc.length c_pc) := cell_keep hX2 c4
  replace c5 : w2.cell? ⟨w.heap.size + 1, 2, none⟩ = some (.slice A_pr pr.length c_pr) := cell_keep hX2 c5
  replace x0 : RI w2 w2.heap.size A_pa pa := (x0).next hX2
  replace x1 : RI w2 w2.heap.size A_pc pc := (x1).next hX2
  replace x2 : RI w2 w2.heap.size A_pr pr := (x2).next hX2
  rcases Bool.eq_false_or_eq_true (expsB q pc) with q4 | q4
  rotate_left
  · have hR := Lib.hid (show formB p q pa pc pr a b c = false by unfold formB; rw [q4]; simp)
    go_wp2
    go_ret
    exact ⟨ret_bool hR.out.symm, hT2⟩
  go_wp2_with fail
  refine (gExps_any p q g A_pr c_pr pr _ (by omega) ((x2).next (by repeat (first | exact Below.refl _ _ | refine bnew ?_ _ | refine Below.drew ?_ | refine Below.drewN ?_ _ | (refine below_set _ ?_ ?_; rotate_left; focus (first | omega | (simp; done) | (simp <;> omega)))))) hl_pr).mono ?_
  rintro e3 w3 ⟨rfl, hb3⟩
  have hX3 : Below w2.heap.size w2 w3 := bnext (by repeat (first | exact Below.refl _ _ | refine bnew ?_ _ | refine Below.drew ?_ | refine Below.drewN ?_ _ | (refine below_set _ ?_ ?_; rotate_left; focus (first | omega | (simp; done) | (simp <;> omega))))) hb3
  have hT3 : Below w.heap.size w w3 := bnext hT2 hX3
  replace c0 : w3.cell? ⟨w.heap.size, 0, none⟩ = some (.int .i64 p) := cell_keep hX3 c0
  replace c1 : w3.cell? ⟨w.heap.size, 1, none⟩ = some (.int .i64 q) := cell_keep hX3 c1
  replace c2 : w3.cell? ⟨w.heap.size, 2, none⟩ = some (.int .i64 g) := cell_keep hX3 c2
  replace c3 : w3.cell? ⟨w.heap.size + 1, 0, none⟩ = some (.slice A_pa pa.length c_pa) := cell_keep hX3 c3
  replace c4 : w3.cell? ⟨w.heap.size + 1, 1, none⟩ = some (.slice A_pc pc.length c_pc) := cell_keep hX3 c4
  replace c5 : w3.cell? ⟨w.heap.size + 1, 2, none⟩ = some (.slice A_pr pr.length c_pr) := cell_keep hX3 c5
  replace x0 : RI w3 w3.heap.size A_pa pa := (x0).next hX3
  replace x1 : RI w3 w3.heap.size A_pc pc := (x1).next hX3
  replace x2 : RI w3 w3.heap.size A_pr pr := (x2).next hX3
  have hR := Lib.hid (show formB p q pa pc pr a b c = expsB q pr by unfold formB; rw [q0, q1, q2, q3, q4]; rfl)
  go_wp2
  go_ret
  exact ⟨ret_bool hR.out.symm, hT3⟩
set_option maxRecDepth 100000 in
set_option maxHeartbeats 1600000 in
theorem pOpening_any (p q g bh cc : Int) (A : Option Addr) (n d : Nat) (hG : M.Grp p q g) (hb : 0 ≤ bh ∧ bh < p) (hcc : 0 ≤ cc ∧ cc < p) (A_pa : Option Addr) (c_pa : Nat) (pa : List Int) (A_pc : Option Addr) (c_pc : Nat) (pc : List Int) (A_pr : Option Addr) (c_pr : Nat) (pr : List Int) (hl_pa : pa.length ≤ 9223372036854775807) (hl_pc : pc.length ≤ 9223372036854775807) (hl_pr : pr.length ≤ 9223372036854775807) (w : World) (hx_pa : RI w w.heap.size A_pa pa) (hx_pc : RI w w.heap.size A_pc pc) (hx_pr : RI w w.heap.size A_pr pr) :
    Calls Try.prog 78 #[.agg #[.int .i64 p, .int .i64 q, .int .i64 g], .agg #[.int .i64 bh, .slice A n d], .int .i64 cc, .agg #[.slice A_pa pa.length c_pa, .slice A_pc pc.length c_pc, .slice A_pr pr.length c_pr]] w fun en w' => en = .returned (.bool (opV p q g bh cc pa pc pr)) ∧ Below w.heap.size w w' := by
  have g1 := hG.q2
  have g2 := hG.qp
  have g3 := hG.p3
  have g4 := hG.pM
  have HG := Lib.hid hG
  clear hG
  have hT0 : Below w.heap.size w (((w.alloc (.cells #[.int .i64 p, .int .i64 q, .int .i64 g] 33)).alloc (.cells #[.int .i64 bh, .slice A n d] 35)).alloc (.cells #[.slice A_pa pa.length c_pa, .slice A_pc pc.length c_pc, .slice A_pr pr.length c_pr] 38)) := by repeat (first | exact Below.refl _ _ | refine bnew ?_ _)
  have c0 : (((w.alloc (.cells #[.int .i64 p, .int .i64 q, .int .i64 g] 33)).alloc (.cells #[.int .i64 bh, .slice A n d] 35)).alloc (.cells #[.slice A_pa pa.length c_pa, .slice A_pc pc.length c_pc, .slice A_pr pr.length c_pr] 38)).cell? ⟨w.heap.size, 0, none⟩ = some (.int .i64 p) := by
    repeat (first | with_reducible assumption | (with_reducible apply set1b; with_reducible assumption) | (with_reducible refine (sc_other _ ?_).trans ?_; focus (simp; done)) | (refine cell_new' ?_ _ _ _ rfl; focus (simp; done)) | with_reducible refine cell_keep (below_new _ _) ?_)
  have c1 : (((w.alloc (.cells #[.int .i64 p, .int .i64 q, .int .i64 g] 33)).alloc (.cells #[.int .i64 bh, .slice A n d] 35)).alloc (.cells #[.slice A_pa pa.length c_pa, .slice A_pc pc.length c_pc, .slice A_pr pr.length c_pr] 38)).cell? ⟨w.heap.size, 1, none⟩ = some (.int .i64 q) := by
    repeat (first | with_reducible assumption | (with_reducible apply set1b; with_reducible assumption) | (with_reducible refine (sc_other _ ?_).trans ?_; focus (simp; done)) | (refine cell_new' ?_ _ _ _ rfl; focus (simp; done)) | with_reducible refine cell_keep (below_new _ _) ?_)
  have c2 : (((w.alloc (.cells #[.int .i64 p, .int .i64 q, .int .i64 g] 33)).alloc (.cells #[.int .i64 bh, .slice A n d] 35)).alloc (.cells #[.slice A_pa pa.length c_pa, .slice A_pc pc.length c_pc, .slice A_pr pr.length c_pr] 38)).cell? ⟨w.heap.size, 2, none⟩ = some (.int .i64 g) := by
    repeat (first | with_reducible assumption | (with_reducible apply set1b; with_reducible assumption) | (with_reducible refine (sc_other _ ?_).trans ?_; focus (simp; done)) | (refine cell_new' ?_ _ _ _ rfl; focus (simp; done)) | with_reducible refine cell_keep (below_new _ _) ?_)
  have c3 : (((w.alloc (.cells #[.int .i64 p, .int .i64 q, .int .i64 g] 33)).alloc (.cells #[.int .i64 bh, .slice A n d] 35)).alloc (.cells #[.slice A_pa pa.length c_pa, .slice A_pc pc.length c_pc, .slice A_pr pr.length c_pr] 38)).cell? ⟨w.heap.size + 1, 0, none⟩ = some (.int .i64 bh) := by
    repeat (first | with_reducible assumption | (with_reducible apply set1b; with_reducible assumption) | (with_reducible refine (sc_other _ ?_).trans ?_; focus (simp; done)) | (refine cell_new' ?_ _ _ _ rfl; focus (simp; done)) | with_reducible refine cell_keep (below_new _ _) ?_)
  have c4 : (((w.alloc (.cells #[.int .i64 p, .int .i64 q, .int .i64 g] 33)).alloc (.cells #[.int .i64 bh, .slice A n d] 35)).alloc (.cells #[.slice A_pa pa.length c_pa, .slice A_pc pc.length c_pc, .slice A_pr pr.length c_pr] 38)).cell? ⟨w.heap.size + 1, 1, none⟩ = some (.slice A n d) := by
    repeat (first | with_reducible assumption | (with_reducible apply set1b; with_reducible assumption) | (with_reducible refine (sc_other _ ?_).trans ?_; focus (simp; done)) | (refine cell_new' ?_ _ _ _ rfl; focus (simp; done)) | with_reducible refine cell_keep (below_new _ _) ?_)
  have c5 : (((w.alloc (.cells #[.int .i64 p, .int .i64 q, .int .i64 g] 33)).alloc (.cells #[.int .i64 bh, .slice A n d] 35)).alloc (.cells #[.slice A_pa pa.length c_pa, .slice A_pc pc.length c_pc, .slice A_pr pr.length c_pr] 38)).cell? ⟨w.heap.size + 1 + 1, 0, none⟩ = some (.slice A_pa pa.length c_pa) := by
    repeat (first | with_reducible assumption | (with_reducible apply set1b; with_reducible assumption) | (with_reducible refine (sc_other _ ?_).trans ?_; focus (simp; done)) | (refine cell_new' ?_ _ _ _ rfl; focus (simp; done)) | with_reducible refine cell_keep (below_new _ _) ?_)
  have c6 : (((w.alloc (.cells #[.int .i64 p, .int .i64 q, .int .i64 g] 33)).alloc (.cells #[.int .i64 bh, .slice A n d] 35)).alloc (.cells #[.slice A_pa pa.length c_pa, .slice A_pc pc.length c_pc, .slice A_pr pr.length c_pr] 38)).cell? ⟨w.heap.size + 1 + 1, 1, none⟩ = some (.slice A_pc pc.length c_pc) := by
    repeat (first | with_reducible assumption | (with_reducible apply set1b; with_reducible assumption) | (with_reducible refine (sc_other _ ?_).trans ?_; focus (simp; done)) | (refine cell_new' ?_ _ _ _ rfl; focus (simp; done)) | with_reducible refine cell_keep (below_new _ _) ?_)
  have c7 : (((w.alloc (.cells #[.int .i64 p, .int .i64 q, .int .i64 g] 33)).alloc (.cells #[.int .i64 bh, .slice A n d] 35)).alloc (.cells #[.slice A_pa pa.length c_pa, .slice A_pc pc.length c_pc, .slice A_pr pr.length c_pr] 38)).cell? ⟨w.heap.size + 1 + 1, 2, none⟩ = some (.slice A_pr pr.length c_pr) := by
    repeat (first | with_reducible assumption | (with_reducible apply set1b; with_reducible assumption) | (with_reducible refine (sc_other _ ?_).trans ?_; focus (simp; done)) | (refine cell_new' ?_ _ _ _ rfl; focus (simp; done)) | with_reducible refine cell_keep (below_new _ _) ?_)
  have x0 : RI (((w.alloc (.cells #[.int .i64 p, .int .i64 q, .int .i64 g] 33)).alloc (.cells #[.int .i64 bh, .slice A n d] 35)).alloc (.cells #[.slice A_pa pa.length c_pa, .slice A_pc pc.length c_pc, .slice A_pr pr.length c_pr] 38)) (((w.alloc (.cells #[.int .i64 p, .int .i64 q, .int .i64 g] 33)).alloc (.cells #[.int .i64 bh, .slice A n d] 35)).alloc (.cells #[.slice A_pa pa.length c_pa, .slice A_pc pc.length c_pc, .slice A_pr pr.length c_pr] 38)).heap.size A_pa pa := hx_pa.next hT0
  have x1 : RI (((w.alloc (.cells #[.int .i64 p, .int .i64 q, .int .i64 g] 33)).alloc (.cells #[.int .i64 bh, .slice A n d] 35)).alloc (.cells #[.slice A_pa pa.length c_pa, .slice A_pc pc.length c_pc, .slice A_pr pr.length c_pr] 38)) (((w.alloc (.cells #[.int .i64 p, .int .i64 q, .int .i64 g] 33)).alloc (.cells #[.int .i64 bh, .slice A n d] 35)).alloc (.cells #[.slice A_pa pa.length c_pa, .slice A_pc pc.length c_pc, .slice A_pr pr.length c_pr] 38)).heap.size A_pc pc := hx_pc.next hT0
  have x2 : RI (((w.alloc (.cells #[.int .i64 p, .int .i64 q, .int .i64 g] 33)).alloc (.cells #[.int .i64 bh, .slice A n d] 35)).alloc (.cells #[.slice A_pa pa.length c_pa, .slice A_pc pc.length c_pc, .slice A_pr pr.length c_pr] 38)) (((w.alloc (.cells #[.int .i64 p, .int .i64 q, .int .i64 g] 33)).alloc (.cells #[.int .i64 bh, .slice A n d] 35)).alloc (.cells #[.slice A_pa pa.length c_pa, .slice A_pc pc.length c_pc, .slice A_pr pr.length c_pr] 38)).heap.size A_pr pr := hx_pr.next hT0
  go_enter Try.func78, Try.ntmps78
  go_wp2_with fail
  refine (l9Form_any p q g 1 1 2 HG.out A_pa c_pa pa A_pc c_pc pc A_pr c_pr pr hl_pa hl_pc hl_pr _ ((x0).next (by repeat (first | exact Below.refl _ _ | refine bnew ?_ _ | refine Below.drew ?_ | refine Below.drewN ?_ _ | (refine below_set _ ?_ ?_; rotate_left; focus (first | omega | (simp; done) | (simp <;> omega)))))) ((x1).next (by repeat (first | exact Below.refl _ _ | refine bnew ?_ _ | refine Below.drew ?_ | refine Below.drewN ?_ _ | (refine below_set _ ?_ ?_; rotate_left; focus (first | omega | (simp; done) | (simp <;> omega)))))) ((x2).next (by repeat (first | exact Below.refl _ _ | refine bnew ?_ _ | refine Below.drew ?_ | refine Below.drewN ?_ _ | (refine below_set _ ?_ ?_; rotate_left; focus (first | omega | (simp; done) | (simp <;> omega))))))).mono ?_
  rintro e1 w1 ⟨rfl, hb1⟩
  have hX1 : Below (((w.alloc (.cells #[.int .i64 p, .int .i64 q, .int .i64 g] 33)).alloc (.cells #[.int .i64 bh, .slice A n d] 35)).alloc (.cells #[.slice A_pa pa.length c_pa, .slice A_pc pc.length c_pc, .slice A_pr pr.length c_pr] 38)).heap.size (((w.alloc (.cells #[.int .i64 p, .int .i64 q, .int .i64 g] 33)).alloc (.cells #[.int .i64 bh, .slice A n d] 35)).alloc (.cells #[.slice A_pa pa.length c_pa, .slice A_pc pc.length c_pc, .slice A_pr pr.length c_pr] 38)) w1 := bnext (by repeat (first | exact Below.refl _ _ | refine bnew ?_ _ | refine Below.drew ?_ | refine Below.drewN ?_ _ | (refine below_set _ ?_ ?_; rotate_left; focus (first | omega | (simp; done) | (simp <;> omega))))) hb1
  have hT1 : Below w.heap.size w w1 := bnext hT0 hX1
  replace c0 : w1.cell? ⟨w.heap.size, 0, none⟩ = some (.int .i64 p) := cell_keep hX1 c0
  replace c1 : w1.cell? ⟨w.heap.size, 1, none⟩ = some (.int .i64 q) := cell_keep hX1 c1
  replace c2 : w1.cell? ⟨w.heap.size, 2, none⟩ = some (.int .i64 g) := cell_keep hX1 c2
  replace c3 : w1.cell? ⟨w.heap.size + 1, 0, none⟩ = some (.int .i64 bh) := cell_keep hX1 c3
  replace c4 : w1.cell? ⟨w.heap.size + 1, 1, none⟩ = some (.slice A n d) := cell_keep hX1 c4
  replace c5 : w1.cell? ⟨w.heap.size + 1 + 1, 0, none⟩ = some (.slice A_pa pa.length c_pa) := cell_keep hX1 c5
  replace c6 : w1.cell? ⟨w.heap.size + 1 + 1, 1, none⟩ = some (.slice A_pc pc.length c_pc) := cell_keep hX1 c6
  replace c7 : w1.cell? ⟨w.heap.size + 1 + 1, 2, none⟩ = some (.slice A_pr pr.length c_pr) := cell_keep hX1 c7
  replace x0 : RI w1 w1.heap.size A_pa pa := (x0).next hX1
  replace x1 : RI w1 w1.heap.size A_pc pc := (x1).next hX1
  replace x2 : RI w1 w1.heap.size A_pr pr := (x2).next hX1
  rcases Bool.eq_false_or_eq_true (formB p q pa pc pr 1 1 2) with hf | hf
  rotate_left
  · have hR := Lib.hid (show opV p q g bh cc pa pc pr = false by
      cases ho : opV p q g bh cc pa pc pr with
      | false => rfl
      | true =>
        unfold opV at ho
        simp only [Bool.and_eq_true, beq_iff_eq] at ho
        obtain ⟨⟨⟨⟨⟨⟨o1, o2⟩, o3⟩, o4⟩, o5⟩, o6⟩, o7⟩ := ho
        have e1 := len1 (l := pa) (by omega)
        have e2 := len1 (l := pc) (by omega)
        have h : formB p q pa pc pr 1 1 2 = true := by
          unfold formB
          simp only [Bool.and_eq_true, beq_iff_eq]
          refine ⟨⟨⟨⟨⟨o1, o2⟩, o3⟩, ?_⟩, ?_⟩, o5⟩
          · rw [e1]; simpa [elemsB] using o4
          · rw [e2, o6]
            have := M.chal_lt (p := p) (g := g) g1 lOpen [bh, cc, pa.getD 0 0]
            simp only [expsB, List.all_cons, List.all_nil, Bool.and_true]
            exact inr_mk ⟨this.1, by have := this.2; unfold chO; omega⟩
        rw [h] at hf; cases hf)
    go_wp2
    go_ret
    exact ⟨ret_bool hR.out.symm, hT1⟩
  have hfk := hf
  unfold formB at hf
  simp only [Bool.and_eq_true, beq_iff_eq] at hf
  obtain ⟨⟨⟨⟨⟨o1, o2⟩, o3⟩, o4⟩, o5⟩, o6⟩ := hf
  obtain ⟨px, hpx⟩ : ∃ v : Int, v = pa.getD 0 0 := ⟨_, rfl⟩
  obtain ⟨pe, hpe⟩ : ∃ v : Int, v = pc.getD 0 0 := ⟨_, rfl⟩
  obtain ⟨pz, hpz⟩ : ∃ v : Int, v = pr.getD 0 0 := ⟨_, rfl⟩
  obtain ⟨pt, hpt⟩ : ∃ v : Int, v = pr.getD 1 0 := ⟨_, rfl⟩
  have l1 : 0 < pa.length := by omega
  have l2 : 0 < pc.length := by omega
  have l3 : 1 < pr.length := by omega
  have l4 : 0 < pr.length := by omega
  have m0 : 0 ≤ px ∧ px < p := hpx ▸ elem_bd (elemsB_mem o4 (getD_mem l1))
  have m1 : 0 ≤ pe ∧ pe < q := hpe ▸ expsB_mem o5 (getD_mem l2)
  have m2 : 0 ≤ pz ∧ pz < q := hpz ▸ expsB_mem o6 (getD_mem (k := 0) (by omega : 0 < pr.length))
  have m3 : 0 ≤ pt ∧ pt < q := hpt ▸ expsB_mem o6 (getD_mem l3)
  have HO := Lib.hid (show opV p q g bh cc pa pc pr = ((pe == chO p q g bh cc px) && (cmt p q g bh pz pt == px * M.gpw p q cc pe % p)) by
    have e1 := elemsB_mem o4 (getD_mem l1)
    unfold opV
    rw [o1, o2, o3, o6, elemB_mk e1, ← hpx, ← hpe, ← hpz, ← hpt]
    simp only [beq_self_eq_true, Bool.true_and]
    cases he : pe == chO p q g bh cc px with
    | false => rfl
    | true => rw [← (beq_iff_eq.1 he)])
  obtain ⟨ad0, ea0⟩ := hx_pa.ad
  obtain rfl := ea0 l1
  obtain ⟨ad1, ea1⟩ := hx_pc.ad
  obtain rfl := ea1 l2
  obtain ⟨ad2, ea2⟩ := hx_pr.ad
  obtain rfl := ea2 (by omega)
  have z1 : (0 : Int) < (pa.length : Int) := by omega
  have z2 : (0 : Int) < (pc.length : Int) := by omega
  have z3 : (0 : Int) < (pr.length : Int) := by omega
  have z4 : (1 : Int) < (pr.length : Int) := by omega
  clear o1 o2 o3 o4 o5 o6 ea0 ea1 ea2
  go_wp2_with fail
  clear hfk
  have y0 : w1.cell? ad0 = some (.int .i64 px) := by
    have := x0.get 0 (by omega)
    rwa [add0, ← hpx] at this
  have y1 : w1.cell? ad1 = some (.int .i64 pe) := by
    have := x1.get 0 (by omega)
    rwa [add0, ← hpe] at this
  have y2 : w1.cell? ad2 = some (.int .i64 pz) := by
    have := x2.get 0 (by omega)
    rwa [add0, ← hpz] at this
  have y3 : w1.cell? ⟨ad2.block, ad2.off + 1, none⟩ = some (.int .i64 pt) := by
    have := x2.get 1 (by omega)
    rwa [← hpt] at this
  clear hpx hpe hpz hpt
  refine wp_region_chain (fun W => W.cell? ⟨w.heap.size, 0, none⟩ = some (.int .i64 p) ∧ W.cell? ⟨w.heap.size, 1, none⟩ = some (.int .i64 q) ∧ W.cell? ⟨w.heap.size, 2, none⟩ = some (.int .i64 g) ∧ W.cell? ⟨w.heap.size + 1, 0, none⟩ = some (.int .i64 bh) ∧ W.cell? ⟨w.heap.size + 1, 1, none⟩ = some (.slice A n d) ∧ W.cell? ⟨w.heap.size + 1 + 1, 0, none⟩ = some (.slice (some ad0) pa.length c_pa) ∧ W.cell? ⟨w.heap.size + 1 + 1, 1, none⟩ = some (.slice (some ad1) pc.length c_pc) ∧ W.cell? ⟨w.heap.size + 1 + 1, 2, none⟩ = some (.slice (some ad2) pr.length c_pr) ∧ RI W W.heap.size (some ad0) pa ∧ RI W W.heap.size (some ad1) pc ∧ RI W W.heap.size (some ad2) pr ∧ W.cell? ad0 = some (.int .i64 px) ∧ W.cell? ad1 = some (.int .i64 pe) ∧ W.cell? ad2 = some (.int .i64 pz) ∧ W.cell? ⟨ad2.block, ad2.off + 1, none⟩ = some (.int .i64 pt))
    10 [some 15, some 16, some 17, some 18, some 19, some 20, some 21, some 22, some 9, some 10] (by kernel_rfl) (by kernel_rfl) (by kernel_rfl) (by decide) (by rfl) (by kernel_rfl) (by kernel_rfl) ?hS0 ?hSs ?hc
  case hS0 => exact ⟨cell_keep (Below.drew (by repeat (first | exact Below.refl _ _ | refine bnew ?_ _ | refine Below.drew ?_ | refine Below.drewN ?_ _ | (refine below_set _ ?_ ?_; rotate_left; focus (first | omega | (simp; done) | (simp <;> omega)))))) c0, cell_keep (Below.drew (by repeat (first | exact Below.refl _ _ | refine bnew ?_ _ | refine Below.drew ?_ | refine Below.drewN ?_ _ | (refine below_set _ ?_ ?_; rotate_left; focus (first | omega | (simp; done) | (simp <;> omega)))))) c1, cell_keep (Below.drew (by repeat (first | exact Below.refl _ _ | refine bnew ?_ _ | refine Below.drew ?_ | refine Below.drewN ?_ _ | (refine below_set _ ?_ ?_; rotate_left; focus (first | omega | (simp; done) | (simp <;> omega)))))) c2, cell_keep (Below.drew (by repeat (first | exact Below.refl _ _ | refine bnew ?_ _ | refine Below.drew ?_ | refine Below.drewN ?_ _ | (refine below_set _ ?_ ?_; rotate_left; focus (first | omega | (simp; done) | (simp <;> omega)))))) c3, cell_keep (Below.drew (by repeat (first | exact Below.refl _ _ | refine bnew ?_ _ | refine Below.drew ?_ | refine Below.drewN ?_ _ | (refine below_set _ ?_ ?_; rotate_left; focus (first | omega | (simp; done) | (simp <;> omega)))))) c4, cell_keep (Below.drew (by repeat (first | exact Below.refl _ _ | refine bnew ?_ _ | refine Below.drew ?_ | refine Below.drewN ?_ _ | (refine below_set _ ?_ ?_; rotate_left; focus (first | omega | (simp; done) | (simp <;> omega)))))) c5, cell_keep (Below.drew (by repeat (first | exact Below.refl _ _ | refine bnew ?_ _ | refine Below.drew ?_ | refine Below.drewN ?_ _ | (refine below_set _ ?_ ?_; rotate_left; focus (first | omega | (simp; done) | (simp <;> omega)))))) c6, cell_keep (Below.drew (by repeat (first | exact Below.refl _ _ | refine bnew ?_ _ | refine Below.drew ?_ | refine Below.drewN ?_ _ | (refine below_set _ ?_ ?_; rotate_left; focus (first | omega | (simp; done) | (simp <;> omega)))))) c7, (x0).next (Below.drew (by repeat (first | exact Below.refl _ _ | refine bnew ?_ _ | refine Below.drew ?_ | refine Below.drewN ?_ _ | (refine below_set _ ?_ ?_; rotate_left; focus (first | omega | (simp; done) | (simp <;> omega)))))), (x1).next (Below.drew (by repeat (first | exact Below.refl _ _ | refine bnew ?_ _ | refine Below.drew ?_ | refine Below.drewN ?_ _ | (refine below_set _ ?_ ?_; rotate_left; focus (first | omega | (simp; done) | (simp <;> omega)))))), (x2).next (Below.drew (by repeat (first | exact Below.refl _ _ | refine bnew ?_ _ | refine Below.drew ?_ | refine Below.drewN ?_ _ | (refine below_set _ ?_ ?_; rotate_left; focus (first | omega | (simp; done) | (simp <;> omega)))))), cell_keep (Below.drew (by repeat (first | exact Below.refl _ _ | refine bnew ?_ _ | refine Below.drew ?_ | refine Below.drewN ?_ _ | (refine below_set _ ?_ ?_; rotate_left; focus (first | omega | (simp; done) | (simp <;> omega)))))) y0, cell_keep (Below.drew (by repeat (first | exact Below.refl _ _ | refine bnew ?_ _ | refine Below.drew ?_ | refine Below.drewN ?_ _ | (refine below_set _ ?_ ?_; rotate_left; focus (first | omega | (simp; done) | (simp <;> omega)))))) y1, cell_keep (Below.drew (by repeat (first | exact Below.refl _ _ | refine bnew ?_ _ | refine Below.drew ?_ | refine Below.drewN ?_ _ | (refine below_set _ ?_ ?_; rotate_left; focus (first | omega | (simp; done) | (simp <;> omega)))))) y2, cell_keep (Below.drew (by repeat (first | exact Below.refl _ _ | refine bnew ?_ _ | refine Below.drew ?_ | refine Below.drewN ?_ _ | (refine below_set _ ?_ ?_; rotate_left; focus (first | omega | (simp; done) | (simp <;> omega)))))) y3⟩
  case hSs => exact fun w1 w2 ⟨hc0, hc1, hc2, hc3, hc4, hc5, hc6, hc7, hx0, hx1, hx2, hy0, hy1, hy2, hy3⟩ hb => ⟨cell_keep hb hc0, cell_keep hb hc1, cell_keep hb hc2, cell_keep hb hc3, cell_keep hb hc4, cell_keep hb hc5, cell_keep hb hc6, cell_keep hb hc7, (hx0).next hb, (hx1).next hb, (hx2).next hb, cell_keep hb hy0, cell_keep hb hy1, cell_keep hb hy2, cell_keep hb hy3⟩
  apply Chain.det
  · intro a w1 hS hb hd K hK
    obtain ⟨c0, c1, c2, c3, c4, c5, c6, c7, x0, x1, x2, y0, y1, y2, y3⟩ := hS
    have b7 := hb 7 _ rfl (by decide)
    clear hb
    simp only [depsOK] at hd
    go_simp
    exact hK _ _ rfl (Below.refl _ _)
  show Chain _ _ _ _ _ _ _ _ _ _ _ 9 1 _
  apply Chain.det
  · intro a w1 hS hb hd K hK
    obtain ⟨c0, c1, c2, c3, c4, c5, c6, c7, x0, x1, x2, y0, y1, y2, y3⟩ := hS
    clear hb
    simp only [depsOK, updR, Region.binds, reduceIte, forall_const, and_true, eqV, List.getElem?_cons_zero, exists_eq_right] at hd
    go_simp
    exact hK _ _ rfl (Below.refl _ _)
  show Chain _ _ _ _ _ _ _ _ _ _ _ 8 2 _
  apply Chain.det
  · intro a w1 hS hb hd K hK
    obtain ⟨c0, c1, c2, c3, c4, c5, c6, c7, x0, x1, x2, y0, y1, y2, y3⟩ := hS
    clear hb
    simp only [depsOK, updR, Region.binds, reduceIte, forall_const, and_true, eqV, List.getElem?_cons_zero, List.getElem?_cons_succ, exists_eq_right, Nat.succ_ne_self] at hd
    go_simp
    exact hK _ _ rfl (Below.refl _ _)
  show Chain _ _ _ _ _ _ _ _ _ _ _ 7 3 _
  apply Chain.det
  · intro a w1 hS hb hd K hK
    obtain ⟨c0, c1, c2, c3, c4, c5, c6, c7, x0, x1, x2, y0, y1, y2, y3⟩ := hS
    clear hb
    simp only [depsOK, updR, Region.binds, reduceIte, forall_const, and_true, eqV, List.getElem?_cons_zero, List.getElem?_cons_succ, exists_eq_right, reduceCtorEq, Nat.succ_ne_self] at hd
    go_simp
    exact hK _ _ rfl (Below.refl _ _)
  show Chain _ _ _ _ _ _ _ _ _ _ _ 6 4 _
  apply Chain.det
  · intro a w1 hS hb hd K hK
    obtain ⟨c0, c1, c2, c3, c4, c5, c6, c7, x0, x1, x2, y0, y1, y2, y3⟩ := hS
    have b7 := hb 7 _ rfl (by decide)
    clear hb
    simp only [depsOK, updR, Region.binds, reduceIte, Nat.reduceEqDiff, and_true, List.getElem?_cons_zero, List.getElem?_cons_succ, reduceCtorEq] at hd
    go_simp
    exact hK _ _ rfl (Below.refl _ _)
  show Chain _ _ _ _ _ _ _ _ _ _ _ 5 5 _
  apply Chain.det
  · intro a w1 hS hb hd K hK
    obtain ⟨c0, c1, c2, c3, c4, c5, c6, c7, x0, x1, x2, y0, y1, y2, y3⟩ := hS
    clear hb
    simp only [depsOK, updR, Region.binds, reduceIte, Nat.reduceEqDiff, forall_const, and_true, eqV, List.getElem?_cons_zero, List.getElem?_cons_succ, exists_eq_right, reduceCtorEq, Nat.succ_ne_self] at hd
    go_simp
    exact hK _ _ rfl (Below.refl _ _)
  show Chain _ _ _ _ _ _ _ _ _ _ _ 4 6 _
  apply Chain.det
  · intro a w1 hS hb hd K hK
    obtain ⟨c0, c1, c2, c3, c4, c5, c6, c7, x0, x1, x2, y0, y1, y2, y3⟩ := hS
    clear hb
    simp only [depsOK, updR, Region.binds, reduceIte, Nat.reduceEqDiff, forall_const, and_true, eqV, List.getElem?_cons_zero, List.getElem?_cons_succ, exists_eq_right, reduceCtorEq, Nat.succ_ne_self] at hd
    go_simp
    exact hK _ _ rfl (Below.refl _ _)
  show Chain _ _ _ _ _ _ _ _ _ _ _ 3 7 _
  apply Chain.det
  · intro a w1 hS hb hd K hK
    obtain ⟨c0, c1, c2, c3, c4, c5, c6, c7, x0, x1, x2, y0, y1, y2, y3⟩ := hS
    clear hb
    simp only [depsOK, updR, Region.binds, reduceIte, Nat.reduceEqDiff, forall_const, and_true, eqV, List.getElem?_cons_zero, List.getElem?_cons_succ, exists_eq_right, reduceCtorEq, Nat.succ_ne_self] at hd
    go_simp
    exact hK _ _ rfl (Below.refl _ _)
  show Chain _ _ _ _ _ _ _ _ _ _ _ 2 8 _
  apply Chain.det
  · intro a w1 hS hb hd K hK
    obtain ⟨c0, c1, c2, c3, c4, c5, c6, c7, x0, x1, x2, y0, y1, y2, y3⟩ := hS
    clear hb
    simp only [depsOK, updR, Region.binds, reduceIte, Nat.reduceEqDiff, forall_const, and_true, eqV, List.getElem?_cons_zero, List.getElem?_cons_succ, exists_eq_right, reduceCtorEq, Nat.succ_ne_self] at hd
    go_simp
    exact hK _ _ rfl (Below.refl _ _)
  show Chain _ _ _ _ _ _ _ _ _ _ _ 1 9 _
  apply Chain.det
  · intro a w1 hS hb hd K hK
    obtain ⟨c0, c1, c2, c3, c4, c5, c6, c7, x0, x1, x2, y0, y1, y2, y3⟩ := hS
    clear hb
    simp only [depsOK, updR, Region.binds, reduceIte, Nat.reduceEqDiff, forall_const, and_true, eqV, List.getElem?_cons_zero, List.getElem?_cons_succ, exists_eq_right, reduceCtorEq, Nat.succ_ne_self] at hd
    go_simp
    exact hK _ _ rfl (Below.refl _ _)
  show Chain _ _ _ _ _ _ _ _ _ _ _ 0 10 _
  intro x w2 hS hB2 hR y hY hA hE
  have r8 := hR 8 _ rfl
  simp only [updR, reduceIte, Nat.reduceEqDiff, eqV] at r8
  have r9 := hR 9 _ rfl
  simp only [updR, reduceIte, Nat.reduceEqDiff, eqV] at r9
  clear hR hY hA hE
  simp only [TailWp, fillB, Act.put, List.setIfInBounds_toArray, List.set_cons_zero, List.set_cons_succ, Nat.reduceAdd, r8, r9]
  clear r8
  clear r9
  have hX2 : Below w1.heap.size w1 w2 := bnext (Below.drew (by repeat (first | exact Below.refl _ _ | refine bnew ?_ _ | refine Below.drew ?_ | refine Below.drewN ?_ _ | (refine below_set _ ?_ ?_; rotate_left; focus (first | omega | (simp; done) | (simp <;> omega)))))) hB2
  clear hB2
  have hT2 : Below w.heap.size w w2 := bnext hT1 hX2
  clear c0 c1 c2 c3 c4 c5 c6 c7 x0 x1 x2 y0 y1 y2 y3
  obtain ⟨c0, c1, c2, c3, c4, c5, c6, c7, x0, x1, x2, y0, y1, y2, y3⟩ := hS
  go_wp2_with fail
  obtain ⟨b1, hb1⟩ : ∃ b : Bool, b = (pe == chO p q g bh cc px) := ⟨_, rfl⟩
  have Hb1 := Lib.hid hb1
  clear hb1
  obtain ⟨b2, hb2⟩ : ∃ b : Bool, b = (cmt p q g bh pz pt == px * M.gpw p q cc pe % p) := ⟨_, rfl⟩
  have Hb2 := Lib.hid hb2
  clear hb2
  obtain ⟨n3_28, hn3_28⟩ : ∃ b : Bool, b = (b1 && b2) := ⟨_, rfl⟩
  have Hn3_28 := Lib.hid hn3_28
  clear hn3_28
  refine wp_region_chain (fun W => W.cell? ⟨w.heap.size, 0, none⟩ = some (.int .i64 p) ∧ W.cell? ⟨w.heap.size, 1, none⟩ = some (.int .i64 q) ∧ W.cell? ⟨w.heap.size, 2, none⟩ = some (.int .i64 g) ∧ W.cell? ⟨w.heap.size + 1, 0, none⟩ = some (.int .i64 bh) ∧ W.cell? ⟨w.heap.size + 1, 1, none⟩ = some (.slice A n d) ∧ W.cell? ⟨w.heap.size + 1 + 1, 0, none⟩ = some (.slice (some ad0) pa.length c_pa) ∧ W.cell? ⟨w.heap.size + 1 + 1, 1, none⟩ = some (.slice (some ad1) pc.length c_pc) ∧ W.cell? ⟨w.heap.size + 1 + 1, 2, none⟩ = some (.slice (some ad2) pr.length c_pr) ∧ RI W W.heap.size (some ad0) pa ∧ RI W W.heap.size (some ad1) pc ∧ RI W W.heap.size (some ad2) pr ∧ W.cell? ad0 = some (.int .i64 px) ∧ W.cell? ad1 = some (.int .i64 pe) ∧ W.cell? ad2 = some (.int .i64 pz) ∧ W.cell? ⟨ad2.block, ad2.off + 1, none⟩ = some (.int .i64 pt))
    30 [some 23, some 24, some 25, some 26, some 27, some 28, some 29, some 30, some 31, some 32, some 33, some 34, some 35, some 36, some 37, some 38, some 39, some 40, some 41, some 42, some 43, some 44, some 45, some 46, some 47, some 48, some 49, some 50, some 51, some 8] (by kernel_rfl) (by kernel_rfl) (by kernel_rfl) (by decide) (by rfl) (by kernel_rfl) (by kernel_rfl) ?hS0 ?hSs ?hc
  case hS0 => exact ⟨cell_keep (Below.drew (by repeat (first | exact Below.refl _ _ | refine bnew ?_ _ | refine Below.drew ?_ | refine Below.drewN ?_ _ | (refine below_set _ ?_ ?_; rotate_left; focus (first | omega | (simp; done) | (simp <;> omega)))))) c0, cell_keep (Below.drew (by repeat (first | exact Below.refl _ _ | refine bnew ?_ _ | refine Below.drew ?_ | refine Below.drewN ?_ _ | (refine below_set _ ?_ ?_; rotate_left; focus (first | omega | (simp; done) | (simp <;> omega)))))) c1, cell_keep (Below.drew (by repeat (first | exact Below.refl _ _ | refine bnew ?_ _ | refine Below.drew ?_ | refine Below.drewN ?_ _ | (refine below_set _ ?_ ?_; rotate_left; focus (first | omega | (simp; done) | (simp <;> omega)))))) c2, cell_keep (Below.drew (by repeat (first | exact Below.refl _ _ | refine bnew ?_ _ | refine Below.drew ?_ | refine Below.drewN ?_ _ | (refine below_set _ ?_ ?_; rotate_left; focus (first | omega | (simp; done) | (simp <;> omega)))))) c3, cell_keep (Below.drew (by repeat (first | exact Below.refl _ _ | refine bnew ?_ _ | refine Below.drew ?_ | refine Below.drewN ?_ _ | (refine below_set _ ?_ ?_; rotate_left; focus (first | omega | (simp; done) | (simp <;> omega)))))) c4, cell_keep (Below.drew (by repeat (first | exact Below.refl _ _ | refine bnew ?_ _ | refine Below.drew ?_ | refine Below.drewN ?_ _ | (refine below_set _ ?_ ?_; rotate_left; focus (first | omega | (simp; done) | (simp <;> omega)))))) c5, cell_keep (Below.drew (by repeat (first | exact Below.refl _ _ | refine bnew ?_ _ | refine Below.drew ?_ | refine Below.drewN ?_ _ | (refine below_set _ ?_ ?_; rotate_left; focus (first | omega | (simp; done) | (simp <;> omega)))))) c6, cell_keep (Below.drew (by repeat (first | exact Below.refl _ _ | refine bnew ?_ _ | refine Below.drew ?_ | refine Below.drewN ?_ _ | (refine below_set _ ?_ ?_; rotate_left; focus (first | omega | (simp; done) | (simp <;> omega)))))) c7, (x0).next (Below.drew (by repeat (first | exact Below.refl _ _ | refine bnew ?_ _ | refine Below.drew ?_ | refine Below.drewN ?_ _ | (refine below_set _ ?_ ?_; rotate_left; focus (first | omega | (simp; done) | (simp <;> omega)))))), (x1).next (Below.drew (by repeat (first | exact Below.refl _ _ | refine bnew ?_ _ | refine Below.drew ?_ | refine Below.drewN ?_ _ | (refine below_set _ ?_ ?_; rotate_left; focus (first | omega | (simp; done) | (simp <;> omega)))))), (x2).next (Below.drew (by repeat (first | exact Below.refl _ _ | refine bnew ?_ _ | refine Below.drew ?_ | refine Below.drewN ?_ _ | (refine below_set _ ?_ ?_; rotate_left; focus (first | omega | (simp; done) | (simp <;> omega)))))), cell_keep (Below.drew (by repeat (first | exact Below.refl _ _ | refine bnew ?_ _ | refine Below.drew ?_ | refine Below.drewN ?_ _ | (refine below_set _ ?_ ?_; rotate_left; focus (first | omega | (simp; done) | (simp <;> omega)))))) y0, cell_keep (Below.drew (by repeat (first | exact Below.refl _ _ | refine bnew ?_ _ | refine Below.drew ?_ | refine Below.drewN ?_ _ | (refine below_set _ ?_ ?_; rotate_left; focus (first | omega | (simp; done) | (simp <;> omega)))))) y1, cell_keep (Below.drew (by repeat (first | exact Below.refl _ _ | refine bnew ?_ _ | refine Below.drew ?_ | refine Below.drewN ?_ _ | (refine below_set _ ?_ ?_; rotate_left; focus (first | omega | (simp; done) | (simp <;> omega)))))) y2, cell_keep (Below.drew (by repeat (first | exact Below.refl _ _ | refine bnew ?_ _ | refine Below.drew ?_ | refine Below.drewN ?_ _ | (refine below_set _ ?_ ?_; rotate_left; focus (first | omega | (simp; done) | (simp <;> omega)))))) y3⟩
  case hSs => exact fun w1 w2 ⟨hc0, hc1, hc2, hc3, hc4, hc5, hc6, hc7, hx0, hx1, hx2, hy0, hy1, hy2, hy3⟩ hb => ⟨cell_keep hb hc0, cell_keep hb hc1, cell_keep hb hc2, cell_keep hb hc3, cell_keep hb hc4, cell_keep hb hc5, cell_keep hb hc6, cell_keep hb hc7, (hx0).next hb, (hx1).next hb, (hx2).next hb, cell_keep hb hy0, cell_keep hb hy1, cell_keep hb hy2, cell_keep hb hy3⟩
  apply Chain.det
  · intro a w1 hS hb hd K hK
    obtain ⟨c0, c1, c2, c3, c4, c5, c6, c7, x0, x1, x2, y0, y1, y2, y3⟩ := hS
    have b10 := hb 10 _ rfl (by decide)
    clear hb
    simp only [depsOK] at hd
    go_simp
    exact hK _ _ rfl (Below.refl _ _)
  show Chain _ _ _ _ _ _ _ _ _ _ _ 29 1 _
  apply Chain.det
  · intro a w1 hS hb hd K hK
    obtain ⟨c0, c1, c2, c3, c4, c5, c6, c7, x0, x1, x2, y0, y1, y2, y3⟩ := hS
    have b4 := hb 4 _ rfl (by decide)
    clear hb
    simp only [depsOK] at hd
    go_simp
    exact hK _ _ rfl (Below.refl _ _)
  show Chain _ _ _ _ _ _ _ _ _ _ _ 28 2 _
  apply Chain.det
  · intro a w1 hS hb hd K hK
    obtain ⟨c0, c1, c2, c3, c4, c5, c6, c7, x0, x1, x2, y0, y1, y2, y3⟩ := hS
    have b5 := hb 5 _ rfl (by decide)
    clear hb
    simp only [depsOK] at hd
    go_simp
    exact hK _ _ rfl (Below.refl _ _)
  show Chain _ _ _ _ _ _ _ _ _ _ _ 27 3 _
  apply Chain.det
  · intro a w1 hS hb hd K hK
    obtain ⟨c0, c1, c2, c3, c4, c5, c6, c7, x0, x1, x2, y0, y1, y2, y3⟩ := hS
    have b2 := hb 2 _ rfl (by decide)
    clear hb
    simp only [depsOK] at hd
    go_simp
    exact hK _ _ rfl (Below.refl _ _)
  show Chain _ _ _ _ _ _ _ _ _ _ _ 26 4 _
  apply Chain.det
  · intro a w1 hS hb hd K hK
    obtain ⟨c0, c1, c2, c3, c4, c5, c6, c7, x0, x1, x2, y0, y1, y2, y3⟩ := hS
    have b9 := hb 9 _ rfl (by decide)
    clear hb
    simp only [depsOK] at hd
    go_simp
    exact hK _ _ rfl (Below.refl _ _)
  show Chain _ _ _ _ _ _ _ _ _ _ _ 25 5 _
  apply Chain.det
  · intro a w1 hS hb hd K hK
    obtain ⟨c0, c1, c2, c3, c4, c5, c6, c7, x0, x1, x2, y0, y1, y2, y3⟩ := hS
    clear hb
    simp only [depsOK, updR, Region.binds, reduceIte, Nat.reduceEqDiff, forall_const, and_true, eqV, List.getElem?_cons_zero, List.getElem?_cons_succ, exists_eq_right, reduceCtorEq, Nat.succ_ne_self] at hd
    go_simp
    refine (l9Challenge_any p q g bh cc px A n d HG.out hb hcc m0 _).mono ?_
    rintro e9 w9 ⟨rfl, hb9⟩
    exact hK _ _ (rfl) hb9
  show Chain _ _ _ _ _ _ _ _ _ _ _ 24 6 _
  refine Chain.rel (eqV (.bool b1)) (stable_eq _) ?_ ?_
  · intro a w1 hS hb hd K hK
    obtain ⟨c0, c1, c2, c3, c4, c5, c6, c7, x0, x1, x2, y0, y1, y2, y3⟩ := hS
    clear hb
    simp only [depsOK, updR, Region.binds, reduceIte, Nat.reduceEqDiff, forall_const, and_true, eqV, List.getElem?_cons_zero, List.getElem?_cons_succ, exists_eq_right, reduceCtorEq, Nat.succ_ne_self] at hd
    go_simp
    exact hK _ _ (congrArg Value.bool Hb1.out.symm) (Below.refl _ _)
  show Chain _ _ _ _ _ _ _ _ _ _ _ 23 7 _
  apply Chain.det
  · intro a w1 hS hb hd K hK
    obtain ⟨c0, c1, c2, c3, c4, c5, c6, c7, x0, x1, x2, y0, y1, y2, y3⟩ := hS
    clear hb
    simp only [depsOK, updR, Region.binds, reduceIte, Nat.reduceEqDiff, forall_const, and_true, eqV, List.getElem?_cons_zero, List.getElem?_cons_succ, exists_eq_right, reduceCtorEq, Nat.succ_ne_self] at hd
    go_simp
    exact hK _ _ rfl (Below.refl _ _)
  show Chain _ _ _ _ _ _ _ _ _ _ _ 22 8 _
  apply Chain.detg b1 true
  · intro a w1 hS hb hd K hK
    obtain ⟨c0, c1, c2, c3, c4, c5, c6, c7, x0, x1, x2, y0, y1, y2, y3⟩ := hS
    have b4 := hb 4 _ rfl (by decide)
    clear hb
    simp only [depsOK, updR, Region.binds, reduceIte, Nat.reduceEqDiff, forall_const, and_true, eqV, List.getElem?_cons_zero, List.getElem?_cons_succ, exists_eq_right, reduceCtorEq, Nat.succ_ne_self] at hd
    rcases Bool.eq_false_or_eq_true b1 with e | e
    · simp only [e] at hd
      go_simp
      exact hK _ _ (fun _ => rfl) (Below.refl _ _)
    · simp only [e] at hd
      go_simp
      exact hK _ _ (fun h => Bool.noConfusion (e.symm.trans h)) (Below.refl _ _)
  show Chain _ _ _ _ _ _ _ _ _ _ _ 21 9 _
  apply Chain.detg b1 true
  · intro a w1 hS hb hd K hK
    obtain ⟨c0, c1, c2, c3, c4, c5, c6, c7, x0, x1, x2, y0, y1, y2, y3⟩ := hS
    have b5 := hb 5 _ rfl (by decide)
    clear hb
    simp only [depsOK, updR, Region.binds, reduceIte, Nat.reduceEqDiff, forall_const, and_true, eqV, List.getElem?_cons_zero, List.getElem?_cons_succ, exists_eq_right, reduceCtorEq, Nat.succ_ne_self] at hd
    rcases Bool.eq_false_or_eq_true b1 with e | e
    · simp only [e] at hd
      go_simp
      exact hK _ _ (fun _ => rfl) (Below.refl _ _)
    · simp only [e] at hd
      go_simp
      exact hK _ _ (fun h => Bool.noConfusion (e.symm.trans h)) (Below.refl _ _)
  show Chain _ _ _ _ _ _ _ _ _ _ _ 20 10 _
  apply Chain.detg b1 true
  · intro a w1 hS hb hd K hK
    obtain ⟨c0, c1, c2, c3, c4, c5, c6, c7, x0, x1, x2, y0, y1, y2, y3⟩ := hS
    have b7 := hb 7 _ rfl (by decide)
    clear hb
    simp only [depsOK, updR, Region.binds, reduceIte, Nat.reduceEqDiff, forall_const, and_true, eqV, List.getElem?_cons_zero, List.getElem?_cons_succ, exists_eq_right, reduceCtorEq, Nat.succ_ne_self] at hd
    rcases Bool.eq_false_or_eq_true b1 with e | e
    · simp only [e] at hd
      go_simp
      exact hK _ _ (fun _ => rfl) (Below.refl _ _)
    · simp only [e] at hd
      go_simp
      exact hK _ _ (fun h => Bool.noConfusion (e.symm.trans h)) (Below.refl _ _)
  show Chain _ _ _ _ _ _ _ _ _ _ _ 19 11 _
  apply Chain.detg b1 true
  · intro a w1 hS hb hd K hK
    obtain ⟨c0, c1, c2, c3, c4, c5, c6, c7, x0, x1, x2, y0, y1, y2, y3⟩ := hS
    clear hb
    simp only [depsOK, updR, Region.binds, reduceIte, Nat.reduceEqDiff, forall_const, and_true, eqV, eqG, List.getElem?_cons_zero, List.getElem?_cons_succ, exists_eq_right, reduceCtorEq, Nat.succ_ne_self] at hd
    rcases Bool.eq_false_or_eq_true b1 with e | e
    · simp only [e, forall_const, exists_eq_right] at hd
      go_simp
      exact hK _ _ (fun _ => rfl) (Below.refl _ _)
    · simp only [e, reduceCtorEq, false_imp_iff, and_true] at hd
      go_simp
      exact hK _ _ (fun h => Bool.noConfusion (e.symm.trans h)) (Below.refl _ _)
  show Chain _ _ _ _ _ _ _ _ _ _ _ 18 12 _
  apply Chain.detg b1 true
  · intro a w1 hS hb hd K hK
    obtain ⟨c0, c1, c2, c3, c4, c5, c6, c7, x0, x1, x2, y0, y1, y2, y3⟩ := hS
    clear hb
    simp only [depsOK, updR, Region.binds, reduceIte, Nat.reduceEqDiff, forall_const, and_true, eqV, eqG, List.getElem?_cons_zero, List.getElem?_cons_succ, exists_eq_right, reduceCtorEq, Nat.succ_ne_self] at hd
    rcases Bool.eq_false_or_eq_true b1 with e | e
    · simp only [e, forall_const, exists_eq_right] at hd
      go_simp
      exact hK _ _ (fun _ => rfl) (Below.refl _ _)
    · simp only [e, reduceCtorEq, false_imp_iff, and_true] at hd
      go_simp
      exact hK _ _ (fun h => Bool.noConfusion (e.symm.trans h)) (Below.refl _ _)
  show Chain _ _ _ _ _ _ _ _ _ _ _ 17 13 _
  apply Chain.detg b1 true
  · intro a w1 hS hb hd K hK
    obtain ⟨c0, c1, c2, c3, c4, c5, c6, c7, x0, x1, x2, y0, y1, y2, y3⟩ := hS
    clear hb
    simp only [depsOK, updR, Region.binds, reduceIte, Nat.reduceEqDiff, forall_const, and_true, eqV, eqG, List.getElem?_cons_zero, List.getElem?_cons_succ, exists_eq_right, reduceCtorEq, Nat.succ_ne_self] at hd
    rcases Bool.eq_false_or_eq_true b1 with e | e
    · simp only [e, forall_const, exists_eq_right] at hd
      go_simp
      exact hK _ _ (fun _ => rfl) (Below.refl _ _)
    · simp only [e, reduceCtorEq, false_imp_iff, and_true] at hd
      go_simp
      exact hK _ _ (fun h => Bool.noConfusion (e.symm.trans h)) (Below.refl _ _)
  show Chain _ _ _ _ _ _ _ _ _ _ _ 16 14 _
  apply Chain.detg b1 true
  · intro a w1 hS hb hd K hK
    obtain ⟨c0, c1, c2, c3, c4, c5, c6, c7, x0, x1, x2, y0, y1, y2, y3⟩ := hS
    have b7 := hb 7 _ rfl (by decide)
    clear hb
    simp only [depsOK, updR, Region.binds, reduceIte, Nat.reduceEqDiff, forall_const, and_true, eqV, List.getElem?_cons_zero, List.getElem?_cons_succ, exists_eq_right, reduceCtorEq, Nat.succ_ne_self] at hd
    rcases Bool.eq_false_or_eq_true b1 with e | e
    · simp only [e] at hd
      go_simp
      exact hK _ _ (fun _ => rfl) (Below.refl _ _)
    · simp only [e] at hd
      go_simp
      exact hK _ _ (fun h => Bool.noConfusion (e.symm.trans h)) (Below.refl _ _)
  show Chain _ _ _ _ _ _ _ _ _ _ _ 15 15 _
  apply Chain.detg b1 true
  · intro a w1 hS hb hd K hK
    obtain ⟨c0, c1, c2, c3, c4, c5, c6, c7, x0, x1, x2, y0, y1, y2, y3⟩ := hS
    clear hb
    simp only [depsOK, updR, Region.binds, reduceIte, Nat.reduceEqDiff, forall_const, and_true, eqV, eqG, List.getElem?_cons_zero, List.getElem?_cons_succ, exists_eq_right, reduceCtorEq, Nat.succ_ne_self] at hd
    rcases Bool.eq_false_or_eq_true b1 with e | e
    · simp only [e, forall_const, exists_eq_right] at hd
      go_simp
      exact hK _ _ (fun _ => rfl) (Below.refl _ _)
    · simp only [e, reduceCtorEq, false_imp_iff, and_true] at hd
      go_simp
      exact hK _ _ (fun h => Bool.noConfusion (e.symm.trans h)) (Below.refl _ _)
  show Chain _ _ _ _ _ _ _ _ _ _ _ 14 16 _
  apply Chain.detg b1 true
  · intro a w1 hS hb hd K hK
    obtain ⟨c0, c1, c2, c3, c4, c5, c6, c7, x0, x1, x2, y0, y1, y2, y3⟩ := hS
    clear hb
    simp only [depsOK, updR, Region.binds, reduceIte, Nat.reduceEqDiff, forall_const, and_true, eqV, eqG, List.getElem?_cons_zero, List.getElem?_cons_succ, exists_eq_right, reduceCtorEq, Nat.succ_ne_self] at hd
    rcases Bool.eq_false_or_eq_true b1 with e | e
    · simp only [e, forall_const, exists_eq_right] at hd
      go_simp
      exact hK _ _ (fun _ => rfl) (Below.refl _ _)
    · simp only [e, reduceCtorEq, false_imp_iff, and_true] at hd
      go_simp
      exact hK _ _ (fun h => Bool.noConfusion (e.symm.trans h)) (Below.refl _ _)
  show Chain _ _ _ _ _ _ _ _ _ _ _ 13 17 _
  apply Chain.detg b1 true
  · intro a w1 hS hb hd K hK
    obtain ⟨c0, c1, c2, c3, c4, c5, c6, c7, x0, x1, x2, y0, y1, y2, y3⟩ := hS
    clear hb
    simp only [depsOK, updR, Region.binds, reduceIte, Nat.reduceEqDiff, forall_const, and_true, eqV, eqG, List.getElem?_cons_zero, List.getElem?_cons_succ, exists_eq_right, reduceCtorEq, Nat.succ_ne_self] at hd
    rcases Bool.eq_false_or_eq_true b1 with e | e
    · simp only [e, forall_const, exists_eq_right] at hd
      go_simp
      exact hK _ _ (fun _ => rfl) (Below.refl _ _)
    · simp only [e, reduceCtorEq, false_imp_iff, and_true] at hd
      go_simp
      exact hK _ _ (fun h => Bool.noConfusion (e.symm.trans h)) (Below.refl _ _)
  show Chain _ _ _ _ _ _ _ _ _ _ _ 12 18 _
  apply Chain.detg b1 true
  · intro a w1 hS hb hd K hK
    obtain ⟨c0, c1, c2, c3, c4, c5, c6, c7, x0, x1, x2, y0, y1, y2, y3⟩ := hS
    clear hb
    simp only [depsOK, updR, Region.binds, reduceIte, Nat.reduceEqDiff, forall_const, and_true, eqV, eqG, List.getElem?_cons_zero, List.getElem?_cons_succ, exists_eq_right, reduceCtorEq, Nat.succ_ne_self] at hd
    rcases Bool.eq_false_or_eq_true b1 with e | e
    · simp only [e, forall_const, exists_eq_right] at hd
      go_simp
      refine (pCommit_any p q g bh pz pt A n d HG.out hb m2 m3 _).mono ?_
      rintro e9 w9 ⟨rfl, hb9⟩
      exact hK _ _ (fun _ => rfl) hb9
    · simp only [e, reduceCtorEq, false_imp_iff, and_true] at hd
      go_simp
      exact hK _ _ (fun h => Bool.noConfusion (e.symm.trans h)) (Below.refl _ _)
  show Chain _ _ _ _ _ _ _ _ _ _ _ 11 19 _
  apply Chain.detg b1 true
  · intro a w1 hS hb hd K hK
    obtain ⟨c0, c1, c2, c3, c4, c5, c6, c7, x0, x1, x2, y0, y1, y2, y3⟩ := hS
    have b4 := hb 4 _ rfl (by decide)
    clear hb
    simp only [depsOK, updR, Region.binds, reduceIte, Nat.reduceEqDiff, forall_const, and_true, eqV, List.getElem?_cons_zero, List.getElem?_cons_succ, exists_eq_right, reduceCtorEq, Nat.succ_ne_self] at hd
    rcases Bool.eq_false_or_eq_true b1 with e | e
    · simp only [e] at hd
      go_simp
      exact hK _ _ (fun _ => rfl) (Below.refl _ _)
    · simp only [e] at hd
      go_simp
      exact hK _ _ (fun h => Bool.noConfusion (e.symm.trans h)) (Below.refl _ _)
  show Chain _ _ _ _ _ _ _ _ _ _ _ 10 20 _
  apply Chain.detg b1 true
  · intro a w1 hS hb hd K hK
    obtain ⟨c0, c1, c2, c3, c4, c5, c6, c7, x0, x1, x2, y0, y1, y2, y3⟩ := hS
    have b9 := hb 9 _ rfl (by decide)
    clear hb
    simp only [depsOK, updR, Region.binds, reduceIte, Nat.reduceEqDiff, forall_const, and_true, eqV, List.getElem?_cons_zero, List.getElem?_cons_succ, exists_eq_right, reduceCtorEq, Nat.succ_ne_self] at hd
    rcases Bool.eq_false_or_eq_true b1 with e | e
    · simp only [e] at hd
      go_simp
      exact hK _ _ (fun _ => rfl) (Below.refl _ _)
    · simp only [e] at hd
      go_simp
      exact hK _ _ (fun h => Bool.noConfusion (e.symm.trans h)) (Below.refl _ _)
  show Chain _ _ _ _ _ _ _ _ _ _ _ 9 21 _
  apply Chain.detg b1 true
  · intro a w1 hS hb hd K hK
    obtain ⟨c0, c1, c2, c3, c4, c5, c6, c7, x0, x1, x2, y0, y1, y2, y3⟩ := hS
    have b4 := hb 4 _ rfl (by decide)
    clear hb
    simp only [depsOK, updR, Region.binds, reduceIte, Nat.reduceEqDiff, forall_const, and_true, eqV, List.getElem?_cons_zero, List.getElem?_cons_succ, exists_eq_right, reduceCtorEq, Nat.succ_ne_self] at hd
    rcases Bool.eq_false_or_eq_true b1 with e | e
    · simp only [e] at hd
      go_simp
      exact hK _ _ (fun _ => rfl) (Below.refl _ _)
    · simp only [e] at hd
      go_simp
      exact hK _ _ (fun h => Bool.noConfusion (e.symm.trans h)) (Below.refl _ _)
  show Chain _ _ _ _ _ _ _ _ _ _ _ 8 22 _
  apply Chain.detg b1 true
  · intro a w1 hS hb hd K hK
    obtain ⟨c0, c1, c2, c3, c4, c5, c6, c7, x0, x1, x2, y0, y1, y2, y3⟩ := hS
    have b2 := hb 2 _ rfl (by decide)
    clear hb
    simp only [depsOK, updR, Region.binds, reduceIte, Nat.reduceEqDiff, forall_const, and_true, eqV, List.getElem?_cons_zero, List.getElem?_cons_succ, exists_eq_right, reduceCtorEq, Nat.succ_ne_self] at hd
    rcases Bool.eq_false_or_eq_true b1 with e | e
    · simp only [e] at hd
      go_simp
      exact hK _ _ (fun _ => rfl) (Below.refl _ _)
    · simp only [e] at hd
      go_simp
      exact hK _ _ (fun h => Bool.noConfusion (e.symm.trans h)) (Below.refl _ _)
  show Chain _ _ _ _ _ _ _ _ _ _ _ 7 23 _
  apply Chain.detg b1 true
  · intro a w1 hS hb hd K hK
    obtain ⟨c0, c1, c2, c3, c4, c5, c6, c7, x0, x1, x2, y0, y1, y2, y3⟩ := hS
    have b10 := hb 10 _ rfl (by decide)
    clear hb
    simp only [depsOK, updR, Region.binds, reduceIte, Nat.reduceEqDiff, forall_const, and_true, eqV, List.getElem?_cons_zero, List.getElem?_cons_succ, exists_eq_right, reduceCtorEq, Nat.succ_ne_self] at hd
    rcases Bool.eq_false_or_eq_true b1 with e | e
    · simp only [e] at hd
      go_simp
      exact hK _ _ (fun _ => rfl) (Below.refl _ _)
    · simp only [e] at hd
      go_simp
      exact hK _ _ (fun h => Bool.noConfusion (e.symm.trans h)) (Below.refl _ _)
  show Chain _ _ _ _ _ _ _ _ _ _ _ 6 24 _
  apply Chain.detg b1 true
  · intro a w1 hS hb hd K hK
    obtain ⟨c0, c1, c2, c3, c4, c5, c6, c7, x0, x1, x2, y0, y1, y2, y3⟩ := hS
    clear hb
    simp only [depsOK, updR, Region.binds, reduceIte, Nat.reduceEqDiff, forall_const, and_true, eqV, eqG, List.getElem?_cons_zero, List.getElem?_cons_succ, exists_eq_right, reduceCtorEq, Nat.succ_ne_self] at hd
    rcases Bool.eq_false_or_eq_true b1 with e | e
    · simp only [e, forall_const, exists_eq_right] at hd
      go_simp
      refine (gExp_any p q g cc pe HG.out hcc (by omega) _).mono ?_
      rintro e9 w9 ⟨rfl, hb9⟩
      exact hK _ _ (fun _ => rfl) hb9
    · simp only [e, reduceCtorEq, false_imp_iff, and_true] at hd
      go_simp
      exact hK _ _ (fun h => Bool.noConfusion (e.symm.trans h)) (Below.refl _ _)
  show Chain _ _ _ _ _ _ _ _ _ _ _ 5 25 _
  refine Chain.rel (onG b1 true (isF 2 [px, M.gpw p q cc pe])) (stable_onG (stable_isF _ _)) ?_ ?_
  · intro a w1 hS hb hd K hK
    obtain ⟨c0, c1, c2, c3, c4, c5, c6, c7, x0, x1, x2, y0, y1, y2, y3⟩ := hS
    clear hb
    simp only [depsOK, updR, Region.binds, reduceIte, Nat.reduceEqDiff, forall_const, and_true, eqV, eqG, List.getElem?_cons_zero, List.getElem?_cons_succ, exists_eq_right, reduceCtorEq, Nat.succ_ne_self] at hd
    rcases Bool.eq_false_or_eq_true b1 with e | e
    · simp only [e, forall_const, exists_eq_right] at hd
      go_simp
      exact hK _ _ (fun _ => ⟨_, rfl, RI.lit w1 [px, M.gpw p q cc pe] _ rfl⟩) (below_new _ _)
    · simp only [e, reduceCtorEq, false_imp_iff, and_true] at hd
      go_simp
      exact hK _ _ (fun h => Bool.noConfusion (e.symm.trans h)) (Below.refl _ _)
  show Chain _ _ _ _ _ _ _ _ _ _ _ 4 26 _
  apply Chain.detg b1 true
  · intro a w1 hS hb hd K hK
    obtain ⟨c0, c1, c2, c3, c4, c5, c6, c7, x0, x1, x2, y0, y1, y2, y3⟩ := hS
    clear hb
    simp only [depsOK, updR, Region.binds, reduceIte, Nat.reduceEqDiff, forall_const, and_true, eqV, eqG, onG, List.getElem?_cons_zero, List.getElem?_cons_succ, exists_eq_right, reduceCtorEq, Nat.succ_ne_self] at hd
    rcases Bool.eq_false_or_eq_true b1 with e | e
    · simp only [e, forall_const, exists_eq_right] at hd
      obtain ⟨h1, ⟨v2, e2, A2, rfl, r2⟩, _⟩ := hd
      go_simp
      refine (gMul2_any p q g px (M.gpw p q cc pe) HG.out m0 (M.gpw_lt g3) A2 2 _ r2).mono ?_
      rintro e9 w9 ⟨rfl, hb9⟩
      exact hK _ _ (fun _ => rfl) hb9
    · simp only [e, reduceCtorEq, false_imp_iff, and_true] at hd
      go_simp
      exact hK _ _ (fun h => Bool.noConfusion (e.symm.trans h)) (Below.refl _ _)
  show Chain _ _ _ _ _ _ _ _ _ _ _ 3 27 _
  refine Chain.rel (eqG b1 true (.bool b2)) (stable_eqG _ _ _) ?_ ?_
  · intro a w1 hS hb hd K hK
    obtain ⟨c0, c1, c2, c3, c4, c5, c6, c7, x0, x1, x2, y0, y1, y2, y3⟩ := hS
    clear hb
    simp only [depsOK, updR, Region.binds, reduceIte, Nat.reduceEqDiff, forall_const, and_true, eqV, eqG, List.getElem?_cons_zero, List.getElem?_cons_succ, exists_eq_right, reduceCtorEq, Nat.succ_ne_self] at hd
    rcases Bool.eq_false_or_eq_true b1 with e | e
    · simp only [e, forall_const, exists_eq_right] at hd
      go_simp
      exact hK _ _ (fun _ => congrArg Value.bool Hb2.out.symm) (Below.refl _ _)
    · simp only [e, reduceCtorEq, false_imp_iff, and_true] at hd
      go_simp
      exact hK _ _ (fun h => Bool.noConfusion (e.symm.trans h)) (Below.refl _ _)
  show Chain _ _ _ _ _ _ _ _ _ _ _ 2 28 _
  refine Chain.rel (eqV (.bool n3_28)) (stable_eq _) ?_ ?_
  · intro a w1 hS hb hd K hK
    obtain ⟨c0, c1, c2, c3, c4, c5, c6, c7, x0, x1, x2, y0, y1, y2, y3⟩ := hS
    clear hb
    simp only [depsOK, updR, Region.binds, reduceIte, Nat.reduceEqDiff, forall_const, and_true, eqV, eqG, List.getElem?_cons_zero, List.getElem?_cons_succ, exists_eq_right, reduceCtorEq, Nat.succ_ne_self] at hd
    rcases Bool.eq_false_or_eq_true b1 with e | e
    · simp only [e, forall_const, exists_eq_right] at hd
      go_simp
      exact hK _ _ (by show Value.bool _ = Value.bool _; rw [Hn3_28.out, e]; try rfl) (Below.refl _ _)
    · simp only [e, reduceCtorEq, false_imp_iff, and_true] at hd
      go_simp
      exact hK _ _ (by show Value.bool _ = Value.bool _; rw [Hn3_28.out, e]; try rfl) (Below.refl _ _)
  show Chain _ _ _ _ _ _ _ _ _ _ _ 1 29 _
  apply Chain.det
  · intro a w1 hS hb hd K hK
    obtain ⟨c0, c1, c2, c3, c4, c5, c6, c7, x0, x1, x2, y0, y1, y2, y3⟩ := hS
    clear hb
    simp only [depsOK, updR, Region.binds, reduceIte, Nat.reduceEqDiff, forall_const, and_true, eqV, eqG, onG, List.getElem?_cons_zero, List.getElem?_cons_succ, exists_eq_right, reduceCtorEq, Nat.succ_ne_self] at hd
    go_simp
    exact hK _ _ rfl (Below.refl _ _)
  show Chain _ _ _ _ _ _ _ _ _ _ _ 0 30 _
  intro x w3 hS hB3 hR y hY hA hE
  have r29 := hR 29 _ rfl
  simp only [updR, reduceIte, Nat.reduceEqDiff, eqV] at r29
  clear hR hY hA hE
  simp only [TailWp, fillB, Act.put, List.setIfInBounds_toArray, List.set_cons_zero, List.set_cons_succ, Nat.reduceAdd, r29]
  clear r29
  have hX3 : Below w2.heap.size w2 w3 := bnext (Below.drew (by repeat (first | exact Below.refl _ _ | refine bnew ?_ _ | refine Below.drew ?_ | refine Below.drewN ?_ _ | (refine below_set _ ?_ ?_; rotate_left; focus (first | omega | (simp; done) | (simp <;> omega)))))) hB3
  clear hB3
  have hT3 : Below w.heap.size w w3 := bnext hT2 hX3
  clear c0 c1 c2 c3 c4 c5 c6 c7 x0 x1 x2 y0 y1 y2 y3
  obtain ⟨c0, c1, c2, c3, c4, c5, c6, c7, x0, x1, x2, y0, y1, y2, y3⟩ := hS
  go_wp2
  go_ret
  exact ⟨ret_bool (by rw [HO.out, Hn3_28.out, Hb1.out, Hb2.out]), hT3⟩
end Go.Proofs.Ytljlimlgdnbllaa
