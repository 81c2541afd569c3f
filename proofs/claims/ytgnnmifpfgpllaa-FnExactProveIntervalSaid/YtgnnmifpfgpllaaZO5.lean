import Derived.Test.YtgnnmifpfgpllaaZO1
/- Walks: a bit's case, its challenge, sums. -/
set_option linter.all false
set_option linter.unusedVariables false
set_option linter.unusedSimpArgs false
namespace Go.Proofs.Ytgnnmifpfgpllaa
open Go.RowKit
/-- the bytes of "bit" -/
def lBit : List UInt8 := [98, 105, 116]
def sumL (q : Int) (l : List Int) : Int := l.foldl (fun a x => (a + x) % q) 0
def bcs (p q g c k : Int) : Int := if k = 1 then c * M.gpw p q g (-1) % p else c
def chB (p q g bh c x y : Int) : Int := M.chal p q g lBit [bh, c, x, y]
def rowB (p q g bh c : Int) (pa pc pr : List Int) (k : Nat) : Bool := M.gpw p q bh (pr.getD k 0) == pa.getD k 0 * M.gpw p q (bcs p q g c k) (pc.getD k 0) % p
def bitV (p q g bh c : Int) (pa pc pr : List Int) : Bool := formB p q pa pc pr 2 2 2 && rowB p q g bh c pa pc pr 0 && rowB p q g bh c pa pc pr 1 && ((pc.getD 0 0 + pc.getD 1 0) % q == chB p q g bh c (pa.getD 0 0) (pa.getD 1 0))
theorem bcs_lt {p q g c k : Int} (hp : 3 ≤ p) (hc : 0 ≤ c ∧ c < p) : 0 ≤ bcs p q g c k ∧ bcs p q g c k < p := by
  unfold bcs; split
  · exact ⟨Int.emod_nonneg _ (by omega), Int.emod_lt_of_pos _ (by omega)⟩
  · exact hc
theorem sumL_snoc {q : Int} (l : List Int) (x : Int) : sumL q (l ++ [x]) = (sumL q l + x) % q := by unfold sumL; rw [List.foldl_append]; rfl
theorem sumL_lt {q : Int} (hq : 1 ≤ q) (l : List Int) : 0 ≤ sumL q l ∧ sumL q l < q := by
  rcases List.eq_nil_or_concat l with rfl | ⟨l, x, rfl⟩
  · exact ⟨by show (0 : Int) ≤ 0; omega, by show (0 : Int) < q; omega⟩
  · rw [List.concat_eq_append, sumL_snoc]; exact ⟨Int.emod_nonneg _ (by omega), Int.emod_lt_of_pos _ (by omega)⟩
theorem sumL_two {q a b : Int} (ha : 0 ≤ a ∧ a < q) : sumL q [a, b] = (a + b) % q := by
  show ((0 + a) % q + b) % q = _
  rw [Int.zero_add, Int.emod_eq_of_lt ha.1 ha.2]
theorem formB_of {p q : Int} {pa pc pr : List Int} {a b c : Int} (h : formB p q pa pc pr a b c = true) : (pa.length : Int) = a ∧ (pc.length : Int) = b ∧ (pr.length : Int) = c ∧ elemsB p q pa = true ∧ expsB q pc = true ∧ expsB q pr = true := by
  unfold formB at h
  simp only [Bool.and_eq_true, beq_iff_eq] at h
  obtain ⟨⟨⟨⟨⟨o1, o2⟩, o3⟩, o4⟩, o5⟩, o6⟩ := h
  exact ⟨o1, o2, o3, o4, o5, o6⟩
theorem RI.getk {w : World} {B : Nat} {ad : Addr} {xs : List Int} (h : RI w B (some ad) xs) {k : Nat} (hk : k < xs.length) {v : Int} (hv : v = xs.getD k 0) : w.cell? (ad.add k) = some (.int .i64 v) := by rw [hv]; exact h.get k hk
theorem dig4' {p a b c d : Int} (hp : p ≤ 2000000000) (ha : 0 ≤ a ∧ a < p) (hb : 0 ≤ b ∧ b < p) (hc : 0 ≤ c ∧ c < p) (hd : 0 ≤ d ∧ d < p) : ∀ x ∈ [a, b, c, d], 0 ≤ x ∧ x ≤ 4611686018427387903 := by
  intro x h
  simp only [List.mem_cons, List.not_mem_nil, or_false] at h
  rcases h with rfl | rfl | rfl | rfl <;> omega
set_option maxHeartbeats 400000 in
theorem sumI_any (q : Int) (hq : 1 ≤ q ∧ q ≤ 2000000000) (A : Option Addr) (c : Nat) (xs : List Int) (hl : xs.length ≤ 9223372036854775807) (w : World) (hx : RI w w.heap.size A xs) (hb : ∀ x ∈ xs, 0 ≤ x ∧ x < q) :
    Calls Try.prog 107 #[.slice A xs.length c, .int .i64 q] w fun en w' => en = .returned (.int .i64 (sumL q xs)) ∧ w = w' := by
  have HB := Lib.hid hb
  clear hb
  go_enter Try.func107, Try.ntmps107
  go_wp2
  go_loop [5, 7, 10] (fun O _ I => ∃ k : Nat, k ≤ xs.length ∧ I = .int .i64 k ∧ O = .int .i64 (sumL q (xs.take k))) (fun _ _ I => xs.length - (intOf I).toNat)
  case atStart => exact ⟨0, by omega, rfl, rfl⟩
  case round =>
    obtain ⟨k, hk, rfl, rfl⟩ := hrel
    obtain ⟨o1, o2⟩ := sumL_lt (q := q) hq.1 (xs.take k)
    by_cases hlt : k < xs.length
    · obtain ⟨ad, rfl, had, hc⟩ := hx.at_ hlt
      have HX := Lib.hid hx; clear hx
      obtain ⟨b1, b2⟩ := HB.out xs[k] (List.getElem_mem hlt)
      have HE := Lib.hid (show sumL q (xs.take (k + 1)) = (sumL q (xs.take k) + xs[k]) % q by rw [List.take_succ_eq_append_getElem hlt, sumL_snoc])
      go_wp2
      go_round
      case rel => exact ⟨k + 1, by omega, by go_num, by rw [HE.out]⟩
      case measure => simp [intOf]; omega
    · have HX := Lib.hid hx; clear hx
      go_wp2
      go_ret
      exact ⟨ret_int (by rw [List.take_of_length_le (by omega)]), rfl⟩
set_option maxRecDepth 100000 in
set_option maxHeartbeats 800000 in
theorem bitCase_any (p q g c k : Int) (hG : M.Grp p q g) (hc : 0 ≤ c ∧ c < p) (w : World) :
    Calls Try.prog 105 #[.agg #[.int .i64 p, .int .i64 q, .int .i64 g], .int .i64 c, .int .i64 k] w fun en w' => en = .returned (.int .i64 (bcs p q g c k)) ∧ Below w.heap.size w w' := by
  have g1 := hG.q2
  have g2 := hG.qp
  have g3 := hG.p3
  have g4 := hG.pM
  have g5 : 0 ≤ g ∧ g < p := ⟨by have := hG.g2; omega, hG.gp⟩
  have HG := Lib.hid hG
  clear hG
  have hT0 : Below w.heap.size w (w.alloc (.cells #[.int .i64 p, .int .i64 q, .int .i64 g] 34)) := by repeat (first | exact Below.refl _ _ | refine bnew ?_ _)
  have c0 : (w.alloc (.cells #[.int .i64 p, .int .i64 q, .int .i64 g] 34)).cell? ⟨w.heap.size, 0, none⟩ = some (.int .i64 p) := by
    repeat (first | with_reducible assumption | (with_reducible apply set1b; with_reducible assumption) | (with_reducible refine (sc_other _ ?_).trans ?_; focus (simp; done)) | (refine cell_new' ?_ _ _ _ rfl; focus (simp; done)) | with_reducible refine cell_keep (below_new _ _) ?_)
  have c1 : (w.alloc (.cells #[.int .i64 p, .int .i64 q, .int .i64 g] 34)).cell? ⟨w.heap.size, 1, none⟩ = some (.int .i64 q) := by
    repeat (first | with_reducible assumption | (with_reducible apply set1b; with_reducible assumption) | (with_reducible refine (sc_other _ ?_).trans ?_; focus (simp; done)) | (refine cell_new' ?_ _ _ _ rfl; focus (simp; done)) | with_reducible refine cell_keep (below_new _ _) ?_)
  have c2 : (w.alloc (.cells #[.int .i64 p, .int .i64 q, .int .i64 g] 34)).cell? ⟨w.heap.size, 2, none⟩ = some (.int .i64 g) := by
    repeat (first | with_reducible assumption | (with_reducible apply set1b; with_reducible assumption) | (with_reducible refine (sc_other _ ?_).trans ?_; focus (simp; done)) | (refine cell_new' ?_ _ _ _ rfl; focus (simp; done)) | with_reducible refine cell_keep (below_new _ _) ?_)
  go_enter Try.func105, Try.ntmps105
  by_cases hk : k = 1
  rotate_left
  · have hR := Lib.hid (show bcs p q g c k = c by unfold bcs; rw [if_neg hk])
    go_wp2
    go_ret
    exact ⟨ret_int hR.out.symm, hT0⟩
  have hR := Lib.hid (show bcs p q g c k = c * M.gpw p q g (-1) % p by unfold bcs; rw [if_pos hk])
  subst hk
  go_wp2_with fail
  refine wp_region_chain (fun W => W.cell? ⟨w.heap.size, 0, none⟩ = some (.int .i64 p) ∧ W.cell? ⟨w.heap.size, 1, none⟩ = some (.int .i64 q) ∧ W.cell? ⟨w.heap.size, 2, none⟩ = some (.int .i64 g))
    9 [some 9, some 10, some 11, some 12, some 13, some 14, some 15, some 16, some 6] (by kernel_rfl) (by kernel_rfl) (by kernel_rfl) (by decide) (by rfl) (by kernel_rfl) (by kernel_rfl) ?hS0 ?hSs ?hc
  case hS0 => exact ⟨cell_keep (Below.drew (by repeat (first | exact Below.refl _ _ | refine bnew ?_ _ | refine Below.drew ?_ | refine Below.drewN ?_ _ | (refine below_set _ ?_ ?_; rotate_left; focus (first | omega | (simp; done) | (simp <;> omega)))))) c0, cell_keep (Below.drew (by repeat (first | exact Below.refl _ _ | refine bnew ?_ _ | refine Below.drew ?_ | refine Below.drewN ?_ _ | (refine below_set _ ?_ ?_; rotate_left; focus (first | omega | (simp; done) | (simp <;> omega)))))) c1, cell_keep (Below.drew (by repeat (first | exact Below.refl _ _ | refine bnew ?_ _ | refine Below.drew ?_ | refine Below.drewN ?_ _ | (refine below_set _ ?_ ?_; rotate_left; focus (first | omega | (simp; done) | (simp <;> omega)))))) c2⟩
  case hSs => exact fun w1 w2 ⟨hc0, hc1, hc2⟩ hb => ⟨cell_keep hb hc0, cell_keep hb hc1, cell_keep hb hc2⟩
  apply Chain.det
  · intro a w1 hS hb hd K hK
    obtain ⟨c0, c1, c2⟩ := hS
    have b3 := hb 3 _ rfl (by decide)
    clear hb
    simp only [depsOK] at hd
    go_simp
    exact hK _ _ rfl (Below.refl _ _)
  show Chain _ _ _ _ _ _ _ _ _ _ _ 8 1 _
  apply Chain.det
  · intro a w1 hS hb hd K hK
    obtain ⟨c0, c1, c2⟩ := hS
    have b1 := hb 1 _ rfl (by decide)
    clear hb
    simp only [depsOK] at hd
    go_simp
    exact hK _ _ rfl (Below.refl _ _)
  show Chain _ _ _ _ _ _ _ _ _ _ _ 7 2 _
  apply Chain.det
  · intro a w1 hS hb hd K hK
    obtain ⟨c0, c1, c2⟩ := hS
    have b3 := hb 3 _ rfl (by decide)
    clear hb
    simp only [depsOK] at hd
    go_simp
    exact hK _ _ rfl (Below.refl _ _)
  show Chain _ _ _ _ _ _ _ _ _ _ _ 6 3 _
  apply Chain.det
  · intro a w1 hS hb hd K hK
    obtain ⟨c0, c1, c2⟩ := hS
    have b3 := hb 3 _ rfl (by decide)
    clear hb
    simp only [depsOK] at hd
    go_simp
    exact hK _ _ rfl (Below.refl _ _)
  show Chain _ _ _ _ _ _ _ _ _ _ _ 5 4 _
  apply Chain.det
  · intro a w1 hS hb hd K hK
    obtain ⟨c0, c1, c2⟩ := hS
    clear hb
    simp only [depsOK, updR, Region.binds, reduceIte, Nat.reduceEqDiff, forall_const, and_true, eqV, List.getElem?_cons_zero, List.getElem?_cons_succ, exists_eq_right, reduceCtorEq, Nat.succ_ne_self] at hd
    go_simp
    exact hK _ _ rfl (Below.refl _ _)
  show Chain _ _ _ _ _ _ _ _ _ _ _ 4 5 _
  apply Chain.det
  · intro a w1 hS hb hd K hK
    obtain ⟨c0, c1, c2⟩ := hS
    clear hb
    simp only [depsOK, updR, Region.binds, reduceIte, Nat.reduceEqDiff, forall_const, and_true, eqV, List.getElem?_cons_zero, List.getElem?_cons_succ, exists_eq_right, reduceCtorEq, Nat.succ_ne_self] at hd
    go_simp
    refine (inv_any p q g g HG.out g5 _).mono ?_
    rintro e9 w9 ⟨rfl, hb9⟩
    exact hK _ _ (rfl) hb9
  show Chain _ _ _ _ _ _ _ _ _ _ _ 3 6 _
  refine Chain.rel (isF 2 [c, M.gpw p q g (-1)]) (stable_isF _ _) ?_ ?_
  · intro a w1 hS hb hd K hK
    obtain ⟨c0, c1, c2⟩ := hS
    clear hb
    simp only [depsOK, updR, Region.binds, reduceIte, Nat.reduceEqDiff, forall_const, and_true, eqV, List.getElem?_cons_zero, List.getElem?_cons_succ, exists_eq_right, reduceCtorEq, Nat.succ_ne_self] at hd
    go_simp
    exact hK _ _ ⟨_, rfl, RI.lit w1 [c, M.gpw p q g (-1)] _ rfl⟩ (below_new _ _)
  show Chain _ _ _ _ _ _ _ _ _ _ _ 2 7 _
  apply Chain.det
  · intro a w1 hS hb hd K hK
    obtain ⟨c0, c1, c2⟩ := hS
    clear hb
    simp only [depsOK, updR, Region.binds, reduceIte, Nat.reduceEqDiff, forall_const, and_true, eqV, List.getElem?_cons_zero, List.getElem?_cons_succ, exists_eq_right, reduceCtorEq, Nat.succ_ne_self] at hd
    obtain ⟨h1, ⟨v2, e2, A2, rfl, r2⟩, _⟩ := hd
    go_simp
    refine (mul2_any p q g c (M.gpw p q g (-1)) HG.out hc (M.gpw_lt g3) A2 2 _ r2).mono ?_
    rintro e9 w9 ⟨rfl, hb9⟩
    exact hK _ _ rfl hb9
  show Chain _ _ _ _ _ _ _ _ _ _ _ 1 8 _
  apply Chain.det
  · intro a w1 hS hb hd K hK
    obtain ⟨c0, c1, c2⟩ := hS
    clear hb
    simp only [depsOK, updR, Region.binds, reduceIte, Nat.reduceEqDiff, forall_const, and_true, eqV, List.getElem?_cons_zero, List.getElem?_cons_succ, exists_eq_right, reduceCtorEq, Nat.succ_ne_self] at hd
    go_simp
    exact hK _ _ rfl (Below.refl _ _)
  show Chain _ _ _ _ _ _ _ _ _ _ _ 0 9 _
  intro x w1 hS hB1 hR y hY hA hE
  have r8 := hR 8 _ rfl
  simp only [updR, reduceIte, Nat.reduceEqDiff, eqV] at r8
  clear hR hY hA hE
  simp only [TailWp, fillB, Act.put, List.setIfInBounds_toArray, List.set_cons_zero, List.set_cons_succ, Nat.reduceAdd, r8]
  clear r8
  have hX1 : Below (w.alloc (.cells #[.int .i64 p, .int .i64 q, .int .i64 g] 34)).heap.size (w.alloc (.cells #[.int .i64 p, .int .i64 q, .int .i64 g] 34)) w1 := bnext (Below.drew (by repeat (first | exact Below.refl _ _ | refine bnew ?_ _ | refine Below.drew ?_ | refine Below.drewN ?_ _ | (refine below_set _ ?_ ?_; rotate_left; focus (first | omega | (simp; done) | (simp <;> omega)))))) hB1
  clear hB1
  have hT1 : Below w.heap.size w w1 := bnext hT0 hX1
  clear c0 c1 c2
  obtain ⟨c0, c1, c2⟩ := hS
  go_wp2
  go_ret
  exact ⟨ret_int hR.out.symm, hT1⟩
set_option maxRecDepth 100000 in
set_option maxHeartbeats 800000 in
theorem rCase_any (p q g c k : Int) (hG : M.Grp p q g) (hc : 0 ≤ c ∧ c < p) (w : World) :
    Calls Try.prog 101 #[.agg #[.int .i64 p, .int .i64 q, .int .i64 g], .int .i64 c, .int .i64 k] w fun en w' => en = .returned (.int .i64 (bcs p q g c k)) ∧ Below w.heap.size w w' := by
  have g1 := hG.q2
  have g2 := hG.qp
  have g3 := hG.p3
  have g4 := hG.pM
  have g5 : 0 ≤ g ∧ g < p := ⟨by have := hG.g2; omega, hG.gp⟩
  have HG := Lib.hid hG
  clear hG
  have hT0 : Below w.heap.size w (w.alloc (.cells #[.int .i64 p, .int .i64 q, .int .i64 g] 34)) := by repeat (first | exact Below.refl _ _ | refine bnew ?_ _)
  have c0 : (w.alloc (.cells #[.int .i64 p, .int .i64 q, .int .i64 g] 34)).cell? ⟨w.heap.size, 0, none⟩ = some (.int .i64 p) := by
    repeat (first | with_reducible assumption | (with_reducible apply set1b; with_reducible assumption) | (with_reducible refine (sc_other _ ?_).trans ?_; focus (simp; done)) | (refine cell_new' ?_ _ _ _ rfl; focus (simp; done)) | with_reducible refine cell_keep (below_new _ _) ?_)
  have c1 : (w.alloc (.cells #[.int .i64 p, .int .i64 q, .int .i64 g] 34)).cell? ⟨w.heap.size, 1, none⟩ = some (.int .i64 q) := by
    repeat (first | with_reducible assumption | (with_reducible apply set1b; with_reducible assumption) | (with_reducible refine (sc_other _ ?_).trans ?_; focus (simp; done)) | (refine cell_new' ?_ _ _ _ rfl; focus (simp; done)) | with_reducible refine cell_keep (below_new _ _) ?_)
  have c2 : (w.alloc (.cells #[.int .i64 p, .int .i64 q, .int .i64 g] 34)).cell? ⟨w.heap.size, 2, none⟩ = some (.int .i64 g) := by
    repeat (first | with_reducible assumption | (with_reducible apply set1b; with_reducible assumption) | (with_reducible refine (sc_other _ ?_).trans ?_; focus (simp; done)) | (refine cell_new' ?_ _ _ _ rfl; focus (simp; done)) | with_reducible refine cell_keep (below_new _ _) ?_)
  go_enter Try.func101, Try.ntmps101
  by_cases hk : k = 1
  rotate_left
  · have hR := Lib.hid (show bcs p q g c k = c by unfold bcs; rw [if_neg hk])
    go_wp2
    go_ret
    exact ⟨ret_int hR.out.symm, hT0⟩
  have hR := Lib.hid (show bcs p q g c k = c * M.gpw p q g (-1) % p by unfold bcs; rw [if_pos hk])
  subst hk
  go_wp2_with fail
  refine wp_region_chain (fun W => W.cell? ⟨w.heap.size, 0, none⟩ = some (.int .i64 p) ∧ W.cell? ⟨w.heap.size, 1, none⟩ = some (.int .i64 q) ∧ W.cell? ⟨w.heap.size, 2, none⟩ = some (.int .i64 g))
    9 [some 9, some 10, some 11, some 12, some 13, some 14, some 15, some 16, some 6] (by kernel_rfl) (by kernel_rfl) (by kernel_rfl) (by decide) (by rfl) (by kernel_rfl) (by kernel_rfl) ?hS0 ?hSs ?hc
  case hS0 => exact ⟨cell_keep (Below.drew (by repeat (first | exact Below.refl _ _ | refine bnew ?_ _ | refine Below.drew ?_ | refine Below.drewN ?_ _ | (refine below_set _ ?_ ?_; rotate_left; focus (first | omega | (simp; done) | (simp <;> omega)))))) c0, cell_keep (Below.drew (by repeat (first | exact Below.refl _ _ | refine bnew ?_ _ | refine Below.drew ?_ | refine Below.drewN ?_ _ | (refine below_set _ ?_ ?_; rotate_left; focus (first | omega | (simp; done) | (simp <;> omega)))))) c1, cell_keep (Below.drew (by repeat (first | exact Below.refl _ _ | refine bnew ?_ _ | refine Below.drew ?_ | refine Below.drewN ?_ _ | (refine below_set _ ?_ ?_; rotate_left; focus (first | omega | (simp; done) | (simp <;> omega)))))) c2⟩
  case hSs => exact fun w1 w2 ⟨hc0, hc1, hc2⟩ hb => ⟨cell_keep hb hc0, cell_keep hb hc1, cell_keep hb hc2⟩
  apply Chain.det
  · intro a w1 hS hb hd K hK
    obtain ⟨c0, c1, c2⟩ := hS
    have b3 := hb 3 _ rfl (by decide)
    clear hb
    simp only [depsOK] at hd
    go_simp
    exact hK _ _ rfl (Below.refl _ _)
  show Chain _ _ _ _ _ _ _ _ _ _ _ 8 1 _
  apply Chain.det
  · intro a w1 hS hb hd K hK
    obtain ⟨c0, c1, c2⟩ := hS
    have b1 := hb 1 _ rfl (by decide)
    clear hb
    simp only [depsOK] at hd
    go_simp
    exact hK _ _ rfl (Below.refl _ _)
  show Chain _ _ _ _ _ _ _ _ _ _ _ 7 2 _
  apply Chain.det
  · intro a w1 hS hb hd K hK
    obtain ⟨c0, c1, c2⟩ := hS
    have b3 := hb 3 _ rfl (by decide)
    clear hb
    simp only [depsOK] at hd
    go_simp
    exact hK _ _ rfl (Below.refl _ _)
  show Chain _ _ _ _ _ _ _ _ _ _ _ 6 3 _
  apply Chain.det
  · intro a w1 hS hb hd K hK
    obtain ⟨c0, c1, c2⟩ := hS
    have b3 := hb 3 _ rfl (by decide)
    clear hb
    simp only [depsOK] at hd
    go_simp
    exact hK _ _ rfl (Below.refl _ _)
  show Chain _ _ _ _ _ _ _ _ _ _ _ 5 4 _
  apply Chain.det
  · intro a w1 hS hb hd K hK
    obtain ⟨c0, c1, c2⟩ := hS
    clear hb
    simp only [depsOK, updR, Region.binds, reduceIte, Nat.reduceEqDiff, forall_const, and_true, eqV, List.getElem?_cons_zero, List.getElem?_cons_succ, exists_eq_right, reduceCtorEq, Nat.succ_ne_self] at hd
    go_simp
    exact hK _ _ rfl (Below.refl _ _)
  show Chain _ _ _ _ _ _ _ _ _ _ _ 4 5 _
  apply Chain.det
  · intro a w1 hS hb hd K hK
    obtain ⟨c0, c1, c2⟩ := hS
    clear hb
    simp only [depsOK, updR, Region.binds, reduceIte, Nat.reduceEqDiff, forall_const, and_true, eqV, List.getElem?_cons_zero, List.getElem?_cons_succ, exists_eq_right, reduceCtorEq, Nat.succ_ne_self] at hd
    go_simp
    refine (gInv_any p q g g HG.out g5 _).mono ?_
    rintro e9 w9 ⟨rfl, hb9⟩
    exact hK _ _ (rfl) hb9
  show Chain _ _ _ _ _ _ _ _ _ _ _ 3 6 _
  refine Chain.rel (isF 2 [c, M.gpw p q g (-1)]) (stable_isF _ _) ?_ ?_
  · intro a w1 hS hb hd K hK
    obtain ⟨c0, c1, c2⟩ := hS
    clear hb
    simp only [depsOK, updR, Region.binds, reduceIte, Nat.reduceEqDiff, forall_const, and_true, eqV, List.getElem?_cons_zero, List.getElem?_cons_succ, exists_eq_right, reduceCtorEq, Nat.succ_ne_self] at hd
    go_simp
    exact hK _ _ ⟨_, rfl, RI.lit w1 [c, M.gpw p q g (-1)] _ rfl⟩ (below_new _ _)
  show Chain _ _ _ _ _ _ _ _ _ _ _ 2 7 _
  apply Chain.det
  · intro a w1 hS hb hd K hK
    obtain ⟨c0, c1, c2⟩ := hS
    clear hb
    simp only [depsOK, updR, Region.binds, reduceIte, Nat.reduceEqDiff, forall_const, and_true, eqV, List.getElem?_cons_zero, List.getElem?_cons_succ, exists_eq_right, reduceCtorEq, Nat.succ_ne_self] at hd
    obtain ⟨h1, ⟨v2, e2, A2, rfl, r2⟩, _⟩ := hd
    go_simp
    refine (gMul2_any p q g c (M.gpw p q g (-1)) HG.out hc (M.gpw_lt g3) A2 2 _ r2).mono ?_
    rintro e9 w9 ⟨rfl, hb9⟩
    exact hK _ _ rfl hb9
  show Chain _ _ _ _ _ _ _ _ _ _ _ 1 8 _
  apply Chain.det
  · intro a w1 hS hb hd K hK
    obtain ⟨c0, c1, c2⟩ := hS
    clear hb
    simp only [depsOK, updR, Region.binds, reduceIte, Nat.reduceEqDiff, forall_const, and_true, eqV, List.getElem?_cons_zero, List.getElem?_cons_succ, exists_eq_right, reduceCtorEq, Nat.succ_ne_self] at hd
    go_simp
    exact hK _ _ rfl (Below.refl _ _)
  show Chain _ _ _ _ _ _ _ _ _ _ _ 0 9 _
  intro x w1 hS hB1 hR y hY hA hE
  have r8 := hR 8 _ rfl
  simp only [updR, reduceIte, Nat.reduceEqDiff, eqV] at r8
  clear hR hY hA hE
  simp only [TailWp, fillB, Act.put, List.setIfInBounds_toArray, List.set_cons_zero, List.set_cons_succ, Nat.reduceAdd, r8]
  clear r8
  have hX1 : Below (w.alloc (.cells #[.int .i64 p, .int .i64 q, .int .i64 g] 34)).heap.size (w.alloc (.cells #[.int .i64 p, .int .i64 q, .int .i64 g] 34)) w1 := bnext (Below.drew (by repeat (first | exact Below.refl _ _ | refine bnew ?_ _ | refine Below.drew ?_ | refine Below.drewN ?_ _ | (refine below_set _ ?_ ?_; rotate_left; focus (first | omega | (simp; done) | (simp <;> omega)))))) hB1
  clear hB1
  have hT1 : Below w.heap.size w w1 := bnext hT0 hX1
  clear c0 c1 c2
  obtain ⟨c0, c1, c2⟩ := hS
  go_wp2
  go_ret
  exact ⟨ret_int hR.out.symm, hT1⟩
set_option maxRecDepth 100000 in
set_option maxHeartbeats 800000 in
theorem rBitChallenge_any (p q g bh c : Int) (A : Option Addr) (n d : Nat) (hG : M.Grp p q g) (hb : 0 ≤ bh ∧ bh < p) (hc : 0 ≤ c ∧ c < p) (ad : Addr) (cx : Nat) (xs : List Int) (hl : xs.length = 2) (hm : ∀ x ∈ xs, 0 ≤ x ∧ x < p) (w : World) (hr : RI w w.heap.size (some ad) xs) :
    Calls Try.prog 102 #[.agg #[.int .i64 p, .int .i64 q, .int .i64 g], .agg #[.int .i64 bh, .slice A n d], .int .i64 c, .slice (some ad) xs.length cx] w fun en w' => en = .returned (.int .i64 (chB p q g bh c (xs.getD 0 0) (xs.getD 1 0))) ∧ Below w.heap.size w w' := by
  obtain ⟨x, hx⟩ : ∃ v : Int, v = xs.getD 0 0 := ⟨_, rfl⟩
  obtain ⟨y, hy⟩ : ∃ v : Int, v = xs.getD 1 0 := ⟨_, rfl⟩
  have m0 : 0 ≤ x ∧ x < p := hx ▸ hm _ (getD_mem (by omega))
  have m1 : 0 ≤ y ∧ y < p := hy ▸ hm _ (getD_mem (by omega))
  rw [← hx, ← hy]
  have z1 : (0 : Int) < (xs.length : Int) := by omega
  have z2 : (1 : Int) < (xs.length : Int) := by omega
  have HD := Lib.hid (dig4' hG.pM hb hc m0 m1)
  have HG := Lib.hid hG
  clear hG hm
  have hT0 : Below w.heap.size w ((w.alloc (.cells #[.int .i64 p, .int .i64 q, .int .i64 g] 34)).alloc (.cells #[.int .i64 bh, .slice A n d] 36)) := by repeat (first | exact Below.refl _ _ | refine bnew ?_ _)
  have c0 : ((w.alloc (.cells #[.int .i64 p, .int .i64 q, .int .i64 g] 34)).alloc (.cells #[.int .i64 bh, .slice A n d] 36)).cell? ⟨w.heap.size, 0, none⟩ = some (.int .i64 p) := by
    repeat (first | with_reducible assumption | (with_reducible apply set1b; with_reducible assumption) | (with_reducible refine (sc_other _ ?_).trans ?_; focus (simp; done)) | (refine cell_new' ?_ _ _ _ rfl; focus (simp; done)) | with_reducible refine cell_keep (below_new _ _) ?_)
  have c1 : ((w.alloc (.cells #[.int .i64 p, .int .i64 q, .int .i64 g] 34)).alloc (.cells #[.int .i64 bh, .slice A n d] 36)).cell? ⟨w.heap.size, 1, none⟩ = some (.int .i64 q) := by
    repeat (first | with_reducible assumption | (with_reducible apply set1b; with_reducible assumption) | (with_reducible refine (sc_other _ ?_).trans ?_; focus (simp; done)) | (refine cell_new' ?_ _ _ _ rfl; focus (simp; done)) | with_reducible refine cell_keep (below_new _ _) ?_)
  have c2 : ((w.alloc (.cells #[.int .i64 p, .int .i64 q, .int .i64 g] 34)).alloc (.cells #[.int .i64 bh, .slice A n d] 36)).cell? ⟨w.heap.size, 2, none⟩ = some (.int .i64 g) := by
    repeat (first | with_reducible assumption | (with_reducible apply set1b; with_reducible assumption) | (with_reducible refine (sc_other _ ?_).trans ?_; focus (simp; done)) | (refine cell_new' ?_ _ _ _ rfl; focus (simp; done)) | with_reducible refine cell_keep (below_new _ _) ?_)
  have c3 : ((w.alloc (.cells #[.int .i64 p, .int .i64 q, .int .i64 g] 34)).alloc (.cells #[.int .i64 bh, .slice A n d] 36)).cell? ⟨w.heap.size + 1, 0, none⟩ = some (.int .i64 bh) := by
    repeat (first | with_reducible assumption | (with_reducible apply set1b; with_reducible assumption) | (with_reducible refine (sc_other _ ?_).trans ?_; focus (simp; done)) | (refine cell_new' ?_ _ _ _ rfl; focus (simp; done)) | with_reducible refine cell_keep (below_new _ _) ?_)
  have c4 : ((w.alloc (.cells #[.int .i64 p, .int .i64 q, .int .i64 g] 34)).alloc (.cells #[.int .i64 bh, .slice A n d] 36)).cell? ⟨w.heap.size + 1, 1, none⟩ = some (.slice A n d) := by
    repeat (first | with_reducible assumption | (with_reducible apply set1b; with_reducible assumption) | (with_reducible refine (sc_other _ ?_).trans ?_; focus (simp; done)) | (refine cell_new' ?_ _ _ _ rfl; focus (simp; done)) | with_reducible refine cell_keep (below_new _ _) ?_)
  have x0 : RI ((w.alloc (.cells #[.int .i64 p, .int .i64 q, .int .i64 g] 34)).alloc (.cells #[.int .i64 bh, .slice A n d] 36)) ((w.alloc (.cells #[.int .i64 p, .int .i64 q, .int .i64 g] 34)).alloc (.cells #[.int .i64 bh, .slice A n d] 36)).heap.size (some ad) xs := hr.next hT0
  have y0 : ((w.alloc (.cells #[.int .i64 p, .int .i64 q, .int .i64 g] 34)).alloc (.cells #[.int .i64 bh, .slice A n d] 36)).cell? ad = some (.int .i64 x) := by
    have := x0.get 0 (by omega)
    rwa [add0, ← hx] at this
  have y1 : ((w.alloc (.cells #[.int .i64 p, .int .i64 q, .int .i64 g] 34)).alloc (.cells #[.int .i64 bh, .slice A n d] 36)).cell? ⟨ad.block, ad.off + 1, none⟩ = some (.int .i64 y) := by
    have := x0.get 1 (by omega)
    rwa [← hy] at this
  clear hx hy
  go_enter Try.func102, Try.ntmps102
  go_wp2_with fail
  refine wp_region_chain (fun W => W.cell? ⟨w.heap.size, 0, none⟩ = some (.int .i64 p) ∧ W.cell? ⟨w.heap.size, 1, none⟩ = some (.int .i64 q) ∧ W.cell? ⟨w.heap.size, 2, none⟩ = some (.int .i64 g) ∧ W.cell? ⟨w.heap.size + 1, 0, none⟩ = some (.int .i64 bh) ∧ W.cell? ⟨w.heap.size + 1, 1, none⟩ = some (.slice A n d) ∧ RI W W.heap.size (some ad) xs ∧ W.cell? ad = some (.int .i64 x) ∧ W.cell? ⟨ad.block, ad.off + 1, none⟩ = some (.int .i64 y))
    13 [some 9, some 10, some 11, some 12, some 13, some 14, some 15, some 16, some 17, some 18, some 19, some 20, some 8] (by kernel_rfl) (by kernel_rfl) (by kernel_rfl) (by decide) (by rfl) (by kernel_rfl) (by kernel_rfl) ?hS0 ?hSs ?hc
  case hS0 => exact ⟨cell_keep (Below.drew (by repeat (first | exact Below.refl _ _ | refine bnew ?_ _ | refine Below.drew ?_ | refine Below.drewN ?_ _ | (refine below_set _ ?_ ?_; rotate_left; focus (first | omega | (simp; done) | (simp <;> omega)))))) c0, cell_keep (Below.drew (by repeat (first | exact Below.refl _ _ | refine bnew ?_ _ | refine Below.drew ?_ | refine Below.drewN ?_ _ | (refine below_set _ ?_ ?_; rotate_left; focus (first | omega | (simp; done) | (simp <;> omega)))))) c1, cell_keep (Below.drew (by repeat (first | exact Below.refl _ _ | refine bnew ?_ _ | refine Below.drew ?_ | refine Below.drewN ?_ _ | (refine below_set _ ?_ ?_; rotate_left; focus (first | omega | (simp; done) | (simp <;> omega)))))) c2, cell_keep (Below.drew (by repeat (first | exact Below.refl _ _ | refine bnew ?_ _ | refine Below.drew ?_ | refine Below.drewN ?_ _ | (refine below_set _ ?_ ?_; rotate_left; focus (first | omega | (simp; done) | (simp <;> omega)))))) c3, cell_keep (Below.drew (by repeat (first | exact Below.refl _ _ | refine bnew ?_ _ | refine Below.drew ?_ | refine Below.drewN ?_ _ | (refine below_set _ ?_ ?_; rotate_left; focus (first | omega | (simp; done) | (simp <;> omega)))))) c4, (x0).next (Below.drew (by repeat (first | exact Below.refl _ _ | refine bnew ?_ _ | refine Below.drew ?_ | refine Below.drewN ?_ _ | (refine below_set _ ?_ ?_; rotate_left; focus (first | omega | (simp; done) | (simp <;> omega)))))), cell_keep (Below.drew (by repeat (first | exact Below.refl _ _ | refine bnew ?_ _ | refine Below.drew ?_ | refine Below.drewN ?_ _ | (refine below_set _ ?_ ?_; rotate_left; focus (first | omega | (simp; done) | (simp <;> omega)))))) y0, cell_keep (Below.drew (by repeat (first | exact Below.refl _ _ | refine bnew ?_ _ | refine Below.drew ?_ | refine Below.drewN ?_ _ | (refine below_set _ ?_ ?_; rotate_left; focus (first | omega | (simp; done) | (simp <;> omega)))))) y1⟩
  case hSs => exact fun w1 w2 ⟨hc0, hc1, hc2, hc3, hc4, hx0, hy0, hy1⟩ hb => ⟨cell_keep hb hc0, cell_keep hb hc1, cell_keep hb hc2, cell_keep hb hc3, cell_keep hb hc4, (hx0).next hb, cell_keep hb hy0, cell_keep hb hy1⟩
  apply Chain.det
  · intro a w1 hS hb hd K hK
    obtain ⟨c0, c1, c2, c3, c4, x0, y0, y1⟩ := hS
    have b4 := hb 4 _ rfl (by decide)
    clear hb
    simp only [depsOK] at hd
    go_simp
    exact hK _ _ rfl (Below.refl _ _)
  show Chain _ _ _ _ _ _ _ _ _ _ _ 12 1 _
  apply Chain.det
  · intro a w1 hS hb hd K hK
    obtain ⟨c0, c1, c2, c3, c4, x0, y0, y1⟩ := hS
    have b5 := hb 5 _ rfl (by decide)
    clear hb
    simp only [depsOK] at hd
    go_simp
    exact hK _ _ rfl (Below.refl _ _)
  show Chain _ _ _ _ _ _ _ _ _ _ _ 11 2 _
  apply Chain.det
  · intro a w1 hS hb hd K hK
    obtain ⟨c0, c1, c2, c3, c4, x0, y0, y1⟩ := hS
    clear hb
    simp only [depsOK, updR, Region.binds, reduceIte, forall_const, and_true, eqV, List.getElem?_cons_zero, List.getElem?_cons_succ, exists_eq_right, Nat.succ_ne_self] at hd
    go_simp
    exact hK _ _ rfl (Below.refl _ _)
  show Chain _ _ _ _ _ _ _ _ _ _ _ 10 3 _
  apply Chain.det
  · intro a w1 hS hb hd K hK
    obtain ⟨c0, c1, c2, c3, c4, x0, y0, y1⟩ := hS
    have b2 := hb 2 _ rfl (by decide)
    clear hb
    simp only [depsOK] at hd
    go_simp
    exact hK _ _ rfl (Below.refl _ _)
  show Chain _ _ _ _ _ _ _ _ _ _ _ 9 4 _
  apply Chain.det
  · intro a w1 hS hb hd K hK
    obtain ⟨c0, c1, c2, c3, c4, x0, y0, y1⟩ := hS
    have b3 := hb 3 _ rfl (by decide)
    clear hb
    simp only [depsOK] at hd
    go_simp
    exact hK _ _ rfl (Below.refl _ _)
  show Chain _ _ _ _ _ _ _ _ _ _ _ 8 5 _
  apply Chain.det
  · intro a w1 hS hb hd K hK
    obtain ⟨c0, c1, c2, c3, c4, x0, y0, y1⟩ := hS
    clear hb
    simp only [depsOK, updR, Region.binds, reduceIte, Nat.reduceEqDiff, forall_const, and_true, eqV, List.getElem?_cons_zero, List.getElem?_cons_succ, exists_eq_right, reduceCtorEq, Nat.succ_ne_self] at hd
    go_simp
    exact hK _ _ rfl (Below.refl _ _)
  show Chain _ _ _ _ _ _ _ _ _ _ _ 7 6 _
  apply Chain.det
  · intro a w1 hS hb hd K hK
    obtain ⟨c0, c1, c2, c3, c4, x0, y0, y1⟩ := hS
    clear hb
    simp only [depsOK, updR, Region.binds, reduceIte, Nat.reduceEqDiff, forall_const, and_true, eqV, List.getElem?_cons_zero, List.getElem?_cons_succ, exists_eq_right, reduceCtorEq, Nat.succ_ne_self] at hd
    go_simp
    exact hK _ _ rfl (Below.refl _ _)
  show Chain _ _ _ _ _ _ _ _ _ _ _ 6 7 _
  apply Chain.det
  · intro a w1 hS hb hd K hK
    obtain ⟨c0, c1, c2, c3, c4, x0, y0, y1⟩ := hS
    have b3 := hb 3 _ rfl (by decide)
    clear hb
    simp only [depsOK] at hd
    go_simp
    exact hK _ _ rfl (Below.refl _ _)
  show Chain _ _ _ _ _ _ _ _ _ _ _ 5 8 _
  apply Chain.det
  · intro a w1 hS hb hd K hK
    obtain ⟨c0, c1, c2, c3, c4, x0, y0, y1⟩ := hS
    clear hb
    simp only [depsOK, updR, Region.binds, reduceIte, Nat.reduceEqDiff, forall_const, and_true, eqV, List.getElem?_cons_zero, List.getElem?_cons_succ, exists_eq_right, reduceCtorEq, Nat.succ_ne_self] at hd
    go_simp
    exact hK _ _ rfl (Below.refl _ _)
  show Chain _ _ _ _ _ _ _ _ _ _ _ 4 9 _
  apply Chain.det
  · intro a w1 hS hb hd K hK
    obtain ⟨c0, c1, c2, c3, c4, x0, y0, y1⟩ := hS
    clear hb
    simp only [depsOK, updR, Region.binds, reduceIte, Nat.reduceEqDiff, forall_const, and_true, eqV, List.getElem?_cons_zero, List.getElem?_cons_succ, exists_eq_right, reduceCtorEq, Nat.succ_ne_self] at hd
    go_simp
    exact hK _ _ rfl (Below.refl _ _)
  show Chain _ _ _ _ _ _ _ _ _ _ _ 3 10 _
  refine Chain.rel (isF 4 [bh, c, x, y]) (stable_isF _ _) ?_ ?_
  · intro a w1 hS hb hd K hK
    obtain ⟨c0, c1, c2, c3, c4, x0, y0, y1⟩ := hS
    clear hb
    simp only [depsOK, updR, Region.binds, reduceIte, Nat.reduceEqDiff, forall_const, and_true, eqV, List.getElem?_cons_zero, List.getElem?_cons_succ, exists_eq_right, reduceCtorEq, Nat.succ_ne_self] at hd
    go_simp
    exact hK _ _ ⟨_, rfl, RI.lit w1 [bh, c, x, y] _ rfl⟩ (below_new _ _)
  show Chain _ _ _ _ _ _ _ _ _ _ _ 2 11 _
  apply Chain.det
  · intro a w1 hS hb hd K hK
    obtain ⟨c0, c1, c2, c3, c4, x0, y0, y1⟩ := hS
    clear hb
    simp only [depsOK, updR, Region.binds, reduceIte, Nat.reduceEqDiff, forall_const, and_true, eqV, List.getElem?_cons_zero, List.getElem?_cons_succ, exists_eq_right, reduceCtorEq, Nat.succ_ne_self] at hd
    obtain ⟨h1, v2, e2, A2, rfl, r2⟩ := hd
    go_simp
    refine (hChallenge_any p q g HG.out ⟨lBit.toArray⟩ (by decide) A2 4 [bh, c, x, y] (by simp) (by simp) HD.out _ r2).mono ?_
    rintro e9 w9 ⟨rfl, hb9⟩
    exact hK _ _ rfl hb9
  show Chain _ _ _ _ _ _ _ _ _ _ _ 1 12 _
  apply Chain.det
  · intro a w1 hS hb hd K hK
    obtain ⟨c0, c1, c2, c3, c4, x0, y0, y1⟩ := hS
    clear hb
    simp only [depsOK, updR, Region.binds, reduceIte, Nat.reduceEqDiff, forall_const, and_true, eqV, List.getElem?_cons_zero, List.getElem?_cons_succ, exists_eq_right, reduceCtorEq, Nat.succ_ne_self] at hd
    go_simp
    exact hK _ _ rfl (Below.refl _ _)
  show Chain _ _ _ _ _ _ _ _ _ _ _ 0 13 _
  intro x w1 hS hB1 hR y hY hA hE
  have r12 := hR 12 _ rfl
  simp only [updR, reduceIte, Nat.reduceEqDiff, eqV] at r12
  clear hR hY hA hE
  simp only [TailWp, fillB, Act.put, List.setIfInBounds_toArray, List.set_cons_zero, List.set_cons_succ, Nat.reduceAdd, r12]
  clear r12
  have hX1 : Below ((w.alloc (.cells #[.int .i64 p, .int .i64 q, .int .i64 g] 34)).alloc (.cells #[.int .i64 bh, .slice A n d] 36)).heap.size ((w.alloc (.cells #[.int .i64 p, .int .i64 q, .int .i64 g] 34)).alloc (.cells #[.int .i64 bh, .slice A n d] 36)) w1 := bnext (Below.drew (by repeat (first | exact Below.refl _ _ | refine bnew ?_ _ | refine Below.drew ?_ | refine Below.drewN ?_ _ | (refine below_set _ ?_ ?_; rotate_left; focus (first | omega | (simp; done) | (simp <;> omega)))))) hB1
  clear hB1
  have hT1 : Below w.heap.size w w1 := bnext hT0 hX1
  clear c0 c1 c2 c3 c4 x0 y0 y1
  obtain ⟨c0, c1, c2, c3, c4, x0, y0, y1⟩ := hS
  go_wp2
  go_ret
  exact ⟨rfl, hT1⟩
end Go.Proofs.Ytgnnmifpfgpllaa
