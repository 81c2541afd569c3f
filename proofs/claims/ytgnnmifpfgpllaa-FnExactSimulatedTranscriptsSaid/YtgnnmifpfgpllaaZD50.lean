import Derived.Test.YtgnnmifpfgpllaaZRelS
import Derived.Test.YtgnnmifpfgpllaaZAP
import Derived.Test.YtgnnmifpfgpllaaZN1
import Derived.Test.YtgnnmifpfgpllaaZE3
import Derived.Test.YtgnnmifpfgpllaaZKit
import Derived.Sort.Grow
/- Comparisons of transcripts. -/
set_option linter.all false
set_option linter.unusedVariables false
set_option linter.unusedSimpArgs false
namespace Go.Proofs.Ytgnnmifpfgpllaa
open Go.RowKit Go.Lib
def cmpI (x y : Int) : Int := if x < y then -1 else if y < x then 1 else 0
def orI : List Int → Int
  | [] => 0
  | x :: l => if x = 0 then orI l else x
theorem orI_z {xs : List Int} {k : Nat} (hk : k < xs.length) (h : xs[k] = 0) : orI (xs.drop k) = orI (xs.drop (k + 1)) := by
  rw [List.drop_eq_getElem_cons hk]; simp only [orI, if_pos h]
theorem orI_n {xs : List Int} {k : Nat} (hk : k < xs.length) (h : ¬ xs[k] = 0) : orI (xs.drop k) = xs[k] := by
  rw [List.drop_eq_getElem_cons hk]; simp only [orI, if_neg h]
set_option maxHeartbeats 800000 in
theorem cmpI_any (x y : Int) (w : World) :
    Calls Try.prog 99 #[.int .i64 x, .int .i64 y] w fun en w' => en = .returned (.int .i64 (cmpI x y)) ∧ w = w' := by
  go_enter Try.func99, Try.ntmps99
  have hx : (x == x) = true := beq_self_eq_true x
  have hy : (y == y) = true := beq_self_eq_true y
  have hx2 : (x != x) = false := bne_self_eq_false x
  have hy2 : (y != y) = false := bne_self_eq_false y
  by_cases h1 : x < y
  · have HR := Lib.hid (show cmpI x y = -1 from if_pos h1)
    go_wp2
    go_ret
    exact ⟨by rw [HR.out]; rfl, rfl⟩
  · by_cases h2 : y < x
    · have HR := Lib.hid (show cmpI x y = 1 from by rw [cmpI, if_neg h1, if_pos h2])
      go_wp2
      go_ret
      exact ⟨by rw [HR.out]; rfl, rfl⟩
    · have HR := Lib.hid (show cmpI x y = 0 from by rw [cmpI, if_neg h1, if_neg h2])
      go_wp2
      go_ret
      exact ⟨by rw [HR.out]; rfl, rfl⟩
set_option maxHeartbeats 800000 in
theorem orI_any (A : Option Addr) (c : Nat) (xs : List Int) (hl : xs.length ≤ 9223372036854775807) (w : World) (hx : RI w w.heap.size A xs) :
    Calls Try.prog 98 #[.slice A xs.length c] w fun en w' => en = .returned (.int .i64 (orI xs)) ∧ w = w' := by
  go_enter Try.func98, Try.ntmps98
  go_wp2
  go_loop [5, 8] (fun _ I => ∃ k : Nat, k ≤ xs.length ∧ I = .int .i64 k ∧ orI xs = orI (xs.drop k)) (fun _ I => xs.length - (intOf I).toNat)
  case atStart => exact ⟨0, by omega, rfl, by simp⟩
  case round =>
    obtain ⟨k, hk, rfl, hn⟩ := hrel
    have HN := Lib.hid hn; clear hn
    by_cases hlt : k < xs.length
    · obtain ⟨ad, rfl, had, hc⟩ := hx.at_ hlt
      have HX := Lib.hid hx; clear hx
      rcases Bool.eq_false_or_eq_true (xs[k] == 0) with h | h
      · have h0 : xs[k] = 0 := beq_iff_eq.1 h
        have HZ := orI_z hlt h0
        have HH := Lib.hid HZ; clear HZ
        have h2 : (xs[k] != 0) = false := by rw [bne, h]; rfl
        clear h0
        go_wp2
        go_round
        case rel => exact ⟨k + 1, by omega, by go_num, HN.out.trans HH.out⟩
        case measure => simp [intOf]; omega
      · have h0 : ¬ xs[k] = 0 := by simpa using h
        have HZ := orI_n hlt h0
        have HH := Lib.hid HZ; clear HZ
        have h2 : (xs[k] != 0) = true := by rw [bne, h]; rfl
        clear h0
        go_wp2
        go_ret
        exact ⟨by rw [HN.out.trans HH.out]; rfl, rfl⟩
    · have HX := Lib.hid hx; clear hx
      go_wp2
      go_ret
      exact ⟨by rw [HN.out, List.drop_of_length_le (by omega)]; rfl, rfl⟩
/-- transcripts compared: by commits, challenges, responses -/
def trC (x y : Int × Int × Int) : Int := orI [cmpI x.1 y.1, cmpI x.2.1 y.2.1, cmpI x.2.2 y.2.2]
set_option maxRecDepth 100000 in
set_option maxHeartbeats 4000000 in
theorem trC_any (x1 x2 x3 y1 y2 y3 : Int) (w : World) :
    Calls Try.prog 97 #[.agg #[.int .i64 x1, .int .i64 x2, .int .i64 x3], .agg #[.int .i64 y1, .int .i64 y2, .int .i64 y3]] w fun en w' => en = .returned (.int .i64 (orI [cmpI x1 y1, cmpI x2 y2, cmpI x3 y3])) ∧ ∃ q os, w' = Sort.grow (w.drewN q) os := by
  obtain ⟨W0, hW0⟩ : ∃ W0, W0 = (w.alloc (.cells #[.int .i64 x1, .int .i64 x2, .int .i64 x3] 88)).alloc (.cells #[.int .i64 y1, .int .i64 y2, .int .i64 y3] 88) := ⟨_, rfl⟩
  have hgr : W0 = Sort.grow w #[.cells #[.int .i64 x1, .int .i64 x2, .int .i64 x3] 88, .cells #[.int .i64 y1, .int .i64 y2, .int .i64 y3] 88] := by
    rw [hW0, Sort.alloc_eq_grow, Sort.alloc_eq_grow, Sort.grow_grow]; rfl
  have hsz : W0.heap.size = w.heap.size + 2 := by rw [hgr]; simp [Sort.grow]
  have c0 : W0.cell? ⟨w.heap.size, 0, none⟩ = some (.int .i64 x1) := by
    rw [hW0]
    repeat (first | with_reducible assumption | (refine cell_new' ?_ _ _ _ rfl; focus (simp; done)) | with_reducible refine cell_keep (below_new _ _) ?_)
  have c1 : W0.cell? ⟨w.heap.size, 1, none⟩ = some (.int .i64 x2) := by
    rw [hW0]
    repeat (first | with_reducible assumption | (refine cell_new' ?_ _ _ _ rfl; focus (simp; done)) | with_reducible refine cell_keep (below_new _ _) ?_)
  have c2 : W0.cell? ⟨w.heap.size, 2, none⟩ = some (.int .i64 x3) := by
    rw [hW0]
    repeat (first | with_reducible assumption | (refine cell_new' ?_ _ _ _ rfl; focus (simp; done)) | with_reducible refine cell_keep (below_new _ _) ?_)
  have c3 : W0.cell? ⟨w.heap.size + 1, 0, none⟩ = some (.int .i64 y1) := by
    rw [hW0]
    repeat (first | with_reducible assumption | (refine cell_new' ?_ _ _ _ rfl; focus (simp; done)) | with_reducible refine cell_keep (below_new _ _) ?_)
  have c4 : W0.cell? ⟨w.heap.size + 1, 1, none⟩ = some (.int .i64 y2) := by
    rw [hW0]
    repeat (first | with_reducible assumption | (refine cell_new' ?_ _ _ _ rfl; focus (simp; done)) | with_reducible refine cell_keep (below_new _ _) ?_)
  have c5 : W0.cell? ⟨w.heap.size + 1, 2, none⟩ = some (.int .i64 y3) := by
    rw [hW0]
    repeat (first | with_reducible assumption | (refine cell_new' ?_ _ _ _ rfl; focus (simp; done)) | with_reducible refine cell_keep (below_new _ _) ?_)
  have HC := Lib.hid (show ∀ V, (∃ os, V = Sort.grow W0.drew os) → V.cell? ⟨w.heap.size, 0, none⟩ = some (.int .i64 x1) ∧ V.cell? ⟨w.heap.size, 1, none⟩ = some (.int .i64 x2) ∧ V.cell? ⟨w.heap.size, 2, none⟩ = some (.int .i64 x3) ∧ V.cell? ⟨w.heap.size + 1, 0, none⟩ = some (.int .i64 y1) ∧ V.cell? ⟨w.heap.size + 1, 1, none⟩ = some (.int .i64 y2) ∧ V.cell? ⟨w.heap.size + 1, 2, none⟩ = some (.int .i64 y3) from fun V ⟨os, hV⟩ => by
    have key : ∀ (b i : Nat), b < W0.heap.size → V.cell? ⟨b, i, none⟩ = W0.cell? ⟨b, i, none⟩ := fun b i hb => by rw [hV, Sort.cell?_grow _ _ _ (by exact hb)]; rfl
    refine ⟨(key _ _ (by omega)).trans c0, (key _ _ (by omega)).trans c1, (key _ _ (by omega)).trans c2, (key _ _ (by omega)).trans c3, (key _ _ (by omega)).trans c4, (key _ _ (by omega)).trans c5⟩)
  clear c0 c1 c2 c3 c4 c5
  go_enter Try.func97, Try.ntmps97
  go_wp2_with fail
  rw [← hW0]
  refine wp_region_chainS (fun V => ∃ os, V = Sort.grow W0.drew os) 17 [some 5, some 6, some 7, some 8, some 9, some 10, some 11, some 12, some 13, some 14, some 15, some 16, some 17, some 18, some 19, some 20, some 21] (by kernel_rfl) (by kernel_rfl) (by kernel_rfl) (by decide) (by rfl) (by kernel_rfl) (by kernel_rfl) ⟨#[], (Sort.grow_empty _).symm⟩ ?hc
  apply ChainS.det
  · intro a w1 hS hb hd K hK
    have b2 := hb 2 _ rfl (by decide)
    clear hb
    simp only [depsOK] at hd
    go_simp
    exact hK _ _ rfl (Below.refl _ _) hS
  show ChainS _ _ _ _ _ _ _ 16 1 _
  apply ChainS.det
  · intro a w1 hS hb hd K hK
    obtain ⟨c0, c1, c2, c3, c4, c5⟩ := HC.out w1 hS
    clear hb
    simp only [depsOK, updR, Region.binds, reduceIte, Nat.reduceEqDiff, forall_const, true_imp_iff, and_true, eqV, List.getElem?_cons_zero, List.getElem?_cons_succ, exists_eq_right, reduceCtorEq, Nat.succ_ne_self, List.length_cons] at hd
    go_simp
    exact hK _ _ rfl (Below.refl _ _) hS
  show ChainS _ _ _ _ _ _ _ 15 2 _
  apply ChainS.det
  · intro a w1 hS hb hd K hK
    have b3 := hb 3 _ rfl (by decide)
    clear hb
    simp only [depsOK, updR, Region.binds, reduceIte, Nat.reduceEqDiff, forall_const, true_imp_iff, and_true, eqV, List.getElem?_cons_zero, List.getElem?_cons_succ, exists_eq_right, reduceCtorEq, Nat.succ_ne_self, List.length_cons] at hd
    go_simp
    exact hK _ _ rfl (Below.refl _ _) hS
  show ChainS _ _ _ _ _ _ _ 14 3 _
  apply ChainS.det
  · intro a w1 hS hb hd K hK
    obtain ⟨c0, c1, c2, c3, c4, c5⟩ := HC.out w1 hS
    clear hb
    simp only [depsOK, updR, Region.binds, reduceIte, Nat.reduceEqDiff, forall_const, true_imp_iff, and_true, eqV, List.getElem?_cons_zero, List.getElem?_cons_succ, exists_eq_right, reduceCtorEq, Nat.succ_ne_self, List.length_cons] at hd
    go_simp
    exact hK _ _ rfl (Below.refl _ _) hS
  show ChainS _ _ _ _ _ _ _ 13 4 _
  apply ChainS.det
  · intro a w1 hS hb hd K hK
    clear hb
    simp only [depsOK, updR, Region.binds, reduceIte, Nat.reduceEqDiff, forall_const, true_imp_iff, and_true, eqV, List.getElem?_cons_zero, List.getElem?_cons_succ, exists_eq_right, reduceCtorEq, Nat.succ_ne_self, List.length_cons] at hd
    go_simp
    refine (cmpI_any x1 y1 _).mono ?_
    rintro e9 w9 ⟨rfl, rfl⟩
    exact hK _ _ rfl (Below.refl _ _) hS
  show ChainS _ _ _ _ _ _ _ 12 5 _
  apply ChainS.det
  · intro a w1 hS hb hd K hK
    have b2 := hb 2 _ rfl (by decide)
    clear hb
    simp only [depsOK, updR, Region.binds, reduceIte, Nat.reduceEqDiff, forall_const, true_imp_iff, and_true, eqV, List.getElem?_cons_zero, List.getElem?_cons_succ, exists_eq_right, reduceCtorEq, Nat.succ_ne_self, List.length_cons] at hd
    go_simp
    exact hK _ _ rfl (Below.refl _ _) hS
  show ChainS _ _ _ _ _ _ _ 11 6 _
  apply ChainS.det
  · intro a w1 hS hb hd K hK
    obtain ⟨c0, c1, c2, c3, c4, c5⟩ := HC.out w1 hS
    clear hb
    simp only [depsOK, updR, Region.binds, reduceIte, Nat.reduceEqDiff, forall_const, true_imp_iff, and_true, eqV, List.getElem?_cons_zero, List.getElem?_cons_succ, exists_eq_right, reduceCtorEq, Nat.succ_ne_self, List.length_cons] at hd
    go_simp
    exact hK _ _ rfl (Below.refl _ _) hS
  show ChainS _ _ _ _ _ _ _ 10 7 _
  apply ChainS.det
  · intro a w1 hS hb hd K hK
    have b3 := hb 3 _ rfl (by decide)
    clear hb
    simp only [depsOK, updR, Region.binds, reduceIte, Nat.reduceEqDiff, forall_const, true_imp_iff, and_true, eqV, List.getElem?_cons_zero, List.getElem?_cons_succ, exists_eq_right, reduceCtorEq, Nat.succ_ne_self, List.length_cons] at hd
    go_simp
    exact hK _ _ rfl (Below.refl _ _) hS
  show ChainS _ _ _ _ _ _ _ 9 8 _
  apply ChainS.det
  · intro a w1 hS hb hd K hK
    obtain ⟨c0, c1, c2, c3, c4, c5⟩ := HC.out w1 hS
    clear hb
    simp only [depsOK, updR, Region.binds, reduceIte, Nat.reduceEqDiff, forall_const, true_imp_iff, and_true, eqV, List.getElem?_cons_zero, List.getElem?_cons_succ, exists_eq_right, reduceCtorEq, Nat.succ_ne_self, List.length_cons] at hd
    go_simp
    exact hK _ _ rfl (Below.refl _ _) hS
  show ChainS _ _ _ _ _ _ _ 8 9 _
  apply ChainS.det
  · intro a w1 hS hb hd K hK
    clear hb
    simp only [depsOK, updR, Region.binds, reduceIte, Nat.reduceEqDiff, forall_const, true_imp_iff, and_true, eqV, List.getElem?_cons_zero, List.getElem?_cons_succ, exists_eq_right, reduceCtorEq, Nat.succ_ne_self, List.length_cons] at hd
    go_simp
    refine (cmpI_any x2 y2 _).mono ?_
    rintro e9 w9 ⟨rfl, rfl⟩
    exact hK _ _ rfl (Below.refl _ _) hS
  show ChainS _ _ _ _ _ _ _ 7 10 _
  apply ChainS.det
  · intro a w1 hS hb hd K hK
    have b2 := hb 2 _ rfl (by decide)
    clear hb
    simp only [depsOK, updR, Region.binds, reduceIte, Nat.reduceEqDiff, forall_const, true_imp_iff, and_true, eqV, List.getElem?_cons_zero, List.getElem?_cons_succ, exists_eq_right, reduceCtorEq, Nat.succ_ne_self, List.length_cons] at hd
    go_simp
    exact hK _ _ rfl (Below.refl _ _) hS
  show ChainS _ _ _ _ _ _ _ 6 11 _
  apply ChainS.det
  · intro a w1 hS hb hd K hK
    obtain ⟨c0, c1, c2, c3, c4, c5⟩ := HC.out w1 hS
    clear hb
    simp only [depsOK, updR, Region.binds, reduceIte, Nat.reduceEqDiff, forall_const, true_imp_iff, and_true, eqV, List.getElem?_cons_zero, List.getElem?_cons_succ, exists_eq_right, reduceCtorEq, Nat.succ_ne_self, List.length_cons] at hd
    go_simp
    exact hK _ _ rfl (Below.refl _ _) hS
  show ChainS _ _ _ _ _ _ _ 5 12 _
  apply ChainS.det
  · intro a w1 hS hb hd K hK
    have b3 := hb 3 _ rfl (by decide)
    clear hb
    simp only [depsOK, updR, Region.binds, reduceIte, Nat.reduceEqDiff, forall_const, true_imp_iff, and_true, eqV, List.getElem?_cons_zero, List.getElem?_cons_succ, exists_eq_right, reduceCtorEq, Nat.succ_ne_self, List.length_cons] at hd
    go_simp
    exact hK _ _ rfl (Below.refl _ _) hS
  show ChainS _ _ _ _ _ _ _ 4 13 _
  apply ChainS.det
  · intro a w1 hS hb hd K hK
    obtain ⟨c0, c1, c2, c3, c4, c5⟩ := HC.out w1 hS
    clear hb
    simp only [depsOK, updR, Region.binds, reduceIte, Nat.reduceEqDiff, forall_const, true_imp_iff, and_true, eqV, List.getElem?_cons_zero, List.getElem?_cons_succ, exists_eq_right, reduceCtorEq, Nat.succ_ne_self, List.length_cons] at hd
    go_simp
    exact hK _ _ rfl (Below.refl _ _) hS
  show ChainS _ _ _ _ _ _ _ 3 14 _
  apply ChainS.det
  · intro a w1 hS hb hd K hK
    clear hb
    simp only [depsOK, updR, Region.binds, reduceIte, Nat.reduceEqDiff, forall_const, true_imp_iff, and_true, eqV, List.getElem?_cons_zero, List.getElem?_cons_succ, exists_eq_right, reduceCtorEq, Nat.succ_ne_self, List.length_cons] at hd
    go_simp
    refine (cmpI_any x3 y3 _).mono ?_
    rintro e9 w9 ⟨rfl, rfl⟩
    exact hK _ _ rfl (Below.refl _ _) hS
  show ChainS _ _ _ _ _ _ _ 2 15 _
  refine ChainS.rel (isF 3 [cmpI x1 y1, cmpI x2 y2, cmpI x3 y3]) (stable_isF _ _) ?_ ?_
  · intro a w1 hS hb hd K hK
    clear hb
    simp only [depsOK, updR, Region.binds, reduceIte, Nat.reduceEqDiff, forall_const, true_imp_iff, and_true, eqV, List.getElem?_cons_zero, List.getElem?_cons_succ, exists_eq_right, reduceCtorEq, Nat.succ_ne_self, List.length_cons] at hd
    go_simp
    exact hK _ _ ⟨_, rfl, RI.lit w1 [cmpI x1 y1, cmpI x2 y2, cmpI x3 y3] _ rfl⟩ (below_new _ _) (by obtain ⟨os, hV⟩ := hS; exact ⟨os ++ #[_], by rw [hV, Sort.alloc_eq_grow, Sort.grow_grow]⟩)
  show ChainS _ _ _ _ _ _ _ 1 16 _
  apply ChainS.det
  · intro a w1 hS hb hd K hK
    clear hb
    simp only [depsOK, updR, Region.binds, reduceIte, Nat.reduceEqDiff, forall_const, true_imp_iff, and_true, eqV, List.getElem?_cons_zero, List.getElem?_cons_succ, exists_eq_right, reduceCtorEq, Nat.succ_ne_self, List.length_cons] at hd
    obtain ⟨⟨v2, h1, A2, rfl, r2⟩, h14⟩ := hd
    go_simp
    refine (orI_any A2 3 [cmpI x1 y1, cmpI x2 y2, cmpI x3 y3] (by simp) _ r2).mono ?_
    rintro e9 w9 ⟨rfl, rfl⟩
    exact hK _ _ rfl (Below.refl _ _) hS
  show ChainS _ _ _ _ _ _ _ 0 17 _
  intro x w2 hS hR
  have r16 := hR 16 _ rfl
  simp only [updR, reduceIte, Nat.reduceEqDiff, eqV] at r16
  clear hR
  simp only [TailWp, fillB, Act.put, List.setIfInBounds_toArray, List.set_cons_zero, List.set_cons_succ, Nat.reduceAdd, r16]
  obtain ⟨os, hV⟩ := hS
  have HV := Lib.hid hV
  clear hV
  clear HC
  intro K hK
  go_simp
  refine hK _ _ ?_
  clear hK K
  go_wp2
  go_ret
  have hfin : w2 = Sort.grow (w.drewN 1) (#[.cells #[.int .i64 x1, .int .i64 x2, .int .i64 x3] 88, .cells #[.int .i64 y1, .int .i64 y2, .int .i64 y3] 88] ++ os) := by
    rw [HV.out, hgr, ← Sort.grow_grow]; rfl
  exact ⟨rfl, 1, _, hfin⟩
end Go.Proofs.Ytgnnmifpfgpllaa
