/- Walks: challenges. -/
import Derived.Test.YtljlimlgdnbllaaH2
import Derived.Test.YtljlimlgdnbllaaN4
import Derived.Test.YtljlimlgdnbllaaRel
set_option linter.all false
set_option linter.unusedVariables false
set_option linter.unusedSimpArgs false
namespace Go.Proofs.Ytljlimlgdnbllaa
open Go.RowKit
set_option maxRecDepth 100000 in
set_option maxHeartbeats 1600000 in
theorem hChallenge_any (p q g : Int) (hG : M.Grp p q g) (s : ByteArray) (hs : s.size ≤ 40) (A : Option Addr) (c : Nat) (xs : List Int) (h0 : 0 < xs.length) (hl : xs.length ≤ 356) (hd : ∀ x ∈ xs, 0 ≤ x ∧ x ≤ 4611686018427387903) (w : World) (hx : RI w w.heap.size A xs) :
    Calls Try.prog 126 #[.agg #[.int .i64 p, .int .i64 q, .int .i64 g], .string s, .slice A xs.length c] w fun en w' => en = .returned (.int .i64 (M.chal p q g s.data.toList xs)) ∧ Below w.heap.size w w' := by
  have hq2 := hG.q2
  have hqp := hG.qp
  have hpM := hG.pM
  have hp3 := hG.p3
  obtain ⟨zs, hzs⟩ : ∃ zs : List Int, zs = p :: q :: g :: xs := ⟨_, rfl⟩
  have hzl : zs.length = 3 + xs.length := by rw [hzs]; simp; omega
  have HZ := Lib.hid hzs
  have HZL := Lib.hid hzl
  have hgg : 0 ≤ g ∧ g < p := ⟨by have := hG.g2; omega, hG.gp⟩
  have hzd : ∀ x ∈ zs, 0 ≤ x ∧ x ≤ 4611686018427387903 := by
    intro x h
    rw [hzs] at h
    simp only [List.mem_cons] at h
    rcases h with rfl | rfl | rfl | h
    · omega
    · omega
    · omega
    · exact hd x h
  have HD := Lib.hid hzd
  have hlb := M.hashL_lt (M.lab s.data.toList zs)
  obtain ⟨hlb1, hlb2⟩ := hlb
  have HE := Lib.hid (show M.hashL (M.lab s.data.toList zs) % q = M.chal p q g s.data.toList xs by rw [hzs]; rfl)
  have hqz : ¬ q = 0 := by omega
  have hqm : (M.hashL (M.lab s.data.toList zs)).tmod q = M.hashL (M.lab s.data.toList zs) % q := Int.tmod_eq_emod_of_nonneg hlb1
  clear hzs hzl hd hzd hG hgg
  go_enter Try.func126, Try.ntmps126
  go_wp2_with fail
  refine wp_region_chain (fun W => W.cell? ⟨w.heap.size, 0, none⟩ = some (.int .i64 p) ∧ W.cell? ⟨w.heap.size, 1, none⟩ = some (.int .i64 q) ∧ W.cell? ⟨w.heap.size, 2, none⟩ = some (.int .i64 g) ∧ RI W W.heap.size A xs)
    15 [some 7, some 8, some 9, some 10, some 11, some 12, some 13, some 14, some 15, some 16, some 17, some 18, some 19, some 20, some 6] (by kernel_rfl) (by kernel_rfl) (by kernel_rfl) (by decide) (by rfl) (by kernel_rfl) (by kernel_rfl) ?hS0 ?hSs ?hc
  case hS0 => exact ⟨cell_new' rfl _ _ _ rfl, cell_new' rfl _ _ _ rfl, cell_new' rfl _ _ _ rfl, hx.next (Below.drew (below_new w _))⟩
  case hSs => exact fun w1 w2 h hb => ⟨cell_keep hb h.1, cell_keep hb h.2.1, cell_keep hb h.2.2.1, h.2.2.2.next hb⟩
  apply Chain.det
  · intro a w1 hS hb hd K hK
    have b1 := hb 1 _ rfl (by decide)
    clear hb
    simp only [depsOK] at hd
    go_simp
    exact hK _ _ rfl (Below.refl _ _)
  show Chain _ _ _ _ _ _ _ _ _ _ _ 14 1 _
  apply Chain.det
  · intro a w1 hS hb hd K hK
    have b3 := hb 3 _ rfl (by decide)
    clear hb
    simp only [depsOK] at hd
    go_simp
    exact hK _ _ rfl (Below.refl _ _)
  show Chain _ _ _ _ _ _ _ _ _ _ _ 13 2 _
  apply Chain.det
  · intro a w1 hS hb hd K hK
    clear hb
    simp only [depsOK, updR, Region.binds, reduceIte, forall_const, and_true, eqV, List.getElem?_cons_zero, List.getElem?_cons_succ, exists_eq_right, Nat.succ_ne_self] at hd
    go_simp
    exact hK _ _ rfl (Below.refl _ _)
  show Chain _ _ _ _ _ _ _ _ _ _ _ 12 3 _
  apply Chain.det
  · intro a w1 hS hb hd K hK
    have b3 := hb 3 _ rfl (by decide)
    clear hb
    simp only [depsOK] at hd
    go_simp
    exact hK _ _ rfl (Below.refl _ _)
  show Chain _ _ _ _ _ _ _ _ _ _ _ 11 4 _
  apply Chain.det
  · intro a w1 hS hb hd K hK
    clear hb
    simp only [depsOK, updR, Region.binds, reduceIte, Nat.reduceEqDiff, forall_const, and_true, eqV, List.getElem?_cons_zero, List.getElem?_cons_succ, exists_eq_right, reduceCtorEq, Nat.succ_ne_self] at hd
    go_simp
    exact hK _ _ rfl (Below.refl _ _)
  show Chain _ _ _ _ _ _ _ _ _ _ _ 10 5 _
  apply Chain.det
  · intro a w1 hS hb hd K hK
    have b3 := hb 3 _ rfl (by decide)
    clear hb
    simp only [depsOK] at hd
    go_simp
    exact hK _ _ rfl (Below.refl _ _)
  show Chain _ _ _ _ _ _ _ _ _ _ _ 9 6 _
  apply Chain.det
  · intro a w1 hS hb hd K hK
    clear hb
    simp only [depsOK, updR, Region.binds, reduceIte, Nat.reduceEqDiff, forall_const, and_true, eqV, List.getElem?_cons_zero, List.getElem?_cons_succ, exists_eq_right, reduceCtorEq, Nat.succ_ne_self] at hd
    go_simp
    exact hK _ _ rfl (Below.refl _ _)
  show Chain _ _ _ _ _ _ _ _ _ _ _ 8 7 _
  refine Chain.rel (fun v W => ∃ A, v = .slice A 3 3 ∧ RI W W.heap.size A [p, q, g]) (fun v w1 w2 ⟨A, h1, h2⟩ hb => ⟨A, h1, h2.next hb⟩) ?_ ?_
  · intro a w1 hS hb hd K hK
    clear hb
    simp only [depsOK, updR, Region.binds, reduceIte, Nat.reduceEqDiff, forall_const, and_true, eqV, List.getElem?_cons_zero, List.getElem?_cons_succ, exists_eq_right, reduceCtorEq, Nat.succ_ne_self] at hd
    go_simp
    exact hK _ _ ⟨_, rfl, RI.lit w1 [p, q, g] _ rfl⟩ (below_new _ _)
  show Chain _ _ _ _ _ _ _ _ _ _ _ 7 8 _
  apply Chain.det
  · intro a w1 hS hb hd K hK
    have b2 := hb 2 _ rfl (by decide)
    clear hb
    simp only [depsOK] at hd
    go_simp
    exact hK _ _ rfl (Below.refl _ _)
  show Chain _ _ _ _ _ _ _ _ _ _ _ 6 9 _
  refine Chain.rel (fun v W => ∃ A c, v = .slice A zs.length c ∧ RI W W.heap.size A zs) (fun v w1 w2 ⟨A, c, h1, h2⟩ hb => ⟨A, c, h1, h2.next hb⟩) ?_ ?_
  · intro a w1 hS hb hd K hK
    clear hb
    simp only [depsOK, updR, Region.binds, reduceIte, Nat.reduceEqDiff, forall_const, and_true, eqV, List.getElem?_cons_zero, List.getElem?_cons_succ, exists_eq_right, reduceCtorEq, Nat.succ_ne_self] at hd
    obtain ⟨⟨v1, e1, A1, rfl, r1⟩, e2⟩ := hd
    refine if_app rfl _ _ rfl A1 3 3 [p, q, g] (by go_simp) rfl rfl (by omega) _ r1 _ A xs.length c xs zs (by go_simp) rfl h0 hS.2.2.2 HZ.out (by rw [HZL.out]; omega) ?_
    intro A2 c2 w2 ho2 hb2
    exact hK _ _ ⟨A2, c2, rfl, ho2.ri⟩ hb2
  show Chain _ _ _ _ _ _ _ _ _ _ _ 5 10 _
  apply Chain.det
  · intro a w1 hS hb hd K hK
    clear hb
    simp only [depsOK, updR, Region.binds, reduceIte, Nat.reduceEqDiff, forall_const, and_true, eqV, List.getElem?_cons_zero, List.getElem?_cons_succ, exists_eq_right, reduceCtorEq, Nat.succ_ne_self] at hd
    obtain ⟨e1, ⟨v2, e2, A2, c2, rfl, r2⟩, _⟩ := hd
    go_simp
    refine (hLabelled_any s hs A2 c2 zs (by rw [HZL.out]; omega) HD.out _ r2).mono ?_
    rintro e9 w9 ⟨rfl, hb9⟩
    exact hK _ _ rfl hb9
  show Chain _ _ _ _ _ _ _ _ _ _ _ 4 11 _
  apply Chain.det
  · intro a w1 hS hb hd K hK
    have b3 := hb 3 _ rfl (by decide)
    clear hb
    simp only [depsOK] at hd
    go_simp
    exact hK _ _ rfl (Below.refl _ _)
  show Chain _ _ _ _ _ _ _ _ _ _ _ 3 12 _
  apply Chain.det
  · intro a w1 hS hb hd K hK
    clear hb
    simp only [depsOK, updR, Region.binds, reduceIte, Nat.reduceEqDiff, forall_const, and_true, eqV, List.getElem?_cons_zero, List.getElem?_cons_succ, exists_eq_right, reduceCtorEq, Nat.succ_ne_self] at hd
    go_simp
    exact hK _ _ rfl (Below.refl _ _)
  show Chain _ _ _ _ _ _ _ _ _ _ _ 2 13 _
  apply Chain.det
  · intro a w1 hS hb hd K hK
    clear hb
    simp only [depsOK, updR, Region.binds, reduceIte, Nat.reduceEqDiff, forall_const, and_true, eqV, List.getElem?_cons_zero, List.getElem?_cons_succ, exists_eq_right, reduceCtorEq, Nat.succ_ne_self] at hd
    go_simp
    exact hK _ _ rfl (Below.refl _ _)
  show Chain _ _ _ _ _ _ _ _ _ _ _ 1 14 _
  apply Chain.det
  · intro a w1 hS hb hd K hK
    clear hb
    simp only [depsOK, updR, Region.binds, reduceIte, Nat.reduceEqDiff, forall_const, and_true, eqV, List.getElem?_cons_zero, List.getElem?_cons_succ, exists_eq_right, reduceCtorEq, Nat.succ_ne_self] at hd
    go_simp
    exact hK _ _ rfl (Below.refl _ _)
  show Chain _ _ _ _ _ _ _ _ _ _ _ 0 15 _
  intro x w1 hS hB hR y hY hA hE
  have r14 := hR 14 _ rfl
  simp only [updR, reduceIte, Nat.reduceEqDiff, eqV] at r14
  clear hR hY hA hE
  simp only [TailWp, fillB, Act.put, List.setIfInBounds_toArray, List.set_cons_zero, List.set_cons_succ, Nat.reduceAdd, r14]
  clear r14
  go_wp2
  go_ret
  exact ⟨ret_int HE.out, bnext (Below.drew (below_new w _)) hB⟩
set_option maxHeartbeats 1600000 in
theorem challenge_any (p q g : Int) (hG : M.Grp p q g) (s : ByteArray) (hs : s.size ≤ 40) (A : Option Addr) (c : Nat) (xs : List Int) (h0 : 0 < xs.length) (hl : xs.length ≤ 356) (hd : ∀ x ∈ xs, 0 ≤ x ∧ x ≤ 4611686018427387903) (w : World) (hx : RI w w.heap.size A xs) :
    Calls Try.prog 76 #[.agg #[.int .i64 p, .int .i64 q, .int .i64 g], .string s, .slice A xs.length c] w fun en w' => en = .returned (.tuple #[.int .i64 (M.chal p q g s.data.toList xs), .bool true]) ∧ Below w.heap.size w w' := by
  have hq2 := hG.q2
  have hqp := hG.qp
  have hpM := hG.pM
  have hp3 := hG.p3
  obtain ⟨zs, hzs⟩ : ∃ zs : List Int, zs = p :: q :: g :: xs := ⟨_, rfl⟩
  have hzl : zs.length = 3 + xs.length := by rw [hzs]; simp; omega
  have HZ := Lib.hid hzs
  have HZL := Lib.hid hzl
  have hgg : 0 ≤ g ∧ g < p := ⟨by have := hG.g2; omega, hG.gp⟩
  have hzd : ∀ x ∈ zs, 0 ≤ x ∧ x ≤ 4611686018427387903 := by
    intro x h
    rw [hzs] at h
    simp only [List.mem_cons] at h
    rcases h with rfl | rfl | rfl | h
    · omega
    · omega
    · omega
    · exact hd x h
  have HD := Lib.hid hzd
  have hlb := M.hashL_lt (M.lab s.data.toList zs)
  obtain ⟨hlb1, hlb2⟩ := hlb
  have HE := Lib.hid (show M.hashL (M.lab s.data.toList zs) % q = M.chal p q g s.data.toList xs by rw [hzs]; rfl)
  have hqz : ¬ q = 0 := by omega
  have hqm : (M.hashL (M.lab s.data.toList zs)).tmod q = M.hashL (M.lab s.data.toList zs) % q := Int.tmod_eq_emod_of_nonneg hlb1
  clear hzs hzl hd hzd hG hgg
  have hown := OI.lit (w := w.alloc (.cells #[.int .i64 p, .int .i64 q, .int .i64 g] 33)) (n := w.heap.size + 1) (by simp) [p, q, g] (by simp)
  have HO := Lib.hid hown
  have hrd : RI ((w.alloc (.cells #[.int .i64 p, .int .i64 q, .int .i64 g] 33)).alloc (.cells #[.int .i64 p, .int .i64 q, .int .i64 g] 3)) w.heap.size A xs := hx.below (bnew (below_new w _) _)
  have HX := Lib.hid hrd
  clear hx hrd hown
  go_enter Try.func76, Try.ntmps76
  go_wp2_with (at_builtin; refine wpList_app (by go_simp) _ _ rfl (w.alloc (.cells #[.int .i64 p, .int .i64 q, .int .i64 g] 33)).heap.size _ [p, q, g] rfl HO.out w.heap.size A xs.length c xs zs rfl rfl HX.out HZ.out (by rw [HZL.out]; omega) (by simp) ?_; intro A1 c1 w1 ho hg hat)
  have hB1 : Below (w.alloc (.cells #[.int .i64 p, .int .i64 q, .int .i64 g] 33)).heap.size (w.alloc (.cells #[.int .i64 p, .int .i64 q, .int .i64 g] 33)) w1 := (below_new _ _).grown hg (by simp) HO.out.ge
  have k1 : w1.cell? ⟨w.heap.size, 1, none⟩ = some (.int .i64 q) := cell_keep hB1 (cell_new' rfl _ _ _ rfl)
  refine (hashLabelled_any s hs A1 c1 zs (by rw [HZL.out]; omega) HD.out _ ho.ri).mono ?_
  rintro e2 w2 ⟨rfl, hb2⟩
  have k2 := cell_keep hb2 k1
  clear k1
  go_wp2
  go_ret2
  exact ⟨ret_ib HE.out rfl, bnext (bnext (below_new _ _) hB1) hb2⟩
end Go.Proofs.Ytljlimlgdnbllaa
