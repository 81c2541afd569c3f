/- Walks: CommitVector, CheckVector. -/
import Derived.Test.YtekfeplaphemkaaE9
namespace Go.Proofs.Ytekfeplaphemkaa
open Go.RowKit
theorem RI.take {w : World} {B : Nat} {A : Option Addr} {xs : List Int} (h : RI w B A xs) (n : Nat) : RI w B A (xs.take n) := by
  refine ⟨by simp, fun hn => ?_⟩
  have hn' : 0 < xs.length := by simp at hn; omega
  obtain ⟨ad, e, hb, hc⟩ := h.2 hn'
  refine ⟨ad, e, hb, fun j u hu => hc j u ?_⟩
  rw [List.map_take, List.getElem?_take] at hu
  split at hu
  · exact hu
  · cases hu
def cmtW (p q bh : Int) (bs l : List Int) (r : Int) : Int := M.gpw p q bh r * M.powL p q 1 (bs.take l.length) l % p
noncomputable def comW (p q g bh : Int) (bs l : List Int) (r : Int) : Int × Bool := if l9B p q g bh bs = true ∧ expsB q l = true ∧ inr r 0 (q - 1) = true ∧ decide (l.length ≤ bs.length) = true then (cmtW p q bh bs l r, true) else (0, false)
noncomputable def chkW (p q g bh : Int) (bs : List Int) (c : Int) (l : List Int) (r : Int) : Bool × Bool := if l9B p q g bh bs = true ∧ expsB q l = true ∧ inr r 0 (q - 1) = true ∧ decide (l.length ≤ bs.length) = true ∧ elemB p q c = true then (cmtW p q bh bs l r == c, true) else (false, false)
theorem powers_n (p q g : Int) (hG : M.Grp p q g) (A E : Option Addr) (n c d : Nat) (xs es : List Int) (hn : xs.length = n) (hl : xs.length ≤ 9223372036854775807) (hle : xs.length ≤ es.length) (w : World) (hx : RI w w.heap.size A xs) (he : RI w w.heap.size E es) (hb : ∀ x ∈ xs, 0 ≤ x ∧ x < p) (hbe : ∀ e ∈ es, 0 ≤ e ∧ e < q) :
    Calls Try.prog 75 #[.agg #[.int .i64 p, .int .i64 q, .int .i64 g], .slice A n c, .slice E es.length d] w fun en w' => en = .returned (.int .i64 (M.powL p q 1 xs es)) ∧ Below w.heap.size w w' := by
  subst hn
  exact powers_any p q g hG A E c d xs es hl hle w hx he hb hbe
theorem gProd_n (p q g : Int) (hG : M.Grp p q g) (A E : Option Addr) (n c d : Nat) (xs es : List Int) (hn : xs.length = n) (hl : xs.length ≤ 9223372036854775807) (hle : xs.length ≤ es.length) (w : World) (hx : RI w w.heap.size A xs) (he : RI w w.heap.size E es) (hb : ∀ x ∈ xs, 0 ≤ x ∧ x < p) (hbe : ∀ e ∈ es, 0 ≤ e ∧ e < q) :
    Calls Try.prog 74 #[.agg #[.int .i64 p, .int .i64 q, .int .i64 g], .slice A n c, .slice E es.length d] w fun en w' => en = .returned (.int .i64 (M.powL p q 1 xs es)) ∧ Below w.heap.size w w' := by
  subst hn
  exact gProd_any p q g hG A E c d xs es hl hle w hx he hb hbe
set_option maxHeartbeats 800000 in
theorem commitVector_any (p q g bh r : Int) (A E : Option Addr) (d f : Nat) (bs l : List Int) (hG : M.Grp p q g) (hb : 0 ≤ bh ∧ bh < p) (hr : 0 ≤ r ∧ r < q) (hbs : ∀ x ∈ bs, M.elem p q x) (hls : ∀ e ∈ l, 0 ≤ e ∧ e < q) (hll : l.length ≤ bs.length) (hd : bs.length ≤ d) (hl24 : bs.length ≤ 24) (w : World) (hx : RI w w.heap.size A bs) (hy : RI w w.heap.size E l) :
    Calls Try.prog 50 #[.agg #[.int .i64 p, .int .i64 q, .int .i64 g], .agg #[.int .i64 bh, .slice A bs.length d], .slice E l.length f, .int .i64 r] w fun en w' => en = .returned (.int .i64 (cmtW p q bh bs l r)) ∧ Below w.heap.size w w' := by
  have g1 := hG.q2
  have g2 := hG.qp
  have g3 := hG.p3
  have g4 := hG.pM
  have HG := Lib.hid hG
  clear hG
  have HBS := Lib.hid hbs
  have HLS := Lib.hid hls
  clear hbs hls
  have pl := M.powL_lt (p := p) (q := q) (by omega) (bs.take l.length) l 1 (by omega)
  have i0 : (0 : Int) ≤ (l.length : Int) := by omega
  have i1 : (l.length : Int) ≤ (d : Int) := by omega
  have i2 : (l.length : Int) ≤ (bs.length : Int) := by omega
  have i3 : l.length ≤ d := by omega
  have hT0 : Below w.heap.size w ((w.alloc (.cells #[.int .i64 p, .int .i64 q, .int .i64 g] 28)).alloc (.cells #[.int .i64 bh, .slice A bs.length d] 38)) := by repeat (first | exact Below.refl _ _ | refine bnew ?_ _)
  go_enter Try.func50, Try.ntmps50
  have c0_0 : ((w.alloc (.cells #[.int .i64 p, .int .i64 q, .int .i64 g] 28)).alloc (.cells #[.int .i64 bh, .slice A bs.length d] 38)).cell? ⟨w.heap.size, 0, none⟩ = some (.int .i64 p) := by
    repeat (first | with_reducible assumption | (refine cell_new' ?_ _ _ _ rfl; focus (simp; done)) | with_reducible refine cell_keep (below_new _ _) ?_)
  have c0_1 : ((w.alloc (.cells #[.int .i64 p, .int .i64 q, .int .i64 g] 28)).alloc (.cells #[.int .i64 bh, .slice A bs.length d] 38)).cell? ⟨w.heap.size, 1, none⟩ = some (.int .i64 q) := by
    repeat (first | with_reducible assumption | (refine cell_new' ?_ _ _ _ rfl; focus (simp; done)) | with_reducible refine cell_keep (below_new _ _) ?_)
  have c0_2 : ((w.alloc (.cells #[.int .i64 p, .int .i64 q, .int .i64 g] 28)).alloc (.cells #[.int .i64 bh, .slice A bs.length d] 38)).cell? ⟨w.heap.size, 2, none⟩ = some (.int .i64 g) := by
    repeat (first | with_reducible assumption | (refine cell_new' ?_ _ _ _ rfl; focus (simp; done)) | with_reducible refine cell_keep (below_new _ _) ?_)
  have c0_3 : ((w.alloc (.cells #[.int .i64 p, .int .i64 q, .int .i64 g] 28)).alloc (.cells #[.int .i64 bh, .slice A bs.length d] 38)).cell? ⟨w.heap.size + 1, 0, none⟩ = some (.int .i64 bh) := by
    repeat (first | with_reducible assumption | (refine cell_new' ?_ _ _ _ rfl; focus (simp; done)) | with_reducible refine cell_keep (below_new _ _) ?_)
  have c0_4 : ((w.alloc (.cells #[.int .i64 p, .int .i64 q, .int .i64 g] 28)).alloc (.cells #[.int .i64 bh, .slice A bs.length d] 38)).cell? ⟨w.heap.size + 1, 1, none⟩ = some (.slice A bs.length d) := by
    repeat (first | with_reducible assumption | (refine cell_new' ?_ _ _ _ rfl; focus (simp; done)) | with_reducible refine cell_keep (below_new _ _) ?_)
  go_wp2_with fail
  go_region_held3 (fun W' => W'.cell? ⟨w.heap.size, 0, none⟩ = some (.int .i64 p) ∧ W'.cell? ⟨w.heap.size, 1, none⟩ = some (.int .i64 q) ∧ W'.cell? ⟨w.heap.size, 2, none⟩ = some (.int .i64 g) ∧ W'.cell? ⟨w.heap.size + 1, 0, none⟩ = some (.int .i64 bh) ∧ W'.cell? ⟨w.heap.size + 1, 1, none⟩ = some (.slice A bs.length d) ∧ Below w.heap.size w W') ((go_split_ands; refine ⟨?_, ?_, ?_, ?_, ?_, ?_⟩; (first | with_reducible exact cell_keep (by with_reducible assumption) (by with_reducible assumption) | with_reducible exact cell_keep (below_new _ _) (by with_reducible assumption) | (with_reducible refine cell_set _ ?_ (by simp); (repeat with_reducible refine cell_set _ ?_ (by simp)); with_reducible assumption) | with_reducible exact cell_drew (by with_reducible assumption) | go_keep); (first | with_reducible exact cell_keep (by with_reducible assumption) (by with_reducible assumption) | with_reducible exact cell_keep (below_new _ _) (by with_reducible assumption) | (with_reducible refine cell_set _ ?_ (by simp); (repeat with_reducible refine cell_set _ ?_ (by simp)); with_reducible assumption) | with_reducible exact cell_drew (by with_reducible assumption) | go_keep); (first | with_reducible exact cell_keep (by with_reducible assumption) (by with_reducible assumption) | with_reducible exact cell_keep (below_new _ _) (by with_reducible assumption) | (with_reducible refine cell_set _ ?_ (by simp); (repeat with_reducible refine cell_set _ ?_ (by simp)); with_reducible assumption) | with_reducible exact cell_drew (by with_reducible assumption) | go_keep); (first | with_reducible exact cell_keep (by with_reducible assumption) (by with_reducible assumption) | with_reducible exact cell_keep (below_new _ _) (by with_reducible assumption) | (with_reducible refine cell_set _ ?_ (by simp); (repeat with_reducible refine cell_set _ ?_ (by simp)); with_reducible assumption) | with_reducible exact cell_drew (by with_reducible assumption) | go_keep); (first | with_reducible exact cell_keep (by with_reducible assumption) (by with_reducible assumption) | with_reducible exact cell_keep (below_new _ _) (by with_reducible assumption) | (with_reducible refine cell_set _ ?_ (by simp); (repeat with_reducible refine cell_set _ ?_ (by simp)); with_reducible assumption) | with_reducible exact cell_drew (by with_reducible assumption) | go_keep); (repeat (first | with_reducible assumption | with_reducible refine bnext ?_ (by with_reducible assumption) | with_reducible refine bnew ?_ _ | with_reducible refine below_set _ ?_ (by simp) | with_reducible refine Below.drew ?_ | with_reducible refine Below.drewN ?_ _)); done)) (first | (go_at_call 67; refine (pow_any _ _ _ _ _ HG.out (by assumption) (by omega) _).mono ?_; rintro e1 w1 ⟨rfl, hb1⟩) | (go_at_call 75; refine (powers_n p q g HG.out _ _ _ _ _ (bs.take l.length) l (by simp; omega) (by simp; omega) (by simp; omega) _ (RI.take (by refine RI.next (by with_reducible assumption) ?_; repeat (first | exact Below.refl _ _ | with_reducible assumption | with_reducible refine bnext ?_ (by with_reducible assumption) | with_reducible refine bnew ?_ _ | with_reducible refine Below.drew ?_)) _) (by refine RI.next (by with_reducible assumption) ?_; repeat (first | exact Below.refl _ _ | with_reducible assumption | with_reducible refine bnext ?_ (by with_reducible assumption) | with_reducible refine bnew ?_ _ | with_reducible refine Below.drew ?_)) (fun x h => elem_bd (HBS.out x (List.mem_of_mem_take h))) HLS.out).mono ?_; rintro e1 w1 ⟨rfl, hb1⟩) | (go_at_call 68; refine (mul2_any _ _ _ _ _ HG.out (by first | assumption | exact M.gpw_lt g3) (by first | assumption | exact M.gpw_lt g3) _ _ _ (RI.lit2 _ _ _ _ (by simp))).mono ?_; rintro e1 w1 ⟨rfl, hb1⟩))
  obtain ⟨c1_0, c1_1, c1_2, c1_3, c1_4, hT1⟩ := (by assumption : _ ∧ _ ∧ _ ∧ _ ∧ _ ∧  _)
  clear c0_0 c0_1 c0_2 c0_3 c0_4
  go_wp2
  go_ret
  exact ⟨rfl, hT1⟩
set_option maxHeartbeats 800000 in
theorem pVector_any (p q g bh r : Int) (A E : Option Addr) (d f : Nat) (bs l : List Int) (hG : M.Grp p q g) (hb : 0 ≤ bh ∧ bh < p) (hr : 0 ≤ r ∧ r < q) (hbs : ∀ x ∈ bs, M.elem p q x) (hls : ∀ e ∈ l, 0 ≤ e ∧ e < q) (hll : l.length ≤ bs.length) (hd : bs.length ≤ d) (hl24 : bs.length ≤ 24) (w : World) (hx : RI w w.heap.size A bs) (hy : RI w w.heap.size E l) :
    Calls Try.prog 48 #[.agg #[.int .i64 p, .int .i64 q, .int .i64 g], .agg #[.int .i64 bh, .slice A bs.length d], .slice E l.length f, .int .i64 r] w fun en w' => en = .returned (.int .i64 (cmtW p q bh bs l r)) ∧ Below w.heap.size w w' := by
  have g1 := hG.q2
  have g2 := hG.qp
  have g3 := hG.p3
  have g4 := hG.pM
  have HG := Lib.hid hG
  clear hG
  have HBS := Lib.hid hbs
  have HLS := Lib.hid hls
  clear hbs hls
  have pl := M.powL_lt (p := p) (q := q) (by omega) (bs.take l.length) l 1 (by omega)
  have i0 : (0 : Int) ≤ (l.length : Int) := by omega
  have i1 : (l.length : Int) ≤ (d : Int) := by omega
  have i2 : (l.length : Int) ≤ (bs.length : Int) := by omega
  have i3 : l.length ≤ d := by omega
  have hT0 : Below w.heap.size w ((w.alloc (.cells #[.int .i64 p, .int .i64 q, .int .i64 g] 28)).alloc (.cells #[.int .i64 bh, .slice A bs.length d] 38)) := by repeat (first | exact Below.refl _ _ | refine bnew ?_ _)
  go_enter Try.func48, Try.ntmps48
  have c0_0 : ((w.alloc (.cells #[.int .i64 p, .int .i64 q, .int .i64 g] 28)).alloc (.cells #[.int .i64 bh, .slice A bs.length d] 38)).cell? ⟨w.heap.size, 0, none⟩ = some (.int .i64 p) := by
    repeat (first | with_reducible assumption | (refine cell_new' ?_ _ _ _ rfl; focus (simp; done)) | with_reducible refine cell_keep (below_new _ _) ?_)
  have c0_1 : ((w.alloc (.cells #[.int .i64 p, .int .i64 q, .int .i64 g] 28)).alloc (.cells #[.int .i64 bh, .slice A bs.length d] 38)).cell? ⟨w.heap.size, 1, none⟩ = some (.int .i64 q) := by
    repeat (first | with_reducible assumption | (refine cell_new' ?_ _ _ _ rfl; focus (simp; done)) | with_reducible refine cell_keep (below_new _ _) ?_)
  have c0_2 : ((w.alloc (.cells #[.int .i64 p, .int .i64 q, .int .i64 g] 28)).alloc (.cells #[.int .i64 bh, .slice A bs.length d] 38)).cell? ⟨w.heap.size, 2, none⟩ = some (.int .i64 g) := by
    repeat (first | with_reducible assumption | (refine cell_new' ?_ _ _ _ rfl; focus (simp; done)) | with_reducible refine cell_keep (below_new _ _) ?_)
  have c0_3 : ((w.alloc (.cells #[.int .i64 p, .int .i64 q, .int .i64 g] 28)).alloc (.cells #[.int .i64 bh, .slice A bs.length d] 38)).cell? ⟨w.heap.size + 1, 0, none⟩ = some (.int .i64 bh) := by
    repeat (first | with_reducible assumption | (refine cell_new' ?_ _ _ _ rfl; focus (simp; done)) | with_reducible refine cell_keep (below_new _ _) ?_)
  have c0_4 : ((w.alloc (.cells #[.int .i64 p, .int .i64 q, .int .i64 g] 28)).alloc (.cells #[.int .i64 bh, .slice A bs.length d] 38)).cell? ⟨w.heap.size + 1, 1, none⟩ = some (.slice A bs.length d) := by
    repeat (first | with_reducible assumption | (refine cell_new' ?_ _ _ _ rfl; focus (simp; done)) | with_reducible refine cell_keep (below_new _ _) ?_)
  go_wp2_with fail
  go_region_held3 (fun W' => W'.cell? ⟨w.heap.size, 0, none⟩ = some (.int .i64 p) ∧ W'.cell? ⟨w.heap.size, 1, none⟩ = some (.int .i64 q) ∧ W'.cell? ⟨w.heap.size, 2, none⟩ = some (.int .i64 g) ∧ W'.cell? ⟨w.heap.size + 1, 0, none⟩ = some (.int .i64 bh) ∧ W'.cell? ⟨w.heap.size + 1, 1, none⟩ = some (.slice A bs.length d) ∧ Below w.heap.size w W') ((go_split_ands; refine ⟨?_, ?_, ?_, ?_, ?_, ?_⟩; (first | with_reducible exact cell_keep (by with_reducible assumption) (by with_reducible assumption) | with_reducible exact cell_keep (below_new _ _) (by with_reducible assumption) | (with_reducible refine cell_set _ ?_ (by simp); (repeat with_reducible refine cell_set _ ?_ (by simp)); with_reducible assumption) | with_reducible exact cell_drew (by with_reducible assumption) | go_keep); (first | with_reducible exact cell_keep (by with_reducible assumption) (by with_reducible assumption) | with_reducible exact cell_keep (below_new _ _) (by with_reducible assumption) | (with_reducible refine cell_set _ ?_ (by simp); (repeat with_reducible refine cell_set _ ?_ (by simp)); with_reducible assumption) | with_reducible exact cell_drew (by with_reducible assumption) | go_keep); (first | with_reducible exact cell_keep (by with_reducible assumption) (by with_reducible assumption) | with_reducible exact cell_keep (below_new _ _) (by with_reducible assumption) | (with_reducible refine cell_set _ ?_ (by simp); (repeat with_reducible refine cell_set _ ?_ (by simp)); with_reducible assumption) | with_reducible exact cell_drew (by with_reducible assumption) | go_keep); (first | with_reducible exact cell_keep (by with_reducible assumption) (by with_reducible assumption) | with_reducible exact cell_keep (below_new _ _) (by with_reducible assumption) | (with_reducible refine cell_set _ ?_ (by simp); (repeat with_reducible refine cell_set _ ?_ (by simp)); with_reducible assumption) | with_reducible exact cell_drew (by with_reducible assumption) | go_keep); (first | with_reducible exact cell_keep (by with_reducible assumption) (by with_reducible assumption) | with_reducible exact cell_keep (below_new _ _) (by with_reducible assumption) | (with_reducible refine cell_set _ ?_ (by simp); (repeat with_reducible refine cell_set _ ?_ (by simp)); with_reducible assumption) | with_reducible exact cell_drew (by with_reducible assumption) | go_keep); (repeat (first | with_reducible assumption | with_reducible refine bnext ?_ (by with_reducible assumption) | with_reducible refine bnew ?_ _ | with_reducible refine below_set _ ?_ (by simp) | with_reducible refine Below.drew ?_ | with_reducible refine Below.drewN ?_ _)); done)) (first | (go_at_call 60; refine (gExp_any _ _ _ _ _ HG.out (by assumption) (by omega) _).mono ?_; rintro e1 w1 ⟨rfl, hb1⟩) | (go_at_call 74; refine (gProd_n p q g HG.out _ _ _ _ _ (bs.take l.length) l (by simp; omega) (by simp; omega) (by simp; omega) _ (RI.take (by refine RI.next (by with_reducible assumption) ?_; repeat (first | exact Below.refl _ _ | with_reducible assumption | with_reducible refine bnext ?_ (by with_reducible assumption) | with_reducible refine bnew ?_ _ | with_reducible refine Below.drew ?_)) _) (by refine RI.next (by with_reducible assumption) ?_; repeat (first | exact Below.refl _ _ | with_reducible assumption | with_reducible refine bnext ?_ (by with_reducible assumption) | with_reducible refine bnew ?_ _ | with_reducible refine Below.drew ?_)) (fun x h => elem_bd (HBS.out x (List.mem_of_mem_take h))) HLS.out).mono ?_; rintro e1 w1 ⟨rfl, hb1⟩) | (go_at_call 61; refine (gMul2_any _ _ _ _ _ HG.out (by first | assumption | exact M.gpw_lt g3) (by first | assumption | exact M.gpw_lt g3) _ _ _ (RI.lit2 _ _ _ _ (by simp))).mono ?_; rintro e1 w1 ⟨rfl, hb1⟩))
  obtain ⟨c1_0, c1_1, c1_2, c1_3, c1_4, hT1⟩ := (by assumption : _ ∧ _ ∧ _ ∧ _ ∧ _ ∧  _)
  clear c0_0 c0_1 c0_2 c0_3 c0_4
  go_wp2
  go_ret
  exact ⟨rfl, hT1⟩
set_option maxHeartbeats 800000 in
theorem commitVectorI (p q g bh r : Int) (A E : Option Addr) (d f : Nat) (bs l : List Int) (hl : bs.length ≤ 9223372036854775807) (hll : l.length ≤ 9223372036854775807) (hd : bs.length ≤ d) (w : World) (hx : RI w w.heap.size A bs) (hy : RI w w.heap.size E l) :
    Calls Try.prog 22 #[.agg #[.int .i64 p, .int .i64 q, .int .i64 g], .agg #[.int .i64 bh, .slice A bs.length d], .slice E l.length f, .int .i64 r] w fun en w' => en = .returned (.tuple #[.int .i64 (comW p q g bh bs l r).1, .bool (comW p q g bh bs l r).2]) ∧ Below w.heap.size w w' := by
  have hT0 : Below w.heap.size w ((w.alloc (.cells #[.int .i64 p, .int .i64 q, .int .i64 g] 28)).alloc (.cells #[.int .i64 bh, .slice A bs.length d] 38)) := by repeat (first | exact Below.refl _ _ | refine bnew ?_ _)
  go_enter Try.func22, Try.ntmps22
  go_wp2_with fail
  refine (isValidBasesI_any p q g bh A d bs hl _ (hx.next (by repeat (first | with_reducible assumption | exact Below.refl _ _ | refine bnew ?_ _)))).mono ?_
  rintro e1 w1 ⟨rfl, hb1⟩
  have hT1 : Below w.heap.size w w1 := bnext (by repeat (first | exact hT0 | refine bnew ?_ _ | refine Below.drew ?_ | refine Below.drewN ?_ _)) hb1
  have c1_0 : w1.cell? ⟨w.heap.size, 0, none⟩ = some (.int .i64 p) := by
    refine cell_keep hb1 ?_
    repeat (first | with_reducible assumption | (refine cell_new' ?_ _ _ _ rfl; focus (simp; done)) | with_reducible refine cell_keep (below_new _ _) ?_)
  have c1_1 : w1.cell? ⟨w.heap.size, 1, none⟩ = some (.int .i64 q) := by
    refine cell_keep hb1 ?_
    repeat (first | with_reducible assumption | (refine cell_new' ?_ _ _ _ rfl; focus (simp; done)) | with_reducible refine cell_keep (below_new _ _) ?_)
  have c1_2 : w1.cell? ⟨w.heap.size, 2, none⟩ = some (.int .i64 g) := by
    refine cell_keep hb1 ?_
    repeat (first | with_reducible assumption | (refine cell_new' ?_ _ _ _ rfl; focus (simp; done)) | with_reducible refine cell_keep (below_new _ _) ?_)
  have c1_3 : w1.cell? ⟨w.heap.size + 1, 0, none⟩ = some (.int .i64 bh) := by
    refine cell_keep hb1 ?_
    repeat (first | with_reducible assumption | (refine cell_new' ?_ _ _ _ rfl; focus (simp; done)) | with_reducible refine cell_keep (below_new _ _) ?_)
  have c1_4 : w1.cell? ⟨w.heap.size + 1, 1, none⟩ = some (.slice A bs.length d) := by
    refine cell_keep hb1 ?_
    repeat (first | with_reducible assumption | (refine cell_new' ?_ _ _ _ rfl; focus (simp; done)) | with_reducible refine cell_keep (below_new _ _) ?_)
  rcases Bool.eq_false_or_eq_true (l9B p q g bh bs) with h9 | h9
  rotate_left
  · have hR := Lib.hid (show comW p q g bh bs l r = (0, false) by unfold comW; rw [if_neg fun hh => Bool.false_ne_true (h9.symm.trans hh.1)])
    go_wp2
    go_ret2
    exact ⟨ret_ib (by rw [hR.out]) (by rw [hR.out]), hT1⟩
  obtain ⟨hg, hbb⟩ := l9B_of h9
  obtain ⟨l_bh, hb24, hbe⟩ := basesB_of hbb
  have d_bh := elem_bd l_bh
  have hG := M.goodB_of hg
  have g1 := hG.q2
  have g2 := hG.qp
  have g3 := hG.p3
  have g4 := hG.pM
  have HG := Lib.hid hG
  clear hG
  go_wp2_with fail
  refine (areExps_any p q g _ _ l _ (by omega) (hy.next (by repeat (first | assumption | refine bnew ?_ _))) hll).mono ?_
  rintro e2 w2 ⟨rfl, hb2⟩
  have hT2 : Below w.heap.size w w2 := bnext (by repeat (first | exact hT1 | refine bnew ?_ _ | refine Below.drew ?_ | refine Below.drewN ?_ _)) hb2
  have c2_0 : w2.cell? ⟨w.heap.size, 0, none⟩ = some (.int .i64 p) := by
    refine cell_keep hb2 ?_
    repeat (first | with_reducible assumption | (refine cell_new' ?_ _ _ _ rfl; focus (simp; done)) | with_reducible refine cell_keep (below_new _ _) ?_)
  have c2_1 : w2.cell? ⟨w.heap.size, 1, none⟩ = some (.int .i64 q) := by
    refine cell_keep hb2 ?_
    repeat (first | with_reducible assumption | (refine cell_new' ?_ _ _ _ rfl; focus (simp; done)) | with_reducible refine cell_keep (below_new _ _) ?_)
  have c2_2 : w2.cell? ⟨w.heap.size, 2, none⟩ = some (.int .i64 g) := by
    refine cell_keep hb2 ?_
    repeat (first | with_reducible assumption | (refine cell_new' ?_ _ _ _ rfl; focus (simp; done)) | with_reducible refine cell_keep (below_new _ _) ?_)
  have c2_3 : w2.cell? ⟨w.heap.size + 1, 0, none⟩ = some (.int .i64 bh) := by
    refine cell_keep hb2 ?_
    repeat (first | with_reducible assumption | (refine cell_new' ?_ _ _ _ rfl; focus (simp; done)) | with_reducible refine cell_keep (below_new _ _) ?_)
  have c2_4 : w2.cell? ⟨w.heap.size + 1, 1, none⟩ = some (.slice A bs.length d) := by
    refine cell_keep hb2 ?_
    repeat (first | with_reducible assumption | (refine cell_new' ?_ _ _ _ rfl; focus (simp; done)) | with_reducible refine cell_keep (below_new _ _) ?_)
  clear c1_0 c1_1 c1_2 c1_3 c1_4
  rcases Bool.eq_false_or_eq_true (expsB q l) with hs | hs
  rotate_left
  · have hR := Lib.hid (show comW p q g bh bs l r = (0, false) by unfold comW; rw [if_neg fun hh => Bool.false_ne_true (hs.symm.trans hh.2.1)])
    go_wp2
    go_ret2
    exact ⟨ret_ib (by rw [hR.out]) (by rw [hR.out]), hT2⟩
  go_wp2_with fail
  refine (isExp_any p q g r _ (by omega)).mono ?_
  rintro e3 w3 ⟨rfl, hb3⟩
  have hT3 : Below w.heap.size w w3 := bnext (by repeat (first | exact hT2 | refine bnew ?_ _ | refine Below.drew ?_ | refine Below.drewN ?_ _)) hb3
  have c3_0 : w3.cell? ⟨w.heap.size, 0, none⟩ = some (.int .i64 p) := by
    refine cell_keep hb3 ?_
    repeat (first | with_reducible assumption | (refine cell_new' ?_ _ _ _ rfl; focus (simp; done)) | with_reducible refine cell_keep (below_new _ _) ?_)
  have c3_1 : w3.cell? ⟨w.heap.size, 1, none⟩ = some (.int .i64 q) := by
    refine cell_keep hb3 ?_
    repeat (first | with_reducible assumption | (refine cell_new' ?_ _ _ _ rfl; focus (simp; done)) | with_reducible refine cell_keep (below_new _ _) ?_)
  have c3_2 : w3.cell? ⟨w.heap.size, 2, none⟩ = some (.int .i64 g) := by
    refine cell_keep hb3 ?_
    repeat (first | with_reducible assumption | (refine cell_new' ?_ _ _ _ rfl; focus (simp; done)) | with_reducible refine cell_keep (below_new _ _) ?_)
  have c3_3 : w3.cell? ⟨w.heap.size + 1, 0, none⟩ = some (.int .i64 bh) := by
    refine cell_keep hb3 ?_
    repeat (first | with_reducible assumption | (refine cell_new' ?_ _ _ _ rfl; focus (simp; done)) | with_reducible refine cell_keep (below_new _ _) ?_)
  have c3_4 : w3.cell? ⟨w.heap.size + 1, 1, none⟩ = some (.slice A bs.length d) := by
    refine cell_keep hb3 ?_
    repeat (first | with_reducible assumption | (refine cell_new' ?_ _ _ _ rfl; focus (simp; done)) | with_reducible refine cell_keep (below_new _ _) ?_)
  clear c2_0 c2_1 c2_2 c2_3 c2_4
  rcases Bool.eq_false_or_eq_true (inr r 0 (q - 1)) with h3 | h3
  rotate_left
  · have hR := Lib.hid (show comW p q g bh bs l r = (0, false) by unfold comW; rw [if_neg fun hh => Bool.false_ne_true (h3.symm.trans hh.2.2.1)])
    go_wp2
    go_ret2
    exact ⟨ret_ib (by rw [hR.out]) (by rw [hR.out]), hT3⟩
  have b_r := inr_exp h3
  rcases Bool.eq_false_or_eq_true (decide (l.length ≤ bs.length)) with h4 | h4
  rotate_left
  · have n4 := of_decide_eq_false h4
    have m4 : (bs.length : Int) < (l.length : Int) := by omega
    have hR := Lib.hid (show comW p q g bh bs l r = (0, false) by unfold comW; rw [if_neg fun hh => Bool.false_ne_true (h4.symm.trans hh.2.2.2)])
    go_wp2
    go_ret2
    exact ⟨ret_ib (by rw [hR.out]) (by rw [hR.out]), hT3⟩
  have n4 := of_decide_eq_true h4
  have m4 : ¬ (bs.length : Int) < (l.length : Int) := by omega
  have hR := Lib.hid (show comW p q g bh bs l r = (cmtW p q bh bs l r, true) by unfold comW; rw [if_pos ⟨h9, hs, h3, h4⟩])
  go_wp2_with fail
  refine (commitVector_any p q g bh r _ _ _ _ bs l HG.out d_bh b_r (fun x h => elemsB_mem hbe h) (fun e h => expsB_mem hs h) n4 hd hb24 _ (hx.next (by repeat (first | exact hT3 | refine bnew ?_ _ | refine Below.drew ?_ | refine Below.drewN ?_ _))) (hy.next (by repeat (first | exact hT3 | refine bnew ?_ _ | refine Below.drew ?_ | refine Below.drewN ?_ _)))).mono ?_
  rintro e4 w4 ⟨rfl, hb4⟩
  have hT4 : Below w.heap.size w w4 := bnext (by repeat (first | exact hT3 | refine bnew ?_ _ | refine Below.drew ?_ | refine Below.drewN ?_ _)) hb4
  have c4_0 : w4.cell? ⟨w.heap.size, 0, none⟩ = some (.int .i64 p) := by
    refine cell_keep hb4 ?_
    repeat (first | with_reducible assumption | (refine cell_new' ?_ _ _ _ rfl; focus (simp; done)) | with_reducible refine cell_keep (below_new _ _) ?_)
  have c4_1 : w4.cell? ⟨w.heap.size, 1, none⟩ = some (.int .i64 q) := by
    refine cell_keep hb4 ?_
    repeat (first | with_reducible assumption | (refine cell_new' ?_ _ _ _ rfl; focus (simp; done)) | with_reducible refine cell_keep (below_new _ _) ?_)
  have c4_2 : w4.cell? ⟨w.heap.size, 2, none⟩ = some (.int .i64 g) := by
    refine cell_keep hb4 ?_
    repeat (first | with_reducible assumption | (refine cell_new' ?_ _ _ _ rfl; focus (simp; done)) | with_reducible refine cell_keep (below_new _ _) ?_)
  have c4_3 : w4.cell? ⟨w.heap.size + 1, 0, none⟩ = some (.int .i64 bh) := by
    refine cell_keep hb4 ?_
    repeat (first | with_reducible assumption | (refine cell_new' ?_ _ _ _ rfl; focus (simp; done)) | with_reducible refine cell_keep (below_new _ _) ?_)
  have c4_4 : w4.cell? ⟨w.heap.size + 1, 1, none⟩ = some (.slice A bs.length d) := by
    refine cell_keep hb4 ?_
    repeat (first | with_reducible assumption | (refine cell_new' ?_ _ _ _ rfl; focus (simp; done)) | with_reducible refine cell_keep (below_new _ _) ?_)
  clear c3_0 c3_1 c3_2 c3_3 c3_4
  go_wp2
  go_ret2
  exact ⟨ret_ib (by rw [hR.out]) (by rw [hR.out]), hT4⟩
set_option maxHeartbeats 800000 in
theorem commitVectorS (p q g bh r : Int) (A E : Option Addr) (d f : Nat) (bs l : List Int) (hl : bs.length ≤ 9223372036854775807) (hll : l.length ≤ 9223372036854775807) (hd : bs.length ≤ d) (w : World) (hx : RI w w.heap.size A bs) (hy : RI w w.heap.size E l) :
    Calls Try.prog 20 #[.agg #[.int .i64 p, .int .i64 q, .int .i64 g], .agg #[.int .i64 bh, .slice A bs.length d], .slice E l.length f, .int .i64 r] w fun en w' => en = .returned (.tuple #[.int .i64 (comW p q g bh bs l r).1, .bool (comW p q g bh bs l r).2]) ∧ Below w.heap.size w w' := by
  have hT0 : Below w.heap.size w ((w.alloc (.cells #[.int .i64 p, .int .i64 q, .int .i64 g] 28)).alloc (.cells #[.int .i64 bh, .slice A bs.length d] 38)) := by repeat (first | exact Below.refl _ _ | refine bnew ?_ _)
  go_enter Try.func20, Try.ntmps20
  go_wp2_with fail
  refine (l9Good_any p q g bh A d bs hl _ (hx.next (by repeat (first | with_reducible assumption | exact Below.refl _ _ | refine bnew ?_ _)))).mono ?_
  rintro e1 w1 ⟨rfl, hb1⟩
  have hT1 : Below w.heap.size w w1 := bnext (by repeat (first | exact hT0 | refine bnew ?_ _ | refine Below.drew ?_ | refine Below.drewN ?_ _)) hb1
  have c1_0 : w1.cell? ⟨w.heap.size, 0, none⟩ = some (.int .i64 p) := by
    refine cell_keep hb1 ?_
    repeat (first | with_reducible assumption | (refine cell_new' ?_ _ _ _ rfl; focus (simp; done)) | with_reducible refine cell_keep (below_new _ _) ?_)
  have c1_1 : w1.cell? ⟨w.heap.size, 1, none⟩ = some (.int .i64 q) := by
    refine cell_keep hb1 ?_
    repeat (first | with_reducible assumption | (refine cell_new' ?_ _ _ _ rfl; focus (simp; done)) | with_reducible refine cell_keep (below_new _ _) ?_)
  have c1_2 : w1.cell? ⟨w.heap.size, 2, none⟩ = some (.int .i64 g) := by
    refine cell_keep hb1 ?_
    repeat (first | with_reducible assumption | (refine cell_new' ?_ _ _ _ rfl; focus (simp; done)) | with_reducible refine cell_keep (below_new _ _) ?_)
  have c1_3 : w1.cell? ⟨w.heap.size + 1, 0, none⟩ = some (.int .i64 bh) := by
    refine cell_keep hb1 ?_
    repeat (first | with_reducible assumption | (refine cell_new' ?_ _ _ _ rfl; focus (simp; done)) | with_reducible refine cell_keep (below_new _ _) ?_)
  have c1_4 : w1.cell? ⟨w.heap.size + 1, 1, none⟩ = some (.slice A bs.length d) := by
    refine cell_keep hb1 ?_
    repeat (first | with_reducible assumption | (refine cell_new' ?_ _ _ _ rfl; focus (simp; done)) | with_reducible refine cell_keep (below_new _ _) ?_)
  rcases Bool.eq_false_or_eq_true (l9B p q g bh bs) with h9 | h9
  rotate_left
  · have hR := Lib.hid (show comW p q g bh bs l r = (0, false) by unfold comW; rw [if_neg fun hh => Bool.false_ne_true (h9.symm.trans hh.1)])
    go_wp2
    go_ret2
    exact ⟨ret_ib (by rw [hR.out]) (by rw [hR.out]), hT1⟩
  obtain ⟨hg, hbb⟩ := l9B_of h9
  obtain ⟨l_bh, hb24, hbe⟩ := basesB_of hbb
  have d_bh := elem_bd l_bh
  have hG := M.goodB_of hg
  have g1 := hG.q2
  have g2 := hG.qp
  have g3 := hG.p3
  have g4 := hG.pM
  have HG := Lib.hid hG
  clear hG
  rcases Bool.eq_false_or_eq_true (decide (l.length ≤ bs.length)) with h4 | h4
  rotate_left
  · have n4 := of_decide_eq_false h4
    have m4 : (bs.length : Int) < (l.length : Int) := by omega
    have hR := Lib.hid (show comW p q g bh bs l r = (0, false) by unfold comW; rw [if_neg fun hh => Bool.false_ne_true (h4.symm.trans hh.2.2.2)])
    go_wp2
    go_ret2
    exact ⟨ret_ib (by rw [hR.out]) (by rw [hR.out]), hT1⟩
  have n4 := of_decide_eq_true h4
  have m4 : ¬ (bs.length : Int) < (l.length : Int) := by omega
  go_wp2_with fail
  refine (gExps_any p q g _ _ l _ (by omega) (hy.next (by repeat (first | assumption | refine bnew ?_ _))) hll).mono ?_
  rintro e2 w2 ⟨rfl, hb2⟩
  have hT2 : Below w.heap.size w w2 := bnext (by repeat (first | exact hT1 | refine bnew ?_ _ | refine Below.drew ?_ | refine Below.drewN ?_ _)) hb2
  have c2_0 : w2.cell? ⟨w.heap.size, 0, none⟩ = some (.int .i64 p) := by
    refine cell_keep hb2 ?_
    repeat (first | with_reducible assumption | (refine cell_new' ?_ _ _ _ rfl; focus (simp; done)) | with_reducible refine cell_keep (below_new _ _) ?_)
  have c2_1 : w2.cell? ⟨w.heap.size, 1, none⟩ = some (.int .i64 q) := by
    refine cell_keep hb2 ?_
    repeat (first | with_reducible assumption | (refine cell_new' ?_ _ _ _ rfl; focus (simp; done)) | with_reducible refine cell_keep (below_new _ _) ?_)
  have c2_2 : w2.cell? ⟨w.heap.size, 2, none⟩ = some (.int .i64 g) := by
    refine cell_keep hb2 ?_
    repeat (first | with_reducible assumption | (refine cell_new' ?_ _ _ _ rfl; focus (simp; done)) | with_reducible refine cell_keep (below_new _ _) ?_)
  have c2_3 : w2.cell? ⟨w.heap.size + 1, 0, none⟩ = some (.int .i64 bh) := by
    refine cell_keep hb2 ?_
    repeat (first | with_reducible assumption | (refine cell_new' ?_ _ _ _ rfl; focus (simp; done)) | with_reducible refine cell_keep (below_new _ _) ?_)
  have c2_4 : w2.cell? ⟨w.heap.size + 1, 1, none⟩ = some (.slice A bs.length d) := by
    refine cell_keep hb2 ?_
    repeat (first | with_reducible assumption | (refine cell_new' ?_ _ _ _ rfl; focus (simp; done)) | with_reducible refine cell_keep (below_new _ _) ?_)
  clear c1_0 c1_1 c1_2 c1_3 c1_4
  rcases Bool.eq_false_or_eq_true (expsB q l) with hs | hs
  rotate_left
  · have hR := Lib.hid (show comW p q g bh bs l r = (0, false) by unfold comW; rw [if_neg fun hh => Bool.false_ne_true (hs.symm.trans hh.2.1)])
    go_wp2
    go_ret2
    exact ⟨ret_ib (by rw [hR.out]) (by rw [hR.out]), hT2⟩
  go_wp2_with fail
  refine (gExps_any p q g _ _ [r] _ (by omega) (RI.lit _ [r] _ (by simp)) (by simp)).mono ?_
  rw [show expsB q [r] = inr r 0 (q - 1) from by simp [expsB]]
  rintro e3 w3 ⟨rfl, hb3⟩
  have hT3 : Below w.heap.size w w3 := bnext (by repeat (first | exact hT2 | refine bnew ?_ _ | refine Below.drew ?_ | refine Below.drewN ?_ _)) hb3
  have c3_0 : w3.cell? ⟨w.heap.size, 0, none⟩ = some (.int .i64 p) := by
    refine cell_keep hb3 ?_
    repeat (first | with_reducible assumption | (refine cell_new' ?_ _ _ _ rfl; focus (simp; done)) | with_reducible refine cell_keep (below_new _ _) ?_)
  have c3_1 : w3.cell? ⟨w.heap.size, 1, none⟩ = some (.int .i64 q) := by
    refine cell_keep hb3 ?_
    repeat (first | with_reducible assumption | (refine cell_new' ?_ _ _ _ rfl; focus (simp; done)) | with_reducible refine cell_keep (below_new _ _) ?_)
  have c3_2 : w3.cell? ⟨w.heap.size, 2, none⟩ = some (.int .i64 g) := by
    refine cell_keep hb3 ?_
    repeat (first | with_reducible assumption | (refine cell_new' ?_ _ _ _ rfl; focus (simp; done)) | with_reducible refine cell_keep (below_new _ _) ?_)
  have c3_3 : w3.cell? ⟨w.heap.size + 1, 0, none⟩ = some (.int .i64 bh) := by
    refine cell_keep hb3 ?_
    repeat (first | with_reducible assumption | (refine cell_new' ?_ _ _ _ rfl; focus (simp; done)) | with_reducible refine cell_keep (below_new _ _) ?_)
  have c3_4 : w3.cell? ⟨w.heap.size + 1, 1, none⟩ = some (.slice A bs.length d) := by
    refine cell_keep hb3 ?_
    repeat (first | with_reducible assumption | (refine cell_new' ?_ _ _ _ rfl; focus (simp; done)) | with_reducible refine cell_keep (below_new _ _) ?_)
  clear c2_0 c2_1 c2_2 c2_3 c2_4
  rcases Bool.eq_false_or_eq_true (inr r 0 (q - 1)) with h3 | h3
  rotate_left
  · have hR := Lib.hid (show comW p q g bh bs l r = (0, false) by unfold comW; rw [if_neg fun hh => Bool.false_ne_true (h3.symm.trans hh.2.2.1)])
    go_wp2
    go_ret2
    exact ⟨ret_ib (by rw [hR.out]) (by rw [hR.out]), hT3⟩
  have b_r := inr_exp h3
  have hR := Lib.hid (show comW p q g bh bs l r = (cmtW p q bh bs l r, true) by unfold comW; rw [if_pos ⟨h9, hs, h3, h4⟩])
  go_wp2_with fail
  refine (pVector_any p q g bh r _ _ _ _ bs l HG.out d_bh b_r (fun x h => elemsB_mem hbe h) (fun e h => expsB_mem hs h) n4 hd hb24 _ (hx.next (by repeat (first | exact hT3 | refine bnew ?_ _ | refine Below.drew ?_ | refine Below.drewN ?_ _))) (hy.next (by repeat (first | exact hT3 | refine bnew ?_ _ | refine Below.drew ?_ | refine Below.drewN ?_ _)))).mono ?_
  rintro e4 w4 ⟨rfl, hb4⟩
  have hT4 : Below w.heap.size w w4 := bnext (by repeat (first | exact hT3 | refine bnew ?_ _ | refine Below.drew ?_ | refine Below.drewN ?_ _)) hb4
  have c4_0 : w4.cell? ⟨w.heap.size, 0, none⟩ = some (.int .i64 p) := by
    refine cell_keep hb4 ?_
    repeat (first | with_reducible assumption | (refine cell_new' ?_ _ _ _ rfl; focus (simp; done)) | with_reducible refine cell_keep (below_new _ _) ?_)
  have c4_1 : w4.cell? ⟨w.heap.size, 1, none⟩ = some (.int .i64 q) := by
    refine cell_keep hb4 ?_
    repeat (first | with_reducible assumption | (refine cell_new' ?_ _ _ _ rfl; focus (simp; done)) | with_reducible refine cell_keep (below_new _ _) ?_)
  have c4_2 : w4.cell? ⟨w.heap.size, 2, none⟩ = some (.int .i64 g) := by
    refine cell_keep hb4 ?_
    repeat (first | with_reducible assumption | (refine cell_new' ?_ _ _ _ rfl; focus (simp; done)) | with_reducible refine cell_keep (below_new _ _) ?_)
  have c4_3 : w4.cell? ⟨w.heap.size + 1, 0, none⟩ = some (.int .i64 bh) := by
    refine cell_keep hb4 ?_
    repeat (first | with_reducible assumption | (refine cell_new' ?_ _ _ _ rfl; focus (simp; done)) | with_reducible refine cell_keep (below_new _ _) ?_)
  have c4_4 : w4.cell? ⟨w.heap.size + 1, 1, none⟩ = some (.slice A bs.length d) := by
    refine cell_keep hb4 ?_
    repeat (first | with_reducible assumption | (refine cell_new' ?_ _ _ _ rfl; focus (simp; done)) | with_reducible refine cell_keep (below_new _ _) ?_)
  clear c3_0 c3_1 c3_2 c3_3 c3_4
  go_wp2
  go_ret2
  exact ⟨ret_ib (by rw [hR.out]) (by rw [hR.out]), hT4⟩
set_option maxHeartbeats 800000 in
theorem checkVectorI (p q g bh c r : Int) (A E : Option Addr) (d f : Nat) (bs l : List Int) (hl : bs.length ≤ 9223372036854775807) (hll : l.length ≤ 9223372036854775807) (hd : bs.length ≤ d) (w : World) (hx : RI w w.heap.size A bs) (hy : RI w w.heap.size E l) :
    Calls Try.prog 25 #[.agg #[.int .i64 p, .int .i64 q, .int .i64 g], .agg #[.int .i64 bh, .slice A bs.length d], .int .i64 c, .slice E l.length f, .int .i64 r] w fun en w' => en = .returned (.tuple #[.bool (chkW p q g bh bs c l r).1, .bool (chkW p q g bh bs c l r).2]) ∧ Below w.heap.size w w' := by
  have hT0 : Below w.heap.size w ((w.alloc (.cells #[.int .i64 p, .int .i64 q, .int .i64 g] 28)).alloc (.cells #[.int .i64 bh, .slice A bs.length d] 38)) := by repeat (first | exact Below.refl _ _ | refine bnew ?_ _)
  go_enter Try.func25, Try.ntmps25
  go_wp2_with fail
  refine (commitVectorI p q g bh r A E d f bs l hl hll hd _ (hx.next (by repeat (first | exact hT0 | refine bnew ?_ _ | refine Below.drew ?_ | refine Below.drewN ?_ _))) (hy.next (by repeat (first | exact hT0 | refine bnew ?_ _ | refine Below.drew ?_ | refine Below.drewN ?_ _)))).mono ?_
  rintro e1 w1 ⟨rfl, hb1⟩
  have hT1 : Below w.heap.size w w1 := bnext (by repeat (first | exact hT0 | refine bnew ?_ _ | refine Below.drew ?_ | refine Below.drewN ?_ _)) hb1
  have c1_0 : w1.cell? ⟨w.heap.size, 0, none⟩ = some (.int .i64 p) := by
    refine cell_keep hb1 ?_
    repeat (first | with_reducible assumption | (refine cell_new' ?_ _ _ _ rfl; focus (simp; done)) | with_reducible refine cell_keep (below_new _ _) ?_)
  have c1_1 : w1.cell? ⟨w.heap.size, 1, none⟩ = some (.int .i64 q) := by
    refine cell_keep hb1 ?_
    repeat (first | with_reducible assumption | (refine cell_new' ?_ _ _ _ rfl; focus (simp; done)) | with_reducible refine cell_keep (below_new _ _) ?_)
  have c1_2 : w1.cell? ⟨w.heap.size, 2, none⟩ = some (.int .i64 g) := by
    refine cell_keep hb1 ?_
    repeat (first | with_reducible assumption | (refine cell_new' ?_ _ _ _ rfl; focus (simp; done)) | with_reducible refine cell_keep (below_new _ _) ?_)
  have c1_3 : w1.cell? ⟨w.heap.size + 1, 0, none⟩ = some (.int .i64 bh) := by
    refine cell_keep hb1 ?_
    repeat (first | with_reducible assumption | (refine cell_new' ?_ _ _ _ rfl; focus (simp; done)) | with_reducible refine cell_keep (below_new _ _) ?_)
  have c1_4 : w1.cell? ⟨w.heap.size + 1, 1, none⟩ = some (.slice A bs.length d) := by
    refine cell_keep hb1 ?_
    repeat (first | with_reducible assumption | (refine cell_new' ?_ _ _ _ rfl; focus (simp; done)) | with_reducible refine cell_keep (below_new _ _) ?_)
  rcases Bool.eq_false_or_eq_true (l9B p q g bh bs) with h9 | h9
  rotate_left
  · have hR := Lib.hid (show chkW p q g bh bs c l r = (false, false) by unfold chkW; rw [if_neg fun hh => Bool.false_ne_true (h9.symm.trans hh.1)])
    have hE : comW p q g bh bs l r = (0, false) := by unfold comW; rw [if_neg fun hh => Bool.false_ne_true (h9.symm.trans hh.1)]
    go_wp2
    go_ret2
    exact ⟨ret_bb (by rw [hR.out]) (by rw [hR.out]), hT1⟩
  obtain ⟨hg, hbb⟩ := l9B_of h9
  obtain ⟨l_bh, hb24, hbe⟩ := basesB_of hbb
  have d_bh := elem_bd l_bh
  have hG := M.goodB_of hg
  have g1 := hG.q2
  have g2 := hG.qp
  have g3 := hG.p3
  have g4 := hG.pM
  have HG := Lib.hid hG
  clear hG
  rcases Bool.eq_false_or_eq_true (expsB q l) with hs | hs
  rotate_left
  · have hR := Lib.hid (show chkW p q g bh bs c l r = (false, false) by unfold chkW; rw [if_neg fun hh => Bool.false_ne_true (hs.symm.trans hh.2.1)])
    have hE : comW p q g bh bs l r = (0, false) := by unfold comW; rw [if_neg fun hh => Bool.false_ne_true (hs.symm.trans hh.2.1)]
    go_wp2
    go_ret2
    exact ⟨ret_bb (by rw [hR.out]) (by rw [hR.out]), hT1⟩
  rcases Bool.eq_false_or_eq_true (inr r 0 (q - 1)) with h3 | h3
  rotate_left
  · have hR := Lib.hid (show chkW p q g bh bs c l r = (false, false) by unfold chkW; rw [if_neg fun hh => Bool.false_ne_true (h3.symm.trans hh.2.2.1)])
    have hE : comW p q g bh bs l r = (0, false) := by unfold comW; rw [if_neg fun hh => Bool.false_ne_true (h3.symm.trans hh.2.2.1)]
    go_wp2
    go_ret2
    exact ⟨ret_bb (by rw [hR.out]) (by rw [hR.out]), hT1⟩
  rcases Bool.eq_false_or_eq_true (decide (l.length ≤ bs.length)) with h4 | h4
  rotate_left
  · have hR := Lib.hid (show chkW p q g bh bs c l r = (false, false) by unfold chkW; rw [if_neg fun hh => Bool.false_ne_true (h4.symm.trans hh.2.2.2.1)])
    have hE : comW p q g bh bs l r = (0, false) := by unfold comW; rw [if_neg fun hh => Bool.false_ne_true (h4.symm.trans hh.2.2.2)]
    go_wp2
    go_ret2
    exact ⟨ret_bb (by rw [hR.out]) (by rw [hR.out]), hT1⟩
  have hE : comW p q g bh bs l r = (cmtW p q bh bs l r, true) := by unfold comW; rw [if_pos ⟨h9, hs, h3, h4⟩]
  go_wp2_with fail
  refine (has_any p q g c HG.out _).mono ?_
  rintro e2 w2 ⟨rfl, hb2⟩
  have hT2 : Below w.heap.size w w2 := bnext (by repeat (first | exact hT1 | refine bnew ?_ _ | refine Below.drew ?_ | refine Below.drewN ?_ _)) hb2
  have c2_0 : w2.cell? ⟨w.heap.size, 0, none⟩ = some (.int .i64 p) := by
    refine cell_keep hb2 ?_
    repeat (first | with_reducible assumption | (refine cell_new' ?_ _ _ _ rfl; focus (simp; done)) | with_reducible refine cell_keep (below_new _ _) ?_)
  have c2_1 : w2.cell? ⟨w.heap.size, 1, none⟩ = some (.int .i64 q) := by
    refine cell_keep hb2 ?_
    repeat (first | with_reducible assumption | (refine cell_new' ?_ _ _ _ rfl; focus (simp; done)) | with_reducible refine cell_keep (below_new _ _) ?_)
  have c2_2 : w2.cell? ⟨w.heap.size, 2, none⟩ = some (.int .i64 g) := by
    refine cell_keep hb2 ?_
    repeat (first | with_reducible assumption | (refine cell_new' ?_ _ _ _ rfl; focus (simp; done)) | with_reducible refine cell_keep (below_new _ _) ?_)
  have c2_3 : w2.cell? ⟨w.heap.size + 1, 0, none⟩ = some (.int .i64 bh) := by
    refine cell_keep hb2 ?_
    repeat (first | with_reducible assumption | (refine cell_new' ?_ _ _ _ rfl; focus (simp; done)) | with_reducible refine cell_keep (below_new _ _) ?_)
  have c2_4 : w2.cell? ⟨w.heap.size + 1, 1, none⟩ = some (.slice A bs.length d) := by
    refine cell_keep hb2 ?_
    repeat (first | with_reducible assumption | (refine cell_new' ?_ _ _ _ rfl; focus (simp; done)) | with_reducible refine cell_keep (below_new _ _) ?_)
  clear c1_0 c1_1 c1_2 c1_3 c1_4
  rcases Bool.eq_false_or_eq_true (elemB p q c) with h5 | h5
  rotate_left
  · have hR := Lib.hid (show chkW p q g bh bs c l r = (false, false) by unfold chkW; rw [if_neg fun hh => Bool.false_ne_true (h5.symm.trans hh.2.2.2.2)])
    go_wp2
    go_ret2
    exact ⟨ret_bb (by rw [hR.out]) (by rw [hR.out]), hT2⟩
  have hR := Lib.hid (show chkW p q g bh bs c l r = (cmtW p q bh bs l r == c, true) by unfold chkW; rw [if_pos ⟨h9, hs, h3, h4, h5⟩])
  go_wp2
  go_ret2
  exact ⟨ret_bb (by rw [hR.out]) (by rw [hR.out]), hT2⟩
set_option maxHeartbeats 800000 in
theorem checkVectorS (p q g bh c r : Int) (A E : Option Addr) (d f : Nat) (bs l : List Int) (hl : bs.length ≤ 9223372036854775807) (hll : l.length ≤ 9223372036854775807) (hd : bs.length ≤ d) (w : World) (hx : RI w w.heap.size A bs) (hy : RI w w.heap.size E l) :
    Calls Try.prog 24 #[.agg #[.int .i64 p, .int .i64 q, .int .i64 g], .agg #[.int .i64 bh, .slice A bs.length d], .int .i64 c, .slice E l.length f, .int .i64 r] w fun en w' => en = .returned (.tuple #[.bool (chkW p q g bh bs c l r).1, .bool (chkW p q g bh bs c l r).2]) ∧ Below w.heap.size w w' := by
  have hT0 : Below w.heap.size w ((w.alloc (.cells #[.int .i64 p, .int .i64 q, .int .i64 g] 28)).alloc (.cells #[.int .i64 bh, .slice A bs.length d] 38)) := by repeat (first | exact Below.refl _ _ | refine bnew ?_ _)
  go_enter Try.func24, Try.ntmps24
  go_wp2_with fail
  refine (commitVectorS p q g bh r A E d f bs l hl hll hd _ (hx.next (by repeat (first | exact hT0 | refine bnew ?_ _ | refine Below.drew ?_ | refine Below.drewN ?_ _))) (hy.next (by repeat (first | exact hT0 | refine bnew ?_ _ | refine Below.drew ?_ | refine Below.drewN ?_ _)))).mono ?_
  rintro e1 w1 ⟨rfl, hb1⟩
  have hT1 : Below w.heap.size w w1 := bnext (by repeat (first | exact hT0 | refine bnew ?_ _ | refine Below.drew ?_ | refine Below.drewN ?_ _)) hb1
  have c1_0 : w1.cell? ⟨w.heap.size, 0, none⟩ = some (.int .i64 p) := by
    refine cell_keep hb1 ?_
    repeat (first | with_reducible assumption | (refine cell_new' ?_ _ _ _ rfl; focus (simp; done)) | with_reducible refine cell_keep (below_new _ _) ?_)
  have c1_1 : w1.cell? ⟨w.heap.size, 1, none⟩ = some (.int .i64 q) := by
    refine cell_keep hb1 ?_
    repeat (first | with_reducible assumption | (refine cell_new' ?_ _ _ _ rfl; focus (simp; done)) | with_reducible refine cell_keep (below_new _ _) ?_)
  have c1_2 : w1.cell? ⟨w.heap.size, 2, none⟩ = some (.int .i64 g) := by
    refine cell_keep hb1 ?_
    repeat (first | with_reducible assumption | (refine cell_new' ?_ _ _ _ rfl; focus (simp; done)) | with_reducible refine cell_keep (below_new _ _) ?_)
  have c1_3 : w1.cell? ⟨w.heap.size + 1, 0, none⟩ = some (.int .i64 bh) := by
    refine cell_keep hb1 ?_
    repeat (first | with_reducible assumption | (refine cell_new' ?_ _ _ _ rfl; focus (simp; done)) | with_reducible refine cell_keep (below_new _ _) ?_)
  have c1_4 : w1.cell? ⟨w.heap.size + 1, 1, none⟩ = some (.slice A bs.length d) := by
    refine cell_keep hb1 ?_
    repeat (first | with_reducible assumption | (refine cell_new' ?_ _ _ _ rfl; focus (simp; done)) | with_reducible refine cell_keep (below_new _ _) ?_)
  rcases Bool.eq_false_or_eq_true (l9B p q g bh bs) with h9 | h9
  rotate_left
  · have hR := Lib.hid (show chkW p q g bh bs c l r = (false, false) by unfold chkW; rw [if_neg fun hh => Bool.false_ne_true (h9.symm.trans hh.1)])
    have hE : comW p q g bh bs l r = (0, false) := by unfold comW; rw [if_neg fun hh => Bool.false_ne_true (h9.symm.trans hh.1)]
    go_wp2
    go_ret2
    exact ⟨ret_bb (by rw [hR.out]) (by rw [hR.out]), hT1⟩
  obtain ⟨hg, hbb⟩ := l9B_of h9
  obtain ⟨l_bh, hb24, hbe⟩ := basesB_of hbb
  have d_bh := elem_bd l_bh
  have hG := M.goodB_of hg
  have g1 := hG.q2
  have g2 := hG.qp
  have g3 := hG.p3
  have g4 := hG.pM
  have HG := Lib.hid hG
  clear hG
  rcases Bool.eq_false_or_eq_true (expsB q l) with hs | hs
  rotate_left
  · have hR := Lib.hid (show chkW p q g bh bs c l r = (false, false) by unfold chkW; rw [if_neg fun hh => Bool.false_ne_true (hs.symm.trans hh.2.1)])
    have hE : comW p q g bh bs l r = (0, false) := by unfold comW; rw [if_neg fun hh => Bool.false_ne_true (hs.symm.trans hh.2.1)]
    go_wp2
    go_ret2
    exact ⟨ret_bb (by rw [hR.out]) (by rw [hR.out]), hT1⟩
  rcases Bool.eq_false_or_eq_true (inr r 0 (q - 1)) with h3 | h3
  rotate_left
  · have hR := Lib.hid (show chkW p q g bh bs c l r = (false, false) by unfold chkW; rw [if_neg fun hh => Bool.false_ne_true (h3.symm.trans hh.2.2.1)])
    have hE : comW p q g bh bs l r = (0, false) := by unfold comW; rw [if_neg fun hh => Bool.false_ne_true (h3.symm.trans hh.2.2.1)]
    go_wp2
    go_ret2
    exact ⟨ret_bb (by rw [hR.out]) (by rw [hR.out]), hT1⟩
  rcases Bool.eq_false_or_eq_true (decide (l.length ≤ bs.length)) with h4 | h4
  rotate_left
  · have hR := Lib.hid (show chkW p q g bh bs c l r = (false, false) by unfold chkW; rw [if_neg fun hh => Bool.false_ne_true (h4.symm.trans hh.2.2.2.1)])
    have hE : comW p q g bh bs l r = (0, false) := by unfold comW; rw [if_neg fun hh => Bool.false_ne_true (h4.symm.trans hh.2.2.2)]
    go_wp2
    go_ret2
    exact ⟨ret_bb (by rw [hR.out]) (by rw [hR.out]), hT1⟩
  have hE : comW p q g bh bs l r = (cmtW p q bh bs l r, true) := by unfold comW; rw [if_pos ⟨h9, hs, h3, h4⟩]
  go_wp2_with fail
  refine (gIs_any p q g HG.out _ _ [c] (by simp) _ (RI.lit _ [c] _ (by simp))).mono ?_
  rw [show elemsB p q [c] = elemB p q c from by simp [elemsB]]
  rintro e2 w2 ⟨rfl, hb2⟩
  have hT2 : Below w.heap.size w w2 := bnext (by repeat (first | exact hT1 | refine bnew ?_ _ | refine Below.drew ?_ | refine Below.drewN ?_ _)) hb2
  have c2_0 : w2.cell? ⟨w.heap.size, 0, none⟩ = some (.int .i64 p) := by
    refine cell_keep hb2 ?_
    repeat (first | with_reducible assumption | (refine cell_new' ?_ _ _ _ rfl; focus (simp; done)) | with_reducible refine cell_keep (below_new _ _) ?_)
  have c2_1 : w2.cell? ⟨w.heap.size, 1, none⟩ = some (.int .i64 q) := by
    refine cell_keep hb2 ?_
    repeat (first | with_reducible assumption | (refine cell_new' ?_ _ _ _ rfl; focus (simp; done)) | with_reducible refine cell_keep (below_new _ _) ?_)
  have c2_2 : w2.cell? ⟨w.heap.size, 2, none⟩ = some (.int .i64 g) := by
    refine cell_keep hb2 ?_
    repeat (first | with_reducible assumption | (refine cell_new' ?_ _ _ _ rfl; focus (simp; done)) | with_reducible refine cell_keep (below_new _ _) ?_)
  have c2_3 : w2.cell? ⟨w.heap.size + 1, 0, none⟩ = some (.int .i64 bh) := by
    refine cell_keep hb2 ?_
    repeat (first | with_reducible assumption | (refine cell_new' ?_ _ _ _ rfl; focus (simp; done)) | with_reducible refine cell_keep (below_new _ _) ?_)
  have c2_4 : w2.cell? ⟨w.heap.size + 1, 1, none⟩ = some (.slice A bs.length d) := by
    refine cell_keep hb2 ?_
    repeat (first | with_reducible assumption | (refine cell_new' ?_ _ _ _ rfl; focus (simp; done)) | with_reducible refine cell_keep (below_new _ _) ?_)
  clear c1_0 c1_1 c1_2 c1_3 c1_4
  rcases Bool.eq_false_or_eq_true (elemB p q c) with h5 | h5
  rotate_left
  · have hR := Lib.hid (show chkW p q g bh bs c l r = (false, false) by unfold chkW; rw [if_neg fun hh => Bool.false_ne_true (h5.symm.trans hh.2.2.2.2)])
    go_wp2
    go_ret2
    exact ⟨ret_bb (by rw [hR.out]) (by rw [hR.out]), hT2⟩
  have hR := Lib.hid (show chkW p q g bh bs c l r = (cmtW p q bh bs l r == c, true) by unfold chkW; rw [if_pos ⟨h9, hs, h3, h4, h5⟩])
  go_wp2
  go_ret2
  exact ⟨ret_bb (by rw [hR.out]) (by rw [hR.out]), hT2⟩
end Go.Proofs.Ytekfeplaphemkaa
