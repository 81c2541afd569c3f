/- FnExactCheckShare returns true for every input. No condition. -/
import Derived.Test.YtiiddgpjeknahaaS2
import Derived.Test.YtiiddgpjeknahaaL1
import Derived.Test.YtiiddgpjeknahaaL2
import Derived.Test.YtiiddgpjeknahaaOpen
namespace Go.Proofs.Ytiiddgpjeknahaa.pCheckShare
open Go.ChangeShapes Go.WideShapes Go.ChangeAt Go.RowKit Go.Joins
theorem own : ownKnob Try.prog.godebug = none := by kernel_rfl
theorem cellsG : Try.prog.cellsOf 23 = 3 := by kernel_rfl
set_option maxHeartbeats 1600000 in
theorem walk (p q g : Int) (A_xs : Option Addr) (c_xs : Nat) (xs : List Int) (i : Int) (s : Int) (w : World) (hx_xs : RI w w.heap.size A_xs xs) (hl_xs : xs.length ≤ 9223372036854775807) : Calls Try.prog 5 #[.agg #[.int .i64 p, .int .i64 q, .int .i64 g], .slice A_xs xs.length c_xs, .int .i64 i, .int .i64 s] w fun e w' => e = .returned (.bool true) ∧ Below w.heap.size w w' := by
  have hT0 : Below w.heap.size w (w.alloc (.cells #[.int .i64 p, .int .i64 q, .int .i64 g] 23)) := by repeat (first | exact Below.refl _ _ | refine bnew ?_ _)
  go_enter Try.func5, Try.ntmps5
  by_cases big_xs : (1048576 : Int) < (xs.length : Int)
  · go_wp2
    go_ret
    exact ⟨rfl, hT0⟩
  go_wp2_with fail
  refine (toGroup_any _ _ _ _).mono ?_
  rintro e1 w1 ⟨rfl, hb1⟩
  have hT1 : Below w.heap.size w w1 := bnext (by repeat (first | exact hT0 | refine bnew ?_ _ | refine Below.drew ?_ | refine Below.drewN ?_ _)) hb1
  have c1_0 : w1.cell? ⟨w.heap.size, 0, none⟩ = some (.int .i64 p) := by
    refine cell_keep hb1 ?_
    repeat (first | with_reducible assumption | (refine cell_new' ?_ _ _ _ rfl; focus (simp; done)) | with_reducible refine cell_keep (below_new _ _) ?_)
  have c1_1 : w1.cell? ⟨w.heap.size, 1, none⟩ = some (.int .i64 q) := by
    refine cell_keep hb1 ?_
    repeat (first | with_reducible assumption | (refine cell_new' ?_ _ _ _ rfl; focus (simp; done)) | with_reducible refine cell_keep (below_new _ _) ?_)
  have c1_2 : w1.cell? ⟨w.heap.size, 2, none⟩ = some (.int .i64 g) := by
    refine cell_keep hb1 ?_
    repeat (first | with_reducible assumption | (refine cell_new' ?_ _ _ _ rfl; focus (simp; done)) | with_reducible refine cell_keep (below_new _ _) ?_)
  go_wp2_with fail
  refine (toIntS_any _ _ _ (by omega) _ (by refine RI.next (by with_reducible assumption) ?_; repeat (first | exact Below.refl _ _ | with_reducible assumption | with_reducible refine bnext ?_ (by with_reducible assumption) | with_reducible refine bnew ?_ _ | with_reducible refine Below.drew ?_))).mono ?_
  rintro e2 w2 ⟨A2, c2, rfl, ho2, hb2⟩
  have hT2 : Below w.heap.size w w2 := bnext (by repeat (first | exact hT1 | refine bnew ?_ _ | refine Below.drew ?_ | refine Below.drewN ?_ _)) hb2
  have c2_0 : w2.cell? ⟨w.heap.size, 0, none⟩ = some (.int .i64 p) := by
    refine cell_keep hb2 ?_
    repeat (first | with_reducible assumption | (refine cell_new' ?_ _ _ _ rfl; focus (simp; done)) | with_reducible refine cell_keep (below_new _ _) ?_)
  have c2_1 : w2.cell? ⟨w.heap.size, 1, none⟩ = some (.int .i64 q) := by
    refine cell_keep hb2 ?_
    repeat (first | with_reducible assumption | (refine cell_new' ?_ _ _ _ rfl; focus (simp; done)) | with_reducible refine cell_keep (below_new _ _) ?_)
  have c2_2 : w2.cell? ⟨w.heap.size, 2, none⟩ = some (.int .i64 g) := by
    refine cell_keep hb2 ?_
    repeat (first | with_reducible assumption | (refine cell_new' ?_ _ _ _ rfl; focus (simp; done)) | with_reducible refine cell_keep (below_new _ _) ?_)
  clear c1_0 c1_1 c1_2
  go_wp2_with fail
  refine (checkShareS i s p q g _ _ xs hl_xs _ (by refine RI.next (OI.ri (by with_reducible assumption)) ?_; repeat (first | exact Below.refl _ _ | with_reducible assumption | with_reducible refine bnext ?_ (by with_reducible assumption) | with_reducible refine bnew ?_ _ | with_reducible refine Below.drew ?_))).mono ?_
  rintro e3 w3 ⟨rfl, hb3⟩
  have hT3 : Below w.heap.size w w3 := bnext (by repeat (first | exact hT2 | refine bnew ?_ _ | refine Below.drew ?_ | refine Below.drewN ?_ _)) hb3
  have c3_0 : w3.cell? ⟨w.heap.size, 0, none⟩ = some (.int .i64 p) := by
    refine cell_keep hb3 ?_
    repeat (first | with_reducible assumption | (refine cell_new' ?_ _ _ _ rfl; focus (simp; done)) | with_reducible refine cell_keep (below_new _ _) ?_)
  have c3_1 : w3.cell? ⟨w.heap.size, 1, none⟩ = some (.int .i64 q) := by
    refine cell_keep hb3 ?_
    repeat (first | with_reducible assumption | (refine cell_new' ?_ _ _ _ rfl; focus (simp; done)) | with_reducible refine cell_keep (below_new _ _) ?_)
  have c3_2 : w3.cell? ⟨w.heap.size, 2, none⟩ = some (.int .i64 g) := by
    refine cell_keep hb3 ?_
    repeat (first | with_reducible assumption | (refine cell_new' ?_ _ _ _ rfl; focus (simp; done)) | with_reducible refine cell_keep (below_new _ _) ?_)
  clear c2_0 c2_1 c2_2
  have hS3 : Below w2.heap.size w2 w3 := bnext (by repeat (first | exact Below.refl _ _ | refine bnew ?_ _ | refine Below.drew ?_ | refine Below.drewN ?_ _)) hb3
  have ho2_3 := ho2.below hS3
  clear ho2
  go_wp2_with fail
  refine (toIntS_any _ _ _ (by omega) _ (by refine RI.next (by with_reducible assumption) ?_; repeat (first | exact Below.refl _ _ | with_reducible assumption | with_reducible refine bnext ?_ (by with_reducible assumption) | with_reducible refine bnew ?_ _ | with_reducible refine Below.drew ?_))).mono ?_
  rintro e4 w4 ⟨A4, c4, rfl, ho4, hb4⟩
  have hT4 : Below w.heap.size w w4 := bnext (by repeat (first | exact hT3 | refine bnew ?_ _ | refine Below.drew ?_ | refine Below.drewN ?_ _)) hb4
  have c4_0 : w4.cell? ⟨w.heap.size, 0, none⟩ = some (.int .i64 p) := by
    refine cell_keep hb4 ?_
    repeat (first | with_reducible assumption | (refine cell_new' ?_ _ _ _ rfl; focus (simp; done)) | with_reducible refine cell_keep (below_new _ _) ?_)
  have c4_1 : w4.cell? ⟨w.heap.size, 1, none⟩ = some (.int .i64 q) := by
    refine cell_keep hb4 ?_
    repeat (first | with_reducible assumption | (refine cell_new' ?_ _ _ _ rfl; focus (simp; done)) | with_reducible refine cell_keep (below_new _ _) ?_)
  have c4_2 : w4.cell? ⟨w.heap.size, 2, none⟩ = some (.int .i64 g) := by
    refine cell_keep hb4 ?_
    repeat (first | with_reducible assumption | (refine cell_new' ?_ _ _ _ rfl; focus (simp; done)) | with_reducible refine cell_keep (below_new _ _) ?_)
  clear c3_0 c3_1 c3_2
  have hS4 : Below w3.heap.size w3 w4 := bnext (by repeat (first | exact Below.refl _ _ | refine bnew ?_ _ | refine Below.drew ?_ | refine Below.drewN ?_ _)) hb4
  have ho2_4 := ho2_3.below hS4
  clear ho2_3
  go_wp2_with fail
  refine (toGroup_any _ _ _ _).mono ?_
  rintro e5 w5 ⟨rfl, hb5⟩
  have hT5 : Below w.heap.size w w5 := bnext (by repeat (first | exact hT4 | refine bnew ?_ _ | refine Below.drew ?_ | refine Below.drewN ?_ _)) hb5
  have c5_0 : w5.cell? ⟨w.heap.size, 0, none⟩ = some (.int .i64 p) := by
    refine cell_keep hb5 ?_
    repeat (first | with_reducible assumption | (refine cell_new' ?_ _ _ _ rfl; focus (simp; done)) | with_reducible refine cell_keep (below_new _ _) ?_)
  have c5_1 : w5.cell? ⟨w.heap.size, 1, none⟩ = some (.int .i64 q) := by
    refine cell_keep hb5 ?_
    repeat (first | with_reducible assumption | (refine cell_new' ?_ _ _ _ rfl; focus (simp; done)) | with_reducible refine cell_keep (below_new _ _) ?_)
  have c5_2 : w5.cell? ⟨w.heap.size, 2, none⟩ = some (.int .i64 g) := by
    refine cell_keep hb5 ?_
    repeat (first | with_reducible assumption | (refine cell_new' ?_ _ _ _ rfl; focus (simp; done)) | with_reducible refine cell_keep (below_new _ _) ?_)
  clear c4_0 c4_1 c4_2
  have hS5 : Below w4.heap.size w4 w5 := bnext (by repeat (first | exact Below.refl _ _ | refine bnew ?_ _ | refine Below.drew ?_ | refine Below.drewN ?_ _)) hb5
  have ho2_5 := ho2_4.below hS5
  clear ho2_4
  have ho4_5 := ho4.below hS5
  clear ho4
  go_wp2_with fail
  refine (checkShareI i s p q g _ _ xs hl_xs _ (by refine RI.next (OI.ri (by with_reducible assumption)) ?_; repeat (first | exact Below.refl _ _ | with_reducible assumption | with_reducible refine bnext ?_ (by with_reducible assumption) | with_reducible refine bnew ?_ _ | with_reducible refine Below.drew ?_))).mono ?_
  rintro e6 w6 ⟨rfl, hb6⟩
  have hT6 : Below w.heap.size w w6 := bnext (by repeat (first | exact hT5 | refine bnew ?_ _ | refine Below.drew ?_ | refine Below.drewN ?_ _)) hb6
  have c6_0 : w6.cell? ⟨w.heap.size, 0, none⟩ = some (.int .i64 p) := by
    refine cell_keep hb6 ?_
    repeat (first | with_reducible assumption | (refine cell_new' ?_ _ _ _ rfl; focus (simp; done)) | with_reducible refine cell_keep (below_new _ _) ?_)
  have c6_1 : w6.cell? ⟨w.heap.size, 1, none⟩ = some (.int .i64 q) := by
    refine cell_keep hb6 ?_
    repeat (first | with_reducible assumption | (refine cell_new' ?_ _ _ _ rfl; focus (simp; done)) | with_reducible refine cell_keep (below_new _ _) ?_)
  have c6_2 : w6.cell? ⟨w.heap.size, 2, none⟩ = some (.int .i64 g) := by
    refine cell_keep hb6 ?_
    repeat (first | with_reducible assumption | (refine cell_new' ?_ _ _ _ rfl; focus (simp; done)) | with_reducible refine cell_keep (below_new _ _) ?_)
  clear c5_0 c5_1 c5_2
  have hS6 : Below w5.heap.size w5 w6 := bnext (by repeat (first | exact Below.refl _ _ | refine bnew ?_ _ | refine Below.drew ?_ | refine Below.drewN ?_ _)) hb6
  have ho2_6 := ho2_5.below hS6
  clear ho2_5
  have ho4_6 := ho4_5.below hS6
  clear ho4_5
  go_wp2_with fail
  refine (toIntS_any _ _ _ (by omega) _ (by refine RI.next (by with_reducible assumption) ?_; repeat (first | exact Below.refl _ _ | with_reducible assumption | with_reducible refine bnext ?_ (by with_reducible assumption) | with_reducible refine bnew ?_ _ | with_reducible refine Below.drew ?_))).mono ?_
  rintro e7 w7 ⟨A7, c7, rfl, ho7, hb7⟩
  have hT7 : Below w.heap.size w w7 := bnext (by repeat (first | exact hT6 | refine bnew ?_ _ | refine Below.drew ?_ | refine Below.drewN ?_ _)) hb7
  have c7_0 : w7.cell? ⟨w.heap.size, 0, none⟩ = some (.int .i64 p) := by
    refine cell_keep hb7 ?_
    repeat (first | with_reducible assumption | (refine cell_new' ?_ _ _ _ rfl; focus (simp; done)) | with_reducible refine cell_keep (below_new _ _) ?_)
  have c7_1 : w7.cell? ⟨w.heap.size, 1, none⟩ = some (.int .i64 q) := by
    refine cell_keep hb7 ?_
    repeat (first | with_reducible assumption | (refine cell_new' ?_ _ _ _ rfl; focus (simp; done)) | with_reducible refine cell_keep (below_new _ _) ?_)
  have c7_2 : w7.cell? ⟨w.heap.size, 2, none⟩ = some (.int .i64 g) := by
    refine cell_keep hb7 ?_
    repeat (first | with_reducible assumption | (refine cell_new' ?_ _ _ _ rfl; focus (simp; done)) | with_reducible refine cell_keep (below_new _ _) ?_)
  clear c6_0 c6_1 c6_2
  have hS7 : Below w6.heap.size w6 w7 := bnext (by repeat (first | exact Below.refl _ _ | refine bnew ?_ _ | refine Below.drew ?_ | refine Below.drewN ?_ _)) hb7
  have ho2_7 := ho2_6.below hS7
  clear ho2_6
  have ho4_7 := ho4_6.below hS7
  clear ho4_6
  go_wp2_with fail
  refine (eqIntS_same _ _ _ _ _ (by omega) _ (by refine RI.next (OI.ri (by with_reducible assumption)) ?_; repeat (first | exact Below.refl _ _ | with_reducible assumption | with_reducible refine bnext ?_ (by with_reducible assumption) | with_reducible refine bnew ?_ _ | with_reducible refine Below.drew ?_)) (by refine RI.next (OI.ri (by with_reducible assumption)) ?_; repeat (first | exact Below.refl _ _ | with_reducible assumption | with_reducible refine bnext ?_ (by with_reducible assumption) | with_reducible refine bnew ?_ _ | with_reducible refine Below.drew ?_))).mono ?_
  rintro e8 w8 ⟨rfl, hb8⟩
  have hT8 : Below w.heap.size w w8 := bnext (by repeat (first | exact hT7 | refine bnew ?_ _ | refine Below.drew ?_ | refine Below.drewN ?_ _)) hb8
  have c8_0 : w8.cell? ⟨w.heap.size, 0, none⟩ = some (.int .i64 p) := by
    refine cell_keep hb8 ?_
    repeat (first | with_reducible assumption | (refine cell_new' ?_ _ _ _ rfl; focus (simp; done)) | with_reducible refine cell_keep (below_new _ _) ?_)
  have c8_1 : w8.cell? ⟨w.heap.size, 1, none⟩ = some (.int .i64 q) := by
    refine cell_keep hb8 ?_
    repeat (first | with_reducible assumption | (refine cell_new' ?_ _ _ _ rfl; focus (simp; done)) | with_reducible refine cell_keep (below_new _ _) ?_)
  have c8_2 : w8.cell? ⟨w.heap.size, 2, none⟩ = some (.int .i64 g) := by
    refine cell_keep hb8 ?_
    repeat (first | with_reducible assumption | (refine cell_new' ?_ _ _ _ rfl; focus (simp; done)) | with_reducible refine cell_keep (below_new _ _) ?_)
  clear c7_0 c7_1 c7_2
  have hS8 : Below w7.heap.size w7 w8 := bnext (by repeat (first | exact Below.refl _ _ | refine bnew ?_ _ | refine Below.drew ?_ | refine Below.drewN ?_ _)) hb8
  have ho2_8 := ho2_7.below hS8
  clear ho2_7
  have ho4_8 := ho4_7.below hS8
  clear ho4_7
  have ho7_8 := ho7.below hS8
  clear ho7
  go_wp2
  go_ret
  exact ⟨rfl, (by repeat (first | exact hT8 | refine bnew ?_ _ | refine Below.drew ?_ | refine Below.drewN ?_ _))⟩
set_option maxRecDepth 100000 in
theorem lifted (os : Os) (started : os.Started) (H : Type) (enc : TypeId × Value → H) :
    ReturnsInHanded {} Try.checked os 5 .any (Rows.fnExactCheckShareSpec.pre6 enc Try.prog Try.f5 Rows.fnExactCheckShareRow.domain false) (Rows.fnExactCheckShareSpec.post enc Try.prog Try.f5 false true false false) := by
  refine law_lift (C := Try.checked) own started (by kernel_rfl) Try.func5
    (ChangeSpec.witness6 (enc := enc) (C := Try.checked) false ⟨#[], #[.agg #[.int .i64 0, .int .i64 0, .int .i64 0], .slice none 0 0, .int .i64 0, .int .i64 0], []⟩ 8 (by kernel_rfl) (by kernel_rfl) (by kernel_rfl) (by kernel_rfl))
    (by kernel_rfl) [23, 24, 3, 3] rfl (by kernel_rfl) 4 rfl Try.underlying4 rfl (fun ds h => by
      match ds, h with
      | [_, _, _, _], _ => rfl) ?_
  intro W base args ds p hval hA hlt
  obtain ⟨v0, vs0, d0, ds0, p0, q0, hargs, rfl, rfl, h0, r0⟩ := trodAll_cons hA
  obtain ⟨v1, vs1, d1, ds1, p1, q1, rfl, rfl, rfl, h1, r1⟩ := trodAll_cons r0
  obtain ⟨v2, vs2, d2, ds2, p2, q2, rfl, rfl, rfl, h2, r2⟩ := trodAll_cons r1
  obtain ⟨v3, vs3, d3, ds3, p3, q3, rfl, rfl, rfl, h3, r3⟩ := trodAll_cons r2
  obtain ⟨rfl, rfl, rfl⟩ := trodAll_nil r3
  rw [hargs] at hval
  obtain rfl : args = #[v0, v1, v2, v3] := by cases args; simp_all
  obtain ⟨c0, c1, c2, y0, y1, y2, m9, rfl, rfl, rfl, hy0, hy1, hy2⟩ := open_agg3 Try.underlying23 (by kernel_rfl) cellsG (hval 0 23 v0 rfl rfl) h0
  obtain ⟨p, e0, rfl, wa0⟩ := DataW.trod_int Try.underlying3 hy0
  obtain ⟨q, e1, rfl, wa1⟩ := DataW.trod_int Try.underlying3 hy1
  obtain ⟨g, e2, rfl, wa2⟩ := DataW.trod_int Try.underlying3 hy2
  simp at e0 e1 e2
  subst e0 e1 e2
  obtain ⟨A_xs, c_xs, xs, rfl, hx_xs, hl_xs⟩ := open_RI rfl (hval 1 24 v1 rfl rfl) h1 (fun x hx => hlt x (by simp [hx]))
  obtain ⟨i, rfl, rfl, rfl, ww2⟩ := open_int Try.underlying3 (hval 2 3 v2 rfl rfl) h2
  obtain ⟨s, rfl, rfl, rfl, ww3⟩ := open_int Try.underlying3 (hval 3 3 v3 rfl rfl) h3
  exact walk p q g A_xs c_xs xs i s W hx_xs hl_xs
theorem proved : Rows.FnExactCheckShareSaid :=
  OpenClaim.holds_of_wide 5 Try.f5 rfl rfl rfl rfl rfl rfl rfl ⟨rfl, rfl, rfl, rfl, rfl⟩ rfl rfl rfl rfl rfl (by kernel_rfl) Try.func5 (by kernel_rfl)
    (of_decide_eq_true (by kernel_rfl)) (by unfold Func.isWrapper; rw [if_neg (of_decide_eq_false (by kernel_rfl))]; exact ⟨rfl, rfl⟩)
    (fun os started H enc _ => lifted os started H enc)
#print axioms proved
end Go.Proofs.Ytiiddgpjeknahaa.pCheckShare
