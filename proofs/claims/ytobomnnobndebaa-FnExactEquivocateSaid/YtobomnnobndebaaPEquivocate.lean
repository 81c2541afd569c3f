/- FnExactEquivocate returns true for every input. No condition. -/
import Derived.Test.YtobomnnobndebaaE1
import Derived.Test.YtobomnnobndebaaE2
import Derived.Test.YtobomnnobndebaaLift
namespace Go.Proofs.Ytobomnnobndebaa.pEquivocate
open Go.ChangeShapes Go.WideShapes Go.ChangeAt Go.RowKit Go.Joins
theorem own : ownKnob Try.prog.godebug = none := by kernel_rfl
theorem cellsG : Try.prog.cellsOf 26 = 3 := by kernel_rfl
theorem walk (p q g t m r o : Int) (w : World) : Calls Try.prog 5 #[.agg #[.int .i64 p, .int .i64 q, .int .i64 g], .int .i64 t, .int .i64 m, .int .i64 r, .int .i64 o] w fun e w' => e = .returned (.bool true) ∧ Below w.heap.size w w' := by
  go_enter Try.func5, Try.ntmps5
  go_wp2_with fail
  refine (toGroup_any _ _ _ _).mono ?_
  rintro e1 w1 ⟨rfl, hb1⟩
  go_wp2_with fail
  refine (equivocateS_any _ _ _ _ _ _ _ _).mono ?_
  rintro e2 w2 ⟨rfl, hb2⟩
  have hB2 := bnext hb1 hb2
  obtain ⟨hc2, hf2⟩ := bcell hB2
  go_wp2_with fail
  refine (toGroup_any _ _ _ _).mono ?_
  rintro e3 w3 ⟨rfl, hb3⟩
  go_wp2_with fail
  refine (equivocateI_any _ _ _ _ _ _ _ _).mono ?_
  rintro e4 w4 ⟨rfl, hb4⟩
  go_wp2
  go_ret
  exact ⟨rfl, bnext (bnext (bnext (below_new w _) hB2) hb3) hb4⟩
set_option maxRecDepth 100000 in
theorem lifted (os : Os) (started : os.Started) (H : Type) (enc : TypeId × Value → H) :
    ReturnsInHanded {} Try.checked os 5 .any (Rows.fnExactEquivocateSpec.pre6 enc Try.prog Try.f5 Rows.fnExactEquivocateRow.domain false) (Rows.fnExactEquivocateSpec.post enc Try.prog Try.f5 false true false false) := by
  refine law_lift (C := Try.checked) own started (by kernel_rfl) Try.func5
    (ChangeSpec.witness6 (enc := enc) (C := Try.checked) false ⟨#[], #[.agg #[.int .i64 0, .int .i64 0, .int .i64 0], .int .i64 0, .int .i64 0, .int .i64 0, .int .i64 0], []⟩ 8 (by kernel_rfl) (by kernel_rfl) (by kernel_rfl) (by kernel_rfl))
    (by kernel_rfl) [26, 3, 3, 3, 3] rfl (by kernel_rfl) 4 rfl Try.underlying4 rfl (fun ds h => by
      match ds, h with
      | [_, _, _, _, _], _ => rfl) ?_
  intro W base args ds p hval hA hlt
  obtain ⟨v0, vs0, d0, ds0, p0, q0, hargs, rfl, rfl, h0, r0⟩ := trodAll_cons hA
  obtain ⟨v1, vs1, d1, ds1, p1, q1, rfl, rfl, rfl, h1, r1⟩ := trodAll_cons r0
  obtain ⟨v2, vs2, d2, ds2, p2, q2, rfl, rfl, rfl, h2, r2⟩ := trodAll_cons r1
  obtain ⟨v3, vs3, d3, ds3, p3, q3, rfl, rfl, rfl, h3, r3⟩ := trodAll_cons r2
  obtain ⟨v4, vs4, d4, ds4, p4, q4, rfl, rfl, rfl, h4, r4⟩ := trodAll_cons r3
  obtain ⟨rfl, rfl, rfl⟩ := trodAll_nil r4
  rw [hargs] at hval
  obtain rfl : args = #[v0, v1, v2, v3, v4] := by cases args; simp_all
  obtain ⟨c0, c1, c2, y0, y1, y2, m9, rfl, rfl, rfl, hy0, hy1, hy2⟩ := open_agg3 Try.underlying26 (by kernel_rfl) cellsG (hval 0 26 v0 rfl rfl) h0
  obtain ⟨p, e0, rfl, wa0⟩ := DataW.trod_int Try.underlying3 hy0
  obtain ⟨q, e1, rfl, wa1⟩ := DataW.trod_int Try.underlying3 hy1
  obtain ⟨g, e2, rfl, wa2⟩ := DataW.trod_int Try.underlying3 hy2
  simp at e0 e1 e2
  subst e0 e1 e2
  obtain ⟨t, rfl, rfl, rfl, ww1⟩ := open_int Try.underlying3 (hval 1 3 v1 rfl rfl) h1
  obtain ⟨m, rfl, rfl, rfl, ww2⟩ := open_int Try.underlying3 (hval 2 3 v2 rfl rfl) h2
  obtain ⟨r, rfl, rfl, rfl, ww3⟩ := open_int Try.underlying3 (hval 3 3 v3 rfl rfl) h3
  obtain ⟨o, rfl, rfl, rfl, ww4⟩ := open_int Try.underlying3 (hval 4 3 v4 rfl rfl) h4
  exact walk p q g t m r o W
theorem proved : Rows.FnExactEquivocateSaid :=
  OpenClaim.holds_of_wide 5 Try.f5 rfl rfl rfl rfl rfl rfl rfl ⟨rfl, rfl, rfl, rfl, rfl⟩ rfl rfl rfl rfl rfl (by kernel_rfl) Try.func5 (by kernel_rfl)
    (of_decide_eq_true (by kernel_rfl)) (by unfold Func.isWrapper; rw [if_neg (of_decide_eq_false (by kernel_rfl))]; exact ⟨rfl, rfl⟩)
    (fun os started H enc _ => lifted os started H enc)
#print axioms proved
end Go.Proofs.Ytobomnnobndebaa.pEquivocate
