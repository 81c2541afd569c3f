/- FnExactProveSum returns true for every input. No condition. -/
import Derived.Test.YtljlimlgdnbllaaD3
import Derived.Test.YtljlimlgdnbllaaOpen2
set_option linter.all false
set_option linter.unusedVariables false
set_option linter.unusedSimpArgs false
namespace Go.Proofs.Ytljlimlgdnbllaa.pProveSum
open Go.ChangeShapes Go.WideShapes Go.ChangeAt Go.RowKit Go.Joins
theorem own : ownKnob Try.prog.godebug = none := by kernel_rfl
theorem sz_use {l n : Int} (h : ¬ (if l - n < 0 then (-1 : Int) else l - n) < 0) : n ≤ l := by
  split at h <;> omega
theorem sz_use' {l n : Int} (h : n ≤ l) : (if l - n < 0 then (-1 : Int) else l - n) = l - n := if_neg (by omega)
theorem PSum_le (p q g bh : Int) (bs rs l ks : List Int) : (PSum p q g bh bs rs l ks).1.length ≤ 2 ∧ (PSum p q g bh bs rs l ks).2.1.length ≤ 2 ∧ (PSum p q g bh bs rs l ks).2.2.length ≤ 2 := by
  unfold PSum
  split <;> exact ⟨by simp [prSum], by simp [prSum], by simp [prSum]⟩
noncomputable def c_law : Con0 := conF [(.pair .int (.pair .int .int)), (.pair .int (.list .int)), (.list .int), (.list .int), (.list .int)] fun (⟨⟨p, q, g⟩, ⟨bh, bs⟩, rs, l, ks, _⟩ : (Int × Int × Int) × (Int × List Int) × (List Int) × (List Int) × (List Int) × Unit) => (True, .lit (.bool true), [])
noncomputable def G_law : List (FuncId × Con) := [(15, mk c_szBases), (18, mk c_toGroup), (19, mk c_toBases), (20, mk c_toIntS), (38, mk c_ProveSumS), (39, mk c_ProveSumI), (25, mk c_eqProof), (23, mk c_eqBases), (24, mk c_eqIntS), (30, c_markBases), (31, c_markIntS), (32, c_markProof), (33, mk c_heldProof)]
theorem G_law_ok : ∀ f C, (f, C) ∈ G_law → C.ok Try.prog f := by
  intro f C h
  simp only [G_law, List.mem_cons, Prod.mk.injEq, List.not_mem_nil, or_false] at h
  rcases h with ⟨rfl, rfl⟩ | ⟨rfl, rfl⟩ | ⟨rfl, rfl⟩ | ⟨rfl, rfl⟩ | ⟨rfl, rfl⟩ | ⟨rfl, rfl⟩ | ⟨rfl, rfl⟩ | ⟨rfl, rfl⟩ | ⟨rfl, rfl⟩ | ⟨rfl, rfl⟩ | ⟨rfl, rfl⟩ | ⟨rfl, rfl⟩ | ⟨rfl, rfl⟩
  · exact ok_szBases
  · exact ok_toGroup
  · exact ok_toBases
  · exact ok_toIntS
  · exact ok_ProveSumS
  · exact ok_ProveSumI
  · exact ok_eqProof
  · exact ok_eqBases
  · exact ok_eqIntS
  · exact ok_markBases
  · exact ok_markIntS
  · exact ok_markProof
  · exact ok_heldProof
set_option maxRecDepth 100000 in
set_option maxHeartbeats 8000000 in
theorem ok_law : (mk c_law).ok Try.prog 8 := okF (Θ := Th) (N := 167) (rs := [.tmp 10]) Th_ok Try.func8 (by kernel_rfl) rfl Try.results8 (by decide) (by kernel_rfl) fun (⟨⟨p, q, g⟩, ⟨bh, bs⟩, rs, l, ks, _⟩ : (Int × Int × Int) × (Int × List Int) × (List Int) × (List Int) × (List Int) × Unit) => ⟨rfl, rfl, Nat.le_of_ble_eq_true rfl, fun hc w0 => by
  have hL := dmy_eq
  try dsimp only at hc
  try dsimp only
  obtain ⟨hP1, hP2, hP3⟩ := PSum_le p q g bh bs rs l ks
  refine AWp.body rfl ?_
  repeat' first
    | ((with_reducible refine hK _ _ ?_); clear hK K)
    | ((with_reducible refine hK _ _ (by kernel_rfl) ?_); clear hK K)
    | ((with_reducible refine AWp.pS Th_ok G_law_ok [0, 1, 2, 3, 4, 5, 6, 10, 11, 12, 13, 14, 15, 16, 17, 18, 19, 20, 21, 22, 23, 24, 27, 30, 33, 38, 79, 84, 89, 94, 99, 124, 132, 135, 158, 163, 166] (by decide) ?_); intro K hK)
    | ((with_reducible refine AWp.dS (by kernel_rfl) Th_ok G_law_ok [0, 1, 2, 3, 4, 5, 6, 10, 11, 12, 13, 14, 15, 16, 17, 18, 19, 20, 21, 22, 23, 24, 27, 30, 33, 38, 79, 84, 89, 94, 99, 124, 132, 135, 158, 163, 166] ?_); intro K hK)
    | ((with_reducible refine AWp.pE Th_ok G_law_ok [0, 1, 2, 3, 4, 5, 6, 10, 11, 12, 13, 14, 15, 16, 17, 18, 19, 20, 21, 22, 23, 24, 27, 30, 33, 38, 79, 84, 89, 94, 99, 124, 132, 135, 158, 163, 166] (by decide) ?_); intro K hK)
    | ((with_reducible refine AWp.dE (by kernel_rfl) Th_ok G_law_ok [0, 1, 2, 3, 4, 5, 6, 10, 11, 12, 13, 14, 15, 16, 17, 18, 19, 20, 21, 22, 23, 24, 27, 30, 33, 38, 79, 84, 89, 94, 99, 124, 132, 135, 158, 163, 166] ?_); intro K hK)
    | ((first | with_reducible refine runF_id ?_ | with_reducible refine stepF_id ?_); simp (maxSteps := 2000000) only [runF, stepF, forkOf, gdOf, List.toList_toArray, stepOp, look, opAV, pureOp, callOp, memOp, AS.ev, AS.get, AS.obj, initS, initFrom, AV.cells, AS.upd, Option.bind_some, Option.bind_none, Option.map_some, Option.map_none, Option.getD_none, Option.getD_some, ↓reduceIte, Nat.reduceEqDiff, Nat.reduceAdd, Nat.reduceMul, Nat.reduceSub, List.nil_append, List.append_nil, List.cons_append, List.map_cons, List.map_nil, true_and, and_true, AS.fin, pick, dedup, List.mem_cons, List.not_mem_nil, or_false, false_or, List.size_toArray, List.length_cons, List.length_nil, loadAV, List.drop_zero, List.drop_succ_cons, List.take_zero, List.take_succ_cons, List.getElem?_cons_zero, List.getElem?_cons_succ, List.head?_cons, List.mapM_cons, List.mapM_nil, Option.bind_eq_bind, Option.pure_def, deeps3, deep3, deep2, deep1, deeps, deeps2, mixInts, AV.plain, mk, mkD, DCon.lift, DCon.runC, ren3, ren2, ren1, numb, List.zipIdx_nil, List.zipIdx_cons, List.all_nil, List.all_cons, Nat.reduceLeDiff, List.range, List.range.loop, Ty.sz, beq_self_eq_true, Bool.and_self, and_self, Ty.ofC, AO.isDead, Nat.reduceLT, if_true, Nat.zero_add, Nat.add_zero, ite_true, Nat.le_refl, Bool.false_eq_true, reduceCtorEq, if_false, ite_false, binAV, AO.ren, AV.isCell, fillAV, List.set_cons_zero, List.set_cons_succ, Ty.cells, Ty.flat, Ty.dflt, List.getD_cons_zero, List.getD_cons_succ, Int.reduceToNat, Int.reduceSub, Int.reduceAdd, Int.reduceMul, Int.reduceNeg, forall_eq_or_imp, forall_eq, gdL, id_eq, Nat.lt_irrefl, srcOf, List.replicate_succ, List.replicate_zero, dite_true, List.isEmpty_cons, Option.isSome_some, List.length_append, List.length_singleton, bne_self_eq_false, Bool.not_true, Bool.not_false, conF, asArgs, asArg, asTy, asI1, asB1, asS1, asL1, canons, canon, Fork.true_, Fork.false_, bne, Bool.not_not, List.length_map, pickO, AS.over, TI.bl, bne_iff_ne, AS.over2, without, keys, List.mem_singleton, memOp2, memOp3, absorb, abInt, abBool, abStr, abList, gones, Int.toNat_natCast, List.take_length, subE, conR, asG, asI, asBo, asStr, asIs, asBs, asE4, asI2, asI3, asLL, asLLL, Th_int, Th_bool, Th_string, Th_Sint, Th_implGroup, Th_implBases, Th_implProof, Th_lawsGroup, Th_lawsBases, Th_lawsProof, G_law, c_szBases, c_toGroup, c_toBases, c_toIntS, c_ProveSumS, c_ProveSumI, c_eqProof, c_eqBases, c_eqIntS, c_heldProof, c_markBases, sel_markBases, c_markIntS, sel_markIntS, c_markProof, sel_markProof, Con.mark, rowsI, markEff, markTot, List.nodup_cons, List.nodup_nil, not_false_eq_true, marks_len, hL])
    | ((with_reducible refine and_id ?_); (generalize hv : M.chal p q g _ _ = v); have bv : 0 ≤ v ∧ v < q := by rw [← hv]; exact chal_bd (by omega) _ _)
    | ((with_reducible refine and_id ?_); (generalize hv : cmt p q g _ _ _ = v); have bv : 0 ≤ v ∧ v < p := by rw [← hv]; exact cmt_bd (by omega))
    | ((with_reducible refine and_id ?_); (generalize hv : M.gpw p q _ _ = v); have bv : 0 ≤ v ∧ v < p := by rw [← hv]; exact gpw_bd (by omega))
    | ((with_reducible refine and_id ?_); (generalize hv : M.mulL p _ = v); have bv : 0 ≤ v ∧ v < p := by rw [← hv]; exact mulL_bd' (by omega))
    | ((with_reducible refine ens_step ?_ (fun hE => ?_)); · ((repeat' with_reducible apply And.intro) <;> first | with_reducible assumption | omega | exact True.intro | with_reducible rfl | (show ByteArray.size _ ≤ _; decide) | (simp; done) | (simp; omega) | rfl))
    | ((with_reducible refine And.intro ?_ ?_); · ((repeat' with_reducible apply And.intro) <;> first | with_reducible assumption | omega | exact True.intro | with_reducible rfl | (show ByteArray.size _ ≤ _; decide) | (simp; done) | (simp; omega) | rfl))
    | ((with_reducible refine Fork.intro (fun h' => ?_) (fun h' => ?_)) <;> (try simp only [Bool.not_eq_true', Bool.not_eq_false', bne] at h') <;> (replace hL := And.intro h' hL) <;> (try simp only [decide_eq_true_eq, decide_eq_false_iff_not, beq_iff_eq, beq_eq_false_iff_ne, ne_eq] at h') <;> (try (exfalso; omega)) <;> (try (have hsz := sz_use h')))
    | (with_reducible refine AWp.skipS ?_)
    | ((with_reducible refine AWp.condT rfl ?_))
    | ((with_reducible refine AWp.condF rfl ?_))
    | (with_reducible refine AWp.condB rfl ?_)
    | (with_reducible refine AWp.ret ?_)
    | (with_reducible refine seqQ_n ?_)
    | (with_reducible refine seqQ_ret ?_)
    | (with_reducible refine blkQ_ret ?_)
    | (with_reducible refine blkQ_n ?_)
    | (with_reducible refine seqQ_exit ?_)
    | (with_reducible refine blkQ_exit ?_)
    | (with_reducible refine blkQ_other (by decide) ?_)
    | (with_reducible refine AWp.block ?_)
    | (with_reducible refine AWp.exit ?_)
    | (with_reducible refine AWp.skip ?_)
    | ((with_reducible refine EndsAt_id ?_); (try subst_vars); refine EndsAt.done [] (by first | exact .inr rfl | exact .inl rfl) rfl rfl ?_ ?_ <;> first | decide | (repeat' (first | rfl | apply And.intro | trivial)))
    | (with_reducible refine AWp.seq ?_)⟩
set_option maxRecDepth 100000 in
theorem lifted (os : Os) (started : os.Started) (H : Type) (enc : TypeId × Value → H) :
    ReturnsInHanded {} Try.checked os 8 .any (Rows.fnExactProveSumSpec.pre6 enc Try.prog Try.f8 Rows.fnExactProveSumRow.domain false) (Rows.fnExactProveSumSpec.post enc Try.prog Try.f8 false true false false) := by
  refine law_lift (C := Try.checked) own started (by kernel_rfl) Try.func8
    (ChangeSpec.witness6 (enc := enc) (C := Try.checked) false ⟨#[], #[.agg #[.int .i64 0, .int .i64 0, .int .i64 0], .agg #[.int .i64 0, .slice none 0 0], .slice none 0 0, .slice none 0 0, .slice none 0 0], []⟩ 8 (by kernel_rfl) (by kernel_rfl) (by kernel_rfl) (by kernel_rfl))
    (by kernel_rfl) [23, 26, 24, 24, 24] rfl (by kernel_rfl) 4 rfl Try.underlying4 rfl (fun ds h => by
      match ds, h with
      | [_, _, _, _, _], _ => rfl) ?_
  intro W base args ds p hval hA hlt
  obtain ⟨v0, vs0, d0, ds0, p0, q0, hargs, rfl, rfl, h0, r0⟩ := trodAll_cons hA
  obtain ⟨v1, vs1, d1, ds1, p1, q1, rfl, rfl, rfl, h1, r1⟩ := trodAll_cons r0
  obtain ⟨v2, vs2, d2, ds2, p2, q2, rfl, rfl, rfl, h2, r2⟩ := trodAll_cons r1
  obtain ⟨v3, vs3, d3, ds3, p3, q3, rfl, rfl, rfl, h3, r3⟩ := trodAll_cons r2
  obtain ⟨v4, vs4, d4, ds4, p4, q4, rfl, rfl, rfl, h4, r4⟩ := trodAll_cons r3
  obtain ⟨rfl, rfl, rfl⟩ := trodAll_nil r4
  rw [hargs] at hval
  obtain rfl : args = #[v0, v1, v2, v3, v4] := by cases args; simp_all
  obtain ⟨cc0_0, cc0_1, cc0_2, yy0_0, yy0_1, yy0_2, mm0, rfl, rfl, rfl, hy0_0, hy0_1, hy0_2⟩ := open_agg3 Try.underlying23 (by kernel_rfl) (by kernel_rfl) (hval 0 23 v0 rfl rfl) h0
  obtain ⟨p, ee0_0, rfl, wx0_0⟩ := DataW.trod_int Try.underlying3 hy0_0
  simp at ee0_0
  subst ee0_0
  have Q0_0 : Rep (cx0 W) (.lit (.int .i64 p)) _ := .lit (.int .i64 p)
  obtain ⟨q, ee0_1, rfl, wx0_1⟩ := DataW.trod_int Try.underlying3 hy0_1
  simp at ee0_1
  subst ee0_1
  have Q0_1 : Rep (cx0 W) (.lit (.int .i64 q)) _ := .lit (.int .i64 q)
  obtain ⟨g, ee0_2, rfl, wx0_2⟩ := DataW.trod_int Try.underlying3 hy0_2
  simp at ee0_2
  subst ee0_2
  have Q0_2 : Rep (cx0 W) (.lit (.int .i64 g)) _ := .lit (.int .i64 g)
  have R0 := Rep.agg' (Reps.cons Q0_0 (.cons Q0_1 (.cons Q0_2 (.nil))))
  obtain ⟨cc1_0, cc1_1, yy1_0, yy1_1, mm1, rfl, rfl, rfl, hy1_0, hy1_1⟩ := open_agg2 Try.underlying26 (by kernel_rfl) (by kernel_rfl) (hval 1 26 v1 rfl rfl) h1
  obtain ⟨bh, ee1_0, rfl, wx1_0⟩ := DataW.trod_int Try.underlying3 hy1_0
  simp at ee1_0
  subst ee1_0
  have Q1_0 : Rep (cx0 W) (.lit (.int .i64 bh)) _ := .lit (.int .i64 bh)
  obtain ⟨bs, Q1_1⟩ := sl_openc hy1_1 (fun x hx => hlt x (by simp [hx]))
  have R1 := Rep.agg' (Reps.cons Q1_0 (.cons Q1_1 (.nil)))
  obtain ⟨rs, R2⟩ := sl_open rfl (hval 2 24 v2 rfl rfl) h2 (fun x hx => hlt x (by simp [hx]))
  obtain ⟨l, R3⟩ := sl_open rfl (hval 3 24 v3 rfl rfl) h3 (fun x hx => hlt x (by simp [hx]))
  obtain ⟨ks, R4⟩ := sl_open rfl (hval 4 24 v4 rfl rfl) h4 (fun x hx => hlt x (by simp [hx]))
  exact Con.law ok_law rfl ⟨by repeat' (first | trivial | apply And.intro), trivial⟩ (Reps.cons R0 (.cons R1 (.cons R2 (.cons R3 (.cons R4 (.nil))))))
theorem proved : Rows.FnExactProveSumSaid :=
  OpenClaim.holds_of_wide 8 Try.f8 rfl rfl rfl rfl rfl rfl rfl ⟨rfl, rfl, rfl, rfl, rfl⟩ rfl rfl rfl rfl rfl (by kernel_rfl) Try.func8 (by kernel_rfl)
    (of_decide_eq_true (by kernel_rfl)) (by unfold Func.isWrapper; rw [if_neg (of_decide_eq_false (by kernel_rfl))]; exact ⟨rfl, rfl⟩)
    (fun os started H enc _ => lifted os started H enc)
#print axioms proved
end Go.Proofs.Ytljlimlgdnbllaa.pProveSum
