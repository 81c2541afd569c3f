import Derived.Test.YtlggpehioflbdaaZD8
/- ProveLinear on both sides. -/
set_option linter.all false
set_option linter.unusedVariables false
set_option linter.unusedSimpArgs false
namespace Go.Proofs.Ytlggpehioflbdaa
open Go.RowKit
noncomputable def okPL (p q g : Int) (s : ByteArray) (rows : List (List Int)) (es ks : List Int) : Bool := M.goodB p q g && decide ((s.size : Int) ≤ 40) && rowsB p q rows && ((es.length : Int) == (rows.getD 0 []).length) && ((ks.length : Int) == es.length) && expsB q es && expsB q ks
noncomputable def PLin (p q g : Int) (s : ByteArray) (rows : List (List Int)) (es ks : List Int) : List Int × List Int × List Int := if okPL p q g s rows es ks = true then prLin p q g s rows es ks else ([], [], [])
theorem expsB_all8 {q : Int} {xs : List Int} (h : expsB q xs = true) : ∀ x ∈ xs, 0 ≤ x ∧ x < q := fun x hx => expsB_mem h hx
noncomputable def c_ProveLinearI : Con0 := conF [(.pair .int (.pair .int .int)), .str, (.list (.list .int)), (.list .int), (.list .int)] fun (⟨⟨p, q, g⟩, s, rows, es, ks, _⟩ : (Int × Int × Int) × ByteArray × (List (List Int)) × (List Int) × (List Int) × Unit) => (rows.length ≤ 9223372036854775806, .tup [.agg [.own 0 (PLin p q g s rows es ks).1.length, .own 1 (PLin p q g s rows es ks).2.1.length, .own 2 (PLin p q g s rows es ks).2.2.length], .lit (.bool (okPL p q g s rows es ks))], [.row 3 .int (PLin p q g s rows es ks).1, .row 3 .int (PLin p q g s rows es ks).2.1, .row 3 .int (PLin p q g s rows es ks).2.2])
noncomputable def G_ProveLinearI : List (FuncId × Con) := [(148, mk c_isValidGroup), (194, mk c_isLabel), (195, mk c_areRows), (110, mk c_areExps), (166, mk c_proveLinear)]
theorem G_ProveLinearI_ok : ∀ f C, (f, C) ∈ G_ProveLinearI → C.ok Try.prog f := by
  intro f C h
  simp only [G_ProveLinearI, List.mem_cons, Prod.mk.injEq, List.not_mem_nil, or_false] at h
  rcases h with ⟨rfl, rfl⟩ | ⟨rfl, rfl⟩ | ⟨rfl, rfl⟩ | ⟨rfl, rfl⟩ | ⟨rfl, rfl⟩
  · exact ok_isValidGroup
  · exact ok_isLabel
  · exact ok_areRows
  · exact ok_areExps
  · exact ok_proveLinear
set_option maxRecDepth 100000 in
set_option maxHeartbeats 4000000 in
theorem ok_ProveLinearI : (mk c_ProveLinearI).ok Try.prog 158 := okF (Θ := Th) (N := 63) (rs := [.cell 10 67, .tmp 11]) Th_ok Try.func158 (by kernel_rfl) rfl Try.results158 (by decide) (by kernel_rfl) fun (⟨⟨p, q, g⟩, s, rows, es, ks, _⟩ : (Int × Int × Int) × ByteArray × (List (List Int)) × (List Int) × (List Int) × Unit) => ⟨rfl, rfl, Nat.le_of_ble_eq_true rfl, fun hc w0 => by
  have hL := dmy_eq
  try dsimp only at hc
  try dsimp only
  have hrl0 := hc
  refine AWp.body rfl ?_
  repeat' first
    | ((with_reducible refine hK _ _ ?_); clear hK K)
    | ((with_reducible refine hK _ _ (by kernel_rfl) ?_); clear hK K)
    | ((with_reducible refine AWp.pS Th_ok G_ProveLinearI_ok [0, 1, 2, 3, 4, 5, 10, 11, 53] (by decide) ?_); intro K hK)
    | ((with_reducible refine AWp.dS (by kernel_rfl) Th_ok G_ProveLinearI_ok [0, 1, 2, 3, 4, 5, 10, 11, 53] ?_); intro K hK)
    | ((with_reducible refine AWp.pE Th_ok G_ProveLinearI_ok [0, 1, 2, 3, 4, 5, 10, 11, 53] (by decide) ?_); intro K hK)
    | ((with_reducible refine AWp.dE (by kernel_rfl) Th_ok G_ProveLinearI_ok [0, 1, 2, 3, 4, 5, 10, 11, 53] ?_); intro K hK)
    | ((first | with_reducible refine runF_id ?_ | with_reducible refine stepF_id ?_); simp (maxSteps := 2000000) only [runF, stepF, forkOf, gdOf, List.toList_toArray, stepOp, look, opAV, pureOp, callOp, memOp, AS.ev, AS.get, AS.obj, initS, initFrom, AV.cells, AS.upd, Option.bind_some, Option.bind_none, Option.map_some, Option.map_none, Option.getD_none, Option.getD_some, ↓reduceIte, Nat.reduceEqDiff, Nat.reduceAdd, Nat.reduceMul, Nat.reduceSub, List.nil_append, List.append_nil, List.cons_append, List.map_cons, List.map_nil, true_and, and_true, AS.fin, pick, dedup, List.mem_cons, List.not_mem_nil, or_false, false_or, List.size_toArray, List.length_cons, List.length_nil, loadAV, List.drop_zero, List.drop_succ_cons, List.take_zero, List.take_succ_cons, List.getElem?_cons_zero, List.getElem?_cons_succ, List.head?_cons, List.mapM_cons, List.mapM_nil, Option.bind_eq_bind, Option.pure_def, deeps3, deep3, deep2, deep1, deeps, deeps2, mixInts, AV.plain, mk, mkD, DCon.lift, DCon.runC, ren3, ren2, ren1, numb, List.zipIdx_nil, List.zipIdx_cons, List.all_nil, List.all_cons, Nat.reduceLeDiff, List.range, List.range.loop, Ty.sz, beq_self_eq_true, Bool.and_self, and_self, Ty.ofC, AO.isDead, Nat.reduceLT, if_true, Nat.zero_add, Nat.add_zero, ite_true, Nat.le_refl, Bool.false_eq_true, reduceCtorEq, if_false, ite_false, binAV, AO.ren, AV.isCell, fillAV, List.set_cons_zero, List.set_cons_succ, Ty.cells, Ty.flat, Ty.dflt, List.getD_cons_zero, List.getD_cons_succ, Int.reduceToNat, Int.reduceSub, Int.reduceAdd, Int.reduceMul, Int.reduceNeg, forall_eq_or_imp, forall_eq, gdL, id_eq, Nat.lt_irrefl, srcOf, List.replicate_succ, List.replicate_zero, dite_true, List.isEmpty_cons, Option.isSome_some, List.length_append, List.length_singleton, bne_self_eq_false, Bool.not_true, Bool.not_false, conF, asArgs, asArg, asTy, asI1, asB1, asS1, asL1, canons, canon, Fork.true_, Fork.false_, bne, Bool.not_not, List.length_map, pickO, AS.over, TI.bl, bne_iff_ne, AS.over2, without, keys, List.mem_singleton, memOp2, memOp3, absorb, abInt, abBool, abStr, abList, gones, Int.toNat_natCast, List.take_length, subE, List.nodup_cons, List.nodup_nil, not_false_eq_true, Nat.sub_self, conR, asG, asI, asBo, asStr, asIs, asBs, asE4, asI2, asI3, asLL, asLLL, Th_int, Th_bool, Th_string, Th_Sint, Th_SSint, Th_implGroup, Th_implProof, G_ProveLinearI, c_isValidGroup, c_isLabel, c_areRows, c_areExps, c_proveLinear, hL])
    | ((with_reducible refine ens_step ?_ (fun hE => ?_)); · ((repeat' with_reducible apply And.intro) <;> first | with_reducible assumption | omega | exact True.intro | with_reducible rfl | (show ByteArray.size _ ≤ _; decide) | (simp; done) | (simp; omega) | rfl))
    | ((with_reducible refine And.intro ?_ ?_); · ((repeat' with_reducible apply And.intro) <;> first | with_reducible assumption | omega | exact True.intro | with_reducible rfl | (show ByteArray.size _ ≤ _; decide) | (simp; done) | (simp; omega) | rfl))
    | ((with_reducible refine Fork.intro (fun h' => ?_) (fun h' => ?_)) <;> (try simp only [Bool.not_eq_true', Bool.not_eq_false', bne] at h') <;> (replace hL := And.intro h' hL) <;> (try simp only [decide_eq_true_eq, decide_eq_false_iff_not, beq_iff_eq, beq_eq_false_iff_ne, ne_eq] at h') <;> (try (have hG := M.goodB_of h'; have hq2 := hG.q2; have hqp := hG.qp; have hp3 := hG.p3; have hpM := hG.pM)) <;> (try (have hsl := h'; rw [Bool.and_eq_true, decide_eq_true_eq] at hsl; obtain ⟨hg1, hg2⟩ := hsl; have hG := M.goodB_of hg1; have hq2 := hG.q2; have hqp := hG.qp; have hp3 := hG.p3; have hpM := hG.pM)) <;> (try (have hR := rowsB_use hG h'; have hrl := hR.len; have hrw := hR.wid)) <;> (try (have hex := expsB_all8 h')))
    | (with_reducible refine AWp.skipS ?_)
    | ((with_reducible refine AWp.condT rfl ?_))
    | ((with_reducible refine AWp.condF rfl ?_))
    | (with_reducible refine AWp.condB rfl ?_)
    | ((with_reducible refine AWp.ret_id ?_); refine AWp.sub (Sub.nilBox 8 0 100000 3 .int rfl rfl rfl) ?_)
    | ((with_reducible refine AWp.ret_id ?_); refine AWp.sub (Sub.nilBox 8 1 100001 3 .int rfl rfl rfl) ?_)
    | ((with_reducible refine AWp.ret_id ?_); refine AWp.sub (Sub.nilBox 8 2 100002 3 .int rfl rfl rfl) ?_)
    | (with_reducible refine AWp.ret ?_)
    | (with_reducible refine seqQ_n ?_)
    | (with_reducible refine seqQ_ret ?_)
    | (with_reducible refine blkQ_ret ?_)
    | (with_reducible refine blkQ_n ?_)
    | (with_reducible refine seqQ_exit ?_)
    | (with_reducible refine blkQ_exit ?_)
    | (with_reducible refine blkQ_other (by decide) ?_)
    | (with_reducible refine AWp.block ?_)
    | (with_reducible refine AWp.exit ?_)
    | (with_reducible refine AWp.skip ?_)
    | ((with_reducible refine EndsAt_id ?_); (try subst_vars); (try simp only [PLin, okPL, prLin, hL, List.length_cons, List.length_nil, Nat.zero_add, Nat.reduceAdd, Bool.and_true, Bool.and_false, Bool.true_and, Bool.false_and, Bool.and_self, ↓reduceIte, Bool.false_eq_true, Bool.not_true, Bool.not_false, bne]); refine EndsAt.done [_, _, _] (by first | exact .inr rfl | exact .inl rfl) rfl rfl ?_ ?_ <;> first | decide | (repeat' (first | rfl | apply And.intro | trivial)))
    | (with_reducible refine AWp.seq ?_)⟩
noncomputable def c_ProveLinearS : Con0 := conF [(.pair .int (.pair .int .int)), .str, (.list (.list .int)), (.list .int), (.list .int)] fun (⟨⟨p, q, g⟩, s, rows, es, ks, _⟩ : (Int × Int × Int) × ByteArray × (List (List Int)) × (List Int) × (List Int) × Unit) => (rows.length ≤ 9223372036854775806, .tup [.agg [.own 0 (PLin p q g s rows es ks).1.length, .own 1 (PLin p q g s rows es ks).2.1.length, .own 2 (PLin p q g s rows es ks).2.2.length], .lit (.bool (okPL p q g s rows es ks))], [.row 3 .int (PLin p q g s rows es ks).1, .row 3 .int (PLin p q g s rows es ks).2.1, .row 3 .int (PLin p q g s rows es ks).2.2])
noncomputable def G_ProveLinearS : List (FuncId × Con) := [(190, mk c_sLabel), (191, mk c_sBases), (93, mk c_gExps), (164, mk c_sProve)]
theorem G_ProveLinearS_ok : ∀ f C, (f, C) ∈ G_ProveLinearS → C.ok Try.prog f := by
  intro f C h
  simp only [G_ProveLinearS, List.mem_cons, Prod.mk.injEq, List.not_mem_nil, or_false] at h
  rcases h with ⟨rfl, rfl⟩ | ⟨rfl, rfl⟩ | ⟨rfl, rfl⟩ | ⟨rfl, rfl⟩
  · exact ok_sLabel
  · exact ok_sBases
  · exact ok_gExps
  · exact ok_sProve
set_option maxRecDepth 100000 in
set_option maxHeartbeats 4000000 in
theorem ok_ProveLinearS : (mk c_ProveLinearS).ok Try.prog 156 := okF (Θ := Th) (N := 57) (rs := [.cell 10 67, .tmp 11]) Th_ok Try.func156 (by kernel_rfl) rfl Try.results156 (by decide) (by kernel_rfl) fun (⟨⟨p, q, g⟩, s, rows, es, ks, _⟩ : (Int × Int × Int) × ByteArray × (List (List Int)) × (List Int) × (List Int) × Unit) => ⟨rfl, rfl, Nat.le_of_ble_eq_true rfl, fun hc w0 => by
  have hL := dmy_eq
  try dsimp only at hc
  try dsimp only
  have hrl0 := hc
  refine AWp.body rfl ?_
  repeat' first
    | ((with_reducible refine hK _ _ ?_); clear hK K)
    | ((with_reducible refine hK _ _ (by kernel_rfl) ?_); clear hK K)
    | ((with_reducible refine AWp.pS Th_ok G_ProveLinearS_ok [0, 1, 2, 3, 4, 5, 10, 11, 49] (by decide) ?_); intro K hK)
    | ((with_reducible refine AWp.dS (by kernel_rfl) Th_ok G_ProveLinearS_ok [0, 1, 2, 3, 4, 5, 10, 11, 49] ?_); intro K hK)
    | ((with_reducible refine AWp.pE Th_ok G_ProveLinearS_ok [0, 1, 2, 3, 4, 5, 10, 11, 49] (by decide) ?_); intro K hK)
    | ((with_reducible refine AWp.dE (by kernel_rfl) Th_ok G_ProveLinearS_ok [0, 1, 2, 3, 4, 5, 10, 11, 49] ?_); intro K hK)
    | ((first | with_reducible refine runF_id ?_ | with_reducible refine stepF_id ?_); simp (maxSteps := 2000000) only [runF, stepF, forkOf, gdOf, List.toList_toArray, stepOp, look, opAV, pureOp, callOp, memOp, AS.ev, AS.get, AS.obj, initS, initFrom, AV.cells, AS.upd, Option.bind_some, Option.bind_none, Option.map_some, Option.map_none, Option.getD_none, Option.getD_some, ↓reduceIte, Nat.reduceEqDiff, Nat.reduceAdd, Nat.reduceMul, Nat.reduceSub, List.nil_append, List.append_nil, List.cons_append, List.map_cons, List.map_nil, true_and, and_true, AS.fin, pick, dedup, List.mem_cons, List.not_mem_nil, or_false, false_or, List.size_toArray, List.length_cons, List.length_nil, loadAV, List.drop_zero, List.drop_succ_cons, List.take_zero, List.take_succ_cons, List.getElem?_cons_zero, List.getElem?_cons_succ, List.head?_cons, List.mapM_cons, List.mapM_nil, Option.bind_eq_bind, Option.pure_def, deeps3, deep3, deep2, deep1, deeps, deeps2, mixInts, AV.plain, mk, mkD, DCon.lift, DCon.runC, ren3, ren2, ren1, numb, List.zipIdx_nil, List.zipIdx_cons, List.all_nil, List.all_cons, Nat.reduceLeDiff, List.range, List.range.loop, Ty.sz, beq_self_eq_true, Bool.and_self, and_self, Ty.ofC, AO.isDead, Nat.reduceLT, if_true, Nat.zero_add, Nat.add_zero, ite_true, Nat.le_refl, Bool.false_eq_true, reduceCtorEq, if_false, ite_false, binAV, AO.ren, AV.isCell, fillAV, List.set_cons_zero, List.set_cons_succ, Ty.cells, Ty.flat, Ty.dflt, List.getD_cons_zero, List.getD_cons_succ, Int.reduceToNat, Int.reduceSub, Int.reduceAdd, Int.reduceMul, Int.reduceNeg, forall_eq_or_imp, forall_eq, gdL, id_eq, Nat.lt_irrefl, srcOf, List.replicate_succ, List.replicate_zero, dite_true, List.isEmpty_cons, Option.isSome_some, List.length_append, List.length_singleton, bne_self_eq_false, Bool.not_true, Bool.not_false, conF, asArgs, asArg, asTy, asI1, asB1, asS1, asL1, canons, canon, Fork.true_, Fork.false_, bne, Bool.not_not, List.length_map, pickO, AS.over, TI.bl, bne_iff_ne, AS.over2, without, keys, List.mem_singleton, memOp2, memOp3, absorb, abInt, abBool, abStr, abList, gones, Int.toNat_natCast, List.take_length, subE, List.nodup_cons, List.nodup_nil, not_false_eq_true, Nat.sub_self, conR, asG, asI, asBo, asStr, asIs, asBs, asE4, asI2, asI3, asLL, asLLL, Th_int, Th_bool, Th_string, Th_Sint, Th_SSint, Th_implGroup, Th_implProof, G_ProveLinearS, c_sLabel, c_sBases, c_gExps, c_sProve, hL])
    | ((with_reducible refine ens_step ?_ (fun hE => ?_)); · ((repeat' with_reducible apply And.intro) <;> first | with_reducible assumption | omega | exact True.intro | with_reducible rfl | (show ByteArray.size _ ≤ _; decide) | (simp; done) | (simp; omega) | rfl))
    | ((with_reducible refine And.intro ?_ ?_); · ((repeat' with_reducible apply And.intro) <;> first | with_reducible assumption | omega | exact True.intro | with_reducible rfl | (show ByteArray.size _ ≤ _; decide) | (simp; done) | (simp; omega) | rfl))
    | ((with_reducible refine Fork.intro (fun h' => ?_) (fun h' => ?_)) <;> (try simp only [Bool.not_eq_true', Bool.not_eq_false', bne] at h') <;> (replace hL := And.intro h' hL) <;> (try simp only [decide_eq_true_eq, decide_eq_false_iff_not, beq_iff_eq, beq_eq_false_iff_ne, ne_eq] at h') <;> (try (have hG := M.goodB_of h'; have hq2 := hG.q2; have hqp := hG.qp; have hp3 := hG.p3; have hpM := hG.pM)) <;> (try (have hsl := h'; rw [Bool.and_eq_true, decide_eq_true_eq] at hsl; obtain ⟨hg1, hg2⟩ := hsl; have hG := M.goodB_of hg1; have hq2 := hG.q2; have hqp := hG.qp; have hp3 := hG.p3; have hpM := hG.pM)) <;> (try (have hR := rowsB_use hG h'; have hrl := hR.len; have hrw := hR.wid)) <;> (try (have hex := expsB_all8 h')))
    | (with_reducible refine AWp.skipS ?_)
    | ((with_reducible refine AWp.condT rfl ?_))
    | ((with_reducible refine AWp.condF rfl ?_))
    | (with_reducible refine AWp.condB rfl ?_)
    | ((with_reducible refine AWp.ret_id ?_); refine AWp.sub (Sub.nilBox 8 0 100000 3 .int rfl rfl rfl) ?_)
    | ((with_reducible refine AWp.ret_id ?_); refine AWp.sub (Sub.nilBox 8 1 100001 3 .int rfl rfl rfl) ?_)
    | ((with_reducible refine AWp.ret_id ?_); refine AWp.sub (Sub.nilBox 8 2 100002 3 .int rfl rfl rfl) ?_)
    | (with_reducible refine AWp.ret ?_)
    | (with_reducible refine seqQ_n ?_)
    | (with_reducible refine seqQ_ret ?_)
    | (with_reducible refine blkQ_ret ?_)
    | (with_reducible refine blkQ_n ?_)
    | (with_reducible refine seqQ_exit ?_)
    | (with_reducible refine blkQ_exit ?_)
    | (with_reducible refine blkQ_other (by decide) ?_)
    | (with_reducible refine AWp.block ?_)
    | (with_reducible refine AWp.exit ?_)
    | (with_reducible refine AWp.skip ?_)
    | ((with_reducible refine EndsAt_id ?_); (try subst_vars); (try simp only [PLin, okPL, prLin, hL, List.length_cons, List.length_nil, Nat.zero_add, Nat.reduceAdd, Bool.and_true, Bool.and_false, Bool.true_and, Bool.false_and, Bool.and_self, ↓reduceIte, Bool.false_eq_true, Bool.not_true, Bool.not_false, bne]); refine EndsAt.done [_, _, _] (by first | exact .inr rfl | exact .inl rfl) rfl rfl ?_ ?_ <;> first | decide | (repeat' (first | rfl | apply And.intro | trivial)))
    | (with_reducible refine AWp.seq ?_)⟩
end Go.Proofs.Ytlggpehioflbdaa
