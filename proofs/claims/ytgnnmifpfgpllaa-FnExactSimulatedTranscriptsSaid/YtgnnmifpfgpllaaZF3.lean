import Derived.Test.YtgnnmifpfgpllaaZF1
/- The laws' own functions, part 3. -/
set_option linter.all false
set_option linter.unusedVariables false
set_option linter.unusedSimpArgs false
namespace Go.Proofs.Ytgnnmifpfgpllaa
open Go.RowKit
noncomputable def c_e_Transcript : Con0 := conF [(.pair .int (.pair .int .int)), (.pair .int (.pair .int .int))] fun (⟨⟨c1, c2, c3⟩, ⟨d1, d2, d3⟩, _⟩ : (Int × Int × Int) × (Int × Int × Int) × Unit) => ((d1 = c1 ∧ d2 = c2 ∧ d3 = c3) ∧ 0 ≤ 4000000000, .lit (.bool true), [])
noncomputable def G_e_Transcript : List (FuncId × Con) := []
theorem G_e_Transcript_ok : ∀ f C, (f, C) ∈ G_e_Transcript → C.ok Try.prog f := by
  intro f C h
  simp only [G_e_Transcript, List.mem_cons, Prod.mk.injEq, List.not_mem_nil, or_false] at h
set_option maxRecDepth 100000 in
set_option maxHeartbeats 4000000 in
theorem ok_e_Transcript : (mk c_e_Transcript).ok Try.prog 72 := okF (Θ := Th) (N := 20) (rs := [.tmp 4]) Th_ok Try.func72 (by kernel_rfl) rfl Try.results72 (by decide) (by kernel_rfl) fun (⟨⟨c1, c2, c3⟩, ⟨d1, d2, d3⟩, _⟩ : (Int × Int × Int) × (Int × Int × Int) × Unit) => ⟨rfl, rfl, Nat.le_of_ble_eq_true rfl, fun hc w0 => by
  have hL := dmy_eq
  try dsimp only at hc
  try dsimp only
  obtain ⟨⟨rfl, rfl, rfl⟩, hsz⟩ := hc
  refine AWp.body rfl ?_
  repeat' first
    | ((with_reducible refine hK _ _ ?_); clear hK K)
    | ((with_reducible refine hK _ _ (by kernel_rfl) ?_); clear hK K)
    | ((with_reducible refine AWp.pS Th_ok G_e_Transcript_ok [0, 1, 2, 3, 4, 9, 14, 19] (by decide) ?_); intro K hK)
    | ((with_reducible refine AWp.dS (by kernel_rfl) Th_ok G_e_Transcript_ok [0, 1, 2, 3, 4, 9, 14, 19] ?_); intro K hK)
    | ((with_reducible refine AWp.pE Th_ok G_e_Transcript_ok [0, 1, 2, 3, 4, 9, 14, 19] (by decide) ?_); intro K hK)
    | ((with_reducible refine AWp.dE (by kernel_rfl) Th_ok G_e_Transcript_ok [0, 1, 2, 3, 4, 9, 14, 19] ?_); intro K hK)
    | ((first | with_reducible refine runF_id ?_ | with_reducible refine stepF_id ?_); simp (maxSteps := 2000000) only [runF, stepF, forkOf, gdOf, List.toList_toArray, stepOp, look, opAV, pureOp, callOp, memOp, AS.ev, AS.get, AS.obj, initS, initFrom, AV.cells, AS.upd, Option.bind_some, Option.bind_none, Option.map_some, Option.map_none, Option.getD_none, Option.getD_some, ↓reduceIte, Nat.reduceEqDiff, Nat.reduceAdd, Nat.reduceMul, Nat.reduceSub, List.nil_append, List.append_nil, List.cons_append, List.map_cons, List.map_nil, true_and, and_true, AS.fin, pick, dedup, List.mem_cons, List.not_mem_nil, or_false, false_or, List.size_toArray, List.length_cons, List.length_nil, loadAV, List.drop_zero, List.drop_succ_cons, List.take_zero, List.take_succ_cons, List.getElem?_cons_zero, List.getElem?_cons_succ, List.head?_cons, List.mapM_cons, List.mapM_nil, Option.bind_eq_bind, Option.pure_def, deeps3, deep3, deep2, deep1, deeps, deeps2, mixInts, AV.plain, mk, mkD, DCon.lift, DCon.runC, ren3, ren2, ren1, numb, List.zipIdx_nil, List.zipIdx_cons, List.all_nil, List.all_cons, Nat.reduceLeDiff, List.range, List.range.loop, Ty.sz, beq_self_eq_true, Bool.and_self, and_self, Ty.ofC, AO.isDead, Nat.reduceLT, if_true, Nat.zero_add, Nat.add_zero, ite_true, Nat.le_refl, Bool.false_eq_true, reduceCtorEq, if_false, ite_false, binAV, AO.ren, AV.isCell, fillAV, List.set_cons_zero, List.set_cons_succ, Ty.cells, Ty.flat, Ty.dflt, List.getD_cons_zero, List.getD_cons_succ, Int.reduceToNat, Int.reduceSub, Int.reduceAdd, Int.reduceMul, Int.reduceNeg, forall_eq_or_imp, forall_eq, gdL, id_eq, Nat.lt_irrefl, srcOf, List.replicate_succ, List.replicate_zero, dite_true, List.isEmpty_cons, Option.isSome_some, List.length_append, List.length_singleton, bne_self_eq_false, Bool.not_true, Bool.not_false, conF, asArgs, asArg, asTy, asI1, asB1, asS1, asL1, canons, canon, Fork.true_, Fork.false_, bne, Bool.not_not, List.length_map, pickO, AS.over, TI.bl, bne_iff_ne, AS.over2, without, keys, List.mem_singleton, memOp2, memOp3, absorb, abInt, abBool, abStr, abList, gones, Int.toNat_natCast, List.take_length, subE, List.nodup_cons, List.nodup_nil, not_false_eq_true, Nat.sub_self, conR, asG, asI, asBo, asStr, asIs, asBs, asE4, asI2, asI3, asLL, asLLL, Th_int, Th_implTranscript, G_e_Transcript, hL])
    | ((with_reducible refine ens_step ?_ (fun hE => ?_)); · ((repeat' with_reducible apply And.intro) <;> first | with_reducible assumption | omega | exact True.intro | with_reducible rfl | (show ByteArray.size _ ≤ _; decide) | (simp; done) | (simp; omega) | rfl))
    | ((with_reducible refine And.intro ?_ ?_); · ((repeat' with_reducible apply And.intro) <;> first | with_reducible assumption | omega | exact True.intro | with_reducible rfl | (show ByteArray.size _ ≤ _; decide) | (simp; done) | (simp; omega) | rfl))
    | ((with_reducible refine Fork.intro (fun h' => ?_) (fun h' => ?_)) <;> (try simp only [Bool.not_eq_true', Bool.not_eq_false', bne] at h') <;> (replace hL := And.intro h' hL) <;> (try simp only [decide_eq_true_eq, decide_eq_false_iff_not, beq_iff_eq, beq_eq_false_iff_ne, ne_eq] at h') <;> (try (exfalso; omega)))
    | (with_reducible refine AWp.skipS ?_)
    | ((with_reducible refine AWp.condT rfl ?_))
    | ((with_reducible refine AWp.condF rfl ?_))
    | (with_reducible refine AWp.condB rfl ?_)
    | (with_reducible refine AWp.ret ?_)
    | (with_reducible refine seqQ_n ?_)
    | (with_reducible refine seqQ_ret ?_)
    | (with_reducible refine blkQ_ret ?_)
    | (with_reducible refine blkQ_n ?_)
    | (with_reducible refine seqQ_exit ?_)
    | (with_reducible refine blkQ_exit ?_)
    | (with_reducible refine blkQ_other (by decide) ?_)
    | (with_reducible refine AWp.block ?_)
    | (with_reducible refine AWp.exit ?_)
    | (with_reducible refine AWp.skip ?_)
    | ((with_reducible refine EndsAt_id ?_); (try subst_vars); refine EndsAt.done [] (by first | exact .inr rfl | exact .inl rfl) rfl rfl ?_ ?_ <;> first | decide | (repeat' (first | rfl | apply And.intro | trivial)))
    | (with_reducible refine AWp.seq ?_)⟩
noncomputable def c_e_TranscriptS : Con0 := conF [(.list (.pair .int (.pair .int .int))), (.list (.pair .int (.pair .int .int)))] fun (⟨xs, ys, _⟩ : (List (Int × Int × Int)) × (List (Int × Int × Int)) × Unit) => (ys = xs ∧ xs.length ≤ 4000000000, .lit (.bool true), [])
noncomputable def G_e_TranscriptS : List (FuncId × Con) := [(72, mk c_e_Transcript)]
theorem G_e_TranscriptS_ok : ∀ f C, (f, C) ∈ G_e_TranscriptS → C.ok Try.prog f := by
  intro f C h
  simp only [G_e_TranscriptS, List.mem_cons, Prod.mk.injEq, List.not_mem_nil, or_false] at h
  obtain ⟨rfl, rfl⟩ := h
  exact ok_e_Transcript
set_option maxRecDepth 100000 in
set_option maxHeartbeats 4000000 in
theorem ok_e_TranscriptS : (mk c_e_TranscriptS).ok Try.prog 32 := okF (Θ := Th) (N := 27) (rs := [.tmp 4]) Th_ok Try.func32 (by kernel_rfl) rfl Try.results32 (by decide) (by kernel_rfl) fun (⟨xs, ys, _⟩ : (List (Int × Int × Int)) × (List (Int × Int × Int)) × Unit) => ⟨rfl, rfl, Nat.le_of_ble_eq_true rfl, fun hc w0 => by
  have hL := dmy_eq
  try dsimp only at hc
  try dsimp only
  obtain ⟨rfl, hb⟩ := hc
  refine AWp.body rfl ?_
  repeat' first
    | ((with_reducible refine hK _ _ ?_); clear hK K)
    | ((with_reducible refine hK _ _ (by kernel_rfl) ?_); clear hK K)
    | ((with_reducible refine AWp.pS Th_ok G_e_TranscriptS_ok [0, 1, 4, 5, 10, 14, 26] (by decide) ?_); intro K hK)
    | ((with_reducible refine AWp.dS (by kernel_rfl) Th_ok G_e_TranscriptS_ok [0, 1, 4, 5, 10, 14, 26] ?_); intro K hK)
    | ((with_reducible refine AWp.pE Th_ok G_e_TranscriptS_ok [0, 1, 4, 5, 10, 14, 26] (by decide) ?_); intro K hK)
    | ((with_reducible refine AWp.dE (by kernel_rfl) Th_ok G_e_TranscriptS_ok [0, 1, 4, 5, 10, 14, 26] ?_); intro K hK)
    | ((first | with_reducible refine runF_id ?_ | with_reducible refine stepF_id ?_); simp (maxSteps := 2000000) only [runF, stepF, forkOf, gdOf, List.toList_toArray, stepOp, look, opAV, pureOp, callOp, memOp, AS.ev, AS.get, AS.obj, initS, initFrom, AV.cells, AS.upd, Option.bind_some, Option.bind_none, Option.map_some, Option.map_none, Option.getD_none, Option.getD_some, ↓reduceIte, Nat.reduceEqDiff, Nat.reduceAdd, Nat.reduceMul, Nat.reduceSub, List.nil_append, List.append_nil, List.cons_append, List.map_cons, List.map_nil, true_and, and_true, AS.fin, pick, dedup, List.mem_cons, List.not_mem_nil, or_false, false_or, List.size_toArray, List.length_cons, List.length_nil, loadAV, List.drop_zero, List.drop_succ_cons, List.take_zero, List.take_succ_cons, List.getElem?_cons_zero, List.getElem?_cons_succ, List.head?_cons, List.mapM_cons, List.mapM_nil, Option.bind_eq_bind, Option.pure_def, deeps3, deep3, deep2, deep1, deeps, deeps2, mixInts, AV.plain, mk, mkD, DCon.lift, DCon.runC, ren3, ren2, ren1, numb, List.zipIdx_nil, List.zipIdx_cons, List.all_nil, List.all_cons, Nat.reduceLeDiff, List.range, List.range.loop, Ty.sz, beq_self_eq_true, Bool.and_self, and_self, Ty.ofC, AO.isDead, Nat.reduceLT, if_true, Nat.zero_add, Nat.add_zero, ite_true, Nat.le_refl, Bool.false_eq_true, reduceCtorEq, if_false, ite_false, binAV, AO.ren, AV.isCell, fillAV, List.set_cons_zero, List.set_cons_succ, Ty.cells, Ty.flat, Ty.dflt, List.getD_cons_zero, List.getD_cons_succ, Int.reduceToNat, Int.reduceSub, Int.reduceAdd, Int.reduceMul, Int.reduceNeg, forall_eq_or_imp, forall_eq, gdL, id_eq, Nat.lt_irrefl, srcOf, List.replicate_succ, List.replicate_zero, dite_true, List.isEmpty_cons, Option.isSome_some, List.length_append, List.length_singleton, bne_self_eq_false, Bool.not_true, Bool.not_false, conF, asArgs, asArg, asTy, asI1, asB1, asS1, asL1, canons, canon, Fork.true_, Fork.false_, bne, Bool.not_not, List.length_map, pickO, AS.over, TI.bl, bne_iff_ne, AS.over2, without, keys, List.mem_singleton, memOp2, memOp3, absorb, abInt, abBool, abStr, abList, gones, Int.toNat_natCast, List.take_length, subE, List.nodup_cons, List.nodup_nil, not_false_eq_true, Nat.sub_self, conR, asG, asI, asBo, asStr, asIs, asBs, asE4, asI2, asI3, asLL, asLLL, Th_int, Th_Sint, Th_bool, Th_implSTranscript, Th_implTranscript, Th_lawsGroup, Th_string, G_e_TranscriptS, c_e_Transcript, hL])
    | ((with_reducible refine ens_step ?_ (fun hE => ?_)); · ((repeat' with_reducible apply And.intro) <;> first | with_reducible assumption | omega | exact True.intro | with_reducible rfl | (show ByteArray.size _ ≤ _; decide) | (simp; done) | (simp; omega) | rfl))
    | ((with_reducible refine And.intro ?_ ?_); · ((repeat' with_reducible apply And.intro) <;> first | with_reducible assumption | omega | exact True.intro | with_reducible rfl | (show ByteArray.size _ ≤ _; decide) | (simp; done) | (simp; omega) | rfl))
    | ((with_reducible refine Fork.intro (fun h' => ?_) (fun h' => ?_)) <;> (try simp only [Bool.not_eq_true', Bool.not_eq_false', bne] at h') <;> (replace hL := And.intro h' hL) <;> (try simp only [decide_eq_true_eq, decide_eq_false_iff_not, beq_iff_eq, beq_eq_false_iff_ne, ne_eq] at h') <;> (try (exfalso; omega)) <;> (try (have hke : k = ys.length := (by omega); subst hke)))
    | (with_reducible refine AWp.skipS ?_)
    | ((with_reducible refine AWp.condT rfl ?_))
    | ((with_reducible refine AWp.condF rfl ?_))
    | (with_reducible refine AWp.condB rfl ?_)
    | (with_reducible refine AWp.ret ?_)
    | (with_reducible refine seqQ_n ?_)
    | (with_reducible refine seqQ_ret ?_)
    | (with_reducible refine blkQ_ret ?_)
    | (with_reducible refine blkQ_n ?_)
    | (with_reducible refine seqQ_exit ?_)
    | (with_reducible refine blkQ_exit ?_)
    | (with_reducible refine blkQ_other (by decide) ?_)
    | (with_reducible refine AWp.block ?_)
    | (with_reducible refine AWp.exit ?_)
    | (with_reducible refine AWp.skip ?_)
    | ((with_reducible refine loop_id ?_); refine AWp.loopAt 4 rfl ?_; refine AWp.loopO [4, 5, 11, 12, 13, 14, 15, 16, 17, 18, 19, 20, 21, 22, 23, 24, 25, 26] (fun k => [(5, .lit (.int .i64 (k : Nat)))]) (fun k => []) (fun k => k ≤ ys.length) (fun k => ys.length - k) 0 (by omega) (by refine Sub.auto (by first | exact frok0 | assumption) rfl rfl ?_ ?_ <;> (try simp only [subE, AS.over2, without, keys, look, List.cons_append, List.nil_append, List.append_nil, List.mem_cons, List.not_mem_nil, or_false, or_true, true_or, false_or, Nat.reduceEqDiff, ↓reduceIte, Option.some.injEq, AV.lit.injEq, Value.int.injEq, Value.bool.injEq, AV.own.injEq, AO.row.injEq, AO.box.injEq, List.cons.injEq, AV.agg.injEq, AV.sl.injEq, true_and, and_true, and_self, heq_eq_eq, List.length_nil, List.length_cons, List.map_nil, List.take_zero, Int.natCast_add, Int.cast_ofNat_Int, Int.natCast_zero, List.length_append, List.length_map, List.length_take, Nat.zero_add]) <;> (simp)) (fun k hk_4 L4 hLoop4 => ?_))
    | ((with_reducible refine seqQ_f ?_); refine hLoop4 (k + 1) _ (by omega) (by omega) ?_; (refine Sub.auto (by first | exact frok0 | assumption) rfl rfl ?_ ?_ <;> (try simp only [subE, AS.over2, without, keys, look, List.cons_append, List.nil_append, List.append_nil, List.mem_cons, List.not_mem_nil, or_false, or_true, true_or, false_or, Nat.reduceEqDiff, ↓reduceIte, Option.some.injEq, AV.lit.injEq, Value.int.injEq, Value.bool.injEq, AV.own.injEq, AO.row.injEq, AO.box.injEq, List.cons.injEq, AV.agg.injEq, AV.sl.injEq, true_and, and_true, and_self, heq_eq_eq, List.length_nil, List.length_cons, List.map_nil, List.take_zero, Int.natCast_add, Int.cast_ofNat_Int, Int.natCast_zero, List.length_append, List.length_map, List.length_take, Nat.zero_add]) <;> (omega)))
    | ((with_reducible refine EndsAt_id ?_); (try subst_vars); refine EndsAt.done [] (by first | exact .inr rfl | exact .inl rfl) rfl rfl ?_ ?_ <;> first | decide | (repeat' (first | rfl | apply And.intro | trivial)))
    | (with_reducible refine AWp.seq ?_)⟩
def sel_w_TranscriptS : List AV → Option (List Nat × (Nat × Int))
  | [.own o0 n0, .lit (.int .i64 k)] => some ([o0], (n0, k))
  | _ => none
def c_w_TranscriptS : Con := conM [(.pair .int (.pair .int .int))] (fun (a : Nat × Int) => [a.1]) (fun a => a.2) sel_w_TranscriptS
noncomputable def G_w_TranscriptS : List (FuncId × Con) := []
theorem G_w_TranscriptS_ok : ∀ f C, (f, C) ∈ G_w_TranscriptS → C.ok Try.prog f := by
  intro f C h
  simp only [G_w_TranscriptS, List.mem_cons, Prod.mk.injEq, List.not_mem_nil, or_false] at h
set_option maxRecDepth 100000 in
set_option maxHeartbeats 4000000 in
theorem ok_w_TranscriptS : c_w_TranscriptS.ok Try.prog 33 := okM (Θ := Th) (N := 34) (rs := [.tmp 4]) Th_ok Try.func33 (by kernel_rfl) rfl Try.results33 (by decide) (by kernel_rfl) (fun a => [.own 0 a.1, .lit (.int .i64 a.2)]) (fun args l aa h => by unfold sel_w_TranscriptS at h; split at h <;> cases h; rfl) (fun aa => ⟨rfl, Nat.le_of_ble_eq_true rfl⟩) fun aa es0 d hc w0 pin hfr => by
  obtain ⟨n0, k⟩ := aa
  obtain ⟨e0, _⟩ := es0
  obtain ⟨xs0, _⟩ := d
  dsimp only at hc ⊢
  obtain ⟨hln, hk0, hk1⟩ := hc
  simp only [lensR, List.headD_cons, List.tail_cons, and_true] at hln
  obtain ⟨hn0, hb0⟩ := hln
  subst hn0
  simp only [cntR, cnt_int, Nat.add_zero] at hk1
  have hL := dmy_eq
  refine AWp.body rfl ?_
  repeat' first
    | ((with_reducible refine AWp_id ?_); refine AWp.focus 4 1000001 400000 rfl rfl rfl rfl ?_; intro es; (try simp only [spC, spO, Ty.nl, List.cons_append, List.nil_append, Nat.reduceAdd]))
    | ((with_reducible refine hK _ _ ?_); clear hK K)
    | ((with_reducible refine hK _ _ (by kernel_rfl) ?_); clear hK K)
    | ((with_reducible refine AWp.pS Th_ok G_w_TranscriptS_ok [0, 1, 4, 5, 9] (by decide) ?_); intro K hK)
    | ((with_reducible refine AWp.dS (by kernel_rfl) Th_ok G_w_TranscriptS_ok [0, 1, 4, 5, 9] ?_); intro K hK)
    | ((with_reducible refine AWp.pE Th_ok G_w_TranscriptS_ok [0, 1, 4, 5, 9] (by decide) ?_); intro K hK)
    | ((with_reducible refine AWp.dE (by kernel_rfl) Th_ok G_w_TranscriptS_ok [0, 1, 4, 5, 9] ?_); intro K hK)
    | ((first | with_reducible refine runF_id ?_ | with_reducible refine stepF_id ?_); simp (maxSteps := 2000000) only [runF, stepF, forkOf, gdOf, List.toList_toArray, stepOp, look, opAV, pureOp, callOp, memOp, AS.ev, AS.get, AS.obj, initS, initFrom, AV.cells, AS.upd, Option.bind_some, Option.bind_none, Option.map_some, Option.map_none, Option.getD_none, Option.getD_some, ↓reduceIte, Nat.reduceEqDiff, Nat.reduceAdd, Nat.reduceMul, Nat.reduceSub, List.nil_append, List.append_nil, List.cons_append, List.map_cons, List.map_nil, true_and, and_true, AS.fin, pick, dedup, List.mem_cons, List.not_mem_nil, or_false, false_or, List.size_toArray, List.length_cons, List.length_nil, loadAV, List.drop_zero, List.drop_succ_cons, List.take_zero, List.take_succ_cons, List.getElem?_cons_zero, List.getElem?_cons_succ, List.head?_cons, List.mapM_cons, List.mapM_nil, Option.bind_eq_bind, Option.pure_def, deeps3, deep3, deep2, deep1, deeps, deeps2, mixInts, AV.plain, mk, mkD, DCon.lift, DCon.runC, ren3, ren2, ren1, numb, List.zipIdx_nil, List.zipIdx_cons, List.all_nil, List.all_cons, Nat.reduceLeDiff, List.range, List.range.loop, Ty.sz, beq_self_eq_true, Bool.and_self, and_self, Ty.ofC, AO.isDead, Nat.reduceLT, if_true, Nat.zero_add, Nat.add_zero, ite_true, Nat.le_refl, Bool.false_eq_true, reduceCtorEq, if_false, ite_false, binAV, AO.ren, AV.isCell, fillAV, List.set_cons_zero, List.set_cons_succ, Ty.cells, Ty.flat, Ty.dflt, List.getD_cons_zero, List.getD_cons_succ, Int.reduceToNat, Int.reduceSub, Int.reduceAdd, Int.reduceMul, Int.reduceNeg, forall_eq_or_imp, forall_eq, gdL, id_eq, Nat.lt_irrefl, srcOf, List.replicate_succ, List.replicate_zero, dite_true, List.isEmpty_cons, Option.isSome_some, List.length_append, List.length_singleton, bne_self_eq_false, Bool.not_true, Bool.not_false, conF, asArgs, asArg, asTy, asI1, asB1, asS1, asL1, canons, canon, Fork.true_, Fork.false_, bne, Bool.not_not, List.length_map, pickO, AS.over, TI.bl, bne_iff_ne, AS.over2, without, keys, List.mem_singleton, memOp2, memOp3, absorb, abInt, abBool, abStr, abList, gones, Int.toNat_natCast, List.take_length, subE, List.nodup_cons, List.nodup_nil, not_false_eq_true, Nat.sub_self, conR, asG, asI, asBo, asStr, asIs, asBs, asE4, asI2, asI3, asLL, asLLL, Th_int, Th_Sint, Th_implSTranscript, Th_implTranscript, Th_lawsBases, Th_lawsGroup, Th_lawsRangeProof, Th_lawsSProof, G_w_TranscriptS, initW, wnum, rowsAO, ren2, ren1, spC, spO, List.map_cons, List.map_nil, cnt_int, cnt_mrk, mrk_len (.pair .int (.pair .int .int)), hL])
    | ((with_reducible refine ens_step ?_ (fun hE => ?_)); · ((repeat' with_reducible apply And.intro) <;> first | with_reducible assumption | omega | exact True.intro | with_reducible rfl | (show ByteArray.size _ ≤ _; decide) | (simp; done) | (simp; omega) | rfl))
    | ((with_reducible refine And.intro ?_ ?_); · ((repeat' with_reducible apply And.intro) <;> first | with_reducible assumption | omega | exact True.intro | with_reducible rfl | (show ByteArray.size _ ≤ _; decide) | (simp; done) | (simp; omega) | rfl))
    | ((with_reducible refine Fork.intro (fun h' => ?_) (fun h' => ?_)) <;> (try simp only [Bool.not_eq_true', Bool.not_eq_false', bne] at h') <;> (replace hL := And.intro h' hL) <;> (try simp only [decide_eq_true_eq, decide_eq_false_iff_not, beq_iff_eq, beq_eq_false_iff_ne, ne_eq] at h') <;> (try (have hps := cons_of_pos (l := suf) (by omega); obtain ⟨x0, suf, rfl⟩ := hps; obtain ⟨x1, x2, x3⟩ := x0; have hcn := cnt_cons (t := (.pair .int (.pair .int .int))) (x1, x2, x3) suf; (try simp only [cnt_pi, cnt_pb, cnt_pl, cnt_i, cnt_b, cnt_int] at hcn); (try simp only [cnt_int, List.length_cons] at hcn hz3); (try simp only [List.length_cons] at hz1))) <;> (try (have hsn := nil_of_zero (l := suf) (by omega); subst hsn; have hfin := hz.fin; obtain ⟨hfp, hfk⟩ := hfin; subst hfp hfk)))
    | (with_reducible refine AWp.skipS ?_)
    | ((with_reducible refine AWp.condT rfl ?_))
    | ((with_reducible refine AWp.condF rfl ?_))
    | (with_reducible refine AWp.condB rfl ?_)
    | (with_reducible refine AWp.ret ?_)
    | (with_reducible refine seqQ_n ?_)
    | (with_reducible refine seqQ_ret ?_)
    | (with_reducible refine blkQ_ret ?_)
    | (with_reducible refine blkQ_n ?_)
    | (with_reducible refine seqQ_exit ?_)
    | (with_reducible refine blkQ_exit ?_)
    | (with_reducible refine blkQ_other (by decide) ?_)
    | (with_reducible refine AWp.block ?_)
    | (with_reducible refine AWp.exit ?_)
    | (with_reducible refine AWp.skip ?_)
    | ((with_reducible refine loop_id ?_); refine AWp.loopAt 2 rfl ?_; refine AWp.loopO [1, 5, 6, 7, 8, 9, 10, 11, 12, 13, 14, 15, 16, 17, 18, 19, 20, 21, 22, 23, 24, 25, 26, 27, 28, 29, 30, 31, 32] (fun z : List (Int × Int × Int) × List (Int × Int × Int) × Int => [(5, .lit (.int .i64 (z.1.length : Nat))), (1, .lit (.int .i64 z.2.2))]) (fun z => [(1000001, .row e0 (.pair .int (.pair .int .int)) (z.1 ++ z.2.1))]) (fun z => MkI (.pair .int (.pair .int .int)) k xs0 z.1 z.2.1 z.2.2) (fun z => z.2.1.length) ([], xs0, k) (MkI.init hk0) (by refine Sub.auto (by assumption) rfl rfl ?_ ?_ <;> (try simp only [subE, AS.over2, without, keys, look, List.cons_append, List.nil_append, List.append_nil, List.mem_cons, List.not_mem_nil, or_false, or_true, true_or, false_or, Nat.reduceEqDiff, ↓reduceIte, Option.some.injEq, AV.lit.injEq, Value.int.injEq, Value.bool.injEq, AV.own.injEq, AO.row.injEq, AO.box.injEq, List.cons.injEq, AV.agg.injEq, AV.sl.injEq, true_and, and_true, and_self, heq_eq_eq, List.length_nil, List.length_cons, List.map_nil, List.take_zero, Int.natCast_add, Int.cast_ofNat_Int, Int.natCast_zero, List.length_append, List.length_map, List.length_take, Nat.zero_add, List.length_append, List.length_cons, List.length_nil, Nat.zero_add, Int.natCast_add, Int.cast_ofNat_Int, Int.natCast_one, mrk_pi, mrk_pb, mrk_pl, mrk_i, mrk_b, cnt_int, cnt_pi, cnt_pb, cnt_pl, cnt_i, cnt_b, cnt_int]) <;> (try simp only [Int.add_assoc, Int.reduceAdd, and_self, and_true, true_and]) <;> (first | done | (repeat' apply And.intro) <;> first | trivial | rfl | omega | (simp [List.nil_append]; done) | (simp; omega))) (fun z hz L hLoop => ?_); obtain ⟨pre, suf, kk⟩ := z; (try dsimp only at hz); have hz1 := hz.len; have hz3 := hz.tot; have hz4 := hz.pos; (try rw [cnt_int] at hz3))
    | ((with_reducible refine seqQ_f ?_); refine hLoop (pre ++ [Ty.mrk (.pair .int (.pair .int .int)) kk (x1, x2, x3)], suf, kk + Ty.cnt (.pair .int (.pair .int .int)) (x1, x2, x3)) _ hz.step (by simp only [List.length_cons]; omega) ?_; refine Sub.unfocusK 1000001 rfl ?_; simp only [absK, absorb, abInt, abBool, abStr, abList, AS.obj, look, Ty.sz, List.take_zero, List.take_succ_cons, List.drop_succ_cons, List.drop_zero, List.take_nil, List.drop_nil, Nat.reduceEqDiff, ↓reduceIte, Option.getD_some, dite_true, List.nil_append, List.cons_append, List.map_cons, List.map_nil, List.nodup_cons, List.nodup_nil, List.mem_cons, List.not_mem_nil, or_false, not_false_eq_true, and_self, and_true, true_and, mrk_len .int, gones, Nat.reduceAdd]; refine Sub.auto (by assumption) rfl rfl ?_ ?_ <;> (try simp only [subE, AS.over2, without, keys, look, List.cons_append, List.nil_append, List.append_nil, List.mem_cons, List.not_mem_nil, or_false, or_true, true_or, false_or, Nat.reduceEqDiff, ↓reduceIte, Option.some.injEq, AV.lit.injEq, Value.int.injEq, Value.bool.injEq, AV.own.injEq, AO.row.injEq, AO.box.injEq, List.cons.injEq, AV.agg.injEq, AV.sl.injEq, true_and, and_true, and_self, heq_eq_eq, List.length_nil, List.length_cons, List.map_nil, List.take_zero, Int.natCast_add, Int.cast_ofNat_Int, Int.natCast_zero, List.length_append, List.length_map, List.length_take, Nat.zero_add, List.append_assoc, List.length_append, List.length_cons, List.length_nil, Nat.zero_add, Int.natCast_add, Int.cast_ofNat_Int, Int.natCast_one, mrk_pi, mrk_pb, mrk_pl, mrk_i, mrk_b, cnt_int, cnt_pi, cnt_pb, cnt_pl, cnt_i, cnt_b, cnt_int]) <;> (try simp only [Int.add_assoc, Int.reduceAdd, and_self, and_true, true_and]) <;> (first | done | (repeat' apply And.intro) <;> first | trivial | rfl | omega | (simp [List.nil_append]; done) | (simp; omega)))
    | (with_reducible refine AWp.seq ?_)
    | ((with_reducible refine EndsW_id ?_); refine EndsW.done (by first | exact .inr rfl | exact .inl rfl) rfl ?_ ?_ rfl <;> first | omega | (simp only [cntR, mrkR, rowsAO, endsW, cnt_int, Int.natCast_add, Int.natCast_zero, Int.add_zero, Int.add_assoc, Nat.add_zero, look, AS.obj, List.cons_append, List.nil_append, Nat.reduceEqDiff, ↓reduceIte, Option.getD_some, and_true]; done) | (simp only [cntR, cnt_int, Int.natCast_add]; omega) | (refine ⟨rfl, ?_⟩; simp only [cntR, mrkR, rowsAO, endsW, cnt_int, Int.natCast_add, Int.natCast_zero, Int.add_zero, Int.add_assoc, Nat.add_zero, look, AS.obj, List.cons_append, List.nil_append, Nat.reduceEqDiff, ↓reduceIte, Option.getD_some, and_true]; done) | (simp [endsW, rowsAO, mrkR, AS.obj, look, cnt_int, Int.add_assoc]; done))
noncomputable def c_h_TranscriptS : Con0 := conF [(.list (.pair .int (.pair .int .int))), .int] fun (⟨xs, k, _⟩ : (List (Int × Int × Int)) × Int × Unit) => ((Ty.mrk (.list (.pair .int (.pair .int .int))) k xs : List (Int × Int × Int)) = xs ∧ (0 ≤ k ∧ k + ((Ty.cnt (.list (.pair .int (.pair .int .int))) xs) : Nat) ≤ 4000000000000000000) ∧ xs.length ≤ 9223372036854775807, .lit (.int .i64 (k + ((Ty.cnt (.list (.pair .int (.pair .int .int))) xs) : Nat))), [])
noncomputable def G_h_TranscriptS : List (FuncId × Con) := []
theorem G_h_TranscriptS_ok : ∀ f C, (f, C) ∈ G_h_TranscriptS → C.ok Try.prog f := by
  intro f C h
  simp only [G_h_TranscriptS, List.mem_cons, Prod.mk.injEq, List.not_mem_nil, or_false] at h
set_option maxRecDepth 100000 in
set_option maxHeartbeats 4000000 in
theorem ok_h_TranscriptS : (mk c_h_TranscriptS).ok Try.prog 34 := okF (Θ := Th) (N := 40) (rs := [.tmp 4]) Th_ok Try.func34 (by kernel_rfl) rfl Try.results34 (by decide) (by kernel_rfl) fun (⟨xs, k, _⟩ : (List (Int × Int × Int)) × Int × Unit) => ⟨rfl, rfl, Nat.le_of_ble_eq_true rfl, fun hc w0 => by
  have hL := dmy_eq
  try dsimp only at hc
  try dsimp only
  obtain ⟨hmk, ⟨hk0, hk1⟩, hxl⟩ := hc
  refine AWp.body rfl ?_
  repeat' first
    | ((with_reducible refine hK _ _ ?_); clear hK K)
    | ((with_reducible refine hK _ _ (by kernel_rfl) ?_); clear hK K)
    | ((with_reducible refine AWp.pS Th_ok G_h_TranscriptS_ok [0, 1, 4, 5, 9, 18, 27, 36] (by decide) ?_); intro K hK)
    | ((with_reducible refine AWp.dS (by kernel_rfl) Th_ok G_h_TranscriptS_ok [0, 1, 4, 5, 9, 18, 27, 36] ?_); intro K hK)
    | ((with_reducible refine AWp.pE Th_ok G_h_TranscriptS_ok [0, 1, 4, 5, 9, 18, 27, 36] (by decide) ?_); intro K hK)
    | ((with_reducible refine AWp.dE (by kernel_rfl) Th_ok G_h_TranscriptS_ok [0, 1, 4, 5, 9, 18, 27, 36] ?_); intro K hK)
    | ((first | with_reducible refine runF_id ?_ | with_reducible refine stepF_id ?_); simp (maxSteps := 2000000) only [runF, stepF, forkOf, gdOf, List.toList_toArray, stepOp, look, opAV, pureOp, callOp, memOp, AS.ev, AS.get, AS.obj, initS, initFrom, AV.cells, AS.upd, Option.bind_some, Option.bind_none, Option.map_some, Option.map_none, Option.getD_none, Option.getD_some, ↓reduceIte, Nat.reduceEqDiff, Nat.reduceAdd, Nat.reduceMul, Nat.reduceSub, List.nil_append, List.append_nil, List.cons_append, List.map_cons, List.map_nil, true_and, and_true, AS.fin, pick, dedup, List.mem_cons, List.not_mem_nil, or_false, false_or, List.size_toArray, List.length_cons, List.length_nil, loadAV, List.drop_zero, List.drop_succ_cons, List.take_zero, List.take_succ_cons, List.getElem?_cons_zero, List.getElem?_cons_succ, List.head?_cons, List.mapM_cons, List.mapM_nil, Option.bind_eq_bind, Option.pure_def, deeps3, deep3, deep2, deep1, deeps, deeps2, mixInts, AV.plain, mk, mkD, DCon.lift, DCon.runC, ren3, ren2, ren1, numb, List.zipIdx_nil, List.zipIdx_cons, List.all_nil, List.all_cons, Nat.reduceLeDiff, List.range, List.range.loop, Ty.sz, beq_self_eq_true, Bool.and_self, and_self, Ty.ofC, AO.isDead, Nat.reduceLT, if_true, Nat.zero_add, Nat.add_zero, ite_true, Nat.le_refl, Bool.false_eq_true, reduceCtorEq, if_false, ite_false, binAV, AO.ren, AV.isCell, fillAV, List.set_cons_zero, List.set_cons_succ, Ty.cells, Ty.flat, Ty.dflt, List.getD_cons_zero, List.getD_cons_succ, Int.reduceToNat, Int.reduceSub, Int.reduceAdd, Int.reduceMul, Int.reduceNeg, forall_eq_or_imp, forall_eq, gdL, id_eq, Nat.lt_irrefl, srcOf, List.replicate_succ, List.replicate_zero, dite_true, List.isEmpty_cons, Option.isSome_some, List.length_append, List.length_singleton, bne_self_eq_false, Bool.not_true, Bool.not_false, conF, asArgs, asArg, asTy, asI1, asB1, asS1, asL1, canons, canon, Fork.true_, Fork.false_, bne, Bool.not_not, List.length_map, pickO, AS.over, TI.bl, bne_iff_ne, AS.over2, without, keys, List.mem_singleton, memOp2, memOp3, absorb, abInt, abBool, abStr, abList, gones, Int.toNat_natCast, List.take_length, subE, List.nodup_cons, List.nodup_nil, not_false_eq_true, Nat.sub_self, conR, asG, asI, asBo, asStr, asIs, asBs, asE4, asI2, asI3, asLL, asLLL, Th_int, Th_Sint, Th_implGroup, Th_implSProof, Th_implSTranscript, Th_implTranscript, Th_lawsBases, Th_lawsGroup, Th_lawsRangeProof, G_h_TranscriptS, hL])
    | ((with_reducible refine ens_step ?_ (fun hE => ?_)); · ((repeat' with_reducible apply And.intro) <;> first | with_reducible assumption | omega | exact True.intro | with_reducible rfl | (show ByteArray.size _ ≤ _; decide) | (simp; done) | (simp; omega) | rfl))
    | ((with_reducible refine And.intro ?_ ?_); · ((repeat' with_reducible apply And.intro) <;> first | with_reducible assumption | omega | exact True.intro | with_reducible rfl | (show ByteArray.size _ ≤ _; decide) | (simp; done) | (simp; omega) | rfl))
    | ((with_reducible refine Fork.intro (fun h' => ?_) (fun h' => ?_)) <;> (try simp only [Bool.not_eq_true', Bool.not_eq_false', bne] at h') <;> (replace hL := And.intro h' hL) <;> (try simp only [decide_eq_true_eq, decide_eq_false_iff_not, beq_iff_eq, beq_eq_false_iff_ne, ne_eq] at h') <;> (try (exfalso; omega)) <;> (try (have hps := cons_of_pos (l := suf) (by omega); obtain ⟨x0, suf, rfl⟩ := hps; obtain ⟨x1, x2, x3⟩ := x0; have hcn := cnt_cons (t := (.pair .int (.pair .int .int))) (x1, x2, x3) suf; (try simp only [cnt_pi, cnt_pb, cnt_pl, cnt_i, cnt_b, cnt_int] at hcn); have hone := hz.one ((0 : Int), (0 : Int), (0 : Int)); obtain ⟨hmx, hgx⟩ := hone; (try simp only [mrk_pi, mrk_pb, mrk_pl, mrk_i, mrk_b, cnt_int, Prod.mk.injEq] at hmx); obtain ⟨hx0, hx1, hx2⟩ := hmx; (try simp only [List.length_cons] at hz1); (try simp only [cnt_int, List.length_cons] at hcn hz3); replace hL := And.intro hgx hL)) <;> (try (have hsn := nil_of_zero (l := suf) (by omega); subst hsn; have hft := hz.tot; rw [cnt_nil] at hft; (try rw [cnt_int] at hft))))
    | (with_reducible refine AWp.skipS ?_)
    | ((with_reducible refine AWp.condT rfl ?_))
    | ((with_reducible refine AWp.condF rfl ?_))
    | (with_reducible refine AWp.condB rfl ?_)
    | (with_reducible refine AWp.ret ?_)
    | (with_reducible refine seqQ_n ?_)
    | (with_reducible refine seqQ_ret ?_)
    | (with_reducible refine blkQ_ret ?_)
    | (with_reducible refine blkQ_n ?_)
    | (with_reducible refine seqQ_exit ?_)
    | (with_reducible refine blkQ_exit ?_)
    | (with_reducible refine blkQ_other (by decide) ?_)
    | (with_reducible refine AWp.block ?_)
    | (with_reducible refine AWp.exit ?_)
    | (with_reducible refine AWp.skip ?_)
    | ((with_reducible refine loop_id ?_); refine AWp.loopAt 2 rfl ?_; refine AWp.loopO [1, 4, 5, 6, 7, 8, 9, 10, 11, 12, 13, 14, 15, 16, 17, 18, 19, 20, 21, 22, 23, 24, 25, 26, 27, 28, 29, 30, 31, 32, 33, 34, 35, 36, 37, 38] (fun z : List (Int × Int × Int) × List (Int × Int × Int) × Int => [(5, .lit (.int .i64 (z.1.length : Nat))), (1, .lit (.int .i64 z.2.2))]) (fun z => []) (fun z => HdI (.pair .int (.pair .int .int)) k xs z.1 z.2.1 z.2.2) (fun z => z.2.1.length) ([], xs, k) (HdI.init hk0 hmk) (by refine Sub.auto (by first | exact frok0 | assumption) rfl rfl ?_ ?_ <;> (try simp only [subE, AS.over2, without, keys, look, List.cons_append, List.nil_append, List.append_nil, List.mem_cons, List.not_mem_nil, or_false, or_true, true_or, false_or, Nat.reduceEqDiff, ↓reduceIte, Option.some.injEq, AV.lit.injEq, Value.int.injEq, Value.bool.injEq, AV.own.injEq, AO.row.injEq, AO.box.injEq, List.cons.injEq, AV.agg.injEq, AV.sl.injEq, true_and, and_true, and_self, heq_eq_eq, List.length_nil, List.length_cons, List.map_nil, List.take_zero, Int.natCast_add, Int.cast_ofNat_Int, Int.natCast_zero, List.length_append, List.length_map, List.length_take, Nat.zero_add, Int.natCast_one, cnt_pi, cnt_pb, cnt_pl, cnt_i, cnt_b, cnt_int]) <;> (first | done | (repeat' apply And.intro) <;> first | trivial | rfl | omega | (simp; omega))) (fun z hz L hLoop => ?_); obtain ⟨pre, suf, kk⟩ := z; (try dsimp only at hz); have hz1 := hz.len; have hz3 := hz.tot; have hz4 := hz.pos; (try rw [cnt_int] at hz3))
    | ((with_reducible refine seqQ_f ?_); refine hLoop (pre ++ [(x1, x2, x3)], suf, kk + Ty.cnt (.pair .int (.pair .int .int)) (x1, x2, x3)) _ hz.step (by simp only [List.length_cons]; omega) ?_; refine Sub.auto (by first | exact frok0 | assumption) rfl rfl ?_ ?_ <;> (try simp only [subE, AS.over2, without, keys, look, List.cons_append, List.nil_append, List.append_nil, List.mem_cons, List.not_mem_nil, or_false, or_true, true_or, false_or, Nat.reduceEqDiff, ↓reduceIte, Option.some.injEq, AV.lit.injEq, Value.int.injEq, Value.bool.injEq, AV.own.injEq, AO.row.injEq, AO.box.injEq, List.cons.injEq, AV.agg.injEq, AV.sl.injEq, true_and, and_true, and_self, heq_eq_eq, List.length_nil, List.length_cons, List.map_nil, List.take_zero, Int.natCast_add, Int.cast_ofNat_Int, Int.natCast_zero, List.length_append, List.length_map, List.length_take, Nat.zero_add, Int.natCast_one, cnt_pi, cnt_pb, cnt_pl, cnt_i, cnt_b, cnt_int]) <;> (first | done | (repeat' apply And.intro) <;> first | trivial | rfl | omega | (simp; omega)))
    | ((with_reducible refine EndsAt_id ?_); (try subst_vars); refine EndsAt.int (by first | exact .inr rfl | exact .inl rfl) rfl ?_; first | rfl | omega)
    | (with_reducible refine AWp.seq ?_)⟩
end Go.Proofs.Ytgnnmifpfgpllaa
