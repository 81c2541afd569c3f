import Derived.Test.YtlggpehioflbdaaZD8
import Derived.Test.YtlggpehioflbdaaZD21
/- Dealers' proofs on both sides. -/
set_option linter.all false
set_option linter.unusedVariables false
set_option linter.unusedSimpArgs false
namespace Go.Proofs.Ytlggpehioflbdaa
open Go.RowKit
noncomputable def c_VerifyKnowledgeI : Con0 := conF [(.pair .int (.pair .int .int)), .str, .int, .int, (.pair (.list .int) (.pair (.list .int) (.list .int)))] fun (⟨⟨p, q, g⟩, s, b, y, ⟨pa, pc, pr⟩, _⟩ : (Int × Int × Int) × ByteArray × Int × Int × (List Int × List Int × List Int) × Unit) => (True, .tup [.lit (.bool (okVL p q g s [[b]] [y] && vLin p q g s [[b]] [y] pa pc pr)), .lit (.bool (okVL p q g s [[b]] [y]))], [])
noncomputable def G_VerifyKnowledgeI : List (FuncId × Con) := [(162, mk c_VerifyLinearI)]
theorem G_VerifyKnowledgeI_ok : ∀ f C, (f, C) ∈ G_VerifyKnowledgeI → C.ok Try.prog f := by
  intro f C h
  simp only [G_VerifyKnowledgeI, List.mem_cons, Prod.mk.injEq, List.not_mem_nil, or_false] at h
  obtain ⟨rfl, rfl⟩ := h
  exact ok_VerifyLinearI
set_option maxRecDepth 100000 in
set_option maxHeartbeats 4000000 in
theorem ok_VerifyKnowledgeI : (mk c_VerifyKnowledgeI).ok Try.prog 115 := okF (Θ := Th) (N := 23) (rs := [.tmp 10, .tmp 11]) Th_ok Try.func115 (by kernel_rfl) rfl Try.results115 (by decide) (by kernel_rfl) fun (⟨⟨p, q, g⟩, s, b, y, ⟨pa, pc, pr⟩, _⟩ : (Int × Int × Int) × ByteArray × Int × Int × (List Int × List Int × List Int) × Unit) => ⟨rfl, rfl, Nat.le_of_ble_eq_true rfl, fun hc w0 => by
  have hL := dmy_eq
  try dsimp only at hc
  try dsimp only
  refine AWp.body rfl ?_
  repeat' first
    | ((with_reducible refine hK _ _ ?_); clear hK K)
    | ((with_reducible refine hK _ _ (by kernel_rfl) ?_); clear hK K)
    | ((with_reducible refine AWp.pS Th_ok G_VerifyKnowledgeI_ok [0, 1, 2, 3, 4, 5, 9, 10, 11] (by decide) ?_); intro K hK)
    | ((with_reducible refine AWp.dS (by kernel_rfl) Th_ok G_VerifyKnowledgeI_ok [0, 1, 2, 3, 4, 5, 9, 10, 11] ?_); intro K hK)
    | ((with_reducible refine AWp.pE Th_ok G_VerifyKnowledgeI_ok [0, 1, 2, 3, 4, 5, 9, 10, 11] (by decide) ?_); intro K hK)
    | ((with_reducible refine AWp.dE (by kernel_rfl) Th_ok G_VerifyKnowledgeI_ok [0, 1, 2, 3, 4, 5, 9, 10, 11] ?_); intro K hK)
    | ((first | with_reducible refine runF_id ?_ | with_reducible refine stepF_id ?_); simp (maxSteps := 2000000) only [runF, stepF, forkOf, gdOf, List.toList_toArray, stepOp, look, opAV, pureOp, callOp, memOp, AS.ev, AS.get, AS.obj, initS, initFrom, AV.cells, AS.upd, Option.bind_some, Option.bind_none, Option.map_some, Option.map_none, Option.getD_none, Option.getD_some, ↓reduceIte, Nat.reduceEqDiff, Nat.reduceAdd, Nat.reduceMul, Nat.reduceSub, List.nil_append, List.append_nil, List.cons_append, List.map_cons, List.map_nil, true_and, and_true, AS.fin, pick, dedup, List.mem_cons, List.not_mem_nil, or_false, false_or, List.size_toArray, List.length_cons, List.length_nil, loadAV, List.drop_zero, List.drop_succ_cons, List.take_zero, List.take_succ_cons, List.getElem?_cons_zero, List.getElem?_cons_succ, List.head?_cons, List.mapM_cons, List.mapM_nil, Option.bind_eq_bind, Option.pure_def, deeps3, deep3, deep2, deep1, deeps, deeps2, mixInts, AV.plain, mk, mkD, DCon.lift, DCon.runC, ren3, ren2, ren1, numb, List.zipIdx_nil, List.zipIdx_cons, List.all_nil, List.all_cons, Nat.reduceLeDiff, List.range, List.range.loop, Ty.sz, beq_self_eq_true, Bool.and_self, and_self, Ty.ofC, AO.isDead, Nat.reduceLT, if_true, Nat.zero_add, Nat.add_zero, ite_true, Nat.le_refl, Bool.false_eq_true, reduceCtorEq, if_false, ite_false, binAV, AO.ren, AV.isCell, fillAV, List.set_cons_zero, List.set_cons_succ, Ty.cells, Ty.flat, Ty.dflt, List.getD_cons_zero, List.getD_cons_succ, Int.reduceToNat, Int.reduceSub, Int.reduceAdd, Int.reduceMul, Int.reduceNeg, forall_eq_or_imp, forall_eq, gdL, id_eq, Nat.lt_irrefl, srcOf, List.replicate_succ, List.replicate_zero, dite_true, List.isEmpty_cons, Option.isSome_some, List.length_append, List.length_singleton, bne_self_eq_false, Bool.not_true, Bool.not_false, conF, asArgs, asArg, asTy, asI1, asB1, asS1, asL1, canons, canon, Fork.true_, Fork.false_, bne, Bool.not_not, List.length_map, pickO, AS.over, TI.bl, bne_iff_ne, AS.over2, without, keys, List.mem_singleton, memOp2, memOp3, absorb, abInt, abBool, abStr, abList, gones, Int.toNat_natCast, List.take_length, subE, List.nodup_cons, List.nodup_nil, not_false_eq_true, Nat.sub_self, conR, asG, asI, asBo, asStr, asIs, asBs, asE4, asI2, asI3, asLL, asLLL, Th_int, Th_SSint, Th_Sint, Th_bool, Th_implGroup, Th_implProof, Th_string, G_VerifyKnowledgeI, c_VerifyLinearI, hL])
    | ((with_reducible refine ens_step ?_ (fun hE => ?_)); · ((repeat' with_reducible apply And.intro) <;> first | with_reducible assumption | omega | exact True.intro | with_reducible rfl | (show ByteArray.size _ ≤ _; decide) | (simp; done) | (simp; omega) | rfl))
    | ((with_reducible refine And.intro ?_ ?_); · ((repeat' with_reducible apply And.intro) <;> first | with_reducible assumption | omega | exact True.intro | with_reducible rfl | (show ByteArray.size _ ≤ _; decide) | (simp; done) | (simp; omega) | rfl))
    | ((with_reducible refine Fork.intro (fun h' => ?_) (fun h' => ?_)) <;> (try simp only [Bool.not_eq_true', Bool.not_eq_false', bne] at h') <;> (replace hL := And.intro h' hL) <;> (try simp only [decide_eq_true_eq, decide_eq_false_iff_not, beq_iff_eq, beq_eq_false_iff_ne, ne_eq] at h'))
    | (with_reducible refine AWp.skipS ?_)
    | ((with_reducible refine AWp.condT rfl ?_))
    | ((with_reducible refine AWp.condF rfl ?_))
    | (with_reducible refine AWp.condB rfl ?_)
    | (with_reducible refine AWp.ret ?_)
    | (with_reducible refine seqQ_n ?_)
    | (with_reducible refine seqQ_ret ?_)
    | (with_reducible refine blkQ_ret ?_)
    | (with_reducible refine blkQ_n ?_)
    | (with_reducible refine seqQ_exit ?_)
    | (with_reducible refine blkQ_exit ?_)
    | (with_reducible refine blkQ_other (by decide) ?_)
    | (with_reducible refine AWp.block ?_)
    | (with_reducible refine AWp.exit ?_)
    | (with_reducible refine AWp.skip ?_)
    | ((with_reducible refine EndsAt_id ?_); (try subst_vars); refine EndsAt.done [] (by first | exact .inr rfl | exact .inl rfl) rfl rfl ?_ ?_ <;> first | decide | (repeat' (first | rfl | apply And.intro | trivial)))
    | (with_reducible refine AWp.seq ?_)⟩
noncomputable def c_VerifyKnowledgeS : Con0 := conF [(.pair .int (.pair .int .int)), .str, .int, .int, (.pair (.list .int) (.pair (.list .int) (.list .int)))] fun (⟨⟨p, q, g⟩, s, b, y, ⟨pa, pc, pr⟩, _⟩ : (Int × Int × Int) × ByteArray × Int × Int × (List Int × List Int × List Int) × Unit) => (True, .tup [.lit (.bool (okVL p q g s [[b]] [y] && vLin p q g s [[b]] [y] pa pc pr)), .lit (.bool (okVL p q g s [[b]] [y]))], [])
noncomputable def G_VerifyKnowledgeS : List (FuncId × Con) := [(160, mk c_VerifyLinearS)]
theorem G_VerifyKnowledgeS_ok : ∀ f C, (f, C) ∈ G_VerifyKnowledgeS → C.ok Try.prog f := by
  intro f C h
  simp only [G_VerifyKnowledgeS, List.mem_cons, Prod.mk.injEq, List.not_mem_nil, or_false] at h
  obtain ⟨rfl, rfl⟩ := h
  exact ok_VerifyLinearS
set_option maxRecDepth 100000 in
set_option maxHeartbeats 4000000 in
theorem ok_VerifyKnowledgeS : (mk c_VerifyKnowledgeS).ok Try.prog 113 := okF (Θ := Th) (N := 23) (rs := [.tmp 10, .tmp 11]) Th_ok Try.func113 (by kernel_rfl) rfl Try.results113 (by decide) (by kernel_rfl) fun (⟨⟨p, q, g⟩, s, b, y, ⟨pa, pc, pr⟩, _⟩ : (Int × Int × Int) × ByteArray × Int × Int × (List Int × List Int × List Int) × Unit) => ⟨rfl, rfl, Nat.le_of_ble_eq_true rfl, fun hc w0 => by
  have hL := dmy_eq
  try dsimp only at hc
  try dsimp only
  refine AWp.body rfl ?_
  repeat' first
    | ((with_reducible refine hK _ _ ?_); clear hK K)
    | ((with_reducible refine hK _ _ (by kernel_rfl) ?_); clear hK K)
    | ((with_reducible refine AWp.pS Th_ok G_VerifyKnowledgeS_ok [0, 1, 2, 3, 4, 5, 9, 10, 11] (by decide) ?_); intro K hK)
    | ((with_reducible refine AWp.dS (by kernel_rfl) Th_ok G_VerifyKnowledgeS_ok [0, 1, 2, 3, 4, 5, 9, 10, 11] ?_); intro K hK)
    | ((with_reducible refine AWp.pE Th_ok G_VerifyKnowledgeS_ok [0, 1, 2, 3, 4, 5, 9, 10, 11] (by decide) ?_); intro K hK)
    | ((with_reducible refine AWp.dE (by kernel_rfl) Th_ok G_VerifyKnowledgeS_ok [0, 1, 2, 3, 4, 5, 9, 10, 11] ?_); intro K hK)
    | ((first | with_reducible refine runF_id ?_ | with_reducible refine stepF_id ?_); simp (maxSteps := 2000000) only [runF, stepF, forkOf, gdOf, List.toList_toArray, stepOp, look, opAV, pureOp, callOp, memOp, AS.ev, AS.get, AS.obj, initS, initFrom, AV.cells, AS.upd, Option.bind_some, Option.bind_none, Option.map_some, Option.map_none, Option.getD_none, Option.getD_some, ↓reduceIte, Nat.reduceEqDiff, Nat.reduceAdd, Nat.reduceMul, Nat.reduceSub, List.nil_append, List.append_nil, List.cons_append, List.map_cons, List.map_nil, true_and, and_true, AS.fin, pick, dedup, List.mem_cons, List.not_mem_nil, or_false, false_or, List.size_toArray, List.length_cons, List.length_nil, loadAV, List.drop_zero, List.drop_succ_cons, List.take_zero, List.take_succ_cons, List.getElem?_cons_zero, List.getElem?_cons_succ, List.head?_cons, List.mapM_cons, List.mapM_nil, Option.bind_eq_bind, Option.pure_def, deeps3, deep3, deep2, deep1, deeps, deeps2, mixInts, AV.plain, mk, mkD, DCon.lift, DCon.runC, ren3, ren2, ren1, numb, List.zipIdx_nil, List.zipIdx_cons, List.all_nil, List.all_cons, Nat.reduceLeDiff, List.range, List.range.loop, Ty.sz, beq_self_eq_true, Bool.and_self, and_self, Ty.ofC, AO.isDead, Nat.reduceLT, if_true, Nat.zero_add, Nat.add_zero, ite_true, Nat.le_refl, Bool.false_eq_true, reduceCtorEq, if_false, ite_false, binAV, AO.ren, AV.isCell, fillAV, List.set_cons_zero, List.set_cons_succ, Ty.cells, Ty.flat, Ty.dflt, List.getD_cons_zero, List.getD_cons_succ, Int.reduceToNat, Int.reduceSub, Int.reduceAdd, Int.reduceMul, Int.reduceNeg, forall_eq_or_imp, forall_eq, gdL, id_eq, Nat.lt_irrefl, srcOf, List.replicate_succ, List.replicate_zero, dite_true, List.isEmpty_cons, Option.isSome_some, List.length_append, List.length_singleton, bne_self_eq_false, Bool.not_true, Bool.not_false, conF, asArgs, asArg, asTy, asI1, asB1, asS1, asL1, canons, canon, Fork.true_, Fork.false_, bne, Bool.not_not, List.length_map, pickO, AS.over, TI.bl, bne_iff_ne, AS.over2, without, keys, List.mem_singleton, memOp2, memOp3, absorb, abInt, abBool, abStr, abList, gones, Int.toNat_natCast, List.take_length, subE, List.nodup_cons, List.nodup_nil, not_false_eq_true, Nat.sub_self, conR, asG, asI, asBo, asStr, asIs, asBs, asE4, asI2, asI3, asLL, asLLL, Th_int, Th_SSint, Th_Sint, Th_bool, Th_implGroup, Th_implProof, Th_string, G_VerifyKnowledgeS, c_VerifyLinearS, hL])
    | ((with_reducible refine ens_step ?_ (fun hE => ?_)); · ((repeat' with_reducible apply And.intro) <;> first | with_reducible assumption | omega | exact True.intro | with_reducible rfl | (show ByteArray.size _ ≤ _; decide) | (simp; done) | (simp; omega) | rfl))
    | ((with_reducible refine And.intro ?_ ?_); · ((repeat' with_reducible apply And.intro) <;> first | with_reducible assumption | omega | exact True.intro | with_reducible rfl | (show ByteArray.size _ ≤ _; decide) | (simp; done) | (simp; omega) | rfl))
    | ((with_reducible refine Fork.intro (fun h' => ?_) (fun h' => ?_)) <;> (try simp only [Bool.not_eq_true', Bool.not_eq_false', bne] at h') <;> (replace hL := And.intro h' hL) <;> (try simp only [decide_eq_true_eq, decide_eq_false_iff_not, beq_iff_eq, beq_eq_false_iff_ne, ne_eq] at h'))
    | (with_reducible refine AWp.skipS ?_)
    | ((with_reducible refine AWp.condT rfl ?_))
    | ((with_reducible refine AWp.condF rfl ?_))
    | (with_reducible refine AWp.condB rfl ?_)
    | (with_reducible refine AWp.ret ?_)
    | (with_reducible refine seqQ_n ?_)
    | (with_reducible refine seqQ_ret ?_)
    | (with_reducible refine blkQ_ret ?_)
    | (with_reducible refine blkQ_n ?_)
    | (with_reducible refine seqQ_exit ?_)
    | (with_reducible refine blkQ_exit ?_)
    | (with_reducible refine blkQ_other (by decide) ?_)
    | (with_reducible refine AWp.block ?_)
    | (with_reducible refine AWp.exit ?_)
    | (with_reducible refine AWp.skip ?_)
    | ((with_reducible refine EndsAt_id ?_); (try subst_vars); refine EndsAt.done [] (by first | exact .inr rfl | exact .inl rfl) rfl rfl ?_ ?_ <;> first | decide | (repeat' (first | rfl | apply And.intro | trivial)))
    | (with_reducible refine AWp.seq ?_)⟩
noncomputable def okVD (p q g : Int) (cs ss : List Int) : Bool := vdl p q g cs ss && okVL p q g (ByteArray.mk #[100, 101, 97, 108, 101, 114]) [[g]] [cs.getD 0 0]
noncomputable def vrD (p q g : Int) (cs ss pa pc pr : List Int) : Bool := vdl p q g cs ss && (okVL p q g (ByteArray.mk #[100, 101, 97, 108, 101, 114]) [[g]] [cs.getD 0 0] && vLin p q g (ByteArray.mk #[100, 101, 97, 108, 101, 114]) [[g]] [cs.getD 0 0] pa pc pr)
noncomputable def c_VerifyDealerI : Con0 := conF [(.pair .int (.pair .int .int)), (.pair (.list .int) (.list .int)), (.pair (.list .int) (.pair (.list .int) (.list .int)))] fun (⟨⟨p, q, g⟩, ⟨cs, ss⟩, ⟨pa, pc, pr⟩, _⟩ : (Int × Int × Int) × (List Int × List Int) × (List Int × List Int × List Int) × Unit) => (True, .tup [.lit (.bool (vrD p q g cs ss pa pc pr)), .lit (.bool (okVD p q g cs ss))], [])
noncomputable def G_VerifyDealerI : List (FuncId × Con) := [(114, mk c_isValidDealingI), (115, mk c_VerifyKnowledgeI)]
theorem G_VerifyDealerI_ok : ∀ f C, (f, C) ∈ G_VerifyDealerI → C.ok Try.prog f := by
  intro f C h
  simp only [G_VerifyDealerI, List.mem_cons, Prod.mk.injEq, List.not_mem_nil, or_false] at h
  rcases h with ⟨rfl, rfl⟩ | ⟨rfl, rfl⟩
  · exact ok_isValidDealingI
  · exact ok_VerifyKnowledgeI
set_option maxRecDepth 100000 in
set_option maxHeartbeats 4000000 in
theorem ok_VerifyDealerI : (mk c_VerifyDealerI).ok Try.prog 59 := okF (Θ := Th) (N := 23) (rs := [.tmp 6, .tmp 7]) Th_ok Try.func59 (by kernel_rfl) rfl Try.results59 (by decide) (by kernel_rfl) fun (⟨⟨p, q, g⟩, ⟨cs, ss⟩, ⟨pa, pc, pr⟩, _⟩ : (Int × Int × Int) × (List Int × List Int) × (List Int × List Int × List Int) × Unit) => ⟨rfl, rfl, Nat.le_of_ble_eq_true rfl, fun hc w0 => by
  have hL := dmy_eq
  try dsimp only at hc
  try dsimp only
  refine AWp.body rfl ?_
  repeat' first
    | ((with_reducible refine hK _ _ ?_); clear hK K)
    | ((with_reducible refine hK _ _ (by kernel_rfl) ?_); clear hK K)
    | ((with_reducible refine AWp.pS Th_ok G_VerifyDealerI_ok [0, 1, 2, 3, 4, 5, 6, 7, 11] (by decide) ?_); intro K hK)
    | ((with_reducible refine AWp.dS (by kernel_rfl) Th_ok G_VerifyDealerI_ok [0, 1, 2, 3, 4, 5, 6, 7, 11] ?_); intro K hK)
    | ((with_reducible refine AWp.pE Th_ok G_VerifyDealerI_ok [0, 1, 2, 3, 4, 5, 6, 7, 11] (by decide) ?_); intro K hK)
    | ((with_reducible refine AWp.dE (by kernel_rfl) Th_ok G_VerifyDealerI_ok [0, 1, 2, 3, 4, 5, 6, 7, 11] ?_); intro K hK)
    | ((first | with_reducible refine runF_id ?_ | with_reducible refine stepF_id ?_); simp (maxSteps := 2000000) only [runF, stepF, forkOf, gdOf, List.toList_toArray, stepOp, look, opAV, pureOp, callOp, memOp, AS.ev, AS.get, AS.obj, initS, initFrom, AV.cells, AS.upd, Option.bind_some, Option.bind_none, Option.map_some, Option.map_none, Option.getD_none, Option.getD_some, ↓reduceIte, Nat.reduceEqDiff, Nat.reduceAdd, Nat.reduceMul, Nat.reduceSub, List.nil_append, List.append_nil, List.cons_append, List.map_cons, List.map_nil, true_and, and_true, AS.fin, pick, dedup, List.mem_cons, List.not_mem_nil, or_false, false_or, List.size_toArray, List.length_cons, List.length_nil, loadAV, List.drop_zero, List.drop_succ_cons, List.take_zero, List.take_succ_cons, List.getElem?_cons_zero, List.getElem?_cons_succ, List.head?_cons, List.mapM_cons, List.mapM_nil, Option.bind_eq_bind, Option.pure_def, deeps3, deep3, deep2, deep1, deeps, deeps2, mixInts, AV.plain, mk, mkD, DCon.lift, DCon.runC, ren3, ren2, ren1, numb, List.zipIdx_nil, List.zipIdx_cons, List.all_nil, List.all_cons, Nat.reduceLeDiff, List.range, List.range.loop, Ty.sz, beq_self_eq_true, Bool.and_self, and_self, Ty.ofC, AO.isDead, Nat.reduceLT, if_true, Nat.zero_add, Nat.add_zero, ite_true, Nat.le_refl, Bool.false_eq_true, reduceCtorEq, if_false, ite_false, binAV, AO.ren, AV.isCell, fillAV, List.set_cons_zero, List.set_cons_succ, Ty.cells, Ty.flat, Ty.dflt, List.getD_cons_zero, List.getD_cons_succ, Int.reduceToNat, Int.reduceSub, Int.reduceAdd, Int.reduceMul, Int.reduceNeg, forall_eq_or_imp, forall_eq, gdL, id_eq, Nat.lt_irrefl, srcOf, List.replicate_succ, List.replicate_zero, dite_true, List.isEmpty_cons, Option.isSome_some, List.length_append, List.length_singleton, bne_self_eq_false, Bool.not_true, Bool.not_false, conF, asArgs, asArg, asTy, asI1, asB1, asS1, asL1, canons, canon, Fork.true_, Fork.false_, bne, Bool.not_not, List.length_map, pickO, AS.over, TI.bl, bne_iff_ne, AS.over2, without, keys, List.mem_singleton, memOp2, memOp3, absorb, abInt, abBool, abStr, abList, gones, Int.toNat_natCast, List.take_length, subE, List.nodup_cons, List.nodup_nil, not_false_eq_true, Nat.sub_self, conR, asG, asI, asBo, asStr, asIs, asBs, asE4, asI2, asI3, asLL, asLLL, Th_int, Th_Sint, Th_bool, Th_implDealing, Th_implGroup, Th_implProof, Th_string, G_VerifyDealerI, c_isValidDealingI, c_VerifyKnowledgeI, hL])
    | ((with_reducible refine ens_step ?_ (fun hE => ?_)); · ((repeat' with_reducible apply And.intro) <;> first | with_reducible assumption | omega | exact True.intro | with_reducible rfl | (show ByteArray.size _ ≤ _; decide) | (simp; done) | (simp; omega) | rfl))
    | ((with_reducible refine And.intro ?_ ?_); · ((repeat' with_reducible apply And.intro) <;> first | with_reducible assumption | omega | exact True.intro | with_reducible rfl | (show ByteArray.size _ ≤ _; decide) | (simp; done) | (simp; omega) | rfl))
    | ((with_reducible refine Fork.intro (fun h' => ?_) (fun h' => ?_)) <;> (try simp only [Bool.not_eq_true', Bool.not_eq_false', bne] at h') <;> (replace hL := And.intro h' hL) <;> (try simp only [decide_eq_true_eq, decide_eq_false_iff_not, beq_iff_eq, beq_eq_false_iff_ne, ne_eq] at h') <;> (try (have hvd := vdl_use h'; obtain ⟨hvs, hvd⟩ := hvd; have hdl := dlB_use hvd; obtain ⟨hcl, hcb, hsl, hsb⟩ := hdl)) <;> (try (have hsh := shB_of h'; obtain ⟨hgd, hq7⟩ := hsh; have hG := M.goodB_of hgd; have hq2 := hG.q2; have hqp := hG.qp; have hp3 := hG.p3; have hpM := hG.pM)) <;> (try (have hdl := dlB_use h'; obtain ⟨hcl, hcb, hsl, hsb⟩ := hdl)))
    | (with_reducible refine AWp.skipS ?_)
    | ((with_reducible refine AWp.condT rfl ?_))
    | ((with_reducible refine AWp.condF rfl ?_))
    | (with_reducible refine AWp.condB rfl ?_)
    | (with_reducible refine AWp.ret ?_)
    | (with_reducible refine seqQ_n ?_)
    | (with_reducible refine seqQ_ret ?_)
    | (with_reducible refine blkQ_ret ?_)
    | (with_reducible refine blkQ_n ?_)
    | (with_reducible refine seqQ_exit ?_)
    | (with_reducible refine blkQ_exit ?_)
    | (with_reducible refine blkQ_other (by decide) ?_)
    | (with_reducible refine AWp.block ?_)
    | (with_reducible refine AWp.exit ?_)
    | (with_reducible refine AWp.skip ?_)
    | ((with_reducible refine EndsAt_id ?_); (try subst_vars); (try simp only [vrD, okVD, hL, List.length_cons, List.length_nil, Nat.zero_add, Nat.reduceAdd, Bool.and_true, Bool.and_false, Bool.true_and, Bool.false_and, Bool.and_self, ↓reduceIte, Bool.false_eq_true, Bool.not_true, Bool.not_false, bne]); refine EndsAt.done [] (by first | exact .inr rfl | exact .inl rfl) rfl rfl ?_ ?_ <;> first | decide | (repeat' (first | rfl | apply And.intro | trivial)))
    | (with_reducible refine AWp.seq ?_)⟩
noncomputable def c_VerifyDealerS : Con0 := conF [(.pair .int (.pair .int .int)), (.pair (.list .int) (.list .int)), (.pair (.list .int) (.pair (.list .int) (.list .int)))] fun (⟨⟨p, q, g⟩, ⟨cs, ss⟩, ⟨pa, pc, pr⟩, _⟩ : (Int × Int × Int) × (List Int × List Int) × (List Int × List Int × List Int) × Unit) => (True, .tup [.lit (.bool (vrD p q g cs ss pa pc pr)), .lit (.bool (okVD p q g cs ss))], [])
noncomputable def G_VerifyDealerS : List (FuncId × Con) := [(91, mk c_sGroup), (112, mk c_sDealing), (113, mk c_VerifyKnowledgeS)]
theorem G_VerifyDealerS_ok : ∀ f C, (f, C) ∈ G_VerifyDealerS → C.ok Try.prog f := by
  intro f C h
  simp only [G_VerifyDealerS, List.mem_cons, Prod.mk.injEq, List.not_mem_nil, or_false] at h
  rcases h with ⟨rfl, rfl⟩ | ⟨rfl, rfl⟩ | ⟨rfl, rfl⟩
  · exact ok_sGroup
  · exact ok_sDealing
  · exact ok_VerifyKnowledgeS
set_option maxRecDepth 100000 in
set_option maxHeartbeats 4000000 in
theorem ok_VerifyDealerS : (mk c_VerifyDealerS).ok Try.prog 56 := okF (Θ := Th) (N := 28) (rs := [.tmp 6, .tmp 7]) Th_ok Try.func56 (by kernel_rfl) rfl Try.results56 (by decide) (by kernel_rfl) fun (⟨⟨p, q, g⟩, ⟨cs, ss⟩, ⟨pa, pc, pr⟩, _⟩ : (Int × Int × Int) × (List Int × List Int) × (List Int × List Int × List Int) × Unit) => ⟨rfl, rfl, Nat.le_of_ble_eq_true rfl, fun hc w0 => by
  have hL := dmy_eq
  try dsimp only at hc
  try dsimp only
  refine AWp.body rfl ?_
  repeat' first
    | ((with_reducible refine hK _ _ ?_); clear hK K)
    | ((with_reducible refine hK _ _ (by kernel_rfl) ?_); clear hK K)
    | ((with_reducible refine AWp.pS Th_ok G_VerifyDealerS_ok [0, 1, 2, 3, 4, 5, 6, 7, 16] (by decide) ?_); intro K hK)
    | ((with_reducible refine AWp.dS (by kernel_rfl) Th_ok G_VerifyDealerS_ok [0, 1, 2, 3, 4, 5, 6, 7, 16] ?_); intro K hK)
    | ((with_reducible refine AWp.pE Th_ok G_VerifyDealerS_ok [0, 1, 2, 3, 4, 5, 6, 7, 16] (by decide) ?_); intro K hK)
    | ((with_reducible refine AWp.dE (by kernel_rfl) Th_ok G_VerifyDealerS_ok [0, 1, 2, 3, 4, 5, 6, 7, 16] ?_); intro K hK)
    | ((first | with_reducible refine runF_id ?_ | with_reducible refine stepF_id ?_); simp (maxSteps := 2000000) only [runF, stepF, forkOf, gdOf, List.toList_toArray, stepOp, look, opAV, pureOp, callOp, memOp, AS.ev, AS.get, AS.obj, initS, initFrom, AV.cells, AS.upd, Option.bind_some, Option.bind_none, Option.map_some, Option.map_none, Option.getD_none, Option.getD_some, ↓reduceIte, Nat.reduceEqDiff, Nat.reduceAdd, Nat.reduceMul, Nat.reduceSub, List.nil_append, List.append_nil, List.cons_append, List.map_cons, List.map_nil, true_and, and_true, AS.fin, pick, dedup, List.mem_cons, List.not_mem_nil, or_false, false_or, List.size_toArray, List.length_cons, List.length_nil, loadAV, List.drop_zero, List.drop_succ_cons, List.take_zero, List.take_succ_cons, List.getElem?_cons_zero, List.getElem?_cons_succ, List.head?_cons, List.mapM_cons, List.mapM_nil, Option.bind_eq_bind, Option.pure_def, deeps3, deep3, deep2, deep1, deeps, deeps2, mixInts, AV.plain, mk, mkD, DCon.lift, DCon.runC, ren3, ren2, ren1, numb, List.zipIdx_nil, List.zipIdx_cons, List.all_nil, List.all_cons, Nat.reduceLeDiff, List.range, List.range.loop, Ty.sz, beq_self_eq_true, Bool.and_self, and_self, Ty.ofC, AO.isDead, Nat.reduceLT, if_true, Nat.zero_add, Nat.add_zero, ite_true, Nat.le_refl, Bool.false_eq_true, reduceCtorEq, if_false, ite_false, binAV, AO.ren, AV.isCell, fillAV, List.set_cons_zero, List.set_cons_succ, Ty.cells, Ty.flat, Ty.dflt, List.getD_cons_zero, List.getD_cons_succ, Int.reduceToNat, Int.reduceSub, Int.reduceAdd, Int.reduceMul, Int.reduceNeg, forall_eq_or_imp, forall_eq, gdL, id_eq, Nat.lt_irrefl, srcOf, List.replicate_succ, List.replicate_zero, dite_true, List.isEmpty_cons, Option.isSome_some, List.length_append, List.length_singleton, bne_self_eq_false, Bool.not_true, Bool.not_false, conF, asArgs, asArg, asTy, asI1, asB1, asS1, asL1, canons, canon, Fork.true_, Fork.false_, bne, Bool.not_not, List.length_map, pickO, AS.over, TI.bl, bne_iff_ne, AS.over2, without, keys, List.mem_singleton, memOp2, memOp3, absorb, abInt, abBool, abStr, abList, gones, Int.toNat_natCast, List.take_length, subE, List.nodup_cons, List.nodup_nil, not_false_eq_true, Nat.sub_self, conR, asG, asI, asBo, asStr, asIs, asBs, asE4, asI2, asI3, asLL, asLLL, Th_int, Th_SSint, Th_Sint, Th_bool, Th_implDealing, Th_implGroup, Th_implProof, Th_lawsGroup, Th_lawsSDealing, Th_string, G_VerifyDealerS, c_sGroup, c_sDealing, c_VerifyKnowledgeS, hL])
    | ((with_reducible refine ens_step ?_ (fun hE => ?_)); · ((repeat' with_reducible apply And.intro) <;> first | with_reducible assumption | omega | exact True.intro | with_reducible rfl | (show ByteArray.size _ ≤ _; decide) | (simp; done) | (simp; omega) | rfl))
    | ((with_reducible refine And.intro ?_ ?_); · ((repeat' with_reducible apply And.intro) <;> first | with_reducible assumption | omega | exact True.intro | with_reducible rfl | (show ByteArray.size _ ≤ _; decide) | (simp; done) | (simp; omega) | rfl))
    | ((with_reducible refine Fork.intro (fun h' => ?_) (fun h' => ?_)) <;> (try simp only [Bool.not_eq_true', Bool.not_eq_false', bne] at h') <;> (replace hL := And.intro h' hL) <;> (try simp only [decide_eq_true_eq, decide_eq_false_iff_not, beq_iff_eq, beq_eq_false_iff_ne, ne_eq] at h') <;> (try (have hvd := vdl_use h'; obtain ⟨hvs, hvd⟩ := hvd; have hdl := dlB_use hvd; obtain ⟨hcl, hcb, hsl, hsb⟩ := hdl)) <;> (try (have hsh := shB_of h'; obtain ⟨hgd, hq7⟩ := hsh; have hG := M.goodB_of hgd; have hq2 := hG.q2; have hqp := hG.qp; have hp3 := hG.p3; have hpM := hG.pM)) <;> (try (have hdl := dlB_use h'; obtain ⟨hcl, hcb, hsl, hsb⟩ := hdl)))
    | (with_reducible refine AWp.skipS ?_)
    | ((with_reducible refine AWp.condT rfl ?_))
    | ((with_reducible refine AWp.condF rfl ?_))
    | (with_reducible refine AWp.condB rfl ?_)
    | (with_reducible refine AWp.ret ?_)
    | (with_reducible refine seqQ_n ?_)
    | (with_reducible refine seqQ_ret ?_)
    | (with_reducible refine blkQ_ret ?_)
    | (with_reducible refine blkQ_n ?_)
    | (with_reducible refine seqQ_exit ?_)
    | (with_reducible refine blkQ_exit ?_)
    | (with_reducible refine blkQ_other (by decide) ?_)
    | (with_reducible refine AWp.block ?_)
    | (with_reducible refine AWp.exit ?_)
    | (with_reducible refine AWp.skip ?_)
    | ((with_reducible refine EndsAt_id ?_); (try subst_vars); (try simp only [vrD, okVD, vdl, hL, List.length_cons, List.length_nil, Nat.zero_add, Nat.reduceAdd, Bool.and_true, Bool.and_false, Bool.true_and, Bool.false_and, Bool.and_self, ↓reduceIte, Bool.false_eq_true, Bool.not_true, Bool.not_false, bne]); refine EndsAt.done [] (by first | exact .inr rfl | exact .inl rfl) rfl rfl ?_ ?_ <;> first | decide | (repeat' (first | rfl | apply And.intro | trivial)))
    | (with_reducible refine AWp.seq ?_)⟩
end Go.Proofs.Ytlggpehioflbdaa
