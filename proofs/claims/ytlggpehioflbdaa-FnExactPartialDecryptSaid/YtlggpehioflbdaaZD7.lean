import Derived.Test.YtlggpehioflbdaaZD6
/- VerifyLinear of the spec. -/
set_option linter.all false
set_option linter.unusedVariables false
set_option linter.unusedSimpArgs false
namespace Go.Proofs.Ytlggpehioflbdaa
open Go.RowKit
theorem any_true {α : Type} {f : α → Bool} {xs : List α} {x : α} (hx : x ∈ xs) (h : f x = true) : xs.any f = true := List.any_eq_true.2 ⟨x, hx, h⟩
theorem any_take {α : Type} {f : α → Bool} {xs : List α} {k : Nat} (h : (xs.take k).any f = false) (d : α) (hk : k < xs.length) (hf : f (xs.getD k d) = false) : (xs.take (k + 1)).any f = false := by
  rw [List.take_succ_eq_append_getElem hk, List.any_append, h]
  simp [List.getD_eq_getElem?_getD, List.getElem?_eq_getElem hk] at hf ⊢
  exact hf
theorem badRow_t1 {p q : Int} {bases : List (List Int)} {row : List Int} (h : ((row.length : Int) == ((bases.getD 0 []).length : Nat)) = false) : badRow p q bases row = true := by
  simp only [badRow, h, Bool.not_false, Bool.true_or]
theorem badRow_t2 {p q : Int} {bases : List (List Int)} {row : List Int} (h : elemsB p q row = false) : badRow p q bases row = true := by
  simp only [badRow, h, Bool.not_false, Bool.or_true]
theorem badRow_f {p q : Int} {bases : List (List Int)} {row : List Int} (h : ((row.length : Int) == ((bases.getD 0 []).length : Nat)) = true) (h2 : elemsB p q row = true) : badRow p q bases row = false := by
  simp only [badRow, h, h2, Bool.not_true, Bool.or_self]
noncomputable def c_sBases : Con0 := conF [(.pair .int (.pair .int .int)), (.list (.list .int))] fun (⟨⟨p, q, g⟩, bases, _⟩ : (Int × Int × Int) × (List (List Int)) × Unit) => (M.Grp p q g ∧ bases.length ≤ 9223372036854775806, .lit (.bool (rowsB p q bases)), [])
noncomputable def G_sBases : List (FuncId × Con) := [(92, mk c_l1In), (163, mk c_gIs)]
theorem G_sBases_ok : ∀ f C, (f, C) ∈ G_sBases → C.ok Try.prog f := by
  intro f C h
  simp only [G_sBases, List.mem_cons, Prod.mk.injEq, List.not_mem_nil, or_false] at h
  rcases h with ⟨rfl, rfl⟩ | ⟨rfl, rfl⟩
  · exact ok_l1In
  · exact ok_gIs
set_option maxRecDepth 100000 in
set_option maxHeartbeats 4000000 in
theorem ok_sBases : (mk c_sBases).ok Try.prog 191 := okF (Θ := Th) (N := 39) (rs := [.tmp 4]) Th_ok Try.func191 (by kernel_rfl) rfl Try.results191 (by decide) (by kernel_rfl) fun (⟨⟨p, q, g⟩, bases, _⟩ : (Int × Int × Int) × (List (List Int)) × Unit) => ⟨rfl, rfl, Nat.le_of_ble_eq_true rfl, fun hc w0 => by
  have hL := dmy_eq
  try dsimp only at hc
  try dsimp only
  obtain ⟨hG, hbl⟩ := hc
  refine AWp.body rfl ?_
  repeat' first
    | ((with_reducible refine hK _ _ ?_); clear hK K)
    | ((with_reducible refine hK _ _ (by kernel_rfl) ?_); clear hK K)
    | ((with_reducible refine AWp.pS Th_ok G_sBases_ok [0, 1, 2, 4, 6, 18, 19, 20, 21, 22, 37] (by decide) ?_); intro K hK)
    | ((with_reducible refine AWp.dS (by kernel_rfl) Th_ok G_sBases_ok [0, 1, 2, 4, 6, 18, 19, 20, 21, 22, 37] ?_); intro K hK)
    | ((with_reducible refine AWp.pE Th_ok G_sBases_ok [0, 1, 2, 4, 6, 18, 19, 20, 21, 22, 37] (by decide) ?_); intro K hK)
    | ((with_reducible refine AWp.dE (by kernel_rfl) Th_ok G_sBases_ok [0, 1, 2, 4, 6, 18, 19, 20, 21, 22, 37] ?_); intro K hK)
    | ((first | with_reducible refine runF_id ?_ | with_reducible refine stepF_id ?_); simp (maxSteps := 2000000) only [runF, stepF, forkOf, gdOf, List.toList_toArray, stepOp, look, opAV, pureOp, callOp, memOp, AS.ev, AS.get, AS.obj, initS, initFrom, AV.cells, AS.upd, Option.bind_some, Option.bind_none, Option.map_some, Option.map_none, Option.getD_none, Option.getD_some, ↓reduceIte, Nat.reduceEqDiff, Nat.reduceAdd, Nat.reduceMul, Nat.reduceSub, List.nil_append, List.append_nil, List.cons_append, List.map_cons, List.map_nil, true_and, and_true, AS.fin, pick, dedup, List.mem_cons, List.not_mem_nil, or_false, false_or, List.size_toArray, List.length_cons, List.length_nil, loadAV, List.drop_zero, List.drop_succ_cons, List.take_zero, List.take_succ_cons, List.getElem?_cons_zero, List.getElem?_cons_succ, List.head?_cons, List.mapM_cons, List.mapM_nil, Option.bind_eq_bind, Option.pure_def, deeps3, deep3, deep2, deep1, deeps, deeps2, mixInts, AV.plain, mk, mkD, DCon.lift, DCon.runC, ren3, ren2, ren1, numb, List.zipIdx_nil, List.zipIdx_cons, List.all_nil, List.all_cons, Nat.reduceLeDiff, List.range, List.range.loop, Ty.sz, beq_self_eq_true, Bool.and_self, and_self, Ty.ofC, AO.isDead, Nat.reduceLT, if_true, Nat.zero_add, Nat.add_zero, ite_true, Nat.le_refl, Bool.false_eq_true, reduceCtorEq, if_false, ite_false, binAV, AO.ren, AV.isCell, fillAV, List.set_cons_zero, List.set_cons_succ, Ty.cells, Ty.flat, Ty.dflt, List.getD_cons_zero, List.getD_cons_succ, Int.reduceToNat, Int.reduceSub, Int.reduceAdd, Int.reduceMul, Int.reduceNeg, forall_eq_or_imp, forall_eq, gdL, id_eq, Nat.lt_irrefl, srcOf, List.replicate_succ, List.replicate_zero, dite_true, List.isEmpty_cons, Option.isSome_some, List.length_append, List.length_singleton, bne_self_eq_false, Bool.not_true, Bool.not_false, conF, asArgs, asArg, asTy, asI1, asB1, asS1, asL1, canons, canon, Fork.true_, Fork.false_, bne, Bool.not_not, List.length_map, pickO, AS.over, TI.bl, bne_iff_ne, AS.over2, without, keys, List.mem_singleton, memOp2, memOp3, absorb, abInt, abBool, abStr, abList, gones, Int.toNat_natCast, List.take_length, subE, List.nodup_cons, List.nodup_nil, not_false_eq_true, Nat.sub_self, conR, asG, asI, asBo, asStr, asIs, asBs, asE4, asI2, asI3, asLL, asLLL, Th_int, Th_bool, Th_string, Th_Sint, Th_SSint, Th_implGroup, Th_implProof, G_sBases, c_l1In, c_gIs, hL])
    | ((with_reducible refine and_id ?_); (generalize hv : M.chal p q g _ _ = v); have bv : 0 ≤ v ∧ v < q := by rw [← hv]; exact chal_bd (by omega) _ _)
    | ((with_reducible refine and_id ?_); (generalize hv : cmt p q g _ _ _ = v); have bv : 0 ≤ v ∧ v < p := by rw [← hv]; exact cmt_bd (by omega))
    | ((with_reducible refine and_id ?_); (generalize hv : M.gpw p q _ _ = v); have bv : 0 ≤ v ∧ v < p := by rw [← hv]; exact gpw_bd (by omega))
    | ((with_reducible refine and_id ?_); (generalize hv : M.mulL p _ = v); have bv : 0 ≤ v ∧ v < p := by rw [← hv]; exact mulL_bd' (by omega))
    | ((with_reducible refine ens_step ?_ (fun hE => ?_)); · ((repeat' with_reducible apply And.intro) <;> first | with_reducible assumption | omega | exact True.intro | with_reducible rfl | (show ByteArray.size _ ≤ _; decide) | (simp; done) | (simp; omega) | rfl))
    | ((with_reducible refine And.intro ?_ ?_); · ((repeat' with_reducible apply And.intro) <;> first | with_reducible assumption | omega | exact True.intro | with_reducible rfl | (show ByteArray.size _ ≤ _; decide) | (simp; done) | (simp; omega) | rfl))
    | ((with_reducible refine Fork.intro (fun h' => ?_) (fun h' => ?_)) <;> (try simp only [Bool.not_eq_true', Bool.not_eq_false', bne] at h') <;> (replace hL := And.intro h' hL) <;> (try simp only [decide_eq_true_eq, decide_eq_false_iff_not, beq_iff_eq, beq_eq_false_iff_ne, ne_eq] at h') <;> (try (have hin := inr_t h')) <;> (try (have hba : (badRow p q bases (bases.getD k [])) = true := badRow_t1 hL.1; have hbb := any_true (f := badRow p q bases) (getD_memL (xs := bases) (k := k) (by omega)) hba; replace hL := And.intro hbb hL)) <;> (try (have hba : (badRow p q bases (bases.getD k [])) = true := badRow_t2 hL.1; have hbb := any_true (f := badRow p q bases) (getD_memL (xs := bases) (k := k) (by omega)) hba; replace hL := And.intro hbb hL)) <;> (try (have hba : (badRow p q bases (bases.getD k [])) = false := badRow_f hL.2.1 hL.1)) <;> (try (have hke : k = bases.length := (by omega); subst hke; rw [List.take_length] at hk2; replace hL := And.intro hk2 hL)))
    | (with_reducible refine AWp.skipS ?_)
    | ((with_reducible refine AWp.condT rfl ?_))
    | ((with_reducible refine AWp.condF rfl ?_))
    | (with_reducible refine AWp.condB rfl ?_)
    | (with_reducible refine AWp.ret ?_)
    | (with_reducible refine seqQ_n ?_)
    | (with_reducible refine seqQ_ret ?_)
    | (with_reducible refine blkQ_ret ?_)
    | (with_reducible refine blkQ_n ?_)
    | (with_reducible refine seqQ_exit ?_)
    | (with_reducible refine blkQ_exit ?_)
    | (with_reducible refine blkQ_other (by decide) ?_)
    | (with_reducible refine AWp.block ?_)
    | (with_reducible refine AWp.exit ?_)
    | (with_reducible refine AWp.skip ?_)
    | ((with_reducible refine loop_id ?_); refine AWp.loopAt 4 rfl ?_; refine AWp.loopO [4, 6, 21, 22, 23, 24, 25, 26, 27, 28, 29, 30, 31, 32, 33, 34, 35, 36, 37, 38] (fun k => [(21, .lit (.int .i64 (k : Nat)))]) (fun k => []) (fun k => k ≤ bases.length ∧ (bases.take k).any (badRow p q bases) = false) (fun k => bases.length - k) 0 (by exact ⟨by omega, rfl⟩) (by refine Sub.auto (by first | exact frok0 | assumption) rfl rfl ?_ ?_ <;> (try simp only [subE, AS.over2, without, keys, look, List.cons_append, List.nil_append, List.append_nil, List.mem_cons, List.not_mem_nil, or_false, or_true, true_or, false_or, Nat.reduceEqDiff, ↓reduceIte, Option.some.injEq, AV.lit.injEq, Value.int.injEq, Value.bool.injEq, AV.own.injEq, AO.row.injEq, AO.box.injEq, List.cons.injEq, AV.agg.injEq, AV.sl.injEq, true_and, and_true, and_self, heq_eq_eq, List.length_nil, List.length_cons, List.map_nil, List.take_zero, Int.natCast_add, Int.cast_ofNat_Int, Int.natCast_zero, List.length_append, List.length_map, List.length_take, Nat.zero_add]) <;> (simp)) (fun k hk_4 L4 hLoop4 => ?_); obtain ⟨hk1, hk2⟩ := hk_4)
    | ((with_reducible refine seqQ_f ?_); refine hLoop4 (k + 1) _ (by exact ⟨by omega, any_take hk2 [] (by omega) hba⟩) (by omega) ?_; (refine Sub.auto (by first | exact frok0 | assumption) rfl rfl ?_ ?_ <;> (try simp only [subE, AS.over2, without, keys, look, List.cons_append, List.nil_append, List.append_nil, List.mem_cons, List.not_mem_nil, or_false, or_true, true_or, false_or, Nat.reduceEqDiff, ↓reduceIte, Option.some.injEq, AV.lit.injEq, Value.int.injEq, Value.bool.injEq, AV.own.injEq, AO.row.injEq, AO.box.injEq, List.cons.injEq, AV.agg.injEq, AV.sl.injEq, true_and, and_true, and_self, heq_eq_eq, List.length_nil, List.length_cons, List.map_nil, List.take_zero, Int.natCast_add, Int.cast_ofNat_Int, Int.natCast_zero, List.length_append, List.length_map, List.length_take, Nat.zero_add]) <;> (omega)))
    | ((with_reducible refine EndsAt_id ?_); (try subst_vars); (try simp only [rowsB, hL, List.length_cons, List.length_nil, Nat.zero_add, Nat.reduceAdd, Bool.and_true, Bool.and_false, Bool.true_and, Bool.false_and, Bool.and_self, ↓reduceIte, Bool.false_eq_true, Bool.not_true, Bool.not_false, bne]); refine EndsAt.done [] (by first | exact .inr rfl | exact .inl rfl) rfl rfl ?_ ?_ <;> first | decide | (repeat' (first | rfl | apply And.intro | trivial)))
    | (with_reducible refine AWp.seq ?_)⟩
noncomputable def c_VerifyLinearS : Con0 := conF [(.pair .int (.pair .int .int)), .str, (.list (.list .int)), (.list .int), (.pair (.list .int) (.pair (.list .int) (.list .int)))] fun (⟨⟨p, q, g⟩, s, rows, ims, ⟨pa, pc, pr⟩, _⟩ : (Int × Int × Int) × ByteArray × (List (List Int)) × (List Int) × (List Int × List Int × List Int) × Unit) => (rows.length ≤ 9223372036854775806, .tup [.lit (.bool (okVL p q g s rows ims && vLin p q g s rows ims pa pc pr)), .lit (.bool (okVL p q g s rows ims))], [])
noncomputable def G_VerifyLinearS : List (FuncId × Con) := [(190, mk c_sLabel), (191, mk c_sBases), (163, mk c_gIs), (196, mk c_sVerify)]
theorem G_VerifyLinearS_ok : ∀ f C, (f, C) ∈ G_VerifyLinearS → C.ok Try.prog f := by
  intro f C h
  simp only [G_VerifyLinearS, List.mem_cons, Prod.mk.injEq, List.not_mem_nil, or_false] at h
  rcases h with ⟨rfl, rfl⟩ | ⟨rfl, rfl⟩ | ⟨rfl, rfl⟩ | ⟨rfl, rfl⟩
  · exact ok_sLabel
  · exact ok_sBases
  · exact ok_gIs
  · exact ok_sVerify
set_option maxRecDepth 100000 in
set_option maxHeartbeats 4000000 in
theorem ok_VerifyLinearS : (mk c_VerifyLinearS).ok Try.prog 160 := okF (Θ := Th) (N := 41) (rs := [.tmp 10, .tmp 11]) Th_ok Try.func160 (by kernel_rfl) rfl Try.results160 (by decide) (by kernel_rfl) fun (⟨⟨p, q, g⟩, s, rows, ims, ⟨pa, pc, pr⟩, _⟩ : (Int × Int × Int) × ByteArray × (List (List Int)) × (List Int) × (List Int × List Int × List Int) × Unit) => ⟨rfl, rfl, Nat.le_of_ble_eq_true rfl, fun hc w0 => by
  have hL := dmy_eq
  try dsimp only at hc
  try dsimp only
  have hrl0 := hc
  refine AWp.body rfl ?_
  repeat' first
    | ((with_reducible refine hK _ _ ?_); clear hK K)
    | ((with_reducible refine hK _ _ (by kernel_rfl) ?_); clear hK K)
    | ((with_reducible refine AWp.pS Th_ok G_VerifyLinearS_ok [0, 1, 2, 3, 4, 5, 9, 10, 11, 34] (by decide) ?_); intro K hK)
    | ((with_reducible refine AWp.dS (by kernel_rfl) Th_ok G_VerifyLinearS_ok [0, 1, 2, 3, 4, 5, 9, 10, 11, 34] ?_); intro K hK)
    | ((with_reducible refine AWp.pE Th_ok G_VerifyLinearS_ok [0, 1, 2, 3, 4, 5, 9, 10, 11, 34] (by decide) ?_); intro K hK)
    | ((with_reducible refine AWp.dE (by kernel_rfl) Th_ok G_VerifyLinearS_ok [0, 1, 2, 3, 4, 5, 9, 10, 11, 34] ?_); intro K hK)
    | ((first | with_reducible refine runF_id ?_ | with_reducible refine stepF_id ?_); simp (maxSteps := 2000000) only [runF, stepF, forkOf, gdOf, List.toList_toArray, stepOp, look, opAV, pureOp, callOp, memOp, AS.ev, AS.get, AS.obj, initS, initFrom, AV.cells, AS.upd, Option.bind_some, Option.bind_none, Option.map_some, Option.map_none, Option.getD_none, Option.getD_some, ↓reduceIte, Nat.reduceEqDiff, Nat.reduceAdd, Nat.reduceMul, Nat.reduceSub, List.nil_append, List.append_nil, List.cons_append, List.map_cons, List.map_nil, true_and, and_true, AS.fin, pick, dedup, List.mem_cons, List.not_mem_nil, or_false, false_or, List.size_toArray, List.length_cons, List.length_nil, loadAV, List.drop_zero, List.drop_succ_cons, List.take_zero, List.take_succ_cons, List.getElem?_cons_zero, List.getElem?_cons_succ, List.head?_cons, List.mapM_cons, List.mapM_nil, Option.bind_eq_bind, Option.pure_def, deeps3, deep3, deep2, deep1, deeps, deeps2, mixInts, AV.plain, mk, mkD, DCon.lift, DCon.runC, ren3, ren2, ren1, numb, List.zipIdx_nil, List.zipIdx_cons, List.all_nil, List.all_cons, Nat.reduceLeDiff, List.range, List.range.loop, Ty.sz, beq_self_eq_true, Bool.and_self, and_self, Ty.ofC, AO.isDead, Nat.reduceLT, if_true, Nat.zero_add, Nat.add_zero, ite_true, Nat.le_refl, Bool.false_eq_true, reduceCtorEq, if_false, ite_false, binAV, AO.ren, AV.isCell, fillAV, List.set_cons_zero, List.set_cons_succ, Ty.cells, Ty.flat, Ty.dflt, List.getD_cons_zero, List.getD_cons_succ, Int.reduceToNat, Int.reduceSub, Int.reduceAdd, Int.reduceMul, Int.reduceNeg, forall_eq_or_imp, forall_eq, gdL, id_eq, Nat.lt_irrefl, srcOf, List.replicate_succ, List.replicate_zero, dite_true, List.isEmpty_cons, Option.isSome_some, List.length_append, List.length_singleton, bne_self_eq_false, Bool.not_true, Bool.not_false, conF, asArgs, asArg, asTy, asI1, asB1, asS1, asL1, canons, canon, Fork.true_, Fork.false_, bne, Bool.not_not, List.length_map, pickO, AS.over, TI.bl, bne_iff_ne, AS.over2, without, keys, List.mem_singleton, memOp2, memOp3, absorb, abInt, abBool, abStr, abList, gones, Int.toNat_natCast, List.take_length, subE, List.nodup_cons, List.nodup_nil, not_false_eq_true, Nat.sub_self, conR, asG, asI, asBo, asStr, asIs, asBs, asE4, asI2, asI3, asLL, asLLL, Th_int, Th_bool, Th_string, Th_Sint, Th_SSint, Th_implGroup, Th_implProof, G_VerifyLinearS, c_sLabel, c_sBases, c_gIs, c_sVerify, hL])
    | ((with_reducible refine and_id ?_); (generalize hv : M.chal p q g _ _ = v); have bv : 0 ≤ v ∧ v < q := by rw [← hv]; exact chal_bd (by omega) _ _)
    | ((with_reducible refine and_id ?_); (generalize hv : cmt p q g _ _ _ = v); have bv : 0 ≤ v ∧ v < p := by rw [← hv]; exact cmt_bd (by omega))
    | ((with_reducible refine and_id ?_); (generalize hv : M.gpw p q _ _ = v); have bv : 0 ≤ v ∧ v < p := by rw [← hv]; exact gpw_bd (by omega))
    | ((with_reducible refine and_id ?_); (generalize hv : M.mulL p _ = v); have bv : 0 ≤ v ∧ v < p := by rw [← hv]; exact mulL_bd' (by omega))
    | ((with_reducible refine ens_step ?_ (fun hE => ?_)); · ((repeat' with_reducible apply And.intro) <;> first | with_reducible assumption | omega | exact True.intro | with_reducible rfl | (show ByteArray.size _ ≤ _; decide) | (simp; done) | (simp; omega) | rfl))
    | ((with_reducible refine And.intro ?_ ?_); · ((repeat' with_reducible apply And.intro) <;> first | with_reducible assumption | omega | exact True.intro | with_reducible rfl | (show ByteArray.size _ ≤ _; decide) | (simp; done) | (simp; omega) | rfl))
    | ((with_reducible refine Fork.intro (fun h' => ?_) (fun h' => ?_)) <;> (try simp only [Bool.not_eq_true', Bool.not_eq_false', bne] at h') <;> (replace hL := And.intro h' hL) <;> (try simp only [decide_eq_true_eq, decide_eq_false_iff_not, beq_iff_eq, beq_eq_false_iff_ne, ne_eq] at h') <;> (try (have hsl := h'; rw [Bool.and_eq_true, decide_eq_true_eq] at hsl; obtain ⟨hg1, hg2⟩ := hsl; have hG := M.goodB_of hg1; have hq2 := hG.q2; have hqp := hG.qp; have hp3 := hG.p3; have hpM := hG.pM)) <;> (try (have hG := M.goodB_of h'; have hq2 := hG.q2; have hqp := hG.qp; have hp3 := hG.p3; have hpM := hG.pM)) <;> (try (have hR := rowsB_use hG h'; have hrl := hR.len; have hrw := hR.wid)) <;> (try (have him := elemsB_all h')))
    | (with_reducible refine AWp.skipS ?_)
    | ((with_reducible refine AWp.condT rfl ?_))
    | ((with_reducible refine AWp.condF rfl ?_))
    | (with_reducible refine AWp.condB rfl ?_)
    | (with_reducible refine AWp.ret ?_)
    | (with_reducible refine seqQ_n ?_)
    | (with_reducible refine seqQ_ret ?_)
    | (with_reducible refine blkQ_ret ?_)
    | (with_reducible refine blkQ_n ?_)
    | (with_reducible refine seqQ_exit ?_)
    | (with_reducible refine blkQ_exit ?_)
    | (with_reducible refine blkQ_other (by decide) ?_)
    | (with_reducible refine AWp.block ?_)
    | (with_reducible refine AWp.exit ?_)
    | (with_reducible refine AWp.skip ?_)
    | ((with_reducible refine EndsAt_id ?_); (try subst_vars); (try simp only [okVL, hL, List.length_cons, List.length_nil, Nat.zero_add, Nat.reduceAdd, Bool.and_true, Bool.and_false, Bool.true_and, Bool.false_and, Bool.and_self, ↓reduceIte, Bool.false_eq_true, Bool.not_true, Bool.not_false, bne]); refine EndsAt.done [] (by first | exact .inr rfl | exact .inl rfl) rfl rfl ?_ ?_ <;> first | decide | (repeat' (first | rfl | apply And.intro | trivial)))
    | (with_reducible refine AWp.seq ?_)⟩
end Go.Proofs.Ytlggpehioflbdaa
