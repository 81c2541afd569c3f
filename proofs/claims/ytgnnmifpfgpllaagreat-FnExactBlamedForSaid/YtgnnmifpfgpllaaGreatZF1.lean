import Derived.Test.YtgnnmifpfgpllaaGreatZAJ
import Derived.Test.YtgnnmifpfgpllaaGreatZB4
/- The laws' own functions, part 1. -/
set_option linter.all false
set_option linter.unusedVariables false
set_option linter.unusedSimpArgs false
namespace Go.Proofs.YtgnnmifpfgpllaaGreat
open Go.RowKit
theorem copy_step {α : Type} (xs : List α) (d : α) (k : Nat) (hk : k < xs.length) : (xs.take k ++ List.replicate (xs.length - k) d).set k (xs.getD k d) = xs.take (k + 1) ++ List.replicate (xs.length - (k + 1)) d := by
  have e : xs.length - k = (xs.length - (k + 1)) + 1 := by omega
  have h1 : (xs.take k).length = k := by rw [List.length_take]; omega
  rw [List.set_append_right _ _ (by omega), h1, Nat.sub_self, e, List.replicate_succ, List.set_cons_zero, List.take_succ_eq_append_getElem hk, List.append_assoc]
  simp [List.getD_eq_getElem?_getD, List.getElem?_eq_getElem hk]
theorem sum_step {α : Type} (s : α → Nat) (xs : List α) (d : α) (k : Nat) (hk : k < xs.length) : ((xs.take (k + 1)).map s).sum = ((xs.take k).map s).sum + s (xs.getD k d) := by
  rw [List.take_succ_eq_append_getElem hk, List.map_append, List.sum_append]
  simp [List.getD_eq_getElem?_getD, List.getElem?_eq_getElem hk]
theorem sum_le {α : Type} (s : α → Nat) (xs : List α) (k : Nat) : ((xs.take k).map s).sum ≤ (xs.map s).sum := by
  conv => rhs; rw [← List.take_append_drop k xs]
  rw [List.map_append, List.sum_append]; omega
noncomputable def c_t_Group : Con0 := conF [(.pair .int (.pair .int .int))] fun (⟨⟨p, q, g⟩, _⟩ : (Int × Int × Int) × Unit) => (True, .agg [.lit (.int .i64 p), .lit (.int .i64 q), .lit (.int .i64 g)], [])
noncomputable def G_t_Group : List (FuncId × Con) := []
theorem G_t_Group_ok : ∀ f C, (f, C) ∈ G_t_Group → C.ok Tryz.prog f := by
  intro f C h
  simp only [G_t_Group, List.mem_cons, Prod.mk.injEq, List.not_mem_nil, or_false] at h
set_option maxRecDepth 100000 in
set_option maxHeartbeats 4000000 in
theorem ok_t_Group : (mk c_t_Group).ok Tryz.prog 8 := okF (Θ := Th) (N := 14) (rs := [.cell 2 31]) Th_ok Tryz.func8 (by kernel_rfl) rfl Tryz.results8 (by decide) (by kernel_rfl) fun (⟨⟨p, q, g⟩, _⟩ : (Int × Int × Int) × Unit) => ⟨rfl, rfl, Nat.le_of_ble_eq_true rfl, fun hc w0 => by
  have hL := dmy_eq
  try dsimp only at hc
  try dsimp only
  refine AWp.body rfl ?_
  repeat' first
    | ((with_reducible refine hK _ _ ?_); clear hK K)
    | ((with_reducible refine hK _ _ (by kernel_rfl) ?_); clear hK K)
    | ((with_reducible refine AWp.pS Th_ok G_t_Group_ok [0, 1, 2, 3] (by decide) ?_); intro K hK)
    | ((with_reducible refine AWp.dS (by kernel_rfl) Th_ok G_t_Group_ok [0, 1, 2, 3] ?_); intro K hK)
    | ((with_reducible refine AWp.pE Th_ok G_t_Group_ok [0, 1, 2, 3] (by decide) ?_); intro K hK)
    | ((with_reducible refine AWp.dE (by kernel_rfl) Th_ok G_t_Group_ok [0, 1, 2, 3] ?_); intro K hK)
    | ((first | with_reducible refine runF_id ?_ | with_reducible refine stepF_id ?_); simp (maxSteps := 2000000) only [runF, stepF, forkOf, gdOf, List.toList_toArray, stepOp, look, opAV, pureOp, callOp, memOp, AS.ev, AS.get, AS.obj, initS, initFrom, AV.cells, AS.upd, Option.bind_some, Option.bind_none, Option.map_some, Option.map_none, Option.getD_none, Option.getD_some, ↓reduceIte, Nat.reduceEqDiff, Nat.reduceAdd, Nat.reduceMul, Nat.reduceSub, List.nil_append, List.append_nil, List.cons_append, List.map_cons, List.map_nil, true_and, and_true, AS.fin, pick, dedup, List.mem_cons, List.not_mem_nil, or_false, false_or, List.size_toArray, List.length_cons, List.length_nil, loadAV, List.drop_zero, List.drop_succ_cons, List.take_zero, List.take_succ_cons, List.getElem?_cons_zero, List.getElem?_cons_succ, List.head?_cons, List.mapM_cons, List.mapM_nil, Option.bind_eq_bind, Option.pure_def, deeps3, deep3, deep2, deep1, deeps, deeps2, mixInts, AV.plain, mk, mkD, DCon.lift, DCon.runC, ren3, ren2, ren1, numb, List.zipIdx_nil, List.zipIdx_cons, List.all_nil, List.all_cons, Nat.reduceLeDiff, List.range, List.range.loop, Ty.sz, beq_self_eq_true, Bool.and_self, and_self, Ty.ofC, AO.isDead, Nat.reduceLT, if_true, Nat.zero_add, Nat.add_zero, ite_true, Nat.le_refl, Bool.false_eq_true, reduceCtorEq, if_false, ite_false, binAV, AO.ren, AV.isCell, fillAV, List.set_cons_zero, List.set_cons_succ, Ty.cells, Ty.flat, Ty.dflt, List.getD_cons_zero, List.getD_cons_succ, Int.reduceToNat, Int.reduceSub, Int.reduceAdd, Int.reduceMul, Int.reduceNeg, forall_eq_or_imp, forall_eq, gdL, id_eq, Nat.lt_irrefl, srcOf, List.replicate_succ, List.replicate_zero, dite_true, List.isEmpty_cons, Option.isSome_some, List.length_append, List.length_singleton, bne_self_eq_false, Bool.not_true, Bool.not_false, conF, asArgs, asArg, asTy, asI1, asB1, asS1, asL1, canons, canon, Fork.true_, Fork.false_, bne, Bool.not_not, List.length_map, pickO, AS.over, TI.bl, bne_iff_ne, AS.over2, without, keys, List.mem_singleton, memOp2, memOp3, absorb, abInt, abBool, abStr, abList, gones, Int.toNat_natCast, List.take_length, subE, List.nodup_cons, List.nodup_nil, not_false_eq_true, Nat.sub_self, conR, asG, asI, asBo, asStr, asIs, asBs, asE4, asI2, asI3, asLL, asLLL, Th_int, Th_bool, Th_implGroup, Th_lawsGroup, Th_string, G_t_Group, hL])
    | ((with_reducible refine and_id ?_); (generalize hv : M.chal p q g _ _ = v); have bv : 0 ≤ v ∧ v < q := by rw [← hv]; exact chal_bd (by omega) _ _)
    | ((with_reducible refine and_id ?_); (generalize hv : cmt p q g _ _ _ = v); have bv : 0 ≤ v ∧ v < p := by rw [← hv]; exact cmt_bd (by omega))
    | ((with_reducible refine and_id ?_); (generalize hv : M.gpw p q _ _ = v); have bv : 0 ≤ v ∧ v < p := by rw [← hv]; exact gpw_bd (by omega))
    | ((with_reducible refine and_id ?_); (generalize hv : M.mulL p _ = v); have bv : 0 ≤ v ∧ v < p := by rw [← hv]; exact mulL_bd' (by omega))
    | ((with_reducible refine ens_step ?_ (fun hE => ?_)); · ((repeat' with_reducible apply And.intro) <;> first | with_reducible assumption | omega | exact True.intro | with_reducible rfl | (show ByteArray.size _ ≤ _; decide) | (simp; done) | (simp; omega) | rfl))
    | ((with_reducible refine And.intro ?_ ?_); · ((repeat' with_reducible apply And.intro) <;> first | with_reducible assumption | omega | exact True.intro | with_reducible rfl | (show ByteArray.size _ ≤ _; decide) | (simp; done) | (simp; omega) | rfl))
    | ((with_reducible refine Fork.intro (fun h' => ?_) (fun h' => ?_)) <;> (try simp only [Bool.not_eq_true', Bool.not_eq_false', bne] at h') <;> (replace hL := And.intro h' hL) <;> (try simp only [decide_eq_true_eq, decide_eq_false_iff_not, beq_iff_eq, beq_eq_false_iff_ne, ne_eq] at h'))
    | (with_reducible refine AWp.skipS ?_)
    | ((with_reducible refine AWp.condT rfl ?_))
    | ((with_reducible refine AWp.condF rfl ?_))
    | (with_reducible refine AWp.condB rfl ?_)
    | (with_reducible refine AWp.ret ?_)
    | (with_reducible refine seqQ_n ?_)
    | (with_reducible refine seqQ_ret ?_)
    | (with_reducible refine blkQ_ret ?_)
    | (with_reducible refine blkQ_n ?_)
    | (with_reducible refine seqQ_exit ?_)
    | (with_reducible refine blkQ_exit ?_)
    | (with_reducible refine blkQ_other (by decide) ?_)
    | (with_reducible refine AWp.block ?_)
    | (with_reducible refine AWp.exit ?_)
    | (with_reducible refine AWp.skip ?_)
    | ((with_reducible refine EndsAt_id ?_); (try subst_vars); refine EndsAt.done [] (by first | exact .inr rfl | exact .inl rfl) rfl rfl ?_ ?_ <;> first | decide | (repeat' (first | rfl | apply And.intro | trivial)))
    | (with_reducible refine AWp.seq ?_)⟩
noncomputable def c_t_IntS : Con0 := conF [(.list .int)] fun (⟨xs, _⟩ : (List Int) × Unit) => (xs.length ≤ 1048577, .own 0 xs.length, [.row 3 .int xs])
noncomputable def G_t_IntS : List (FuncId × Con) := []
theorem G_t_IntS_ok : ∀ f C, (f, C) ∈ G_t_IntS → C.ok Tryz.prog f := by
  intro f C h
  simp only [G_t_IntS, List.mem_cons, Prod.mk.injEq, List.not_mem_nil, or_false] at h
set_option maxRecDepth 100000 in
set_option maxHeartbeats 4000000 in
theorem ok_t_IntS : (mk c_t_IntS).ok Tryz.prog 9 := okF (Θ := Th) (N := 22) (rs := [.tmp 2]) Th_ok Tryz.func9 (by kernel_rfl) rfl Tryz.results9 (by decide) (by kernel_rfl) fun (⟨xs, _⟩ : (List Int) × Unit) => ⟨rfl, rfl, Nat.le_of_ble_eq_true rfl, fun hc w0 => by
  have hL := dmy_eq
  try dsimp only at hc
  try dsimp only
  have hb : xs.length ≤ 1048577 := hc
  refine AWp.body rfl ?_
  repeat' first
    | ((with_reducible refine hK _ _ ?_); clear hK K)
    | ((with_reducible refine hK _ _ (by kernel_rfl) ?_); clear hK K)
    | ((with_reducible refine AWp.pS Th_ok G_t_IntS_ok [0, 2, 3, 4, 11] (by decide) ?_); intro K hK)
    | ((with_reducible refine AWp.dS (by kernel_rfl) Th_ok G_t_IntS_ok [0, 2, 3, 4, 11] ?_); intro K hK)
    | ((with_reducible refine AWp.pE Th_ok G_t_IntS_ok [0, 2, 3, 4, 11] (by decide) ?_); intro K hK)
    | ((with_reducible refine AWp.dE (by kernel_rfl) Th_ok G_t_IntS_ok [0, 2, 3, 4, 11] ?_); intro K hK)
    | ((first | with_reducible refine runF_id ?_ | with_reducible refine stepF_id ?_); simp (maxSteps := 2000000) only [runF, stepF, forkOf, gdOf, List.toList_toArray, stepOp, look, opAV, pureOp, callOp, memOp, AS.ev, AS.get, AS.obj, initS, initFrom, AV.cells, AS.upd, Option.bind_some, Option.bind_none, Option.map_some, Option.map_none, Option.getD_none, Option.getD_some, ↓reduceIte, Nat.reduceEqDiff, Nat.reduceAdd, Nat.reduceMul, Nat.reduceSub, List.nil_append, List.append_nil, List.cons_append, List.map_cons, List.map_nil, true_and, and_true, AS.fin, pick, dedup, List.mem_cons, List.not_mem_nil, or_false, false_or, List.size_toArray, List.length_cons, List.length_nil, loadAV, List.drop_zero, List.drop_succ_cons, List.take_zero, List.take_succ_cons, List.getElem?_cons_zero, List.getElem?_cons_succ, List.head?_cons, List.mapM_cons, List.mapM_nil, Option.bind_eq_bind, Option.pure_def, deeps3, deep3, deep2, deep1, deeps, deeps2, mixInts, AV.plain, mk, mkD, DCon.lift, DCon.runC, ren3, ren2, ren1, numb, List.zipIdx_nil, List.zipIdx_cons, List.all_nil, List.all_cons, Nat.reduceLeDiff, List.range, List.range.loop, Ty.sz, beq_self_eq_true, Bool.and_self, and_self, Ty.ofC, AO.isDead, Nat.reduceLT, if_true, Nat.zero_add, Nat.add_zero, ite_true, Nat.le_refl, Bool.false_eq_true, reduceCtorEq, if_false, ite_false, binAV, AO.ren, AV.isCell, fillAV, List.set_cons_zero, List.set_cons_succ, Ty.cells, Ty.flat, Ty.dflt, List.getD_cons_zero, List.getD_cons_succ, Int.reduceToNat, Int.reduceSub, Int.reduceAdd, Int.reduceMul, Int.reduceNeg, forall_eq_or_imp, forall_eq, gdL, id_eq, Nat.lt_irrefl, srcOf, List.replicate_succ, List.replicate_zero, dite_true, List.isEmpty_cons, Option.isSome_some, List.length_append, List.length_singleton, bne_self_eq_false, Bool.not_true, Bool.not_false, conF, asArgs, asArg, asTy, asI1, asB1, asS1, asL1, canons, canon, Fork.true_, Fork.false_, bne, Bool.not_not, List.length_map, pickO, AS.over, TI.bl, bne_iff_ne, AS.over2, without, keys, List.mem_singleton, memOp2, memOp3, absorb, abInt, abBool, abStr, abList, gones, Int.toNat_natCast, List.take_length, subE, List.nodup_cons, List.nodup_nil, not_false_eq_true, Nat.sub_self, conR, asG, asI, asBo, asStr, asIs, asBs, asE4, asI2, asI3, asLL, asLLL, Th_int, Th_Sint, Th_bool, Th_string, G_t_IntS, Nat.sub_self, Bool.true_and, Bool.and_false, hL])
    | ((with_reducible refine ens_step ?_ (fun hE => ?_)); · ((repeat' with_reducible apply And.intro) <;> first | with_reducible assumption | omega | exact True.intro | with_reducible rfl | (show ByteArray.size _ ≤ _; decide) | (simp; done) | (simp; omega) | rfl))
    | ((with_reducible refine And.intro ?_ ?_); · ((repeat' with_reducible apply And.intro) <;> first | with_reducible assumption | omega | exact True.intro | with_reducible rfl | (show ByteArray.size _ ≤ _; decide) | (simp; done) | (simp; omega) | rfl))
    | ((with_reducible refine Fork.intro (fun h' => ?_) (fun h' => ?_)) <;> (try simp only [Bool.not_eq_true', Bool.not_eq_false', bne] at h') <;> (replace hL := And.intro h' hL) <;> (try simp only [decide_eq_true_eq, decide_eq_false_iff_not, beq_iff_eq, beq_eq_false_iff_ne, ne_eq] at h') <;> (try (have hke : k = xs.length := (by omega); subst hke)))
    | (with_reducible refine AWp.skipS ?_)
    | ((with_reducible refine AWp.condT rfl ?_))
    | ((with_reducible refine AWp.condF rfl ?_))
    | (with_reducible refine AWp.condB rfl ?_)
    | (with_reducible refine AWp.ret ?_)
    | (with_reducible refine seqQ_n ?_)
    | (with_reducible refine seqQ_ret ?_)
    | (with_reducible refine blkQ_ret ?_)
    | (with_reducible refine blkQ_n ?_)
    | (with_reducible refine seqQ_exit ?_)
    | (with_reducible refine blkQ_exit ?_)
    | (with_reducible refine blkQ_other (by decide) ?_)
    | (with_reducible refine AWp.block ?_)
    | (with_reducible refine AWp.exit ?_)
    | (with_reducible refine AWp.skip ?_)
    | ((with_reducible refine loop_id ?_); refine AWp.loopAt 3 rfl ?_; refine AWp.loopO [4, 8, 9, 10, 11, 12, 13, 14, 15, 16, 17, 18, 19, 20] (fun k => [(4, .lit (.int .i64 (k : Nat)))]) (fun k => [(24, .row 3 .int (xs.take k ++ List.replicate (xs.length - k) (0 : Int)))]) (fun k => k ≤ xs.length) (fun k => xs.length - k) 0 (by omega) (by refine Sub.auto (by first | exact frok0 | assumption) rfl rfl ?_ ?_ <;> (try simp only [subE, AS.over2, without, keys, look, List.cons_append, List.nil_append, List.append_nil, List.mem_cons, List.not_mem_nil, or_false, or_true, true_or, false_or, Nat.reduceEqDiff, ↓reduceIte, Option.some.injEq, AV.lit.injEq, Value.int.injEq, Value.bool.injEq, AV.own.injEq, AO.row.injEq, AO.box.injEq, List.cons.injEq, AV.agg.injEq, AV.sl.injEq, true_and, and_true, and_self, heq_eq_eq, List.length_nil, List.length_cons, List.map_nil, List.take_zero, Int.natCast_add, Int.cast_ofNat_Int, Int.natCast_zero, List.length_append, List.length_map, List.length_take, Nat.zero_add]) <;> (simp)) (fun k hk_3 L3 hLoop3 => ?_))
    | ((with_reducible refine seqQ_f ?_); refine hLoop3 (k + 1) _ (by omega) (by omega) ?_; (refine Sub.auto (by first | exact frok0 | assumption) rfl rfl ?_ ?_ <;> (try simp only [subE, AS.over2, without, keys, look, List.cons_append, List.nil_append, List.append_nil, List.mem_cons, List.not_mem_nil, or_false, or_true, true_or, false_or, Nat.reduceEqDiff, ↓reduceIte, Option.some.injEq, AV.lit.injEq, Value.int.injEq, Value.bool.injEq, AV.own.injEq, AO.row.injEq, AO.box.injEq, List.cons.injEq, AV.agg.injEq, AV.sl.injEq, true_and, and_true, and_self, heq_eq_eq, List.length_nil, List.length_cons, List.map_nil, List.take_zero, Int.natCast_add, Int.cast_ofNat_Int, Int.natCast_zero, List.length_append, List.length_map, List.length_take, Nat.zero_add]) <;> (first | omega | exact copy_step xs _ k (by omega))))
    | ((with_reducible refine EndsAt_id ?_); (try subst_vars); refine EndsAt.done [_] (by first | exact .inr rfl | exact .inl rfl) rfl rfl ?_ ?_ <;> first | decide | (repeat' (first | rfl | apply And.intro | trivial)))
    | (with_reducible refine AWp.seq ?_)⟩
noncomputable def c_e_IntS : Con0 := conF [(.list .int), (.list .int)] fun (⟨xs, ys, _⟩ : (List Int) × (List Int) × Unit) => (ys = xs ∧ xs.length ≤ 4000000000, .lit (.bool true), [])
noncomputable def G_e_IntS : List (FuncId × Con) := []
theorem G_e_IntS_ok : ∀ f C, (f, C) ∈ G_e_IntS → C.ok Tryz.prog f := by
  intro f C h
  simp only [G_e_IntS, List.mem_cons, Prod.mk.injEq, List.not_mem_nil, or_false] at h
set_option maxRecDepth 100000 in
set_option maxHeartbeats 4000000 in
theorem ok_e_IntS : (mk c_e_IntS).ok Tryz.prog 13 := okF (Θ := Th) (N := 26) (rs := [.tmp 4]) Th_ok Tryz.func13 (by kernel_rfl) rfl Tryz.results13 (by decide) (by kernel_rfl) fun (⟨xs, ys, _⟩ : (List Int) × (List Int) × Unit) => ⟨rfl, rfl, Nat.le_of_ble_eq_true rfl, fun hc w0 => by
  have hL := dmy_eq
  try dsimp only at hc
  try dsimp only
  obtain ⟨rfl, hb⟩ := hc
  refine AWp.body rfl ?_
  repeat' first
    | ((with_reducible refine hK _ _ ?_); clear hK K)
    | ((with_reducible refine hK _ _ (by kernel_rfl) ?_); clear hK K)
    | ((with_reducible refine AWp.pS Th_ok G_e_IntS_ok [0, 1, 4, 5, 10, 14, 25] (by decide) ?_); intro K hK)
    | ((with_reducible refine AWp.dS (by kernel_rfl) Th_ok G_e_IntS_ok [0, 1, 4, 5, 10, 14, 25] ?_); intro K hK)
    | ((with_reducible refine AWp.pE Th_ok G_e_IntS_ok [0, 1, 4, 5, 10, 14, 25] (by decide) ?_); intro K hK)
    | ((with_reducible refine AWp.dE (by kernel_rfl) Th_ok G_e_IntS_ok [0, 1, 4, 5, 10, 14, 25] ?_); intro K hK)
    | ((first | with_reducible refine runF_id ?_ | with_reducible refine stepF_id ?_); simp (maxSteps := 2000000) only [runF, stepF, forkOf, gdOf, List.toList_toArray, stepOp, look, opAV, pureOp, callOp, memOp, AS.ev, AS.get, AS.obj, initS, initFrom, AV.cells, AS.upd, Option.bind_some, Option.bind_none, Option.map_some, Option.map_none, Option.getD_none, Option.getD_some, ↓reduceIte, Nat.reduceEqDiff, Nat.reduceAdd, Nat.reduceMul, Nat.reduceSub, List.nil_append, List.append_nil, List.cons_append, List.map_cons, List.map_nil, true_and, and_true, AS.fin, pick, dedup, List.mem_cons, List.not_mem_nil, or_false, false_or, List.size_toArray, List.length_cons, List.length_nil, loadAV, List.drop_zero, List.drop_succ_cons, List.take_zero, List.take_succ_cons, List.getElem?_cons_zero, List.getElem?_cons_succ, List.head?_cons, List.mapM_cons, List.mapM_nil, Option.bind_eq_bind, Option.pure_def, deeps3, deep3, deep2, deep1, deeps, deeps2, mixInts, AV.plain, mk, mkD, DCon.lift, DCon.runC, ren3, ren2, ren1, numb, List.zipIdx_nil, List.zipIdx_cons, List.all_nil, List.all_cons, Nat.reduceLeDiff, List.range, List.range.loop, Ty.sz, beq_self_eq_true, Bool.and_self, and_self, Ty.ofC, AO.isDead, Nat.reduceLT, if_true, Nat.zero_add, Nat.add_zero, ite_true, Nat.le_refl, Bool.false_eq_true, reduceCtorEq, if_false, ite_false, binAV, AO.ren, AV.isCell, fillAV, List.set_cons_zero, List.set_cons_succ, Ty.cells, Ty.flat, Ty.dflt, List.getD_cons_zero, List.getD_cons_succ, Int.reduceToNat, Int.reduceSub, Int.reduceAdd, Int.reduceMul, Int.reduceNeg, forall_eq_or_imp, forall_eq, gdL, id_eq, Nat.lt_irrefl, srcOf, List.replicate_succ, List.replicate_zero, dite_true, List.isEmpty_cons, Option.isSome_some, List.length_append, List.length_singleton, bne_self_eq_false, Bool.not_true, Bool.not_false, conF, asArgs, asArg, asTy, asI1, asB1, asS1, asL1, canons, canon, Fork.true_, Fork.false_, bne, Bool.not_not, List.length_map, pickO, AS.over, TI.bl, bne_iff_ne, AS.over2, without, keys, List.mem_singleton, memOp2, memOp3, absorb, abInt, abBool, abStr, abList, gones, Int.toNat_natCast, List.take_length, subE, List.nodup_cons, List.nodup_nil, not_false_eq_true, Nat.sub_self, conR, asG, asI, asBo, asStr, asIs, asBs, asE4, asI2, asI3, asLL, asLLL, Th_int, Th_Sint, Th_lawsGroup, Th_string, G_e_IntS, hL])
    | ((with_reducible refine ens_step ?_ (fun hE => ?_)); · ((repeat' with_reducible apply And.intro) <;> first | with_reducible assumption | omega | exact True.intro | with_reducible rfl | (show ByteArray.size _ ≤ _; decide) | (simp; done) | (simp; omega) | rfl))
    | ((with_reducible refine And.intro ?_ ?_); · ((repeat' with_reducible apply And.intro) <;> first | with_reducible assumption | omega | exact True.intro | with_reducible rfl | (show ByteArray.size _ ≤ _; decide) | (simp; done) | (simp; omega) | rfl))
    | ((with_reducible refine Fork.intro (fun h' => ?_) (fun h' => ?_)) <;> (try simp only [Bool.not_eq_true', Bool.not_eq_false', bne] at h') <;> (replace hL := And.intro h' hL) <;> (try simp only [decide_eq_true_eq, decide_eq_false_iff_not, beq_iff_eq, beq_eq_false_iff_ne, ne_eq] at h') <;> (try (exfalso; omega)) <;> (try (have hke : k = ys.length := (by omega); subst hke)))
    | (with_reducible refine AWp.skipS ?_)
    | ((with_reducible refine AWp.condT rfl ?_))
    | ((with_reducible refine AWp.condF rfl ?_))
    | (with_reducible refine AWp.condB rfl ?_)
    | (with_reducible refine AWp.ret ?_)
    | (with_reducible refine seqQ_n ?_)
    | (with_reducible refine seqQ_ret ?_)
    | (with_reducible refine blkQ_ret ?_)
    | (with_reducible refine blkQ_n ?_)
    | (with_reducible refine seqQ_exit ?_)
    | (with_reducible refine blkQ_exit ?_)
    | (with_reducible refine blkQ_other (by decide) ?_)
    | (with_reducible refine AWp.block ?_)
    | (with_reducible refine AWp.exit ?_)
    | (with_reducible refine AWp.skip ?_)
    | ((with_reducible refine loop_id ?_); refine AWp.loopAt 4 rfl ?_; refine AWp.loopO [4, 5, 11, 12, 13, 14, 15, 16, 17, 18, 19, 20, 21, 22, 23, 24, 25] (fun k => [(5, .lit (.int .i64 (k : Nat)))]) (fun k => []) (fun k => k ≤ ys.length) (fun k => ys.length - k) 0 (by omega) (by refine Sub.auto (by first | exact frok0 | assumption) rfl rfl ?_ ?_ <;> (try simp only [subE, AS.over2, without, keys, look, List.cons_append, List.nil_append, List.append_nil, List.mem_cons, List.not_mem_nil, or_false, or_true, true_or, false_or, Nat.reduceEqDiff, ↓reduceIte, Option.some.injEq, AV.lit.injEq, Value.int.injEq, Value.bool.injEq, AV.own.injEq, AO.row.injEq, AO.box.injEq, List.cons.injEq, AV.agg.injEq, AV.sl.injEq, true_and, and_true, and_self, heq_eq_eq, List.length_nil, List.length_cons, List.map_nil, List.take_zero, Int.natCast_add, Int.cast_ofNat_Int, Int.natCast_zero, List.length_append, List.length_map, List.length_take, Nat.zero_add]) <;> (simp)) (fun k hk_4 L4 hLoop4 => ?_))
    | ((with_reducible refine seqQ_f ?_); refine hLoop4 (k + 1) _ (by omega) (by omega) ?_; (refine Sub.auto (by first | exact frok0 | assumption) rfl rfl ?_ ?_ <;> (try simp only [subE, AS.over2, without, keys, look, List.cons_append, List.nil_append, List.append_nil, List.mem_cons, List.not_mem_nil, or_false, or_true, true_or, false_or, Nat.reduceEqDiff, ↓reduceIte, Option.some.injEq, AV.lit.injEq, Value.int.injEq, Value.bool.injEq, AV.own.injEq, AO.row.injEq, AO.box.injEq, List.cons.injEq, AV.agg.injEq, AV.sl.injEq, true_and, and_true, and_self, heq_eq_eq, List.length_nil, List.length_cons, List.map_nil, List.take_zero, Int.natCast_add, Int.cast_ofNat_Int, Int.natCast_zero, List.length_append, List.length_map, List.length_take, Nat.zero_add]) <;> (omega)))
    | ((with_reducible refine EndsAt_id ?_); (try subst_vars); refine EndsAt.done [] (by first | exact .inr rfl | exact .inl rfl) rfl rfl ?_ ?_ <;> first | decide | (repeat' (first | rfl | apply And.intro | trivial)))
    | (with_reducible refine AWp.seq ?_)⟩
noncomputable def c_z_IntS : Con0 := conF [(.list .int), .int] fun (⟨xs, l, _⟩ : (List Int) × Int × Unit) => ((l ≤ 1048576 ∧ -1 ≤ l) ∧ xs.length ≤ 9223372036854775807, .lit (.int .i64 (if l - (xs.length : Nat) < 0 then (-1 : Int) else l - (xs.length : Nat))), [])
noncomputable def G_z_IntS : List (FuncId × Con) := []
theorem G_z_IntS_ok : ∀ f C, (f, C) ∈ G_z_IntS → C.ok Tryz.prog f := by
  intro f C h
  simp only [G_z_IntS, List.mem_cons, Prod.mk.injEq, List.not_mem_nil, or_false] at h
set_option maxRecDepth 100000 in
set_option maxHeartbeats 4000000 in
theorem ok_z_IntS : (mk c_z_IntS).ok Tryz.prog 78 := okF (Θ := Th) (N := 12) (rs := [.tmp 4]) Th_ok Tryz.func78 (by kernel_rfl) rfl Tryz.results78 (by decide) (by kernel_rfl) fun (⟨xs, l, _⟩ : (List Int) × Int × Unit) => ⟨rfl, rfl, Nat.le_of_ble_eq_true rfl, fun hc w0 => by
  have hL := dmy_eq
  try dsimp only at hc
  try dsimp only
  obtain ⟨hb, hxl⟩ := hc
  refine AWp.body rfl ?_
  repeat' first
    | ((with_reducible refine hK _ _ ?_); clear hK K)
    | ((with_reducible refine hK _ _ (by kernel_rfl) ?_); clear hK K)
    | ((with_reducible refine AWp.pS Th_ok G_z_IntS_ok [0, 1, 4, 10] (by decide) ?_); intro K hK)
    | ((with_reducible refine AWp.dS (by kernel_rfl) Th_ok G_z_IntS_ok [0, 1, 4, 10] ?_); intro K hK)
    | ((with_reducible refine AWp.pE Th_ok G_z_IntS_ok [0, 1, 4, 10] (by decide) ?_); intro K hK)
    | ((with_reducible refine AWp.dE (by kernel_rfl) Th_ok G_z_IntS_ok [0, 1, 4, 10] ?_); intro K hK)
    | ((first | with_reducible refine runF_id ?_ | with_reducible refine stepF_id ?_); simp (maxSteps := 2000000) only [runF, stepF, forkOf, gdOf, List.toList_toArray, stepOp, look, opAV, pureOp, callOp, memOp, AS.ev, AS.get, AS.obj, initS, initFrom, AV.cells, AS.upd, Option.bind_some, Option.bind_none, Option.map_some, Option.map_none, Option.getD_none, Option.getD_some, ↓reduceIte, Nat.reduceEqDiff, Nat.reduceAdd, Nat.reduceMul, Nat.reduceSub, List.nil_append, List.append_nil, List.cons_append, List.map_cons, List.map_nil, true_and, and_true, AS.fin, pick, dedup, List.mem_cons, List.not_mem_nil, or_false, false_or, List.size_toArray, List.length_cons, List.length_nil, loadAV, List.drop_zero, List.drop_succ_cons, List.take_zero, List.take_succ_cons, List.getElem?_cons_zero, List.getElem?_cons_succ, List.head?_cons, List.mapM_cons, List.mapM_nil, Option.bind_eq_bind, Option.pure_def, deeps3, deep3, deep2, deep1, deeps, deeps2, mixInts, AV.plain, mk, mkD, DCon.lift, DCon.runC, ren3, ren2, ren1, numb, List.zipIdx_nil, List.zipIdx_cons, List.all_nil, List.all_cons, Nat.reduceLeDiff, List.range, List.range.loop, Ty.sz, beq_self_eq_true, Bool.and_self, and_self, Ty.ofC, AO.isDead, Nat.reduceLT, if_true, Nat.zero_add, Nat.add_zero, ite_true, Nat.le_refl, Bool.false_eq_true, reduceCtorEq, if_false, ite_false, binAV, AO.ren, AV.isCell, fillAV, List.set_cons_zero, List.set_cons_succ, Ty.cells, Ty.flat, Ty.dflt, List.getD_cons_zero, List.getD_cons_succ, Int.reduceToNat, Int.reduceSub, Int.reduceAdd, Int.reduceMul, Int.reduceNeg, forall_eq_or_imp, forall_eq, gdL, id_eq, Nat.lt_irrefl, srcOf, List.replicate_succ, List.replicate_zero, dite_true, List.isEmpty_cons, Option.isSome_some, List.length_append, List.length_singleton, bne_self_eq_false, Bool.not_true, Bool.not_false, conF, asArgs, asArg, asTy, asI1, asB1, asS1, asL1, canons, canon, Fork.true_, Fork.false_, bne, Bool.not_not, List.length_map, pickO, AS.over, TI.bl, bne_iff_ne, AS.over2, without, keys, List.mem_singleton, memOp2, memOp3, absorb, abInt, abBool, abStr, abList, gones, Int.toNat_natCast, List.take_length, subE, List.nodup_cons, List.nodup_nil, not_false_eq_true, Nat.sub_self, conR, asG, asI, asBo, asStr, asIs, asBs, asE4, asI2, asI3, asLL, asLLL, Th_int, Th_Sint, Th_string, G_z_IntS, hL])
    | ((with_reducible refine ens_step ?_ (fun hE => ?_)); · ((repeat' with_reducible apply And.intro) <;> first | with_reducible assumption | omega | exact True.intro | with_reducible rfl | (show ByteArray.size _ ≤ _; decide) | (simp; done) | (simp; omega) | rfl))
    | ((with_reducible refine And.intro ?_ ?_); · ((repeat' with_reducible apply And.intro) <;> first | with_reducible assumption | omega | exact True.intro | with_reducible rfl | (show ByteArray.size _ ≤ _; decide) | (simp; done) | (simp; omega) | rfl))
    | ((with_reducible refine Fork.intro (fun h' => ?_) (fun h' => ?_)) <;> (try simp only [Bool.not_eq_true', Bool.not_eq_false', bne] at h') <;> (replace hL := And.intro h' hL) <;> (try simp only [decide_eq_true_eq, decide_eq_false_iff_not, beq_iff_eq, beq_eq_false_iff_ne, ne_eq] at h'))
    | (with_reducible refine AWp.skipS ?_)
    | ((with_reducible refine AWp.condT rfl ?_))
    | ((with_reducible refine AWp.condF rfl ?_))
    | (with_reducible refine AWp.condB rfl ?_)
    | (with_reducible refine AWp.ret ?_)
    | (with_reducible refine seqQ_n ?_)
    | (with_reducible refine seqQ_ret ?_)
    | (with_reducible refine blkQ_ret ?_)
    | (with_reducible refine blkQ_n ?_)
    | (with_reducible refine seqQ_exit ?_)
    | (with_reducible refine blkQ_exit ?_)
    | (with_reducible refine blkQ_other (by decide) ?_)
    | (with_reducible refine AWp.block ?_)
    | (with_reducible refine AWp.exit ?_)
    | (with_reducible refine AWp.skip ?_)
    | ((with_reducible refine EndsAt_id ?_); (try subst_vars); refine EndsAt.int (by first | exact .inr rfl | exact .inl rfl) rfl ?_; first | rfl | omega)
    | (with_reducible refine AWp.seq ?_)⟩
def sel_w_IntS : List AV → Option (List Nat × (Nat × Int))
  | [.own o0 n0, .lit (.int .i64 k)] => some ([o0], (n0, k))
  | _ => none
def c_w_IntS : Con := conM [.int] (fun (a : Nat × Int) => [a.1]) (fun a => a.2) sel_w_IntS
noncomputable def G_w_IntS : List (FuncId × Con) := []
theorem G_w_IntS_ok : ∀ f C, (f, C) ∈ G_w_IntS → C.ok Tryz.prog f := by
  intro f C h
  simp only [G_w_IntS, List.mem_cons, Prod.mk.injEq, List.not_mem_nil, or_false] at h
set_option maxRecDepth 100000 in
set_option maxHeartbeats 4000000 in
theorem ok_w_IntS : c_w_IntS.ok Tryz.prog 15 := okM (Θ := Th) (N := 19) (rs := [.tmp 4]) Th_ok Tryz.func15 (by kernel_rfl) rfl Tryz.results15 (by decide) (by kernel_rfl) (fun a => [.own 0 a.1, .lit (.int .i64 a.2)]) (fun args l aa h => by unfold sel_w_IntS at h; split at h <;> cases h; rfl) (fun aa => ⟨rfl, Nat.le_of_ble_eq_true rfl⟩) fun aa es0 d hc w0 pin hfr => by
  obtain ⟨n0, k⟩ := aa
  obtain ⟨e0, _⟩ := es0
  obtain ⟨xs0, _⟩ := d
  dsimp only at hc ⊢
  obtain ⟨hln, hk0, hk1⟩ := hc
  simp only [lensR, List.headD_cons, List.tail_cons, and_true] at hln
  obtain ⟨hn0, hb0⟩ := hln
  subst hn0
  simp only [cntR, cnt_int, Nat.add_zero] at hk1
  have hL := dmy_eq
  refine AWp.body rfl ?_
  repeat' first
    | ((with_reducible refine AWp_id ?_); refine AWp.focus 4 1000001 400000 rfl rfl rfl rfl ?_; intro es; (try simp only [spC, spO, Ty.nl, List.cons_append, List.nil_append, Nat.reduceAdd]))
    | ((with_reducible refine hK _ _ ?_); clear hK K)
    | ((with_reducible refine hK _ _ (by kernel_rfl) ?_); clear hK K)
    | ((with_reducible refine AWp.pS Th_ok G_w_IntS_ok [0, 1, 4, 5, 9] (by decide) ?_); intro K hK)
    | ((with_reducible refine AWp.dS (by kernel_rfl) Th_ok G_w_IntS_ok [0, 1, 4, 5, 9] ?_); intro K hK)
    | ((with_reducible refine AWp.pE Th_ok G_w_IntS_ok [0, 1, 4, 5, 9] (by decide) ?_); intro K hK)
    | ((with_reducible refine AWp.dE (by kernel_rfl) Th_ok G_w_IntS_ok [0, 1, 4, 5, 9] ?_); intro K hK)
    | ((first | with_reducible refine runF_id ?_ | with_reducible refine stepF_id ?_); simp (maxSteps := 2000000) only [runF, stepF, forkOf, gdOf, List.toList_toArray, stepOp, look, opAV, pureOp, callOp, memOp, AS.ev, AS.get, AS.obj, initS, initFrom, AV.cells, AS.upd, Option.bind_some, Option.bind_none, Option.map_some, Option.map_none, Option.getD_none, Option.getD_some, ↓reduceIte, Nat.reduceEqDiff, Nat.reduceAdd, Nat.reduceMul, Nat.reduceSub, List.nil_append, List.append_nil, List.cons_append, List.map_cons, List.map_nil, true_and, and_true, AS.fin, pick, dedup, List.mem_cons, List.not_mem_nil, or_false, false_or, List.size_toArray, List.length_cons, List.length_nil, loadAV, List.drop_zero, List.drop_succ_cons, List.take_zero, List.take_succ_cons, List.getElem?_cons_zero, List.getElem?_cons_succ, List.head?_cons, List.mapM_cons, List.mapM_nil, Option.bind_eq_bind, Option.pure_def, deeps3, deep3, deep2, deep1, deeps, deeps2, mixInts, AV.plain, mk, mkD, DCon.lift, DCon.runC, ren3, ren2, ren1, numb, List.zipIdx_nil, List.zipIdx_cons, List.all_nil, List.all_cons, Nat.reduceLeDiff, List.range, List.range.loop, Ty.sz, beq_self_eq_true, Bool.and_self, and_self, Ty.ofC, AO.isDead, Nat.reduceLT, if_true, Nat.zero_add, Nat.add_zero, ite_true, Nat.le_refl, Bool.false_eq_true, reduceCtorEq, if_false, ite_false, binAV, AO.ren, AV.isCell, fillAV, List.set_cons_zero, List.set_cons_succ, Ty.cells, Ty.flat, Ty.dflt, List.getD_cons_zero, List.getD_cons_succ, Int.reduceToNat, Int.reduceSub, Int.reduceAdd, Int.reduceMul, Int.reduceNeg, forall_eq_or_imp, forall_eq, gdL, id_eq, Nat.lt_irrefl, srcOf, List.replicate_succ, List.replicate_zero, dite_true, List.isEmpty_cons, Option.isSome_some, List.length_append, List.length_singleton, bne_self_eq_false, Bool.not_true, Bool.not_false, conF, asArgs, asArg, asTy, asI1, asB1, asS1, asL1, canons, canon, Fork.true_, Fork.false_, bne, Bool.not_not, List.length_map, pickO, AS.over, TI.bl, bne_iff_ne, AS.over2, without, keys, List.mem_singleton, memOp2, memOp3, absorb, abInt, abBool, abStr, abList, gones, Int.toNat_natCast, List.take_length, subE, List.nodup_cons, List.nodup_nil, not_false_eq_true, Nat.sub_self, conR, asG, asI, asBo, asStr, asIs, asBs, asE4, asI2, asI3, asLL, asLLL, Th_int, Th_Sint, G_w_IntS, initW, wnum, rowsAO, ren2, ren1, spC, spO, List.map_cons, List.map_nil, cnt_int, cnt_mrk, mrk_len .int, hL])
    | ((with_reducible refine ens_step ?_ (fun hE => ?_)); · ((repeat' with_reducible apply And.intro) <;> first | with_reducible assumption | omega | exact True.intro | with_reducible rfl | (show ByteArray.size _ ≤ _; decide) | (simp; done) | (simp; omega) | rfl))
    | ((with_reducible refine And.intro ?_ ?_); · ((repeat' with_reducible apply And.intro) <;> first | with_reducible assumption | omega | exact True.intro | with_reducible rfl | (show ByteArray.size _ ≤ _; decide) | (simp; done) | (simp; omega) | rfl))
    | ((with_reducible refine Fork.intro (fun h' => ?_) (fun h' => ?_)) <;> (try simp only [Bool.not_eq_true', Bool.not_eq_false', bne] at h') <;> (replace hL := And.intro h' hL) <;> (try simp only [decide_eq_true_eq, decide_eq_false_iff_not, beq_iff_eq, beq_eq_false_iff_ne, ne_eq] at h') <;> (try (have hps := cons_of_pos (l := suf) (by omega); obtain ⟨x, suf, rfl⟩ := hps; have hcn := cnt_cons (t := .int) x suf; simp only [cnt_pi, cnt_pb, cnt_pl, cnt_i, cnt_b, cnt_int] at hcn; (try simp only [cnt_int, List.length_cons] at hcn hz3); (try simp only [List.length_cons] at hz1))) <;> (try (have hsn := nil_of_zero (l := suf) (by omega); subst hsn; have hfin := hz.fin; obtain ⟨hfp, hfk⟩ := hfin; subst hfp hfk)))
    | (with_reducible refine AWp.skipS ?_)
    | ((with_reducible refine AWp.condT rfl ?_))
    | ((with_reducible refine AWp.condF rfl ?_))
    | (with_reducible refine AWp.condB rfl ?_)
    | (with_reducible refine AWp.ret ?_)
    | (with_reducible refine seqQ_n ?_)
    | (with_reducible refine seqQ_ret ?_)
    | (with_reducible refine blkQ_ret ?_)
    | (with_reducible refine blkQ_n ?_)
    | (with_reducible refine seqQ_exit ?_)
    | (with_reducible refine blkQ_exit ?_)
    | (with_reducible refine blkQ_other (by decide) ?_)
    | (with_reducible refine AWp.block ?_)
    | (with_reducible refine AWp.exit ?_)
    | (with_reducible refine AWp.skip ?_)
    | ((with_reducible refine loop_id ?_); refine AWp.loopAt 2 rfl ?_; refine AWp.loopO [1, 5, 6, 7, 8, 9, 10, 11, 12, 13, 14, 15, 16, 17] (fun z : List Int × List Int × Int => [(5, .lit (.int .i64 (z.1.length : Nat))), (1, .lit (.int .i64 z.2.2))]) (fun z => [(1000001, .row e0 .int (z.1 ++ z.2.1))]) (fun z => MkI .int k xs0 z.1 z.2.1 z.2.2) (fun z => z.2.1.length) ([], xs0, k) (MkI.init hk0) (by refine Sub.auto (by assumption) rfl rfl ?_ ?_ <;> (try simp only [subE, AS.over2, without, keys, look, List.cons_append, List.nil_append, List.append_nil, List.mem_cons, List.not_mem_nil, or_false, or_true, true_or, false_or, Nat.reduceEqDiff, ↓reduceIte, Option.some.injEq, AV.lit.injEq, Value.int.injEq, Value.bool.injEq, AV.own.injEq, AO.row.injEq, AO.box.injEq, List.cons.injEq, AV.agg.injEq, AV.sl.injEq, true_and, and_true, and_self, heq_eq_eq, List.length_nil, List.length_cons, List.map_nil, List.take_zero, Int.natCast_add, Int.cast_ofNat_Int, Int.natCast_zero, List.length_append, List.length_map, List.length_take, Nat.zero_add, List.length_append, List.length_cons, List.length_nil, Nat.zero_add, Int.natCast_add, Int.cast_ofNat_Int, Int.natCast_one, mrk_pi, mrk_pb, mrk_pl, mrk_i, mrk_b, cnt_int, cnt_pi, cnt_pb, cnt_pl, cnt_i, cnt_b, cnt_int]) <;> (try simp only [Int.add_assoc, Int.reduceAdd, and_self, and_true, true_and]) <;> (first | done | (repeat' apply And.intro) <;> first | trivial | rfl | omega | (simp [List.nil_append]; done) | (simp; omega))) (fun z hz L hLoop => ?_); obtain ⟨pre, suf, kk⟩ := z; (try dsimp only at hz); have hz1 := hz.len; have hz3 := hz.tot; have hz4 := hz.pos; (try rw [cnt_int] at hz3))
    | ((with_reducible refine seqQ_f ?_); refine hLoop (pre ++ [Ty.mrk .int kk x], suf, kk + Ty.cnt .int x) _ hz.step (by simp only [List.length_cons]; omega) ?_; refine Sub.unfocusK 1000001 rfl ?_; simp only [absK, absorb, abInt, abBool, abStr, abList, AS.obj, look, Ty.sz, List.take_zero, List.take_succ_cons, List.drop_succ_cons, List.drop_zero, List.take_nil, List.drop_nil, Nat.reduceEqDiff, ↓reduceIte, Option.getD_some, dite_true, List.nil_append, List.cons_append, List.map_cons, List.map_nil, List.nodup_cons, List.nodup_nil, List.mem_cons, List.not_mem_nil, or_false, not_false_eq_true, and_self, and_true, true_and, mrk_len .int, gones, Nat.reduceAdd]; refine Sub.auto (by assumption) rfl rfl ?_ ?_ <;> (try simp only [subE, AS.over2, without, keys, look, List.cons_append, List.nil_append, List.append_nil, List.mem_cons, List.not_mem_nil, or_false, or_true, true_or, false_or, Nat.reduceEqDiff, ↓reduceIte, Option.some.injEq, AV.lit.injEq, Value.int.injEq, Value.bool.injEq, AV.own.injEq, AO.row.injEq, AO.box.injEq, List.cons.injEq, AV.agg.injEq, AV.sl.injEq, true_and, and_true, and_self, heq_eq_eq, List.length_nil, List.length_cons, List.map_nil, List.take_zero, Int.natCast_add, Int.cast_ofNat_Int, Int.natCast_zero, List.length_append, List.length_map, List.length_take, Nat.zero_add, List.append_assoc, List.length_append, List.length_cons, List.length_nil, Nat.zero_add, Int.natCast_add, Int.cast_ofNat_Int, Int.natCast_one, mrk_pi, mrk_pb, mrk_pl, mrk_i, mrk_b, cnt_int, cnt_pi, cnt_pb, cnt_pl, cnt_i, cnt_b, cnt_int]) <;> (try simp only [Int.add_assoc, Int.reduceAdd, and_self, and_true, true_and]) <;> (first | done | (repeat' apply And.intro) <;> first | trivial | rfl | omega | (simp [List.nil_append]; done) | (simp; omega)))
    | (with_reducible refine AWp.seq ?_)
    | ((with_reducible refine EndsW_id ?_); refine EndsW.done (by first | exact .inr rfl | exact .inl rfl) rfl ?_ ?_ rfl <;> first | omega | (simp only [cntR, mrkR, rowsAO, endsW, cnt_int, Int.natCast_add, Int.natCast_zero, Int.add_zero, Int.add_assoc, Nat.add_zero, look, AS.obj, List.cons_append, List.nil_append, Nat.reduceEqDiff, ↓reduceIte, Option.getD_some, and_true]; done) | (simp only [cntR, cnt_int, Int.natCast_add]; omega) | (refine ⟨rfl, ?_⟩; simp only [cntR, mrkR, rowsAO, endsW, cnt_int, Int.natCast_add, Int.natCast_zero, Int.add_zero, Int.add_assoc, Nat.add_zero, look, AS.obj, List.cons_append, List.nil_append, Nat.reduceEqDiff, ↓reduceIte, Option.getD_some, and_true]; done) | (simp [endsW, rowsAO, mrkR, AS.obj, look, cnt_int, Int.add_assoc]; done))
noncomputable def c_h_IntS : Con0 := conF [(.list .int), .int] fun (⟨xs, k, _⟩ : (List Int) × Int × Unit) => ((Ty.mrk (.list .int) k xs : List Int) = xs ∧ (0 ≤ k ∧ k + (xs.length : Nat) ≤ 4000000000000000000) ∧ xs.length ≤ 9223372036854775807, .lit (.int .i64 (k + (xs.length : Nat))), [])
noncomputable def G_h_IntS : List (FuncId × Con) := []
theorem G_h_IntS_ok : ∀ f C, (f, C) ∈ G_h_IntS → C.ok Tryz.prog f := by
  intro f C h
  simp only [G_h_IntS, List.mem_cons, Prod.mk.injEq, List.not_mem_nil, or_false] at h
set_option maxRecDepth 100000 in
set_option maxHeartbeats 4000000 in
theorem ok_h_IntS : (mk c_h_IntS).ok Tryz.prog 17 := okF (Θ := Th) (N := 21) (rs := [.tmp 4]) Th_ok Tryz.func17 (by kernel_rfl) rfl Tryz.results17 (by decide) (by kernel_rfl) fun (⟨xs, k, _⟩ : (List Int) × Int × Unit) => ⟨rfl, rfl, Nat.le_of_ble_eq_true rfl, fun hc w0 => by
  have hL := dmy_eq
  try dsimp only at hc
  try dsimp only
  obtain ⟨hmk, ⟨hk0, hk1⟩, hxl⟩ := hc
  refine AWp.body rfl ?_
  repeat' first
    | ((with_reducible refine hK _ _ ?_); clear hK K)
    | ((with_reducible refine hK _ _ (by kernel_rfl) ?_); clear hK K)
    | ((with_reducible refine AWp.pS Th_ok G_h_IntS_ok [0, 1, 4, 5, 9, 17] (by decide) ?_); intro K hK)
    | ((with_reducible refine AWp.dS (by kernel_rfl) Th_ok G_h_IntS_ok [0, 1, 4, 5, 9, 17] ?_); intro K hK)
    | ((with_reducible refine AWp.pE Th_ok G_h_IntS_ok [0, 1, 4, 5, 9, 17] (by decide) ?_); intro K hK)
    | ((with_reducible refine AWp.dE (by kernel_rfl) Th_ok G_h_IntS_ok [0, 1, 4, 5, 9, 17] ?_); intro K hK)
    | ((first | with_reducible refine runF_id ?_ | with_reducible refine stepF_id ?_); simp (maxSteps := 2000000) only [runF, stepF, forkOf, gdOf, List.toList_toArray, stepOp, look, opAV, pureOp, callOp, memOp, AS.ev, AS.get, AS.obj, initS, initFrom, AV.cells, AS.upd, Option.bind_some, Option.bind_none, Option.map_some, Option.map_none, Option.getD_none, Option.getD_some, ↓reduceIte, Nat.reduceEqDiff, Nat.reduceAdd, Nat.reduceMul, Nat.reduceSub, List.nil_append, List.append_nil, List.cons_append, List.map_cons, List.map_nil, true_and, and_true, AS.fin, pick, dedup, List.mem_cons, List.not_mem_nil, or_false, false_or, List.size_toArray, List.length_cons, List.length_nil, loadAV, List.drop_zero, List.drop_succ_cons, List.take_zero, List.take_succ_cons, List.getElem?_cons_zero, List.getElem?_cons_succ, List.head?_cons, List.mapM_cons, List.mapM_nil, Option.bind_eq_bind, Option.pure_def, deeps3, deep3, deep2, deep1, deeps, deeps2, mixInts, AV.plain, mk, mkD, DCon.lift, DCon.runC, ren3, ren2, ren1, numb, List.zipIdx_nil, List.zipIdx_cons, List.all_nil, List.all_cons, Nat.reduceLeDiff, List.range, List.range.loop, Ty.sz, beq_self_eq_true, Bool.and_self, and_self, Ty.ofC, AO.isDead, Nat.reduceLT, if_true, Nat.zero_add, Nat.add_zero, ite_true, Nat.le_refl, Bool.false_eq_true, reduceCtorEq, if_false, ite_false, binAV, AO.ren, AV.isCell, fillAV, List.set_cons_zero, List.set_cons_succ, Ty.cells, Ty.flat, Ty.dflt, List.getD_cons_zero, List.getD_cons_succ, Int.reduceToNat, Int.reduceSub, Int.reduceAdd, Int.reduceMul, Int.reduceNeg, forall_eq_or_imp, forall_eq, gdL, id_eq, Nat.lt_irrefl, srcOf, List.replicate_succ, List.replicate_zero, dite_true, List.isEmpty_cons, Option.isSome_some, List.length_append, List.length_singleton, bne_self_eq_false, Bool.not_true, Bool.not_false, conF, asArgs, asArg, asTy, asI1, asB1, asS1, asL1, canons, canon, Fork.true_, Fork.false_, bne, Bool.not_not, List.length_map, pickO, AS.over, TI.bl, bne_iff_ne, AS.over2, without, keys, List.mem_singleton, memOp2, memOp3, absorb, abInt, abBool, abStr, abList, gones, Int.toNat_natCast, List.take_length, subE, List.nodup_cons, List.nodup_nil, not_false_eq_true, Nat.sub_self, conR, asG, asI, asBo, asStr, asIs, asBs, asE4, asI2, asI3, asLL, asLLL, Th_int, Th_Sint, G_h_IntS, hL])
    | ((with_reducible refine ens_step ?_ (fun hE => ?_)); · ((repeat' with_reducible apply And.intro) <;> first | with_reducible assumption | omega | exact True.intro | with_reducible rfl | (show ByteArray.size _ ≤ _; decide) | (simp; done) | (simp; omega) | rfl))
    | ((with_reducible refine And.intro ?_ ?_); · ((repeat' with_reducible apply And.intro) <;> first | with_reducible assumption | omega | exact True.intro | with_reducible rfl | (show ByteArray.size _ ≤ _; decide) | (simp; done) | (simp; omega) | rfl))
    | ((with_reducible refine Fork.intro (fun h' => ?_) (fun h' => ?_)) <;> (try simp only [Bool.not_eq_true', Bool.not_eq_false', bne] at h') <;> (replace hL := And.intro h' hL) <;> (try simp only [decide_eq_true_eq, decide_eq_false_iff_not, beq_iff_eq, beq_eq_false_iff_ne, ne_eq] at h') <;> (try (exfalso; omega)) <;> (try (have hps := cons_of_pos (l := suf) (by omega); obtain ⟨x, suf, rfl⟩ := hps; have hcn := cnt_cons (t := .int) x suf; simp only [cnt_pi, cnt_pb, cnt_pl, cnt_i, cnt_b, cnt_int] at hcn; have hone := hz.one (0 : Int); obtain ⟨hmx, hgx⟩ := hone; (try simp only [mrk_pi, mrk_pb, mrk_pl, mrk_i, mrk_b, cnt_int, Prod.mk.injEq] at hmx); have hx0 := hmx; (try simp only [List.length_cons] at hz1); (try simp only [cnt_int, List.length_cons] at hcn hz3); replace hL := And.intro hgx hL)) <;> (try (have hsn := nil_of_zero (l := suf) (by omega); subst hsn; have hft := hz.tot; rw [cnt_nil] at hft; (try rw [cnt_int] at hft))))
    | (with_reducible refine AWp.skipS ?_)
    | ((with_reducible refine AWp.condT rfl ?_))
    | ((with_reducible refine AWp.condF rfl ?_))
    | (with_reducible refine AWp.condB rfl ?_)
    | (with_reducible refine AWp.ret ?_)
    | (with_reducible refine seqQ_n ?_)
    | (with_reducible refine seqQ_ret ?_)
    | (with_reducible refine blkQ_ret ?_)
    | (with_reducible refine blkQ_n ?_)
    | (with_reducible refine seqQ_exit ?_)
    | (with_reducible refine blkQ_exit ?_)
    | (with_reducible refine blkQ_other (by decide) ?_)
    | (with_reducible refine AWp.block ?_)
    | (with_reducible refine AWp.exit ?_)
    | (with_reducible refine AWp.skip ?_)
    | ((with_reducible refine loop_id ?_); refine AWp.loopAt 2 rfl ?_; refine AWp.loopO [1, 4, 5, 6, 7, 8, 9, 10, 11, 12, 13, 14, 15, 16, 17, 18, 19] (fun z : List Int × List Int × Int => [(5, .lit (.int .i64 (z.1.length : Nat))), (1, .lit (.int .i64 z.2.2))]) (fun z => []) (fun z => HdI .int k xs z.1 z.2.1 z.2.2) (fun z => z.2.1.length) ([], xs, k) (HdI.init hk0 hmk) (by refine Sub.auto (by first | exact frok0 | assumption) rfl rfl ?_ ?_ <;> (try simp only [subE, AS.over2, without, keys, look, List.cons_append, List.nil_append, List.append_nil, List.mem_cons, List.not_mem_nil, or_false, or_true, true_or, false_or, Nat.reduceEqDiff, ↓reduceIte, Option.some.injEq, AV.lit.injEq, Value.int.injEq, Value.bool.injEq, AV.own.injEq, AO.row.injEq, AO.box.injEq, List.cons.injEq, AV.agg.injEq, AV.sl.injEq, true_and, and_true, and_self, heq_eq_eq, List.length_nil, List.length_cons, List.map_nil, List.take_zero, Int.natCast_add, Int.cast_ofNat_Int, Int.natCast_zero, List.length_append, List.length_map, List.length_take, Nat.zero_add, Int.natCast_one, cnt_pi, cnt_pb, cnt_pl, cnt_i, cnt_b, cnt_int]) <;> (first | done | (repeat' apply And.intro) <;> first | trivial | rfl | omega | (simp; omega))) (fun z hz L hLoop => ?_); obtain ⟨pre, suf, kk⟩ := z; (try dsimp only at hz); have hz1 := hz.len; have hz3 := hz.tot; have hz4 := hz.pos; (try rw [cnt_int] at hz3))
    | ((with_reducible refine seqQ_f ?_); refine hLoop (pre ++ [x], suf, kk + Ty.cnt .int x) _ hz.step (by simp only [List.length_cons]; omega) ?_; refine Sub.auto (by first | exact frok0 | assumption) rfl rfl ?_ ?_ <;> (try simp only [subE, AS.over2, without, keys, look, List.cons_append, List.nil_append, List.append_nil, List.mem_cons, List.not_mem_nil, or_false, or_true, true_or, false_or, Nat.reduceEqDiff, ↓reduceIte, Option.some.injEq, AV.lit.injEq, Value.int.injEq, Value.bool.injEq, AV.own.injEq, AO.row.injEq, AO.box.injEq, List.cons.injEq, AV.agg.injEq, AV.sl.injEq, true_and, and_true, and_self, heq_eq_eq, List.length_nil, List.length_cons, List.map_nil, List.take_zero, Int.natCast_add, Int.cast_ofNat_Int, Int.natCast_zero, List.length_append, List.length_map, List.length_take, Nat.zero_add, Int.natCast_one, cnt_pi, cnt_pb, cnt_pl, cnt_i, cnt_b, cnt_int]) <;> (first | done | (repeat' apply And.intro) <;> first | trivial | rfl | omega | (simp; omega)))
    | ((with_reducible refine EndsAt_id ?_); (try subst_vars); refine EndsAt.int (by first | exact .inr rfl | exact .inl rfl) rfl ?_; first | rfl | omega)
    | (with_reducible refine AWp.seq ?_)⟩
noncomputable def c_t_Cipher : Con0 := conF [(.pair .int .int)] fun (⟨⟨c1, c2⟩, _⟩ : (Int × Int) × Unit) => (True, .agg [.lit (.int .i64 c1), .lit (.int .i64 c2)], [])
noncomputable def G_t_Cipher : List (FuncId × Con) := []
theorem G_t_Cipher_ok : ∀ f C, (f, C) ∈ G_t_Cipher → C.ok Tryz.prog f := by
  intro f C h
  simp only [G_t_Cipher, List.mem_cons, Prod.mk.injEq, List.not_mem_nil, or_false] at h
set_option maxRecDepth 100000 in
set_option maxHeartbeats 4000000 in
theorem ok_t_Cipher : (mk c_t_Cipher).ok Tryz.prog 10 := okF (Θ := Th) (N := 11) (rs := [.cell 2 34]) Th_ok Tryz.func10 (by kernel_rfl) rfl Tryz.results10 (by decide) (by kernel_rfl) fun (⟨⟨c1, c2⟩, _⟩ : (Int × Int) × Unit) => ⟨rfl, rfl, Nat.le_of_ble_eq_true rfl, fun hc w0 => by
  have hL := dmy_eq
  try dsimp only at hc
  try dsimp only
  refine AWp.body rfl ?_
  repeat' first
    | ((with_reducible refine hK _ _ ?_); clear hK K)
    | ((with_reducible refine hK _ _ (by kernel_rfl) ?_); clear hK K)
    | ((with_reducible refine AWp.pS Th_ok G_t_Cipher_ok [0, 1, 2, 3] (by decide) ?_); intro K hK)
    | ((with_reducible refine AWp.dS (by kernel_rfl) Th_ok G_t_Cipher_ok [0, 1, 2, 3] ?_); intro K hK)
    | ((with_reducible refine AWp.pE Th_ok G_t_Cipher_ok [0, 1, 2, 3] (by decide) ?_); intro K hK)
    | ((with_reducible refine AWp.dE (by kernel_rfl) Th_ok G_t_Cipher_ok [0, 1, 2, 3] ?_); intro K hK)
    | ((first | with_reducible refine runF_id ?_ | with_reducible refine stepF_id ?_); simp (maxSteps := 2000000) only [runF, stepF, forkOf, gdOf, List.toList_toArray, stepOp, look, opAV, pureOp, callOp, memOp, AS.ev, AS.get, AS.obj, initS, initFrom, AV.cells, AS.upd, Option.bind_some, Option.bind_none, Option.map_some, Option.map_none, Option.getD_none, Option.getD_some, ↓reduceIte, Nat.reduceEqDiff, Nat.reduceAdd, Nat.reduceMul, Nat.reduceSub, List.nil_append, List.append_nil, List.cons_append, List.map_cons, List.map_nil, true_and, and_true, AS.fin, pick, dedup, List.mem_cons, List.not_mem_nil, or_false, false_or, List.size_toArray, List.length_cons, List.length_nil, loadAV, List.drop_zero, List.drop_succ_cons, List.take_zero, List.take_succ_cons, List.getElem?_cons_zero, List.getElem?_cons_succ, List.head?_cons, List.mapM_cons, List.mapM_nil, Option.bind_eq_bind, Option.pure_def, deeps3, deep3, deep2, deep1, deeps, deeps2, mixInts, AV.plain, mk, mkD, DCon.lift, DCon.runC, ren3, ren2, ren1, numb, List.zipIdx_nil, List.zipIdx_cons, List.all_nil, List.all_cons, Nat.reduceLeDiff, List.range, List.range.loop, Ty.sz, beq_self_eq_true, Bool.and_self, and_self, Ty.ofC, AO.isDead, Nat.reduceLT, if_true, Nat.zero_add, Nat.add_zero, ite_true, Nat.le_refl, Bool.false_eq_true, reduceCtorEq, if_false, ite_false, binAV, AO.ren, AV.isCell, fillAV, List.set_cons_zero, List.set_cons_succ, Ty.cells, Ty.flat, Ty.dflt, List.getD_cons_zero, List.getD_cons_succ, Int.reduceToNat, Int.reduceSub, Int.reduceAdd, Int.reduceMul, Int.reduceNeg, forall_eq_or_imp, forall_eq, gdL, id_eq, Nat.lt_irrefl, srcOf, List.replicate_succ, List.replicate_zero, dite_true, List.isEmpty_cons, Option.isSome_some, List.length_append, List.length_singleton, bne_self_eq_false, Bool.not_true, Bool.not_false, conF, asArgs, asArg, asTy, asI1, asB1, asS1, asL1, canons, canon, Fork.true_, Fork.false_, bne, Bool.not_not, List.length_map, pickO, AS.over, TI.bl, bne_iff_ne, AS.over2, without, keys, List.mem_singleton, memOp2, memOp3, absorb, abInt, abBool, abStr, abList, gones, Int.toNat_natCast, List.take_length, subE, List.nodup_cons, List.nodup_nil, not_false_eq_true, Nat.sub_self, conR, asG, asI, asBo, asStr, asIs, asBs, asE4, asI2, asI3, asLL, asLLL, Th_int, Th_bool, Th_implCipher, Th_lawsCipher, Th_string, G_t_Cipher, hL])
    | ((with_reducible refine ens_step ?_ (fun hE => ?_)); · ((repeat' with_reducible apply And.intro) <;> first | with_reducible assumption | omega | exact True.intro | with_reducible rfl | (show ByteArray.size _ ≤ _; decide) | (simp; done) | (simp; omega) | rfl))
    | ((with_reducible refine And.intro ?_ ?_); · ((repeat' with_reducible apply And.intro) <;> first | with_reducible assumption | omega | exact True.intro | with_reducible rfl | (show ByteArray.size _ ≤ _; decide) | (simp; done) | (simp; omega) | rfl))
    | ((with_reducible refine Fork.intro (fun h' => ?_) (fun h' => ?_)) <;> (try simp only [Bool.not_eq_true', Bool.not_eq_false', bne] at h') <;> (replace hL := And.intro h' hL) <;> (try simp only [decide_eq_true_eq, decide_eq_false_iff_not, beq_iff_eq, beq_eq_false_iff_ne, ne_eq] at h'))
    | (with_reducible refine AWp.skipS ?_)
    | ((with_reducible refine AWp.condT rfl ?_))
    | ((with_reducible refine AWp.condF rfl ?_))
    | (with_reducible refine AWp.condB rfl ?_)
    | (with_reducible refine AWp.ret ?_)
    | (with_reducible refine seqQ_n ?_)
    | (with_reducible refine seqQ_ret ?_)
    | (with_reducible refine blkQ_ret ?_)
    | (with_reducible refine blkQ_n ?_)
    | (with_reducible refine seqQ_exit ?_)
    | (with_reducible refine blkQ_exit ?_)
    | (with_reducible refine blkQ_other (by decide) ?_)
    | (with_reducible refine AWp.block ?_)
    | (with_reducible refine AWp.exit ?_)
    | (with_reducible refine AWp.skip ?_)
    | ((with_reducible refine EndsAt_id ?_); (try subst_vars); refine EndsAt.done [] (by first | exact .inr rfl | exact .inl rfl) rfl rfl ?_ ?_ <;> first | decide | (repeat' (first | rfl | apply And.intro | trivial)))
    | (with_reducible refine AWp.seq ?_)⟩
noncomputable def c_t_Proof : Con0 := conF [(.pair (.list .int) (.pair (.list .int) (.list .int)))] fun (⟨⟨c1, c2, c3⟩, _⟩ : ((List Int) × (List Int) × (List Int)) × Unit) => (c1.length + c2.length + c3.length ≤ 1048577, .agg [.own 0 c1.length, .own 1 c2.length, .own 2 c3.length], [.row 3 .int c1, .row 3 .int c2, .row 3 .int c3])
noncomputable def G_t_Proof : List (FuncId × Con) := [(9, mk c_t_IntS)]
theorem G_t_Proof_ok : ∀ f C, (f, C) ∈ G_t_Proof → C.ok Tryz.prog f := by
  intro f C h
  simp only [G_t_Proof, List.mem_cons, Prod.mk.injEq, List.not_mem_nil, or_false] at h
  obtain ⟨rfl, rfl⟩ := h
  exact ok_t_IntS
set_option maxRecDepth 100000 in
set_option maxHeartbeats 4000000 in
theorem ok_t_Proof : (mk c_t_Proof).ok Tryz.prog 57 := okF (Θ := Th) (N := 17) (rs := [.cell 2 66]) Th_ok Tryz.func57 (by kernel_rfl) rfl Tryz.results57 (by decide) (by kernel_rfl) fun (⟨⟨c1, c2, c3⟩, _⟩ : ((List Int) × (List Int) × (List Int)) × Unit) => ⟨rfl, rfl, Nat.le_of_ble_eq_true rfl, fun hc w0 => by
  have hL := dmy_eq
  try dsimp only at hc
  try dsimp only
  refine AWp.body rfl ?_
  repeat' first
    | ((with_reducible refine hK _ _ ?_); clear hK K)
    | ((with_reducible refine hK _ _ (by kernel_rfl) ?_); clear hK K)
    | ((with_reducible refine AWp.pS Th_ok G_t_Proof_ok [0, 1, 2, 3] (by decide) ?_); intro K hK)
    | ((with_reducible refine AWp.dS (by kernel_rfl) Th_ok G_t_Proof_ok [0, 1, 2, 3] ?_); intro K hK)
    | ((with_reducible refine AWp.pE Th_ok G_t_Proof_ok [0, 1, 2, 3] (by decide) ?_); intro K hK)
    | ((with_reducible refine AWp.dE (by kernel_rfl) Th_ok G_t_Proof_ok [0, 1, 2, 3] ?_); intro K hK)
    | ((first | with_reducible refine runF_id ?_ | with_reducible refine stepF_id ?_); simp (maxSteps := 2000000) only [runF, stepF, forkOf, gdOf, List.toList_toArray, stepOp, look, opAV, pureOp, callOp, memOp, AS.ev, AS.get, AS.obj, initS, initFrom, AV.cells, AS.upd, Option.bind_some, Option.bind_none, Option.map_some, Option.map_none, Option.getD_none, Option.getD_some, ↓reduceIte, Nat.reduceEqDiff, Nat.reduceAdd, Nat.reduceMul, Nat.reduceSub, List.nil_append, List.append_nil, List.cons_append, List.map_cons, List.map_nil, true_and, and_true, AS.fin, pick, dedup, List.mem_cons, List.not_mem_nil, or_false, false_or, List.size_toArray, List.length_cons, List.length_nil, loadAV, List.drop_zero, List.drop_succ_cons, List.take_zero, List.take_succ_cons, List.getElem?_cons_zero, List.getElem?_cons_succ, List.head?_cons, List.mapM_cons, List.mapM_nil, Option.bind_eq_bind, Option.pure_def, deeps3, deep3, deep2, deep1, deeps, deeps2, mixInts, AV.plain, mk, mkD, DCon.lift, DCon.runC, ren3, ren2, ren1, numb, List.zipIdx_nil, List.zipIdx_cons, List.all_nil, List.all_cons, Nat.reduceLeDiff, List.range, List.range.loop, Ty.sz, beq_self_eq_true, Bool.and_self, and_self, Ty.ofC, AO.isDead, Nat.reduceLT, if_true, Nat.zero_add, Nat.add_zero, ite_true, Nat.le_refl, Bool.false_eq_true, reduceCtorEq, if_false, ite_false, binAV, AO.ren, AV.isCell, fillAV, List.set_cons_zero, List.set_cons_succ, Ty.cells, Ty.flat, Ty.dflt, List.getD_cons_zero, List.getD_cons_succ, Int.reduceToNat, Int.reduceSub, Int.reduceAdd, Int.reduceMul, Int.reduceNeg, forall_eq_or_imp, forall_eq, gdL, id_eq, Nat.lt_irrefl, srcOf, List.replicate_succ, List.replicate_zero, dite_true, List.isEmpty_cons, Option.isSome_some, List.length_append, List.length_singleton, bne_self_eq_false, Bool.not_true, Bool.not_false, conF, asArgs, asArg, asTy, asI1, asB1, asS1, asL1, canons, canon, Fork.true_, Fork.false_, bne, Bool.not_not, List.length_map, pickO, AS.over, TI.bl, bne_iff_ne, AS.over2, without, keys, List.mem_singleton, memOp2, memOp3, absorb, abInt, abBool, abStr, abList, gones, Int.toNat_natCast, List.take_length, subE, List.nodup_cons, List.nodup_nil, not_false_eq_true, Nat.sub_self, conR, asG, asI, asBo, asStr, asIs, asBs, asE4, asI2, asI3, asLL, asLLL, Th_int, Th_Sint, Th_bool, Th_implProof, Th_lawsProof, Th_string, G_t_Proof, c_t_IntS, hL])
    | ((with_reducible refine ens_step ?_ (fun hE => ?_)); · ((repeat' with_reducible apply And.intro) <;> first | with_reducible assumption | omega | exact True.intro | with_reducible rfl | (show ByteArray.size _ ≤ _; decide) | (simp; done) | (simp; omega) | rfl))
    | ((with_reducible refine And.intro ?_ ?_); · ((repeat' with_reducible apply And.intro) <;> first | with_reducible assumption | omega | exact True.intro | with_reducible rfl | (show ByteArray.size _ ≤ _; decide) | (simp; done) | (simp; omega) | rfl))
    | ((with_reducible refine Fork.intro (fun h' => ?_) (fun h' => ?_)) <;> (try simp only [Bool.not_eq_true', Bool.not_eq_false', bne] at h') <;> (replace hL := And.intro h' hL) <;> (try simp only [decide_eq_true_eq, decide_eq_false_iff_not, beq_iff_eq, beq_eq_false_iff_ne, ne_eq] at h'))
    | (with_reducible refine AWp.skipS ?_)
    | ((with_reducible refine AWp.condT rfl ?_))
    | ((with_reducible refine AWp.condF rfl ?_))
    | (with_reducible refine AWp.condB rfl ?_)
    | (with_reducible refine AWp.ret ?_)
    | (with_reducible refine seqQ_n ?_)
    | (with_reducible refine seqQ_ret ?_)
    | (with_reducible refine blkQ_ret ?_)
    | (with_reducible refine blkQ_n ?_)
    | (with_reducible refine seqQ_exit ?_)
    | (with_reducible refine blkQ_exit ?_)
    | (with_reducible refine blkQ_other (by decide) ?_)
    | (with_reducible refine AWp.block ?_)
    | (with_reducible refine AWp.exit ?_)
    | (with_reducible refine AWp.skip ?_)
    | ((with_reducible refine EndsAt_id ?_); (try subst_vars); refine EndsAt.done [_, _, _] (by first | exact .inr rfl | exact .inl rfl) rfl rfl ?_ ?_ <;> first | decide | (repeat' (first | rfl | apply And.intro | trivial)))
    | (with_reducible refine AWp.seq ?_)⟩
noncomputable def c_e_Proof : Con0 := conF [(.pair (.list .int) (.pair (.list .int) (.list .int))), (.pair (.list .int) (.pair (.list .int) (.list .int)))] fun (⟨⟨c1, c2, c3⟩, ⟨d1, d2, d3⟩, _⟩ : ((List Int) × (List Int) × (List Int)) × ((List Int) × (List Int) × (List Int)) × Unit) => ((d1 = c1 ∧ d2 = c2 ∧ d3 = c3) ∧ d1.length + d2.length + d3.length ≤ 4000000000, .lit (.bool true), [])
noncomputable def G_e_Proof : List (FuncId × Con) := [(13, mk c_e_IntS)]
theorem G_e_Proof_ok : ∀ f C, (f, C) ∈ G_e_Proof → C.ok Tryz.prog f := by
  intro f C h
  simp only [G_e_Proof, List.mem_cons, Prod.mk.injEq, List.not_mem_nil, or_false] at h
  obtain ⟨rfl, rfl⟩ := h
  exact ok_e_IntS
set_option maxRecDepth 100000 in
set_option maxHeartbeats 4000000 in
theorem ok_e_Proof : (mk c_e_Proof).ok Tryz.prog 65 := okF (Θ := Th) (N := 23) (rs := [.tmp 4]) Th_ok Tryz.func65 (by kernel_rfl) rfl Tryz.results65 (by decide) (by kernel_rfl) fun (⟨⟨c1, c2, c3⟩, ⟨d1, d2, d3⟩, _⟩ : ((List Int) × (List Int) × (List Int)) × ((List Int) × (List Int) × (List Int)) × Unit) => ⟨rfl, rfl, Nat.le_of_ble_eq_true rfl, fun hc w0 => by
  have hL := dmy_eq
  try dsimp only at hc
  try dsimp only
  obtain ⟨⟨rfl, rfl, rfl⟩, hsz⟩ := hc
  refine AWp.body rfl ?_
  repeat' first
    | ((with_reducible refine hK _ _ ?_); clear hK K)
    | ((with_reducible refine hK _ _ (by kernel_rfl) ?_); clear hK K)
    | ((with_reducible refine AWp.pS Th_ok G_e_Proof_ok [0, 1, 2, 3, 4, 10, 16, 22] (by decide) ?_); intro K hK)
    | ((with_reducible refine AWp.dS (by kernel_rfl) Th_ok G_e_Proof_ok [0, 1, 2, 3, 4, 10, 16, 22] ?_); intro K hK)
    | ((with_reducible refine AWp.pE Th_ok G_e_Proof_ok [0, 1, 2, 3, 4, 10, 16, 22] (by decide) ?_); intro K hK)
    | ((with_reducible refine AWp.dE (by kernel_rfl) Th_ok G_e_Proof_ok [0, 1, 2, 3, 4, 10, 16, 22] ?_); intro K hK)
    | ((first | with_reducible refine runF_id ?_ | with_reducible refine stepF_id ?_); simp (maxSteps := 2000000) only [runF, stepF, forkOf, gdOf, List.toList_toArray, stepOp, look, opAV, pureOp, callOp, memOp, AS.ev, AS.get, AS.obj, initS, initFrom, AV.cells, AS.upd, Option.bind_some, Option.bind_none, Option.map_some, Option.map_none, Option.getD_none, Option.getD_some, ↓reduceIte, Nat.reduceEqDiff, Nat.reduceAdd, Nat.reduceMul, Nat.reduceSub, List.nil_append, List.append_nil, List.cons_append, List.map_cons, List.map_nil, true_and, and_true, AS.fin, pick, dedup, List.mem_cons, List.not_mem_nil, or_false, false_or, List.size_toArray, List.length_cons, List.length_nil, loadAV, List.drop_zero, List.drop_succ_cons, List.take_zero, List.take_succ_cons, List.getElem?_cons_zero, List.getElem?_cons_succ, List.head?_cons, List.mapM_cons, List.mapM_nil, Option.bind_eq_bind, Option.pure_def, deeps3, deep3, deep2, deep1, deeps, deeps2, mixInts, AV.plain, mk, mkD, DCon.lift, DCon.runC, ren3, ren2, ren1, numb, List.zipIdx_nil, List.zipIdx_cons, List.all_nil, List.all_cons, Nat.reduceLeDiff, List.range, List.range.loop, Ty.sz, beq_self_eq_true, Bool.and_self, and_self, Ty.ofC, AO.isDead, Nat.reduceLT, if_true, Nat.zero_add, Nat.add_zero, ite_true, Nat.le_refl, Bool.false_eq_true, reduceCtorEq, if_false, ite_false, binAV, AO.ren, AV.isCell, fillAV, List.set_cons_zero, List.set_cons_succ, Ty.cells, Ty.flat, Ty.dflt, List.getD_cons_zero, List.getD_cons_succ, Int.reduceToNat, Int.reduceSub, Int.reduceAdd, Int.reduceMul, Int.reduceNeg, forall_eq_or_imp, forall_eq, gdL, id_eq, Nat.lt_irrefl, srcOf, List.replicate_succ, List.replicate_zero, dite_true, List.isEmpty_cons, Option.isSome_some, List.length_append, List.length_singleton, bne_self_eq_false, Bool.not_true, Bool.not_false, conF, asArgs, asArg, asTy, asI1, asB1, asS1, asL1, canons, canon, Fork.true_, Fork.false_, bne, Bool.not_not, List.length_map, pickO, AS.over, TI.bl, bne_iff_ne, AS.over2, without, keys, List.mem_singleton, memOp2, memOp3, absorb, abInt, abBool, abStr, abList, gones, Int.toNat_natCast, List.take_length, subE, List.nodup_cons, List.nodup_nil, not_false_eq_true, Nat.sub_self, conR, asG, asI, asBo, asStr, asIs, asBs, asE4, asI2, asI3, asLL, asLLL, Th_int, Th_Sint, Th_bool, Th_implProof, Th_string, G_e_Proof, c_e_IntS, hL])
    | ((with_reducible refine ens_step ?_ (fun hE => ?_)); · ((repeat' with_reducible apply And.intro) <;> first | with_reducible assumption | omega | exact True.intro | with_reducible rfl | (show ByteArray.size _ ≤ _; decide) | (simp; done) | (simp; omega) | rfl))
    | ((with_reducible refine And.intro ?_ ?_); · ((repeat' with_reducible apply And.intro) <;> first | with_reducible assumption | omega | exact True.intro | with_reducible rfl | (show ByteArray.size _ ≤ _; decide) | (simp; done) | (simp; omega) | rfl))
    | ((with_reducible refine Fork.intro (fun h' => ?_) (fun h' => ?_)) <;> (try simp only [Bool.not_eq_true', Bool.not_eq_false', bne] at h') <;> (replace hL := And.intro h' hL) <;> (try simp only [decide_eq_true_eq, decide_eq_false_iff_not, beq_iff_eq, beq_eq_false_iff_ne, ne_eq] at h') <;> (try (exfalso; omega)))
    | (with_reducible refine AWp.skipS ?_)
    | ((with_reducible refine AWp.condT rfl ?_))
    | ((with_reducible refine AWp.condF rfl ?_))
    | (with_reducible refine AWp.condB rfl ?_)
    | (with_reducible refine AWp.ret ?_)
    | (with_reducible refine seqQ_n ?_)
    | (with_reducible refine seqQ_ret ?_)
    | (with_reducible refine blkQ_ret ?_)
    | (with_reducible refine blkQ_n ?_)
    | (with_reducible refine seqQ_exit ?_)
    | (with_reducible refine blkQ_exit ?_)
    | (with_reducible refine blkQ_other (by decide) ?_)
    | (with_reducible refine AWp.block ?_)
    | (with_reducible refine AWp.exit ?_)
    | (with_reducible refine AWp.skip ?_)
    | ((with_reducible refine EndsAt_id ?_); (try subst_vars); refine EndsAt.done [] (by first | exact .inr rfl | exact .inl rfl) rfl rfl ?_ ?_ <;> first | decide | (repeat' (first | rfl | apply And.intro | trivial)))
    | (with_reducible refine AWp.seq ?_)⟩
noncomputable def c_z_Proof : Con0 := conF [(.pair (.list .int) (.pair (.list .int) (.list .int))), .int] fun (⟨⟨c1, c2, c3⟩, l, _⟩ : ((List Int) × (List Int) × (List Int)) × Int × Unit) => ((l ≤ 1048576 ∧ -1 ≤ l) ∧ c1.length ≤ 9223372036854775807 ∧ c2.length ≤ 9223372036854775807 ∧ c3.length ≤ 9223372036854775807, .lit (.int .i64 (if l - (c1.length + c2.length + c3.length : Nat) < 0 then (-1 : Int) else l - (c1.length + c2.length + c3.length : Nat))), [])
noncomputable def G_z_Proof : List (FuncId × Con) := [(78, mk c_z_IntS)]
theorem G_z_Proof_ok : ∀ f C, (f, C) ∈ G_z_Proof → C.ok Tryz.prog f := by
  intro f C h
  simp only [G_z_Proof, List.mem_cons, Prod.mk.injEq, List.not_mem_nil, or_false] at h
  obtain ⟨rfl, rfl⟩ := h
  exact ok_z_IntS
set_option maxRecDepth 100000 in
set_option maxHeartbeats 4000000 in
theorem ok_z_Proof : (mk c_z_Proof).ok Tryz.prog 53 := okF (Θ := Th) (N := 24) (rs := [.tmp 4]) Th_ok Tryz.func53 (by kernel_rfl) rfl Tryz.results53 (by decide) (by kernel_rfl) fun (⟨⟨c1, c2, c3⟩, l, _⟩ : ((List Int) × (List Int) × (List Int)) × Int × Unit) => ⟨rfl, rfl, Nat.le_of_ble_eq_true rfl, fun hc w0 => by
  have hL := dmy_eq
  try dsimp only at hc
  try dsimp only
  obtain ⟨hb, hbl⟩ := hc
  refine AWp.body rfl ?_
  repeat' first
    | ((with_reducible refine hK _ _ ?_); clear hK K)
    | ((with_reducible refine hK _ _ (by kernel_rfl) ?_); clear hK K)
    | ((with_reducible refine AWp.pS Th_ok G_z_Proof_ok [0, 1, 2, 4, 10, 16, 22] (by decide) ?_); intro K hK)
    | ((with_reducible refine AWp.dS (by kernel_rfl) Th_ok G_z_Proof_ok [0, 1, 2, 4, 10, 16, 22] ?_); intro K hK)
    | ((with_reducible refine AWp.pE Th_ok G_z_Proof_ok [0, 1, 2, 4, 10, 16, 22] (by decide) ?_); intro K hK)
    | ((with_reducible refine AWp.dE (by kernel_rfl) Th_ok G_z_Proof_ok [0, 1, 2, 4, 10, 16, 22] ?_); intro K hK)
    | ((first | with_reducible refine runF_id ?_ | with_reducible refine stepF_id ?_); simp (maxSteps := 2000000) only [runF, stepF, forkOf, gdOf, List.toList_toArray, stepOp, look, opAV, pureOp, callOp, memOp, AS.ev, AS.get, AS.obj, initS, initFrom, AV.cells, AS.upd, Option.bind_some, Option.bind_none, Option.map_some, Option.map_none, Option.getD_none, Option.getD_some, ↓reduceIte, Nat.reduceEqDiff, Nat.reduceAdd, Nat.reduceMul, Nat.reduceSub, List.nil_append, List.append_nil, List.cons_append, List.map_cons, List.map_nil, true_and, and_true, AS.fin, pick, dedup, List.mem_cons, List.not_mem_nil, or_false, false_or, List.size_toArray, List.length_cons, List.length_nil, loadAV, List.drop_zero, List.drop_succ_cons, List.take_zero, List.take_succ_cons, List.getElem?_cons_zero, List.getElem?_cons_succ, List.head?_cons, List.mapM_cons, List.mapM_nil, Option.bind_eq_bind, Option.pure_def, deeps3, deep3, deep2, deep1, deeps, deeps2, mixInts, AV.plain, mk, mkD, DCon.lift, DCon.runC, ren3, ren2, ren1, numb, List.zipIdx_nil, List.zipIdx_cons, List.all_nil, List.all_cons, Nat.reduceLeDiff, List.range, List.range.loop, Ty.sz, beq_self_eq_true, Bool.and_self, and_self, Ty.ofC, AO.isDead, Nat.reduceLT, if_true, Nat.zero_add, Nat.add_zero, ite_true, Nat.le_refl, Bool.false_eq_true, reduceCtorEq, if_false, ite_false, binAV, AO.ren, AV.isCell, fillAV, List.set_cons_zero, List.set_cons_succ, Ty.cells, Ty.flat, Ty.dflt, List.getD_cons_zero, List.getD_cons_succ, Int.reduceToNat, Int.reduceSub, Int.reduceAdd, Int.reduceMul, Int.reduceNeg, forall_eq_or_imp, forall_eq, gdL, id_eq, Nat.lt_irrefl, srcOf, List.replicate_succ, List.replicate_zero, dite_true, List.isEmpty_cons, Option.isSome_some, List.length_append, List.length_singleton, bne_self_eq_false, Bool.not_true, Bool.not_false, conF, asArgs, asArg, asTy, asI1, asB1, asS1, asL1, canons, canon, Fork.true_, Fork.false_, bne, Bool.not_not, List.length_map, pickO, AS.over, TI.bl, bne_iff_ne, AS.over2, without, keys, List.mem_singleton, memOp2, memOp3, absorb, abInt, abBool, abStr, abList, gones, Int.toNat_natCast, List.take_length, subE, List.nodup_cons, List.nodup_nil, not_false_eq_true, Nat.sub_self, conR, asG, asI, asBo, asStr, asIs, asBs, asE4, asI2, asI3, asLL, asLLL, Th_int, Th_Sint, Th_lawsGroup, Th_lawsProof, Th_string, G_z_Proof, c_z_IntS, hL])
    | ((with_reducible refine ens_step ?_ (fun hE => ?_)); · ((repeat' with_reducible apply And.intro) <;> first | with_reducible assumption | omega | exact True.intro | with_reducible rfl | (show ByteArray.size _ ≤ _; decide) | (simp; done) | (simp; omega) | rfl))
    | ((with_reducible refine And.intro ?_ ?_); · ((repeat' with_reducible apply And.intro) <;> first | with_reducible assumption | omega | exact True.intro | with_reducible rfl | (show ByteArray.size _ ≤ _; decide) | (simp; done) | (simp; omega) | rfl))
    | ((with_reducible refine Fork.intro (fun h' => ?_) (fun h' => ?_)) <;> (try simp only [Bool.not_eq_true', Bool.not_eq_false', bne] at h') <;> (replace hL := And.intro h' hL) <;> (try simp only [decide_eq_true_eq, decide_eq_false_iff_not, beq_iff_eq, beq_eq_false_iff_ne, ne_eq] at h') <;> (try (split at h' <;> first | (exfalso; omega) | skip)))
    | (with_reducible refine AWp.skipS ?_)
    | ((with_reducible refine AWp.condT rfl ?_))
    | ((with_reducible refine AWp.condF rfl ?_))
    | (with_reducible refine AWp.condB rfl ?_)
    | (with_reducible refine AWp.ret ?_)
    | (with_reducible refine seqQ_n ?_)
    | (with_reducible refine seqQ_ret ?_)
    | (with_reducible refine blkQ_ret ?_)
    | (with_reducible refine blkQ_n ?_)
    | (with_reducible refine seqQ_exit ?_)
    | (with_reducible refine blkQ_exit ?_)
    | (with_reducible refine blkQ_other (by decide) ?_)
    | (with_reducible refine AWp.block ?_)
    | (with_reducible refine AWp.exit ?_)
    | (with_reducible refine AWp.skip ?_)
    | ((with_reducible refine EndsAt_id ?_); (try subst_vars); refine EndsAt.int (by first | exact .inr rfl | exact .inl rfl) rfl ?_; first | rfl | omega)
    | (with_reducible refine AWp.seq ?_)⟩
noncomputable def c_t_Partial : Con0 := conF [(.pair .int (.pair .int (.pair (.list .int) (.pair (.list .int) (.list .int)))))] fun (⟨⟨c1, c2, c3, c4, c5⟩, _⟩ : (Int × Int × (List Int) × (List Int) × (List Int)) × Unit) => (c3.length + c4.length + c5.length ≤ 1048577, .agg [.lit (.int .i64 c1), .lit (.int .i64 c2), .own 0 c3.length, .own 1 c4.length, .own 2 c5.length], [.row 3 .int c3, .row 3 .int c4, .row 3 .int c5])
noncomputable def G_t_Partial : List (FuncId × Con) := [(57, mk c_t_Proof)]
theorem G_t_Partial_ok : ∀ f C, (f, C) ∈ G_t_Partial → C.ok Tryz.prog f := by
  intro f C h
  simp only [G_t_Partial, List.mem_cons, Prod.mk.injEq, List.not_mem_nil, or_false] at h
  obtain ⟨rfl, rfl⟩ := h
  exact ok_t_Proof
set_option maxRecDepth 100000 in
set_option maxHeartbeats 4000000 in
theorem ok_t_Partial : (mk c_t_Partial).ok Tryz.prog 35 := okF (Θ := Th) (N := 15) (rs := [.cell 2 68]) Th_ok Tryz.func35 (by kernel_rfl) rfl Tryz.results35 (by decide) (by kernel_rfl) fun (⟨⟨c1, c2, c3, c4, c5⟩, _⟩ : (Int × Int × (List Int) × (List Int) × (List Int)) × Unit) => ⟨rfl, rfl, Nat.le_of_ble_eq_true rfl, fun hc w0 => by
  have hL := dmy_eq
  try dsimp only at hc
  try dsimp only
  refine AWp.body rfl ?_
  repeat' first
    | ((with_reducible refine hK _ _ ?_); clear hK K)
    | ((with_reducible refine hK _ _ (by kernel_rfl) ?_); clear hK K)
    | ((with_reducible refine AWp.pS Th_ok G_t_Partial_ok [0, 1, 2, 3] (by decide) ?_); intro K hK)
    | ((with_reducible refine AWp.dS (by kernel_rfl) Th_ok G_t_Partial_ok [0, 1, 2, 3] ?_); intro K hK)
    | ((with_reducible refine AWp.pE Th_ok G_t_Partial_ok [0, 1, 2, 3] (by decide) ?_); intro K hK)
    | ((with_reducible refine AWp.dE (by kernel_rfl) Th_ok G_t_Partial_ok [0, 1, 2, 3] ?_); intro K hK)
    | ((first | with_reducible refine runF_id ?_ | with_reducible refine stepF_id ?_); simp (maxSteps := 2000000) only [runF, stepF, forkOf, gdOf, List.toList_toArray, stepOp, look, opAV, pureOp, callOp, memOp, AS.ev, AS.get, AS.obj, initS, initFrom, AV.cells, AS.upd, Option.bind_some, Option.bind_none, Option.map_some, Option.map_none, Option.getD_none, Option.getD_some, ↓reduceIte, Nat.reduceEqDiff, Nat.reduceAdd, Nat.reduceMul, Nat.reduceSub, List.nil_append, List.append_nil, List.cons_append, List.map_cons, List.map_nil, true_and, and_true, AS.fin, pick, dedup, List.mem_cons, List.not_mem_nil, or_false, false_or, List.size_toArray, List.length_cons, List.length_nil, loadAV, List.drop_zero, List.drop_succ_cons, List.take_zero, List.take_succ_cons, List.getElem?_cons_zero, List.getElem?_cons_succ, List.head?_cons, List.mapM_cons, List.mapM_nil, Option.bind_eq_bind, Option.pure_def, deeps3, deep3, deep2, deep1, deeps, deeps2, mixInts, AV.plain, mk, mkD, DCon.lift, DCon.runC, ren3, ren2, ren1, numb, List.zipIdx_nil, List.zipIdx_cons, List.all_nil, List.all_cons, Nat.reduceLeDiff, List.range, List.range.loop, Ty.sz, beq_self_eq_true, Bool.and_self, and_self, Ty.ofC, AO.isDead, Nat.reduceLT, if_true, Nat.zero_add, Nat.add_zero, ite_true, Nat.le_refl, Bool.false_eq_true, reduceCtorEq, if_false, ite_false, binAV, AO.ren, AV.isCell, fillAV, List.set_cons_zero, List.set_cons_succ, Ty.cells, Ty.flat, Ty.dflt, List.getD_cons_zero, List.getD_cons_succ, Int.reduceToNat, Int.reduceSub, Int.reduceAdd, Int.reduceMul, Int.reduceNeg, forall_eq_or_imp, forall_eq, gdL, id_eq, Nat.lt_irrefl, srcOf, List.replicate_succ, List.replicate_zero, dite_true, List.isEmpty_cons, Option.isSome_some, List.length_append, List.length_singleton, bne_self_eq_false, Bool.not_true, Bool.not_false, conF, asArgs, asArg, asTy, asI1, asB1, asS1, asL1, canons, canon, Fork.true_, Fork.false_, bne, Bool.not_not, List.length_map, pickO, AS.over, TI.bl, bne_iff_ne, AS.over2, without, keys, List.mem_singleton, memOp2, memOp3, absorb, abInt, abBool, abStr, abList, gones, Int.toNat_natCast, List.take_length, subE, List.nodup_cons, List.nodup_nil, not_false_eq_true, Nat.sub_self, conR, asG, asI, asBo, asStr, asIs, asBs, asE4, asI2, asI3, asLL, asLLL, Th_int, Th_bool, Th_implPartial, Th_implProof, Th_lawsPartial, Th_lawsProof, Th_string, G_t_Partial, c_t_Proof, hL])
    | ((with_reducible refine ens_step ?_ (fun hE => ?_)); · ((repeat' with_reducible apply And.intro) <;> first | with_reducible assumption | omega | exact True.intro | with_reducible rfl | (show ByteArray.size _ ≤ _; decide) | (simp; done) | (simp; omega) | rfl))
    | ((with_reducible refine And.intro ?_ ?_); · ((repeat' with_reducible apply And.intro) <;> first | with_reducible assumption | omega | exact True.intro | with_reducible rfl | (show ByteArray.size _ ≤ _; decide) | (simp; done) | (simp; omega) | rfl))
    | ((with_reducible refine Fork.intro (fun h' => ?_) (fun h' => ?_)) <;> (try simp only [Bool.not_eq_true', Bool.not_eq_false', bne] at h') <;> (replace hL := And.intro h' hL) <;> (try simp only [decide_eq_true_eq, decide_eq_false_iff_not, beq_iff_eq, beq_eq_false_iff_ne, ne_eq] at h'))
    | (with_reducible refine AWp.skipS ?_)
    | ((with_reducible refine AWp.condT rfl ?_))
    | ((with_reducible refine AWp.condF rfl ?_))
    | (with_reducible refine AWp.condB rfl ?_)
    | (with_reducible refine AWp.ret ?_)
    | (with_reducible refine seqQ_n ?_)
    | (with_reducible refine seqQ_ret ?_)
    | (with_reducible refine blkQ_ret ?_)
    | (with_reducible refine blkQ_n ?_)
    | (with_reducible refine seqQ_exit ?_)
    | (with_reducible refine blkQ_exit ?_)
    | (with_reducible refine blkQ_other (by decide) ?_)
    | (with_reducible refine AWp.block ?_)
    | (with_reducible refine AWp.exit ?_)
    | (with_reducible refine AWp.skip ?_)
    | ((with_reducible refine EndsAt_id ?_); (try subst_vars); refine EndsAt.done [_, _, _] (by first | exact .inr rfl | exact .inl rfl) rfl rfl ?_ ?_ <;> first | decide | (repeat' (first | rfl | apply And.intro | trivial)))
    | (with_reducible refine AWp.seq ?_)⟩
noncomputable def c_e_Partial : Con0 := conF [(.pair .int (.pair .int (.pair (.list .int) (.pair (.list .int) (.list .int))))), (.pair .int (.pair .int (.pair (.list .int) (.pair (.list .int) (.list .int)))))] fun (⟨⟨c1, c2, c3, c4, c5⟩, ⟨d1, d2, d3, d4, d5⟩, _⟩ : (Int × Int × (List Int) × (List Int) × (List Int)) × (Int × Int × (List Int) × (List Int) × (List Int)) × Unit) => ((d1 = c1 ∧ d2 = c2 ∧ d3 = c3 ∧ d4 = c4 ∧ d5 = c5) ∧ d3.length + d4.length + d5.length ≤ 4000000000, .lit (.bool true), [])
noncomputable def G_e_Partial : List (FuncId × Con) := [(65, mk c_e_Proof)]
theorem G_e_Partial_ok : ∀ f C, (f, C) ∈ G_e_Partial → C.ok Tryz.prog f := by
  intro f C h
  simp only [G_e_Partial, List.mem_cons, Prod.mk.injEq, List.not_mem_nil, or_false] at h
  obtain ⟨rfl, rfl⟩ := h
  exact ok_e_Proof
set_option maxRecDepth 100000 in
set_option maxHeartbeats 4000000 in
theorem ok_e_Partial : (mk c_e_Partial).ok Tryz.prog 41 := okF (Θ := Th) (N := 21) (rs := [.tmp 4]) Th_ok Tryz.func41 (by kernel_rfl) rfl Tryz.results41 (by decide) (by kernel_rfl) fun (⟨⟨c1, c2, c3, c4, c5⟩, ⟨d1, d2, d3, d4, d5⟩, _⟩ : (Int × Int × (List Int) × (List Int) × (List Int)) × (Int × Int × (List Int) × (List Int) × (List Int)) × Unit) => ⟨rfl, rfl, Nat.le_of_ble_eq_true rfl, fun hc w0 => by
  have hL := dmy_eq
  try dsimp only at hc
  try dsimp only
  obtain ⟨⟨rfl, rfl, rfl, rfl, rfl⟩, hsz⟩ := hc
  refine AWp.body rfl ?_
  repeat' first
    | ((with_reducible refine hK _ _ ?_); clear hK K)
    | ((with_reducible refine hK _ _ (by kernel_rfl) ?_); clear hK K)
    | ((with_reducible refine AWp.pS Th_ok G_e_Partial_ok [0, 1, 2, 3, 4, 9, 14, 20] (by decide) ?_); intro K hK)
    | ((with_reducible refine AWp.dS (by kernel_rfl) Th_ok G_e_Partial_ok [0, 1, 2, 3, 4, 9, 14, 20] ?_); intro K hK)
    | ((with_reducible refine AWp.pE Th_ok G_e_Partial_ok [0, 1, 2, 3, 4, 9, 14, 20] (by decide) ?_); intro K hK)
    | ((with_reducible refine AWp.dE (by kernel_rfl) Th_ok G_e_Partial_ok [0, 1, 2, 3, 4, 9, 14, 20] ?_); intro K hK)
    | ((first | with_reducible refine runF_id ?_ | with_reducible refine stepF_id ?_); simp (maxSteps := 2000000) only [runF, stepF, forkOf, gdOf, List.toList_toArray, stepOp, look, opAV, pureOp, callOp, memOp, AS.ev, AS.get, AS.obj, initS, initFrom, AV.cells, AS.upd, Option.bind_some, Option.bind_none, Option.map_some, Option.map_none, Option.getD_none, Option.getD_some, ↓reduceIte, Nat.reduceEqDiff, Nat.reduceAdd, Nat.reduceMul, Nat.reduceSub, List.nil_append, List.append_nil, List.cons_append, List.map_cons, List.map_nil, true_and, and_true, AS.fin, pick, dedup, List.mem_cons, List.not_mem_nil, or_false, false_or, List.size_toArray, List.length_cons, List.length_nil, loadAV, List.drop_zero, List.drop_succ_cons, List.take_zero, List.take_succ_cons, List.getElem?_cons_zero, List.getElem?_cons_succ, List.head?_cons, List.mapM_cons, List.mapM_nil, Option.bind_eq_bind, Option.pure_def, deeps3, deep3, deep2, deep1, deeps, deeps2, mixInts, AV.plain, mk, mkD, DCon.lift, DCon.runC, ren3, ren2, ren1, numb, List.zipIdx_nil, List.zipIdx_cons, List.all_nil, List.all_cons, Nat.reduceLeDiff, List.range, List.range.loop, Ty.sz, beq_self_eq_true, Bool.and_self, and_self, Ty.ofC, AO.isDead, Nat.reduceLT, if_true, Nat.zero_add, Nat.add_zero, ite_true, Nat.le_refl, Bool.false_eq_true, reduceCtorEq, if_false, ite_false, binAV, AO.ren, AV.isCell, fillAV, List.set_cons_zero, List.set_cons_succ, Ty.cells, Ty.flat, Ty.dflt, List.getD_cons_zero, List.getD_cons_succ, Int.reduceToNat, Int.reduceSub, Int.reduceAdd, Int.reduceMul, Int.reduceNeg, forall_eq_or_imp, forall_eq, gdL, id_eq, Nat.lt_irrefl, srcOf, List.replicate_succ, List.replicate_zero, dite_true, List.isEmpty_cons, Option.isSome_some, List.length_append, List.length_singleton, bne_self_eq_false, Bool.not_true, Bool.not_false, conF, asArgs, asArg, asTy, asI1, asB1, asS1, asL1, canons, canon, Fork.true_, Fork.false_, bne, Bool.not_not, List.length_map, pickO, AS.over, TI.bl, bne_iff_ne, AS.over2, without, keys, List.mem_singleton, memOp2, memOp3, absorb, abInt, abBool, abStr, abList, gones, Int.toNat_natCast, List.take_length, subE, List.nodup_cons, List.nodup_nil, not_false_eq_true, Nat.sub_self, conR, asG, asI, asBo, asStr, asIs, asBs, asE4, asI2, asI3, asLL, asLLL, Th_int, Th_bool, Th_implPartial, Th_implProof, G_e_Partial, c_e_Proof, hL])
    | ((with_reducible refine ens_step ?_ (fun hE => ?_)); · ((repeat' with_reducible apply And.intro) <;> first | with_reducible assumption | omega | exact True.intro | with_reducible rfl | (show ByteArray.size _ ≤ _; decide) | (simp; done) | (simp; omega) | rfl))
    | ((with_reducible refine And.intro ?_ ?_); · ((repeat' with_reducible apply And.intro) <;> first | with_reducible assumption | omega | exact True.intro | with_reducible rfl | (show ByteArray.size _ ≤ _; decide) | (simp; done) | (simp; omega) | rfl))
    | ((with_reducible refine Fork.intro (fun h' => ?_) (fun h' => ?_)) <;> (try simp only [Bool.not_eq_true', Bool.not_eq_false', bne] at h') <;> (replace hL := And.intro h' hL) <;> (try simp only [decide_eq_true_eq, decide_eq_false_iff_not, beq_iff_eq, beq_eq_false_iff_ne, ne_eq] at h') <;> (try (exfalso; omega)))
    | (with_reducible refine AWp.skipS ?_)
    | ((with_reducible refine AWp.condT rfl ?_))
    | ((with_reducible refine AWp.condF rfl ?_))
    | (with_reducible refine AWp.condB rfl ?_)
    | (with_reducible refine AWp.ret ?_)
    | (with_reducible refine seqQ_n ?_)
    | (with_reducible refine seqQ_ret ?_)
    | (with_reducible refine blkQ_ret ?_)
    | (with_reducible refine blkQ_n ?_)
    | (with_reducible refine seqQ_exit ?_)
    | (with_reducible refine blkQ_exit ?_)
    | (with_reducible refine blkQ_other (by decide) ?_)
    | (with_reducible refine AWp.block ?_)
    | (with_reducible refine AWp.exit ?_)
    | (with_reducible refine AWp.skip ?_)
    | ((with_reducible refine EndsAt_id ?_); (try subst_vars); refine EndsAt.done [] (by first | exact .inr rfl | exact .inl rfl) rfl rfl ?_ ?_ <;> first | decide | (repeat' (first | rfl | apply And.intro | trivial)))
    | (with_reducible refine AWp.seq ?_)⟩
noncomputable def c_z_Partial : Con0 := conF [(.pair .int (.pair .int (.pair (.list .int) (.pair (.list .int) (.list .int))))), .int] fun (⟨⟨c1, c2, c3, c4, c5⟩, l, _⟩ : (Int × Int × (List Int) × (List Int) × (List Int)) × Int × Unit) => ((l ≤ 1048576 ∧ -1 ≤ l) ∧ c3.length ≤ 9223372036854775807 ∧ c4.length ≤ 9223372036854775807 ∧ c5.length ≤ 9223372036854775807, .lit (.int .i64 (if l - (c3.length + c4.length + c5.length : Nat) < 0 then (-1 : Int) else l - (c3.length + c4.length + c5.length : Nat))), [])
noncomputable def G_z_Partial : List (FuncId × Con) := [(53, mk c_z_Proof)]
theorem G_z_Partial_ok : ∀ f C, (f, C) ∈ G_z_Partial → C.ok Tryz.prog f := by
  intro f C h
  simp only [G_z_Partial, List.mem_cons, Prod.mk.injEq, List.not_mem_nil, or_false] at h
  obtain ⟨rfl, rfl⟩ := h
  exact ok_z_Proof
set_option maxRecDepth 100000 in
set_option maxHeartbeats 4000000 in
theorem ok_z_Partial : (mk c_z_Partial).ok Tryz.prog 30 := okF (Θ := Th) (N := 12) (rs := [.tmp 4]) Th_ok Tryz.func30 (by kernel_rfl) rfl Tryz.results30 (by decide) (by kernel_rfl) fun (⟨⟨c1, c2, c3, c4, c5⟩, l, _⟩ : (Int × Int × (List Int) × (List Int) × (List Int)) × Int × Unit) => ⟨rfl, rfl, Nat.le_of_ble_eq_true rfl, fun hc w0 => by
  have hL := dmy_eq
  try dsimp only at hc
  try dsimp only
  obtain ⟨hb, hbl⟩ := hc
  refine AWp.body rfl ?_
  repeat' first
    | ((with_reducible refine hK _ _ ?_); clear hK K)
    | ((with_reducible refine hK _ _ (by kernel_rfl) ?_); clear hK K)
    | ((with_reducible refine AWp.pS Th_ok G_z_Partial_ok [0, 1, 2, 4, 10] (by decide) ?_); intro K hK)
    | ((with_reducible refine AWp.dS (by kernel_rfl) Th_ok G_z_Partial_ok [0, 1, 2, 4, 10] ?_); intro K hK)
    | ((with_reducible refine AWp.pE Th_ok G_z_Partial_ok [0, 1, 2, 4, 10] (by decide) ?_); intro K hK)
    | ((with_reducible refine AWp.dE (by kernel_rfl) Th_ok G_z_Partial_ok [0, 1, 2, 4, 10] ?_); intro K hK)
    | ((first | with_reducible refine runF_id ?_ | with_reducible refine stepF_id ?_); simp (maxSteps := 2000000) only [runF, stepF, forkOf, gdOf, List.toList_toArray, stepOp, look, opAV, pureOp, callOp, memOp, AS.ev, AS.get, AS.obj, initS, initFrom, AV.cells, AS.upd, Option.bind_some, Option.bind_none, Option.map_some, Option.map_none, Option.getD_none, Option.getD_some, ↓reduceIte, Nat.reduceEqDiff, Nat.reduceAdd, Nat.reduceMul, Nat.reduceSub, List.nil_append, List.append_nil, List.cons_append, List.map_cons, List.map_nil, true_and, and_true, AS.fin, pick, dedup, List.mem_cons, List.not_mem_nil, or_false, false_or, List.size_toArray, List.length_cons, List.length_nil, loadAV, List.drop_zero, List.drop_succ_cons, List.take_zero, List.take_succ_cons, List.getElem?_cons_zero, List.getElem?_cons_succ, List.head?_cons, List.mapM_cons, List.mapM_nil, Option.bind_eq_bind, Option.pure_def, deeps3, deep3, deep2, deep1, deeps, deeps2, mixInts, AV.plain, mk, mkD, DCon.lift, DCon.runC, ren3, ren2, ren1, numb, List.zipIdx_nil, List.zipIdx_cons, List.all_nil, List.all_cons, Nat.reduceLeDiff, List.range, List.range.loop, Ty.sz, beq_self_eq_true, Bool.and_self, and_self, Ty.ofC, AO.isDead, Nat.reduceLT, if_true, Nat.zero_add, Nat.add_zero, ite_true, Nat.le_refl, Bool.false_eq_true, reduceCtorEq, if_false, ite_false, binAV, AO.ren, AV.isCell, fillAV, List.set_cons_zero, List.set_cons_succ, Ty.cells, Ty.flat, Ty.dflt, List.getD_cons_zero, List.getD_cons_succ, Int.reduceToNat, Int.reduceSub, Int.reduceAdd, Int.reduceMul, Int.reduceNeg, forall_eq_or_imp, forall_eq, gdL, id_eq, Nat.lt_irrefl, srcOf, List.replicate_succ, List.replicate_zero, dite_true, List.isEmpty_cons, Option.isSome_some, List.length_append, List.length_singleton, bne_self_eq_false, Bool.not_true, Bool.not_false, conF, asArgs, asArg, asTy, asI1, asB1, asS1, asL1, canons, canon, Fork.true_, Fork.false_, bne, Bool.not_not, List.length_map, pickO, AS.over, TI.bl, bne_iff_ne, AS.over2, without, keys, List.mem_singleton, memOp2, memOp3, absorb, abInt, abBool, abStr, abList, gones, Int.toNat_natCast, List.take_length, subE, List.nodup_cons, List.nodup_nil, not_false_eq_true, Nat.sub_self, conR, asG, asI, asBo, asStr, asIs, asBs, asE4, asI2, asI3, asLL, asLLL, Th_int, Th_lawsPartial, Th_lawsProof, Th_string, G_z_Partial, c_z_Proof, hL])
    | ((with_reducible refine ens_step ?_ (fun hE => ?_)); · ((repeat' with_reducible apply And.intro) <;> first | with_reducible assumption | omega | exact True.intro | with_reducible rfl | (show ByteArray.size _ ≤ _; decide) | (simp; done) | (simp; omega) | rfl))
    | ((with_reducible refine And.intro ?_ ?_); · ((repeat' with_reducible apply And.intro) <;> first | with_reducible assumption | omega | exact True.intro | with_reducible rfl | (show ByteArray.size _ ≤ _; decide) | (simp; done) | (simp; omega) | rfl))
    | ((with_reducible refine Fork.intro (fun h' => ?_) (fun h' => ?_)) <;> (try simp only [Bool.not_eq_true', Bool.not_eq_false', bne] at h') <;> (replace hL := And.intro h' hL) <;> (try simp only [decide_eq_true_eq, decide_eq_false_iff_not, beq_iff_eq, beq_eq_false_iff_ne, ne_eq] at h') <;> (try (split at h' <;> first | (exfalso; omega) | skip)))
    | (with_reducible refine AWp.skipS ?_)
    | ((with_reducible refine AWp.condT rfl ?_))
    | ((with_reducible refine AWp.condF rfl ?_))
    | (with_reducible refine AWp.condB rfl ?_)
    | (with_reducible refine AWp.ret ?_)
    | (with_reducible refine seqQ_n ?_)
    | (with_reducible refine seqQ_ret ?_)
    | (with_reducible refine blkQ_ret ?_)
    | (with_reducible refine blkQ_n ?_)
    | (with_reducible refine seqQ_exit ?_)
    | (with_reducible refine blkQ_exit ?_)
    | (with_reducible refine blkQ_other (by decide) ?_)
    | (with_reducible refine AWp.block ?_)
    | (with_reducible refine AWp.exit ?_)
    | (with_reducible refine AWp.skip ?_)
    | ((with_reducible refine EndsAt_id ?_); (try subst_vars); refine EndsAt.int (by first | exact .inr rfl | exact .inl rfl) rfl ?_; first | rfl | omega)
    | (with_reducible refine AWp.seq ?_)⟩
end Go.Proofs.YtgnnmifpfgpllaaGreat
