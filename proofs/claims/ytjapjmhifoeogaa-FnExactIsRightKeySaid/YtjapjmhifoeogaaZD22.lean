import Derived.Test.YtjapjmhifoeogaaZD21
import Derived.Test.YtjapjmhifoeogaaZAK
/- Right keys. -/
set_option linter.all false
set_option linter.unusedVariables false
set_option linter.unusedSimpArgs false
namespace Go.Proofs.Ytjapjmhifoeogaa
open Go.RowKit
def m_rKey0 : List AV → Option (Option Addr × Nat × Nat × Option Addr × Nat × Nat)
  | [.agg [.lit (.slice A0 n0 c0), .lit (.slice A1 n1 c1)]] => some (A0, n0, c0, A1, n1, c1)
  | _ => none
noncomputable def c_rKey0 : Con0 := conR m_rKey0 fun ((A0, n0, c0, A1, n1, c1) : Option Addr × Nat × Nat × Option Addr × Nat × Nat) => (True, .agg [.lit (.slice A0 n0 c0), .lit (.slice A1 n1 c1)], [])
noncomputable def G_rKey0 : List (FuncId × Con) := []
theorem G_rKey0_ok : ∀ f C, (f, C) ∈ G_rKey0 → C.ok Try.prog f := by
  intro f C h
  simp only [G_rKey0, List.mem_cons, Prod.mk.injEq, List.not_mem_nil, or_false] at h
set_option maxRecDepth 100000 in
set_option maxHeartbeats 4000000 in
theorem ok_rKey0 : (mk c_rKey0).ok Try.prog 114 := okR (Θ := Th) (N := 8) (rs := [.cell 2 48]) Th_ok Try.func114 (by kernel_rfl) rfl Try.results114 (by decide) (by kernel_rfl) (fun ((A0, n0, c0, A1, n1, c1) : Option Addr × Nat × Nat × Option Addr × Nat × Nat) => [.agg [.lit (.slice A0 n0 c0), .lit (.slice A1 n1 c1)]]) (fun args d h => by unfold m_rKey0 at h; split at h <;> cases h; rfl) fun ((A0, n0, c0, A1, n1, c1) : Option Addr × Nat × Nat × Option Addr × Nat × Nat) => ⟨rfl, rfl, Nat.le_of_ble_eq_true rfl, fun hc w0 => by
  have hL := dmy_eq
  try dsimp only at hc
  try dsimp only
  refine AWp.body rfl ?_
  repeat' first
    | ((with_reducible refine hK _ _ ?_); clear hK K)
    | ((with_reducible refine hK _ _ (by kernel_rfl) ?_); clear hK K)
    | ((with_reducible refine AWp.pS Th_ok G_rKey0_ok [0, 1, 2] (by decide) ?_); intro K hK)
    | ((with_reducible refine AWp.dS (by kernel_rfl) Th_ok G_rKey0_ok [0, 1, 2] ?_); intro K hK)
    | ((with_reducible refine AWp.pE Th_ok G_rKey0_ok [0, 1, 2] (by decide) ?_); intro K hK)
    | ((with_reducible refine AWp.dE (by kernel_rfl) Th_ok G_rKey0_ok [0, 1, 2] ?_); intro K hK)
    | ((first | with_reducible refine runF_id ?_ | with_reducible refine stepF_id ?_); simp (maxSteps := 2000000) only [runF, stepF, forkOf, gdOf, List.toList_toArray, stepOp, look, opAV, pureOp, callOp, memOp, AS.ev, AS.get, AS.obj, initS, initFrom, AV.cells, AS.upd, Option.bind_some, Option.bind_none, Option.map_some, Option.map_none, Option.getD_none, Option.getD_some, ↓reduceIte, Nat.reduceEqDiff, Nat.reduceAdd, Nat.reduceMul, Nat.reduceSub, List.nil_append, List.append_nil, List.cons_append, List.map_cons, List.map_nil, true_and, and_true, AS.fin, pick, dedup, List.mem_cons, List.not_mem_nil, or_false, false_or, List.size_toArray, List.length_cons, List.length_nil, loadAV, List.drop_zero, List.drop_succ_cons, List.take_zero, List.take_succ_cons, List.getElem?_cons_zero, List.getElem?_cons_succ, List.head?_cons, List.mapM_cons, List.mapM_nil, Option.bind_eq_bind, Option.pure_def, deeps3, deep3, deep2, deep1, deeps, deeps2, mixInts, AV.plain, mk, mkD, DCon.lift, DCon.runC, ren3, ren2, ren1, numb, List.zipIdx_nil, List.zipIdx_cons, List.all_nil, List.all_cons, Nat.reduceLeDiff, List.range, List.range.loop, Ty.sz, beq_self_eq_true, Bool.and_self, and_self, Ty.ofC, AO.isDead, Nat.reduceLT, if_true, Nat.zero_add, Nat.add_zero, ite_true, Nat.le_refl, Bool.false_eq_true, reduceCtorEq, if_false, ite_false, binAV, AO.ren, AV.isCell, fillAV, List.set_cons_zero, List.set_cons_succ, Ty.cells, Ty.flat, Ty.dflt, List.getD_cons_zero, List.getD_cons_succ, Int.reduceToNat, Int.reduceSub, Int.reduceAdd, Int.reduceMul, Int.reduceNeg, forall_eq_or_imp, forall_eq, gdL, id_eq, Nat.lt_irrefl, srcOf, List.replicate_succ, List.replicate_zero, dite_true, List.isEmpty_cons, Option.isSome_some, List.length_append, List.length_singleton, bne_self_eq_false, Bool.not_true, Bool.not_false, conF, asArgs, asArg, asTy, asI1, asB1, asS1, asL1, canons, canon, Fork.true_, Fork.false_, bne, Bool.not_not, List.length_map, pickO, AS.over, TI.bl, bne_iff_ne, AS.over2, without, keys, List.mem_singleton, memOp2, memOp3, absorb, abInt, abBool, abStr, abList, gones, Int.toNat_natCast, List.take_length, subE, List.nodup_cons, List.nodup_nil, not_false_eq_true, Nat.sub_self, conR, asG, asI, asBo, asStr, asIs, asBs, asE4, asI2, asI3, asLL, asLLL, Th_int, Th_Sint, Th_bool, Th_implDealing, Th_implSharedKey, G_rKey0, hL])
    | ((with_reducible refine ens_step ?_ (fun hE => ?_)); · ((repeat' with_reducible apply And.intro) <;> first | with_reducible assumption | omega | exact True.intro | with_reducible rfl | (show ByteArray.size _ ≤ _; decide) | (simp; done) | (simp; omega) | rfl))
    | ((with_reducible refine And.intro ?_ ?_); · ((repeat' with_reducible apply And.intro) <;> first | with_reducible assumption | omega | exact True.intro | with_reducible rfl | (show ByteArray.size _ ≤ _; decide) | (simp; done) | (simp; omega) | rfl))
    | ((with_reducible refine Fork.intro (fun h' => ?_) (fun h' => ?_)) <;> (try simp only [Bool.not_eq_true', Bool.not_eq_false', bne] at h') <;> (replace hL := And.intro h' hL) <;> (try simp only [decide_eq_true_eq, decide_eq_false_iff_not, beq_iff_eq, beq_eq_false_iff_ne, ne_eq] at h'))
    | (with_reducible refine AWp.skipS ?_)
    | ((with_reducible refine AWp.condT rfl ?_))
    | ((with_reducible refine AWp.condF rfl ?_))
    | (with_reducible refine AWp.condB rfl ?_)
    | (with_reducible refine AWp.ret ?_)
    | (with_reducible refine seqQ_n ?_)
    | (with_reducible refine seqQ_ret ?_)
    | (with_reducible refine blkQ_ret ?_)
    | (with_reducible refine blkQ_n ?_)
    | (with_reducible refine seqQ_exit ?_)
    | (with_reducible refine blkQ_exit ?_)
    | (with_reducible refine blkQ_other (by decide) ?_)
    | (with_reducible refine AWp.block ?_)
    | (with_reducible refine AWp.exit ?_)
    | (with_reducible refine AWp.skip ?_)
    | ((with_reducible refine EndsAt_id ?_); (try subst_vars); refine EndsAt.done [] (by first | exact .inr rfl | exact .inl rfl) rfl rfl ?_ ?_ <;> first | decide | (repeat' (first | rfl | apply And.intro | trivial)))
    | (with_reducible refine AWp.seq ?_)⟩
theorem two_of {us : List Value} (h : us.length = 2) (hs : ∀ u ∈ us, ∃ A n c, u = .slice A n c) : ∃ A0 n0 c0 A1 n1 c1, us = [.slice A0 n0 c0, .slice A1 n1 c1] := by
  match us, h with
  | [u, v], _ =>
    obtain ⟨A0, n0, c0, rfl⟩ := hs u (by simp)
    obtain ⟨A1, n1, c1, rfl⟩ := hs v (by simp)
    exact ⟨_, _, _, _, _, _, rfl⟩
def c_w_rKey : Con := Con.same 2
def sel_w_rKey : Nat := 0
theorem ok_w_rKey : c_w_rKey.ok Try.prog 114 := Con.same_ok ok_rKey0 fun us h hs nid obj => by
  obtain ⟨A0, n0, c0, A1, n1, c1, rfl⟩ := two_of h hs
  refine ⟨_, _, ?_, rfl⟩
  repeat' (first | exact trivial | refine And.intro ?_ ?_)
noncomputable def c_rGood : Con0 := conF [(.pair .int (.pair .int .int)), (.pair (.list .int) (.list .int))] fun (⟨⟨p, q, g⟩, ⟨cs, ss⟩, _⟩ : (Int × Int × Int) × (List Int × List Int) × Unit) => (True, .lit (.bool (vdl p q g cs ss)), [])
noncomputable def G_rGood : List (FuncId × Con) := [(75, mk c_sGroup), (114, c_w_rKey), (85, mk c_sDealing)]
theorem G_rGood_ok : ∀ f C, (f, C) ∈ G_rGood → C.ok Try.prog f := by
  intro f C h
  simp only [G_rGood, List.mem_cons, Prod.mk.injEq, List.not_mem_nil, or_false] at h
  rcases h with ⟨rfl, rfl⟩ | ⟨rfl, rfl⟩ | ⟨rfl, rfl⟩
  · exact ok_sGroup
  · exact ok_w_rKey
  · exact ok_sDealing
set_option maxRecDepth 100000 in
set_option maxHeartbeats 4000000 in
theorem ok_rGood : (mk c_rGood).ok Try.prog 113 := okF (Θ := Th) (N := 13) (rs := [.tmp 4]) Th_ok Try.func113 (by kernel_rfl) rfl Try.results113 (by decide) (by kernel_rfl) fun (⟨⟨p, q, g⟩, ⟨cs, ss⟩, _⟩ : (Int × Int × Int) × (List Int × List Int) × Unit) => ⟨rfl, rfl, Nat.le_of_ble_eq_true rfl, fun hc w0 => by
  have hL := dmy_eq
  try dsimp only at hc
  try dsimp only
  refine AWp.body rfl ?_
  repeat' first
    | ((with_reducible refine hK _ _ ?_); clear hK K)
    | ((with_reducible refine hK _ _ (by kernel_rfl) ?_); clear hK K)
    | ((with_reducible refine AWp.pS Th_ok G_rGood_ok [0, 1, 2, 3, 4] (by decide) ?_); intro K hK)
    | ((with_reducible refine AWp.dS (by kernel_rfl) Th_ok G_rGood_ok [0, 1, 2, 3, 4] ?_); intro K hK)
    | ((with_reducible refine AWp.pE Th_ok G_rGood_ok [0, 1, 2, 3, 4] (by decide) ?_); intro K hK)
    | ((with_reducible refine AWp.dE (by kernel_rfl) Th_ok G_rGood_ok [0, 1, 2, 3, 4] ?_); intro K hK)
    | ((first | with_reducible refine runF_id ?_ | with_reducible refine stepF_id ?_); simp (maxSteps := 2000000) only [runF, stepF, forkOf, gdOf, List.toList_toArray, stepOp, look, opAV, pureOp, callOp, memOp, AS.ev, AS.get, AS.obj, initS, initFrom, AV.cells, AS.upd, Option.bind_some, Option.bind_none, Option.map_some, Option.map_none, Option.getD_none, Option.getD_some, ↓reduceIte, Nat.reduceEqDiff, Nat.reduceAdd, Nat.reduceMul, Nat.reduceSub, List.nil_append, List.append_nil, List.cons_append, List.map_cons, List.map_nil, true_and, and_true, AS.fin, pick, dedup, List.mem_cons, List.not_mem_nil, or_false, false_or, List.size_toArray, List.length_cons, List.length_nil, loadAV, List.drop_zero, List.drop_succ_cons, List.take_zero, List.take_succ_cons, List.getElem?_cons_zero, List.getElem?_cons_succ, List.head?_cons, List.mapM_cons, List.mapM_nil, Option.bind_eq_bind, Option.pure_def, deeps3, deep3, deep2, deep1, deeps, deeps2, mixInts, AV.plain, mk, mkD, DCon.lift, DCon.runC, ren3, ren2, ren1, numb, List.zipIdx_nil, List.zipIdx_cons, List.all_nil, List.all_cons, Nat.reduceLeDiff, List.range, List.range.loop, Ty.sz, beq_self_eq_true, Bool.and_self, and_self, Ty.ofC, AO.isDead, Nat.reduceLT, if_true, Nat.zero_add, Nat.add_zero, ite_true, Nat.le_refl, Bool.false_eq_true, reduceCtorEq, if_false, ite_false, binAV, AO.ren, AV.isCell, fillAV, List.set_cons_zero, List.set_cons_succ, Ty.cells, Ty.flat, Ty.dflt, List.getD_cons_zero, List.getD_cons_succ, Int.reduceToNat, Int.reduceSub, Int.reduceAdd, Int.reduceMul, Int.reduceNeg, forall_eq_or_imp, forall_eq, gdL, id_eq, Nat.lt_irrefl, srcOf, List.replicate_succ, List.replicate_zero, dite_true, List.isEmpty_cons, Option.isSome_some, List.length_append, List.length_singleton, bne_self_eq_false, Bool.not_true, Bool.not_false, conF, asArgs, asArg, asTy, asI1, asB1, asS1, asL1, canons, canon, Fork.true_, Fork.false_, bne, Bool.not_not, List.length_map, pickO, AS.over, TI.bl, bne_iff_ne, AS.over2, without, keys, List.mem_singleton, memOp2, memOp3, absorb, abInt, abBool, abStr, abList, gones, Int.toNat_natCast, List.take_length, subE, List.nodup_cons, List.nodup_nil, not_false_eq_true, Nat.sub_self, conR, asG, asI, asBo, asStr, asIs, asBs, asE4, asI2, asI3, asLL, asLLL, Th_int, Th_implDealing, Th_implGroup, Th_implSharedKey, Th_string, G_rGood, c_sGroup, c_sDealing, c_w_rKey, sel_w_rKey, conM, Con.wr, rowsT, rowsAO, lensR, cntR, mrkR, pair2, List.headD_cons, List.tail_cons, List.nodup_cons, List.nodup_nil, not_false_eq_true, cnt_int, cnt_mrk, mrk_len .int, Con.same, List.all_cons, List.all_nil, AV.isSl, Bool.and_self, hL])
    | ((with_reducible refine ens_step ?_ (fun hE => ?_)); · ((repeat' with_reducible apply And.intro) <;> first | with_reducible assumption | omega | exact True.intro | with_reducible rfl | (show ByteArray.size _ ≤ _; decide) | (simp; done) | (simp; omega) | rfl))
    | ((with_reducible refine And.intro ?_ ?_); · ((repeat' with_reducible apply And.intro) <;> first | with_reducible assumption | omega | exact True.intro | with_reducible rfl | (show ByteArray.size _ ≤ _; decide) | (simp; done) | (simp; omega) | rfl))
    | ((with_reducible refine Fork.intro (fun h' => ?_) (fun h' => ?_)) <;> (try simp only [Bool.not_eq_true', Bool.not_eq_false', bne] at h') <;> (replace hL := And.intro h' hL) <;> (try simp only [decide_eq_true_eq, decide_eq_false_iff_not, beq_iff_eq, beq_eq_false_iff_ne, ne_eq] at h') <;> (try (have hsh := shB_of h'; obtain ⟨hgd, hq7⟩ := hsh; have hG := M.goodB_of hgd; have hq2 := hG.q2; have hqp := hG.qp; have hp3 := hG.p3; have hpM := hG.pM)))
    | (with_reducible refine AWp.skipS ?_)
    | ((with_reducible refine AWp.condT rfl ?_))
    | ((with_reducible refine AWp.condF rfl ?_))
    | (with_reducible refine AWp.condB rfl ?_)
    | (with_reducible refine AWp.ret ?_)
    | (with_reducible refine seqQ_n ?_)
    | (with_reducible refine seqQ_ret ?_)
    | (with_reducible refine blkQ_ret ?_)
    | (with_reducible refine blkQ_n ?_)
    | (with_reducible refine seqQ_exit ?_)
    | (with_reducible refine blkQ_exit ?_)
    | (with_reducible refine blkQ_other (by decide) ?_)
    | (with_reducible refine AWp.block ?_)
    | (with_reducible refine AWp.exit ?_)
    | (with_reducible refine AWp.skip ?_)
    | ((with_reducible refine EndsAt_id ?_); (try subst_vars); (try simp only [vdl, hL, List.length_cons, List.length_nil, Nat.zero_add, Nat.reduceAdd, Bool.and_true, Bool.and_false, Bool.true_and, Bool.false_and, Bool.and_self, ↓reduceIte, Bool.false_eq_true, Bool.not_true, Bool.not_false, bne]); refine EndsAt.done [] (by first | exact .inr rfl | exact .inl rfl) rfl rfl ?_ ?_ <;> first | decide | (repeat' (first | rfl | apply And.intro | trivial)))
    | (with_reducible refine AWp.seq ?_)⟩
noncomputable def c_IsRightKeyI : Con0 := conF [(.pair .int (.pair .int .int)), (.pair (.list .int) (.list .int))] fun (⟨⟨p, q, g⟩, ⟨cs, ss⟩, _⟩ : (Int × Int × Int) × (List Int × List Int) × Unit) => (True, .tup [.lit (.bool (vdl p q g cs ss && (((badL p q g cs ss).length : Int) == 0))), .lit (.bool (vdl p q g cs ss))], [])
noncomputable def G_IsRightKeyI : List (FuncId × Con) := [(115, mk c_hasKey), (88, mk c_bad)]
theorem G_IsRightKeyI_ok : ∀ f C, (f, C) ∈ G_IsRightKeyI → C.ok Try.prog f := by
  intro f C h
  simp only [G_IsRightKeyI, List.mem_cons, Prod.mk.injEq, List.not_mem_nil, or_false] at h
  rcases h with ⟨rfl, rfl⟩ | ⟨rfl, rfl⟩
  · exact ok_hasKey
  · exact ok_bad
set_option maxRecDepth 100000 in
set_option maxHeartbeats 4000000 in
theorem ok_IsRightKeyI : (mk c_IsRightKeyI).ok Try.prog 56 := okF (Θ := Th) (N := 15) (rs := [.tmp 4, .tmp 5]) Th_ok Try.func56 (by kernel_rfl) rfl Try.results56 (by decide) (by kernel_rfl) fun (⟨⟨p, q, g⟩, ⟨cs, ss⟩, _⟩ : (Int × Int × Int) × (List Int × List Int) × Unit) => ⟨rfl, rfl, Nat.le_of_ble_eq_true rfl, fun hc w0 => by
  have hL := dmy_eq
  try dsimp only at hc
  try dsimp only
  refine AWp.body rfl ?_
  repeat' first
    | ((with_reducible refine hK _ _ ?_); clear hK K)
    | ((with_reducible refine hK _ _ (by kernel_rfl) ?_); clear hK K)
    | ((with_reducible refine AWp.pS Th_ok G_IsRightKeyI_ok [0, 1, 2, 3, 4, 5, 9] (by decide) ?_); intro K hK)
    | ((with_reducible refine AWp.dS (by kernel_rfl) Th_ok G_IsRightKeyI_ok [0, 1, 2, 3, 4, 5, 9] ?_); intro K hK)
    | ((with_reducible refine AWp.pE Th_ok G_IsRightKeyI_ok [0, 1, 2, 3, 4, 5, 9] (by decide) ?_); intro K hK)
    | ((with_reducible refine AWp.dE (by kernel_rfl) Th_ok G_IsRightKeyI_ok [0, 1, 2, 3, 4, 5, 9] ?_); intro K hK)
    | ((first | with_reducible refine runF_id ?_ | with_reducible refine stepF_id ?_); simp (maxSteps := 2000000) only [runF, stepF, forkOf, gdOf, List.toList_toArray, stepOp, look, opAV, pureOp, callOp, memOp, AS.ev, AS.get, AS.obj, initS, initFrom, AV.cells, AS.upd, Option.bind_some, Option.bind_none, Option.map_some, Option.map_none, Option.getD_none, Option.getD_some, ↓reduceIte, Nat.reduceEqDiff, Nat.reduceAdd, Nat.reduceMul, Nat.reduceSub, List.nil_append, List.append_nil, List.cons_append, List.map_cons, List.map_nil, true_and, and_true, AS.fin, pick, dedup, List.mem_cons, List.not_mem_nil, or_false, false_or, List.size_toArray, List.length_cons, List.length_nil, loadAV, List.drop_zero, List.drop_succ_cons, List.take_zero, List.take_succ_cons, List.getElem?_cons_zero, List.getElem?_cons_succ, List.head?_cons, List.mapM_cons, List.mapM_nil, Option.bind_eq_bind, Option.pure_def, deeps3, deep3, deep2, deep1, deeps, deeps2, mixInts, AV.plain, mk, mkD, DCon.lift, DCon.runC, ren3, ren2, ren1, numb, List.zipIdx_nil, List.zipIdx_cons, List.all_nil, List.all_cons, Nat.reduceLeDiff, List.range, List.range.loop, Ty.sz, beq_self_eq_true, Bool.and_self, and_self, Ty.ofC, AO.isDead, Nat.reduceLT, if_true, Nat.zero_add, Nat.add_zero, ite_true, Nat.le_refl, Bool.false_eq_true, reduceCtorEq, if_false, ite_false, binAV, AO.ren, AV.isCell, fillAV, List.set_cons_zero, List.set_cons_succ, Ty.cells, Ty.flat, Ty.dflt, List.getD_cons_zero, List.getD_cons_succ, Int.reduceToNat, Int.reduceSub, Int.reduceAdd, Int.reduceMul, Int.reduceNeg, forall_eq_or_imp, forall_eq, gdL, id_eq, Nat.lt_irrefl, srcOf, List.replicate_succ, List.replicate_zero, dite_true, List.isEmpty_cons, Option.isSome_some, List.length_append, List.length_singleton, bne_self_eq_false, Bool.not_true, Bool.not_false, conF, asArgs, asArg, asTy, asI1, asB1, asS1, asL1, canons, canon, Fork.true_, Fork.false_, bne, Bool.not_not, List.length_map, pickO, AS.over, TI.bl, bne_iff_ne, AS.over2, without, keys, List.mem_singleton, memOp2, memOp3, absorb, abInt, abBool, abStr, abList, gones, Int.toNat_natCast, List.take_length, subE, List.nodup_cons, List.nodup_nil, not_false_eq_true, Nat.sub_self, conR, asG, asI, asBo, asStr, asIs, asBs, asE4, asI2, asI3, asLL, asLLL, Th_int, Th_Sint, Th_bool, Th_implDealing, Th_implGroup, Th_implSharedKey, G_IsRightKeyI, c_hasKey, c_bad, Con.same, List.all_cons, List.all_nil, AV.isSl, Bool.and_self, hL])
    | ((with_reducible refine ens_step ?_ (fun hE => ?_)); · ((repeat' with_reducible apply And.intro) <;> first | with_reducible assumption | omega | exact True.intro | with_reducible rfl | (show ByteArray.size _ ≤ _; decide) | (simp; done) | (simp; omega) | rfl))
    | ((with_reducible refine And.intro ?_ ?_); · ((repeat' with_reducible apply And.intro) <;> first | with_reducible assumption | omega | exact True.intro | with_reducible rfl | (show ByteArray.size _ ≤ _; decide) | (simp; done) | (simp; omega) | rfl))
    | ((with_reducible refine Fork.intro (fun h' => ?_) (fun h' => ?_)) <;> (try simp only [Bool.not_eq_true', Bool.not_eq_false', bne] at h') <;> (replace hL := And.intro h' hL) <;> (try simp only [decide_eq_true_eq, decide_eq_false_iff_not, beq_iff_eq, beq_eq_false_iff_ne, ne_eq] at h') <;> (try (have hvd := vdl_use h'; obtain ⟨hvs, hvd⟩ := hvd; have hsh := shB_of hvs; obtain ⟨hgd, hq7⟩ := hsh; have hG := M.goodB_of hgd; have hq2 := hG.q2; have hqp := hG.qp; have hp3 := hG.p3; have hpM := hG.pM; have hdl := dlB_use hvd; obtain ⟨hcl, hcb, hsl, hsb⟩ := hdl)))
    | (with_reducible refine AWp.skipS ?_)
    | ((with_reducible refine AWp.condT rfl ?_))
    | ((with_reducible refine AWp.condF rfl ?_))
    | (with_reducible refine AWp.condB rfl ?_)
    | (with_reducible refine AWp.ret ?_)
    | (with_reducible refine seqQ_n ?_)
    | (with_reducible refine seqQ_ret ?_)
    | (with_reducible refine blkQ_ret ?_)
    | (with_reducible refine blkQ_n ?_)
    | (with_reducible refine seqQ_exit ?_)
    | (with_reducible refine blkQ_exit ?_)
    | (with_reducible refine blkQ_other (by decide) ?_)
    | (with_reducible refine AWp.block ?_)
    | (with_reducible refine AWp.exit ?_)
    | (with_reducible refine AWp.skip ?_)
    | ((with_reducible refine EndsAt_id ?_); (try subst_vars); (try simp only [PBad, hL, List.length_cons, List.length_nil, Nat.zero_add, Nat.reduceAdd, Bool.and_true, Bool.and_false, Bool.true_and, Bool.false_and, Bool.and_self, ↓reduceIte, Bool.false_eq_true, Bool.not_true, Bool.not_false, bne]); refine EndsAt.done [] (by first | exact .inr rfl | exact .inl rfl) rfl rfl ?_ ?_ <;> first | decide | (repeat' (first | rfl | apply And.intro | trivial)))
    | (with_reducible refine AWp.seq ?_)⟩
noncomputable def c_IsRightKeyS : Con0 := conF [(.pair .int (.pair .int .int)), (.pair (.list .int) (.list .int))] fun (⟨⟨p, q, g⟩, ⟨cs, ss⟩, _⟩ : (Int × Int × Int) × (List Int × List Int) × Unit) => (True, .tup [.lit (.bool (vdl p q g cs ss && (((badL p q g cs ss).length : Int) == 0))), .lit (.bool (vdl p q g cs ss))], [])
noncomputable def G_IsRightKeyS : List (FuncId × Con) := [(113, mk c_rGood), (114, c_w_rKey), (86, mk c_sBad)]
theorem G_IsRightKeyS_ok : ∀ f C, (f, C) ∈ G_IsRightKeyS → C.ok Try.prog f := by
  intro f C h
  simp only [G_IsRightKeyS, List.mem_cons, Prod.mk.injEq, List.not_mem_nil, or_false] at h
  rcases h with ⟨rfl, rfl⟩ | ⟨rfl, rfl⟩ | ⟨rfl, rfl⟩
  · exact ok_rGood
  · exact ok_w_rKey
  · exact ok_sBad
set_option maxRecDepth 100000 in
set_option maxHeartbeats 4000000 in
theorem ok_IsRightKeyS : (mk c_IsRightKeyS).ok Try.prog 54 := okF (Θ := Th) (N := 16) (rs := [.tmp 4, .tmp 5]) Th_ok Try.func54 (by kernel_rfl) rfl Try.results54 (by decide) (by kernel_rfl) fun (⟨⟨p, q, g⟩, ⟨cs, ss⟩, _⟩ : (Int × Int × Int) × (List Int × List Int) × Unit) => ⟨rfl, rfl, Nat.le_of_ble_eq_true rfl, fun hc w0 => by
  have hL := dmy_eq
  try dsimp only at hc
  try dsimp only
  refine AWp.body rfl ?_
  repeat' first
    | ((with_reducible refine hK _ _ ?_); clear hK K)
    | ((with_reducible refine hK _ _ (by kernel_rfl) ?_); clear hK K)
    | ((with_reducible refine AWp.pS Th_ok G_IsRightKeyS_ok [0, 1, 2, 3, 4, 5, 9] (by decide) ?_); intro K hK)
    | ((with_reducible refine AWp.dS (by kernel_rfl) Th_ok G_IsRightKeyS_ok [0, 1, 2, 3, 4, 5, 9] ?_); intro K hK)
    | ((with_reducible refine AWp.pE Th_ok G_IsRightKeyS_ok [0, 1, 2, 3, 4, 5, 9] (by decide) ?_); intro K hK)
    | ((with_reducible refine AWp.dE (by kernel_rfl) Th_ok G_IsRightKeyS_ok [0, 1, 2, 3, 4, 5, 9] ?_); intro K hK)
    | ((first | with_reducible refine runF_id ?_ | with_reducible refine stepF_id ?_); simp (maxSteps := 2000000) only [runF, stepF, forkOf, gdOf, List.toList_toArray, stepOp, look, opAV, pureOp, callOp, memOp, AS.ev, AS.get, AS.obj, initS, initFrom, AV.cells, AS.upd, Option.bind_some, Option.bind_none, Option.map_some, Option.map_none, Option.getD_none, Option.getD_some, ↓reduceIte, Nat.reduceEqDiff, Nat.reduceAdd, Nat.reduceMul, Nat.reduceSub, List.nil_append, List.append_nil, List.cons_append, List.map_cons, List.map_nil, true_and, and_true, AS.fin, pick, dedup, List.mem_cons, List.not_mem_nil, or_false, false_or, List.size_toArray, List.length_cons, List.length_nil, loadAV, List.drop_zero, List.drop_succ_cons, List.take_zero, List.take_succ_cons, List.getElem?_cons_zero, List.getElem?_cons_succ, List.head?_cons, List.mapM_cons, List.mapM_nil, Option.bind_eq_bind, Option.pure_def, deeps3, deep3, deep2, deep1, deeps, deeps2, mixInts, AV.plain, mk, mkD, DCon.lift, DCon.runC, ren3, ren2, ren1, numb, List.zipIdx_nil, List.zipIdx_cons, List.all_nil, List.all_cons, Nat.reduceLeDiff, List.range, List.range.loop, Ty.sz, beq_self_eq_true, Bool.and_self, and_self, Ty.ofC, AO.isDead, Nat.reduceLT, if_true, Nat.zero_add, Nat.add_zero, ite_true, Nat.le_refl, Bool.false_eq_true, reduceCtorEq, if_false, ite_false, binAV, AO.ren, AV.isCell, fillAV, List.set_cons_zero, List.set_cons_succ, Ty.cells, Ty.flat, Ty.dflt, List.getD_cons_zero, List.getD_cons_succ, Int.reduceToNat, Int.reduceSub, Int.reduceAdd, Int.reduceMul, Int.reduceNeg, forall_eq_or_imp, forall_eq, gdL, id_eq, Nat.lt_irrefl, srcOf, List.replicate_succ, List.replicate_zero, dite_true, List.isEmpty_cons, Option.isSome_some, List.length_append, List.length_singleton, bne_self_eq_false, Bool.not_true, Bool.not_false, conF, asArgs, asArg, asTy, asI1, asB1, asS1, asL1, canons, canon, Fork.true_, Fork.false_, bne, Bool.not_not, List.length_map, pickO, AS.over, TI.bl, bne_iff_ne, AS.over2, without, keys, List.mem_singleton, memOp2, memOp3, absorb, abInt, abBool, abStr, abList, gones, Int.toNat_natCast, List.take_length, subE, List.nodup_cons, List.nodup_nil, not_false_eq_true, Nat.sub_self, conR, asG, asI, asBo, asStr, asIs, asBs, asE4, asI2, asI3, asLL, asLLL, Th_int, Th_Sint, Th_bool, Th_implDealing, Th_implGroup, Th_implSharedKey, G_IsRightKeyS, c_rGood, c_sBad, c_w_rKey, sel_w_rKey, conM, Con.wr, rowsT, rowsAO, lensR, cntR, mrkR, pair2, List.headD_cons, List.tail_cons, List.nodup_cons, List.nodup_nil, not_false_eq_true, cnt_int, cnt_mrk, mrk_len .int, Con.same, List.all_cons, List.all_nil, AV.isSl, Bool.and_self, hL])
    | ((with_reducible refine ens_step ?_ (fun hE => ?_)); · ((repeat' with_reducible apply And.intro) <;> first | with_reducible assumption | omega | exact True.intro | with_reducible rfl | (show ByteArray.size _ ≤ _; decide) | (simp; done) | (simp; omega) | rfl))
    | ((with_reducible refine And.intro ?_ ?_); · ((repeat' with_reducible apply And.intro) <;> first | with_reducible assumption | omega | exact True.intro | with_reducible rfl | (show ByteArray.size _ ≤ _; decide) | (simp; done) | (simp; omega) | rfl))
    | ((with_reducible refine Fork.intro (fun h' => ?_) (fun h' => ?_)) <;> (try simp only [Bool.not_eq_true', Bool.not_eq_false', bne] at h') <;> (replace hL := And.intro h' hL) <;> (try simp only [decide_eq_true_eq, decide_eq_false_iff_not, beq_iff_eq, beq_eq_false_iff_ne, ne_eq] at h') <;> (try (have hvd := vdl_use h'; obtain ⟨hvs, hvd⟩ := hvd; have hsh := shB_of hvs; obtain ⟨hgd, hq7⟩ := hsh; have hG := M.goodB_of hgd; have hq2 := hG.q2; have hqp := hG.qp; have hp3 := hG.p3; have hpM := hG.pM; have hdl := dlB_use hvd; obtain ⟨hcl, hcb, hsl, hsb⟩ := hdl)))
    | (with_reducible refine AWp.skipS ?_)
    | ((with_reducible refine AWp.condT rfl ?_))
    | ((with_reducible refine AWp.condF rfl ?_))
    | (with_reducible refine AWp.condB rfl ?_)
    | (with_reducible refine AWp.ret ?_)
    | (with_reducible refine seqQ_n ?_)
    | (with_reducible refine seqQ_ret ?_)
    | (with_reducible refine blkQ_ret ?_)
    | (with_reducible refine blkQ_n ?_)
    | (with_reducible refine seqQ_exit ?_)
    | (with_reducible refine blkQ_exit ?_)
    | (with_reducible refine blkQ_other (by decide) ?_)
    | (with_reducible refine AWp.block ?_)
    | (with_reducible refine AWp.exit ?_)
    | (with_reducible refine AWp.skip ?_)
    | ((with_reducible refine EndsAt_id ?_); (try subst_vars); (try simp only [PBad, hL, List.length_cons, List.length_nil, Nat.zero_add, Nat.reduceAdd, Bool.and_true, Bool.and_false, Bool.true_and, Bool.false_and, Bool.and_self, ↓reduceIte, Bool.false_eq_true, Bool.not_true, Bool.not_false, bne]); refine EndsAt.done [] (by first | exact .inr rfl | exact .inl rfl) rfl rfl ?_ ?_ <;> first | decide | (repeat' (first | rfl | apply And.intro | trivial)))
    | (with_reducible refine AWp.seq ?_)⟩
end Go.Proofs.Ytjapjmhifoeogaa
