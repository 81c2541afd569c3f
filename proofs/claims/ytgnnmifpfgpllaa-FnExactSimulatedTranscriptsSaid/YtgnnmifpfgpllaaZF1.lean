import Derived.Test.YtgnnmifpfgpllaaZAJ
import Derived.Test.YtgnnmifpfgpllaaZB4
/- The laws' own functions, part 1. -/
set_option linter.all false
set_option linter.unusedVariables false
set_option linter.unusedSimpArgs false
namespace Go.Proofs.Ytgnnmifpfgpllaa
open Go.RowKit
noncomputable def c_t_Group : Con0 := conF [(.pair .int (.pair .int .int))] fun (⟨⟨p, q, g⟩, _⟩ : (Int × Int × Int) × Unit) => (True, .agg [.lit (.int .i64 p), .lit (.int .i64 q), .lit (.int .i64 g)], [])
noncomputable def G_t_Group : List (FuncId × Con) := []
theorem G_t_Group_ok : ∀ f C, (f, C) ∈ G_t_Group → C.ok Try.prog f := by
  intro f C h
  simp only [G_t_Group, List.mem_cons, Prod.mk.injEq, List.not_mem_nil, or_false] at h
set_option maxRecDepth 100000 in
set_option maxHeartbeats 4000000 in
theorem ok_t_Group : (mk c_t_Group).ok Try.prog 12 := okF (Θ := Th) (N := 14) (rs := [.cell 2 34]) Th_ok Try.func12 (by kernel_rfl) rfl Try.results12 (by decide) (by kernel_rfl) fun (⟨⟨p, q, g⟩, _⟩ : (Int × Int × Int) × Unit) => ⟨rfl, rfl, Nat.le_of_ble_eq_true rfl, fun hc w0 => by
  have hL := dmy_eq
  try dsimp only at hc
  try dsimp only
  refine AWp.body rfl ?_
  repeat' first
    | ((with_reducible refine hK _ _ ?_); clear hK K)
    | ((with_reducible refine hK _ _ (by kernel_rfl) ?_); clear hK K)
    | ((with_reducible refine AWp.pS Th_ok G_t_Group_ok [0, 1, 2, 3] (by decide) ?_); intro K hK)
    | ((with_reducible refine AWp.dS (by kernel_rfl) Th_ok G_t_Group_ok [0, 1, 2, 3] ?_); intro K hK)
    | ((with_reducible refine AWp.pE Th_ok G_t_Group_ok [0, 1, 2, 3] (by decide) ?_); intro K hK)
    | ((with_reducible refine AWp.dE (by kernel_rfl) Th_ok G_t_Group_ok [0, 1, 2, 3] ?_); intro K hK)
    | ((first | with_reducible refine runF_id ?_ | with_reducible refine stepF_id ?_); simp (maxSteps := 2000000) only [runF, stepF, forkOf, gdOf, List.toList_toArray, stepOp, look, opAV, pureOp, callOp, memOp, AS.ev, AS.get, AS.obj, initS, initFrom, AV.cells, AS.upd, Option.bind_some, Option.bind_none, Option.map_some, Option.map_none, Option.getD_none, Option.getD_some, ↓reduceIte, Nat.reduceEqDiff, Nat.reduceAdd, Nat.reduceMul, Nat.reduceSub, List.nil_append, List.append_nil, List.cons_append, List.map_cons, List.map_nil, true_and, and_true, AS.fin, pick, dedup, List.mem_cons, List.not_mem_nil, or_false, false_or, List.size_toArray, List.length_cons, List.length_nil, loadAV, List.drop_zero, List.drop_succ_cons, List.take_zero, List.take_succ_cons, List.getElem?_cons_zero, List.getElem?_cons_succ, List.head?_cons, List.mapM_cons, List.mapM_nil, Option.bind_eq_bind, Option.pure_def, deeps3, deep3, deep2, deep1, deeps, deeps2, mixInts, AV.plain, mk, mkD, DCon.lift, DCon.runC, ren3, ren2, ren1, numb, List.zipIdx_nil, List.zipIdx_cons, List.all_nil, List.all_cons, Nat.reduceLeDiff, List.range, List.range.loop, Ty.sz, beq_self_eq_true, Bool.and_self, and_self, Ty.ofC, AO.isDead, Nat.reduceLT, if_true, Nat.zero_add, Nat.add_zero, ite_true, Nat.le_refl, Bool.false_eq_true, reduceCtorEq, if_false, ite_false, binAV, AO.ren, AV.isCell, fillAV, List.set_cons_zero, List.set_cons_succ, Ty.cells, Ty.flat, Ty.dflt, List.getD_cons_zero, List.getD_cons_succ, Int.reduceToNat, Int.reduceSub, Int.reduceAdd, Int.reduceMul, Int.reduceNeg, forall_eq_or_imp, forall_eq, gdL, id_eq, Nat.lt_irrefl, srcOf, List.replicate_succ, List.replicate_zero, dite_true, List.isEmpty_cons, Option.isSome_some, List.length_append, List.length_singleton, bne_self_eq_false, Bool.not_true, Bool.not_false, conF, asArgs, asArg, asTy, asI1, asB1, asS1, asL1, canons, canon, Fork.true_, Fork.false_, bne, Bool.not_not, List.length_map, pickO, AS.over, TI.bl, bne_iff_ne, AS.over2, without, keys, List.mem_singleton, memOp2, memOp3, absorb, abInt, abBool, abStr, abList, gones, Int.toNat_natCast, List.take_length, subE, List.nodup_cons, List.nodup_nil, not_false_eq_true, Nat.sub_self, conR, asG, asI, asBo, asStr, asIs, asBs, asE4, asI2, asI3, asLL, asLLL, Th_int, Th_bool, Th_implGroup, Th_lawsGroup, Th_string, G_t_Group, hL])
    | ((with_reducible refine and_id ?_); (generalize hv : M.chal p q g _ _ = v); have bv : 0 ≤ v ∧ v < q := by rw [← hv]; exact chal_bd (by omega) _ _)
    | ((with_reducible refine and_id ?_); (generalize hv : cmt p q g _ _ _ = v); have bv : 0 ≤ v ∧ v < p := by rw [← hv]; exact cmt_bd (by omega))
    | ((with_reducible refine and_id ?_); (generalize hv : M.gpw p q _ _ = v); have bv : 0 ≤ v ∧ v < p := by rw [← hv]; exact gpw_bd (by omega))
    | ((with_reducible refine and_id ?_); (generalize hv : M.mulL p _ = v); have bv : 0 ≤ v ∧ v < p := by rw [← hv]; exact mulL_bd' (by omega))
    | ((with_reducible refine ens_step ?_ (fun hE => ?_)); · ((repeat' with_reducible apply And.intro) <;> first | with_reducible assumption | omega | exact True.intro | with_reducible rfl | (show ByteArray.size _ ≤ _; decide) | (simp; done) | (simp; omega) | rfl))
    | ((with_reducible refine And.intro ?_ ?_); · ((repeat' with_reducible apply And.intro) <;> first | with_reducible assumption | omega | exact True.intro | with_reducible rfl | (show ByteArray.size _ ≤ _; decide) | (simp; done) | (simp; omega) | rfl))
    | ((with_reducible refine Fork.intro (fun h' => ?_) (fun h' => ?_)) <;> (try simp only [Bool.not_eq_true', Bool.not_eq_false', bne] at h') <;> (replace hL := And.intro h' hL) <;> (try simp only [decide_eq_true_eq, decide_eq_false_iff_not, beq_iff_eq, beq_eq_false_iff_ne, ne_eq] at h'))
    | (with_reducible refine AWp.skipS ?_)
    | ((with_reducible refine AWp.condT rfl ?_))
    | ((with_reducible refine AWp.condF rfl ?_))
    | (with_reducible refine AWp.condB rfl ?_)
    | (with_reducible refine AWp.ret ?_)
    | (with_reducible refine seqQ_n ?_)
    | (with_reducible refine seqQ_ret ?_)
    | (with_reducible refine blkQ_ret ?_)
    | (with_reducible refine blkQ_n ?_)
    | (with_reducible refine seqQ_exit ?_)
    | (with_reducible refine blkQ_exit ?_)
    | (with_reducible refine blkQ_other (by decide) ?_)
    | (with_reducible refine AWp.block ?_)
    | (with_reducible refine AWp.exit ?_)
    | (with_reducible refine AWp.skip ?_)
    | ((with_reducible refine EndsAt_id ?_); (try subst_vars); refine EndsAt.done [] (by first | exact .inr rfl | exact .inl rfl) rfl rfl ?_ ?_ <;> first | decide | (repeat' (first | rfl | apply And.intro | trivial)))
    | (with_reducible refine AWp.seq ?_)⟩
end Go.Proofs.Ytgnnmifpfgpllaa
