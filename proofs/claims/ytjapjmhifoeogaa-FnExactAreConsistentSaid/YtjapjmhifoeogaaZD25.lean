import Derived.Test.YtjapjmhifoeogaaZMath5
/- Reconstruct and AreConsistent on both sides. -/
set_option linter.all false
set_option linter.unusedVariables false
set_option linter.unusedSimpArgs false
namespace Go.Proofs.Ytjapjmhifoeogaa
open Go.RowKit
noncomputable def c_areTru : Con0 := fun args => match args with
  | [a0, .fn (.func f) []] => match asIs a0 with
    | some xs => if f = 91 then some (True, .lit (.bool (allIn 1 7 xs)), []) else none
    | none => none
  | _ => none
theorem ok_areTru : (mk c_areTru).ok Try.prog 120 := Con0.okLit (enter_of Try.func120 (by kernel_rfl) (by kernel_rfl)) fun args c x obs h => by
  unfold c_areTru at h
  split at h
  · split at h
    · rename_i xs e0
      split at h
      · rename_i hf
        subst hf
        cases h
        refine ⟨rfl, _, rfl, fun hc w vs hv => ?_⟩
        obtain ⟨u0, vs, rfl, r0, h0⟩ := hv.cons_of
        obtain ⟨u1, vs, rfl, r1, h1⟩ := h0.cons_of
        rw [h1.nil_of]
        obtain ⟨A_xs, c_xs, rfl, hx_xs, hl_xs, hc_xs⟩ := asIs_sound e0 r0
        obtain ⟨us, rfl, hus⟩ := r1.fn_of
        rw [hus.nil_of]
        exact areAll_any 91 #[] #[] (fun x => inr x 1 7) A_xs c_xs xs w (enter_of Try.func91 (by kernel_rfl) (by kernel_rfl)) hx_xs hl_xs fun x _ W _ => (isTrustee_any x W).mono fun e W' hW => ⟨hW.1, hW.2 ▸ Below.refl _ _⟩
      · cases h
    · cases h
  · cases h
theorem any_hasN (v : Int) (xs : List Int) : xs.any (fun (x : Int) => v == x) = hasN v xs := by
  unfold hasN; congr 1; funext x; rw [Bool.eq_iff_iff, beq_iff_eq, beq_iff_eq]; exact eq_comm
noncomputable def c_Index : Con0 := conF [(.list .int), .int] fun (⟨xs, v, _⟩ : (List Int) × Int × Unit) => (xs.length ≤ 9223372036854775806, .lit (.int .i64 (idxF (fun (x : Int) => v == x) xs 0)), [])
noncomputable def G_Index : List (FuncId × Con) := []
theorem G_Index_ok : ∀ f C, (f, C) ∈ G_Index → C.ok Try.prog f := by
  intro f C h
  simp only [G_Index, List.mem_cons, Prod.mk.injEq, List.not_mem_nil, or_false] at h
set_option maxRecDepth 100000 in
set_option maxHeartbeats 4000000 in
theorem ok_Index : (mk c_Index).ok Try.prog 162 := okF (Θ := Th) (N := 19) (rs := [.tmp 4]) Th_ok Try.func162 (by kernel_rfl) rfl Try.results162 (by decide) (by kernel_rfl) fun (⟨xs, v, _⟩ : (List Int) × Int × Unit) => ⟨rfl, rfl, Nat.le_of_ble_eq_true rfl, fun hc w0 => by
  have hL := dmy_eq
  try dsimp only at hc
  try dsimp only
  have hxl := hc
  refine AWp.body rfl ?_
  repeat' first
    | ((with_reducible refine hK _ _ ?_); clear hK K)
    | ((with_reducible refine hK _ _ (by kernel_rfl) ?_); clear hK K)
    | ((with_reducible refine AWp.pS Th_ok G_Index_ok [0, 1, 4, 5, 7, 8, 9, 16] (by decide) ?_); intro K hK)
    | ((with_reducible refine AWp.dS (by kernel_rfl) Th_ok G_Index_ok [0, 1, 4, 5, 7, 8, 9, 16] ?_); intro K hK)
    | ((with_reducible refine AWp.pE Th_ok G_Index_ok [0, 1, 4, 5, 7, 8, 9, 16] (by decide) ?_); intro K hK)
    | ((with_reducible refine AWp.dE (by kernel_rfl) Th_ok G_Index_ok [0, 1, 4, 5, 7, 8, 9, 16] ?_); intro K hK)
    | ((first | with_reducible refine runF_id ?_ | with_reducible refine stepF_id ?_); simp (maxSteps := 2000000) only [runF, stepF, forkOf, gdOf, List.toList_toArray, stepOp, look, opAV, pureOp, callOp, memOp, AS.ev, AS.get, AS.obj, initS, initFrom, AV.cells, AS.upd, Option.bind_some, Option.bind_none, Option.map_some, Option.map_none, Option.getD_none, Option.getD_some, ↓reduceIte, Nat.reduceEqDiff, Nat.reduceAdd, Nat.reduceMul, Nat.reduceSub, List.nil_append, List.append_nil, List.cons_append, List.map_cons, List.map_nil, true_and, and_true, AS.fin, pick, dedup, List.mem_cons, List.not_mem_nil, or_false, false_or, List.size_toArray, List.length_cons, List.length_nil, loadAV, List.drop_zero, List.drop_succ_cons, List.take_zero, List.take_succ_cons, List.getElem?_cons_zero, List.getElem?_cons_succ, List.head?_cons, List.mapM_cons, List.mapM_nil, Option.bind_eq_bind, Option.pure_def, deeps3, deep3, deep2, deep1, deeps, deeps2, mixInts, AV.plain, mk, mkD, DCon.lift, DCon.runC, ren3, ren2, ren1, numb, List.zipIdx_nil, List.zipIdx_cons, List.all_nil, List.all_cons, Nat.reduceLeDiff, List.range, List.range.loop, Ty.sz, beq_self_eq_true, Bool.and_self, and_self, Ty.ofC, AO.isDead, Nat.reduceLT, if_true, Nat.zero_add, Nat.add_zero, ite_true, Nat.le_refl, Bool.false_eq_true, reduceCtorEq, if_false, ite_false, binAV, AO.ren, AV.isCell, fillAV, List.set_cons_zero, List.set_cons_succ, Ty.cells, Ty.flat, Ty.dflt, List.getD_cons_zero, List.getD_cons_succ, Int.reduceToNat, Int.reduceSub, Int.reduceAdd, Int.reduceMul, Int.reduceNeg, forall_eq_or_imp, forall_eq, gdL, id_eq, Nat.lt_irrefl, srcOf, List.replicate_succ, List.replicate_zero, dite_true, List.isEmpty_cons, Option.isSome_some, List.length_append, List.length_singleton, bne_self_eq_false, Bool.not_true, Bool.not_false, conF, asArgs, asArg, asTy, asI1, asB1, asS1, asL1, canons, canon, Fork.true_, Fork.false_, bne, Bool.not_not, List.length_map, pickO, AS.over, TI.bl, bne_iff_ne, AS.over2, without, keys, List.mem_singleton, memOp2, memOp3, absorb, abInt, abBool, abStr, abList, gones, Int.toNat_natCast, List.take_length, subE, List.nodup_cons, List.nodup_nil, not_false_eq_true, Nat.sub_self, conR, asG, asI, asBo, asStr, asIs, asBs, asE4, asI2, asI3, asLL, asLLL, Th_int, Th_Sint, G_Index, hL])
    | ((with_reducible refine ens_step ?_ (fun hE => ?_)); · ((repeat' with_reducible apply And.intro) <;> first | with_reducible assumption | omega | exact True.intro | with_reducible rfl | (show ByteArray.size _ ≤ _; decide) | (simp; done) | (simp; omega) | rfl))
    | ((with_reducible refine And.intro ?_ ?_); · ((repeat' with_reducible apply And.intro) <;> first | with_reducible assumption | omega | exact True.intro | with_reducible rfl | (show ByteArray.size _ ≤ _; decide) | (simp; done) | (simp; omega) | rfl))
    | ((with_reducible refine Fork.intro (fun h' => ?_) (fun h' => ?_)) <;> (try simp only [Bool.not_eq_true', Bool.not_eq_false', bne] at h') <;> (replace hL := And.intro h' hL) <;> (try simp only [decide_eq_true_eq, decide_eq_false_iff_not, beq_iff_eq, beq_eq_false_iff_ne, ne_eq] at h') <;> (try (have hnx := ixf_next (p := fun (x : Int) => v == x) (d := 0) (xs := xs) (k := k) (by omega) (beq_eq_false_iff_ne.2 h'); rw [hnx] at hk2)) <;> (try (have hxh := ixf_hit (p := fun (x : Int) => v == x) (d := 0) (xs := xs) (k := k) (by omega) (beq_iff_eq.2 h'); rw [hxh] at hk2)) <;> (try (have hke : k = xs.length := (by omega); subst hke)))
    | (with_reducible refine AWp.skipS ?_)
    | ((with_reducible refine AWp.condT rfl ?_))
    | ((with_reducible refine AWp.condF rfl ?_))
    | (with_reducible refine AWp.condB rfl ?_)
    | (with_reducible refine AWp.ret ?_)
    | (with_reducible refine seqQ_n ?_)
    | (with_reducible refine seqQ_ret ?_)
    | (with_reducible refine blkQ_ret ?_)
    | (with_reducible refine blkQ_n ?_)
    | (with_reducible refine seqQ_exit ?_)
    | (with_reducible refine blkQ_exit ?_)
    | (with_reducible refine blkQ_other (by decide) ?_)
    | (with_reducible refine AWp.block ?_)
    | (with_reducible refine AWp.exit ?_)
    | (with_reducible refine AWp.skip ?_)
    | ((with_reducible refine loop_id ?_); refine AWp.loopAt 2 rfl ?_; refine AWp.loopO [4, 5, 8, 9, 10, 11, 12, 13, 14, 15, 16, 17, 18] (fun k => [(8, .lit (.int .i64 (k : Nat)))]) (fun k => []) (fun k => k ≤ xs.length ∧ idxF (fun (x : Int) => v == x) xs 0 = idxF (fun (x : Int) => v == x) (xs.drop k) k) (fun k => xs.length - k) 0 (by exact ⟨by omega, by simp⟩) (by refine Sub.auto (by first | exact frok0 | assumption) rfl rfl ?_ ?_ <;> (try simp only [subE, AS.over2, without, keys, look, List.cons_append, List.nil_append, List.append_nil, List.mem_cons, List.not_mem_nil, or_false, or_true, true_or, false_or, Nat.reduceEqDiff, ↓reduceIte, Option.some.injEq, AV.lit.injEq, Value.int.injEq, Value.bool.injEq, AV.own.injEq, AO.row.injEq, AO.box.injEq, List.cons.injEq, AV.agg.injEq, AV.sl.injEq, true_and, and_true, and_self, heq_eq_eq, List.length_nil, List.length_cons, List.map_nil, List.take_zero, Int.natCast_add, Int.cast_ofNat_Int, Int.natCast_zero, List.length_append, List.length_map, List.length_take, Nat.zero_add]) <;> (simp)) (fun k hk_2 L2 hLoop2 => ?_); obtain ⟨hk1, hk2⟩ := hk_2)
    | ((with_reducible refine seqQ_f ?_); refine hLoop2 (k + 1) _ (by exact ⟨by omega, hk2⟩) (by omega) ?_; (refine Sub.auto (by first | exact frok0 | assumption) rfl rfl ?_ ?_ <;> (try simp only [subE, AS.over2, without, keys, look, List.cons_append, List.nil_append, List.append_nil, List.mem_cons, List.not_mem_nil, or_false, or_true, true_or, false_or, Nat.reduceEqDiff, ↓reduceIte, Option.some.injEq, AV.lit.injEq, Value.int.injEq, Value.bool.injEq, AV.own.injEq, AO.row.injEq, AO.box.injEq, List.cons.injEq, AV.agg.injEq, AV.sl.injEq, true_and, and_true, and_self, heq_eq_eq, List.length_nil, List.length_cons, List.map_nil, List.take_zero, Int.natCast_add, Int.cast_ofNat_Int, Int.natCast_zero, List.length_append, List.length_map, List.length_take, Nat.zero_add]) <;> (omega)))
    | ((with_reducible refine EndsAt_id ?_); (try subst_vars); first | (rw [hk2]; refine EndsAt.done [] (by first | exact .inr rfl | exact .inl rfl) rfl rfl (by decide) trivial) | (rw [hk2, ixf_end]; refine EndsAt.done [] (by first | exact .inr rfl | exact .inl rfl) rfl rfl (by decide) trivial))
    | (with_reducible refine AWp.seq ?_)⟩
noncomputable def c_Contains : Con0 := conF [(.list .int), .int] fun (⟨xs, v, _⟩ : (List Int) × Int × Unit) => (xs.length ≤ 9223372036854775806, .lit (.bool (hasN v xs)), [])
noncomputable def G_Contains : List (FuncId × Con) := [(162, mk c_Index)]
theorem G_Contains_ok : ∀ f C, (f, C) ∈ G_Contains → C.ok Try.prog f := by
  intro f C h
  simp only [G_Contains, List.mem_cons, Prod.mk.injEq, List.not_mem_nil, or_false] at h
  obtain ⟨rfl, rfl⟩ := h
  exact ok_Index
set_option maxRecDepth 100000 in
set_option maxHeartbeats 4000000 in
theorem ok_Contains : (mk c_Contains).ok Try.prog 158 := okF (Θ := Th) (N := 9) (rs := [.tmp 4]) Th_ok Try.func158 (by kernel_rfl) rfl Try.results158 (by decide) (by kernel_rfl) fun (⟨xs, v, _⟩ : (List Int) × Int × Unit) => ⟨rfl, rfl, Nat.le_of_ble_eq_true rfl, fun hc w0 => by
  have hL := dmy_eq
  try dsimp only at hc
  try dsimp only
  have hxl := hc
  refine AWp.body rfl ?_
  repeat' first
    | ((with_reducible refine hK _ _ ?_); clear hK K)
    | ((with_reducible refine hK _ _ (by kernel_rfl) ?_); clear hK K)
    | ((with_reducible refine AWp.pS Th_ok G_Contains_ok [0, 1, 4] (by decide) ?_); intro K hK)
    | ((with_reducible refine AWp.dS (by kernel_rfl) Th_ok G_Contains_ok [0, 1, 4] ?_); intro K hK)
    | ((with_reducible refine AWp.pE Th_ok G_Contains_ok [0, 1, 4] (by decide) ?_); intro K hK)
    | ((with_reducible refine AWp.dE (by kernel_rfl) Th_ok G_Contains_ok [0, 1, 4] ?_); intro K hK)
    | ((first | with_reducible refine runF_id ?_ | with_reducible refine stepF_id ?_); simp (maxSteps := 2000000) only [runF, stepF, forkOf, gdOf, List.toList_toArray, stepOp, look, opAV, pureOp, callOp, memOp, AS.ev, AS.get, AS.obj, initS, initFrom, AV.cells, AS.upd, Option.bind_some, Option.bind_none, Option.map_some, Option.map_none, Option.getD_none, Option.getD_some, ↓reduceIte, Nat.reduceEqDiff, Nat.reduceAdd, Nat.reduceMul, Nat.reduceSub, List.nil_append, List.append_nil, List.cons_append, List.map_cons, List.map_nil, true_and, and_true, AS.fin, pick, dedup, List.mem_cons, List.not_mem_nil, or_false, false_or, List.size_toArray, List.length_cons, List.length_nil, loadAV, List.drop_zero, List.drop_succ_cons, List.take_zero, List.take_succ_cons, List.getElem?_cons_zero, List.getElem?_cons_succ, List.head?_cons, List.mapM_cons, List.mapM_nil, Option.bind_eq_bind, Option.pure_def, deeps3, deep3, deep2, deep1, deeps, deeps2, mixInts, AV.plain, mk, mkD, DCon.lift, DCon.runC, ren3, ren2, ren1, numb, List.zipIdx_nil, List.zipIdx_cons, List.all_nil, List.all_cons, Nat.reduceLeDiff, List.range, List.range.loop, Ty.sz, beq_self_eq_true, Bool.and_self, and_self, Ty.ofC, AO.isDead, Nat.reduceLT, if_true, Nat.zero_add, Nat.add_zero, ite_true, Nat.le_refl, Bool.false_eq_true, reduceCtorEq, if_false, ite_false, binAV, AO.ren, AV.isCell, fillAV, List.set_cons_zero, List.set_cons_succ, Ty.cells, Ty.flat, Ty.dflt, List.getD_cons_zero, List.getD_cons_succ, Int.reduceToNat, Int.reduceSub, Int.reduceAdd, Int.reduceMul, Int.reduceNeg, forall_eq_or_imp, forall_eq, gdL, id_eq, Nat.lt_irrefl, srcOf, List.replicate_succ, List.replicate_zero, dite_true, List.isEmpty_cons, Option.isSome_some, List.length_append, List.length_singleton, bne_self_eq_false, Bool.not_true, Bool.not_false, conF, asArgs, asArg, asTy, asI1, asB1, asS1, asL1, canons, canon, Fork.true_, Fork.false_, bne, Bool.not_not, List.length_map, pickO, AS.over, TI.bl, bne_iff_ne, AS.over2, without, keys, List.mem_singleton, memOp2, memOp3, absorb, abInt, abBool, abStr, abList, gones, Int.toNat_natCast, List.take_length, subE, List.nodup_cons, List.nodup_nil, not_false_eq_true, Nat.sub_self, conR, asG, asI, asBo, asStr, asIs, asBs, asE4, asI2, asI3, asLL, asLLL, Th_int, Th_Sint, G_Contains, c_Index, hL])
    | ((with_reducible refine ens_step ?_ (fun hE => ?_)); · ((repeat' with_reducible apply And.intro) <;> first | with_reducible assumption | omega | exact True.intro | with_reducible rfl | (show ByteArray.size _ ≤ _; decide) | (simp; done) | (simp; omega) | rfl))
    | ((with_reducible refine And.intro ?_ ?_); · ((repeat' with_reducible apply And.intro) <;> first | with_reducible assumption | omega | exact True.intro | with_reducible rfl | (show ByteArray.size _ ≤ _; decide) | (simp; done) | (simp; omega) | rfl))
    | ((with_reducible refine Fork.intro (fun h' => ?_) (fun h' => ?_)) <;> (try simp only [Bool.not_eq_true', Bool.not_eq_false', bne] at h') <;> (replace hL := And.intro h' hL) <;> (try simp only [decide_eq_true_eq, decide_eq_false_iff_not, beq_iff_eq, beq_eq_false_iff_ne, ne_eq] at h'))
    | (with_reducible refine AWp.skipS ?_)
    | ((with_reducible refine AWp.condT rfl ?_))
    | ((with_reducible refine AWp.condF rfl ?_))
    | (with_reducible refine AWp.condB rfl ?_)
    | (with_reducible refine AWp.ret ?_)
    | (with_reducible refine seqQ_n ?_)
    | (with_reducible refine seqQ_ret ?_)
    | (with_reducible refine blkQ_ret ?_)
    | (with_reducible refine blkQ_n ?_)
    | (with_reducible refine seqQ_exit ?_)
    | (with_reducible refine blkQ_exit ?_)
    | (with_reducible refine blkQ_other (by decide) ?_)
    | (with_reducible refine AWp.block ?_)
    | (with_reducible refine AWp.exit ?_)
    | (with_reducible refine AWp.skip ?_)
    | ((with_reducible refine EndsAt_id ?_); (try subst_vars); rw [← any_hasN, ← ixf_any _ xs 0]; refine EndsAt.done [] (by first | exact .inr rfl | exact .inl rfl) rfl rfl (by decide) trivial)
    | (with_reducible refine AWp.seq ?_)⟩
noncomputable def c_areDifferent : Con0 := conF [(.list .int)] fun (⟨xs, _⟩ : (List Int) × Unit) => (xs.length ≤ 9223372036854775806, .lit (.bool (difB xs)), [])
noncomputable def G_areDifferent : List (FuncId × Con) := [(158, mk c_Contains)]
theorem G_areDifferent_ok : ∀ f C, (f, C) ∈ G_areDifferent → C.ok Try.prog f := by
  intro f C h
  simp only [G_areDifferent, List.mem_cons, Prod.mk.injEq, List.not_mem_nil, or_false] at h
  obtain ⟨rfl, rfl⟩ := h
  exact ok_Contains
set_option maxRecDepth 100000 in
set_option maxHeartbeats 4000000 in
theorem ok_areDifferent : (mk c_areDifferent).ok Try.prog 152 := okF (Θ := Th) (N := 18) (rs := [.tmp 2]) Th_ok Try.func152 (by kernel_rfl) rfl Try.results152 (by decide) (by kernel_rfl) fun (⟨xs, _⟩ : (List Int) × Unit) => ⟨rfl, rfl, Nat.le_of_ble_eq_true rfl, fun hc w0 => by
  have hL := dmy_eq
  try dsimp only at hc
  try dsimp only
  have hxl := hc
  refine AWp.body rfl ?_
  repeat' first
    | ((with_reducible refine hK _ _ ?_); clear hK K)
    | ((with_reducible refine hK _ _ (by kernel_rfl) ?_); clear hK K)
    | ((with_reducible refine AWp.pS Th_ok G_areDifferent_ok [0, 2, 3, 4, 5, 6, 7, 8, 16] (by decide) ?_); intro K hK)
    | ((with_reducible refine AWp.dS (by kernel_rfl) Th_ok G_areDifferent_ok [0, 2, 3, 4, 5, 6, 7, 8, 16] ?_); intro K hK)
    | ((with_reducible refine AWp.pE Th_ok G_areDifferent_ok [0, 2, 3, 4, 5, 6, 7, 8, 16] (by decide) ?_); intro K hK)
    | ((with_reducible refine AWp.dE (by kernel_rfl) Th_ok G_areDifferent_ok [0, 2, 3, 4, 5, 6, 7, 8, 16] ?_); intro K hK)
    | ((first | with_reducible refine runF_id ?_ | with_reducible refine stepF_id ?_); simp (maxSteps := 2000000) only [runF, stepF, forkOf, gdOf, List.toList_toArray, stepOp, look, opAV, pureOp, callOp, memOp, AS.ev, AS.get, AS.obj, initS, initFrom, AV.cells, AS.upd, Option.bind_some, Option.bind_none, Option.map_some, Option.map_none, Option.getD_none, Option.getD_some, ↓reduceIte, Nat.reduceEqDiff, Nat.reduceAdd, Nat.reduceMul, Nat.reduceSub, List.nil_append, List.append_nil, List.cons_append, List.map_cons, List.map_nil, true_and, and_true, AS.fin, pick, dedup, List.mem_cons, List.not_mem_nil, or_false, false_or, List.size_toArray, List.length_cons, List.length_nil, loadAV, List.drop_zero, List.drop_succ_cons, List.take_zero, List.take_succ_cons, List.getElem?_cons_zero, List.getElem?_cons_succ, List.head?_cons, List.mapM_cons, List.mapM_nil, Option.bind_eq_bind, Option.pure_def, deeps3, deep3, deep2, deep1, deeps, deeps2, mixInts, AV.plain, mk, mkD, DCon.lift, DCon.runC, ren3, ren2, ren1, numb, List.zipIdx_nil, List.zipIdx_cons, List.all_nil, List.all_cons, Nat.reduceLeDiff, List.range, List.range.loop, Ty.sz, beq_self_eq_true, Bool.and_self, and_self, Ty.ofC, AO.isDead, Nat.reduceLT, if_true, Nat.zero_add, Nat.add_zero, ite_true, Nat.le_refl, Bool.false_eq_true, reduceCtorEq, if_false, ite_false, binAV, AO.ren, AV.isCell, fillAV, List.set_cons_zero, List.set_cons_succ, Ty.cells, Ty.flat, Ty.dflt, List.getD_cons_zero, List.getD_cons_succ, Int.reduceToNat, Int.reduceSub, Int.reduceAdd, Int.reduceMul, Int.reduceNeg, forall_eq_or_imp, forall_eq, gdL, id_eq, Nat.lt_irrefl, srcOf, List.replicate_succ, List.replicate_zero, dite_true, List.isEmpty_cons, Option.isSome_some, List.length_append, List.length_singleton, bne_self_eq_false, Bool.not_true, Bool.not_false, conF, asArgs, asArg, asTy, asI1, asB1, asS1, asL1, canons, canon, Fork.true_, Fork.false_, bne, Bool.not_not, List.length_map, pickO, AS.over, TI.bl, bne_iff_ne, AS.over2, without, keys, List.mem_singleton, memOp2, memOp3, absorb, abInt, abBool, abStr, abList, gones, Int.toNat_natCast, List.take_length, subE, List.nodup_cons, List.nodup_nil, not_false_eq_true, Nat.sub_self, conR, asG, asI, asBo, asStr, asIs, asBs, asE4, asI2, asI3, asLL, asLLL, Th_int, Th_Sint, Th_bool, Th_string, G_areDifferent, c_Contains, hL])
    | ((with_reducible refine ens_step ?_ (fun hE => ?_)); · ((repeat' with_reducible apply And.intro) <;> first | with_reducible assumption | omega | exact True.intro | with_reducible rfl | (show ByteArray.size _ ≤ _; decide) | (simp; done) | (simp; omega) | rfl))
    | ((with_reducible refine And.intro ?_ ?_); · ((repeat' with_reducible apply And.intro) <;> first | with_reducible assumption | omega | exact True.intro | with_reducible rfl | (show ByteArray.size _ ≤ _; decide) | (simp; done) | (simp; omega) | rfl))
    | ((with_reducible refine Fork.intro (fun h' => ?_) (fun h' => ?_)) <;> (try simp only [Bool.not_eq_true', Bool.not_eq_false', bne] at h') <;> (replace hL := And.intro h' hL) <;> (try simp only [decide_eq_true_eq, decide_eq_false_iff_not, beq_iff_eq, beq_eq_false_iff_ne, ne_eq] at h') <;> (try (have hdb := dif_bad (k := k) (by omega) hL.1; replace hL := And.intro hdb hL)) <;> (try (have hnd := dif_next (k := k) (by omega) hk2 hL.1)) <;> (try (have hke : k = xs.length := (by omega); subst hke; have hde := dif_end hk2; replace hL := And.intro hde hL)))
    | (with_reducible refine AWp.skipS ?_)
    | ((with_reducible refine AWp.condT rfl ?_))
    | ((with_reducible refine AWp.condF rfl ?_))
    | (with_reducible refine AWp.condB rfl ?_)
    | (with_reducible refine AWp.ret ?_)
    | (with_reducible refine seqQ_n ?_)
    | (with_reducible refine seqQ_ret ?_)
    | (with_reducible refine blkQ_ret ?_)
    | (with_reducible refine blkQ_n ?_)
    | (with_reducible refine seqQ_exit ?_)
    | (with_reducible refine blkQ_exit ?_)
    | (with_reducible refine blkQ_other (by decide) ?_)
    | (with_reducible refine AWp.block ?_)
    | (with_reducible refine AWp.exit ?_)
    | (with_reducible refine AWp.skip ?_)
    | ((with_reducible refine loop_id ?_); refine AWp.loopAt 2 rfl ?_; refine AWp.loopO [2, 3, 4, 7, 8, 9, 10, 11, 12, 13, 14, 15, 16, 17] (fun k => [(7, .lit (.int .i64 (k : Nat)))]) (fun k => []) (fun k => k ≤ xs.length ∧ (xs.take k).Nodup) (fun k => xs.length - k) 0 (by exact ⟨by omega, by simp⟩) (by refine Sub.auto (by first | exact frok0 | assumption) rfl rfl ?_ ?_ <;> (try simp only [subE, AS.over2, without, keys, look, List.cons_append, List.nil_append, List.append_nil, List.mem_cons, List.not_mem_nil, or_false, or_true, true_or, false_or, Nat.reduceEqDiff, ↓reduceIte, Option.some.injEq, AV.lit.injEq, Value.int.injEq, Value.bool.injEq, AV.own.injEq, AO.row.injEq, AO.box.injEq, List.cons.injEq, AV.agg.injEq, AV.sl.injEq, true_and, and_true, and_self, heq_eq_eq, List.length_nil, List.length_cons, List.map_nil, List.take_zero, Int.natCast_add, Int.cast_ofNat_Int, Int.natCast_zero, List.length_append, List.length_map, List.length_take, Nat.zero_add]) <;> (simp)) (fun k hk_2 L2 hLoop2 => ?_); obtain ⟨hk1, hk2⟩ := hk_2)
    | ((with_reducible refine seqQ_f ?_); refine hLoop2 (k + 1) _ (by exact ⟨by omega, hnd⟩) (by omega) ?_; (refine Sub.auto (by first | exact frok0 | assumption) rfl rfl ?_ ?_ <;> (try simp only [subE, AS.over2, without, keys, look, List.cons_append, List.nil_append, List.append_nil, List.mem_cons, List.not_mem_nil, or_false, or_true, true_or, false_or, Nat.reduceEqDiff, ↓reduceIte, Option.some.injEq, AV.lit.injEq, Value.int.injEq, Value.bool.injEq, AV.own.injEq, AO.row.injEq, AO.box.injEq, List.cons.injEq, AV.agg.injEq, AV.sl.injEq, true_and, and_true, and_self, heq_eq_eq, List.length_nil, List.length_cons, List.map_nil, List.take_zero, Int.natCast_add, Int.cast_ofNat_Int, Int.natCast_zero, List.length_append, List.length_map, List.length_take, Nat.zero_add]) <;> (omega)))
    | ((with_reducible refine EndsAt_id ?_); (try subst_vars); (try simp only [id_eq, hL, List.length_cons, List.length_nil, Nat.zero_add, Nat.reduceAdd, Bool.and_true, Bool.and_false, Bool.true_and, Bool.false_and, Bool.and_self, ↓reduceIte, Bool.false_eq_true, Bool.not_true, Bool.not_false, bne]); refine EndsAt.done [] (by first | exact .inr rfl | exact .inl rfl) rfl rfl ?_ ?_ <;> first | decide | (repeat' (first | rfl | apply And.intro | trivial)))
    | (with_reducible refine AWp.seq ?_)⟩
noncomputable def c_yPoints : Con0 := conF [(.list .int)] fun (⟨xs, _⟩ : (List Int) × Unit) => (xs.length ≤ 9223372036854775806, .lit (.bool (difB xs)), [])
noncomputable def G_yPoints : List (FuncId × Con) := [(138, mk c_l1Has)]
theorem G_yPoints_ok : ∀ f C, (f, C) ∈ G_yPoints → C.ok Try.prog f := by
  intro f C h
  simp only [G_yPoints, List.mem_cons, Prod.mk.injEq, List.not_mem_nil, or_false] at h
  obtain ⟨rfl, rfl⟩ := h
  exact ok_l1Has
set_option maxRecDepth 100000 in
set_option maxHeartbeats 4000000 in
theorem ok_yPoints : (mk c_yPoints).ok Try.prog 103 := okF (Θ := Th) (N := 18) (rs := [.tmp 2]) Th_ok Try.func103 (by kernel_rfl) rfl Try.results103 (by decide) (by kernel_rfl) fun (⟨xs, _⟩ : (List Int) × Unit) => ⟨rfl, rfl, Nat.le_of_ble_eq_true rfl, fun hc w0 => by
  have hL := dmy_eq
  try dsimp only at hc
  try dsimp only
  have hxl := hc
  refine AWp.body rfl ?_
  repeat' first
    | ((with_reducible refine hK _ _ ?_); clear hK K)
    | ((with_reducible refine hK _ _ (by kernel_rfl) ?_); clear hK K)
    | ((with_reducible refine AWp.pS Th_ok G_yPoints_ok [0, 2, 3, 4, 5, 6, 7, 8, 16] (by decide) ?_); intro K hK)
    | ((with_reducible refine AWp.dS (by kernel_rfl) Th_ok G_yPoints_ok [0, 2, 3, 4, 5, 6, 7, 8, 16] ?_); intro K hK)
    | ((with_reducible refine AWp.pE Th_ok G_yPoints_ok [0, 2, 3, 4, 5, 6, 7, 8, 16] (by decide) ?_); intro K hK)
    | ((with_reducible refine AWp.dE (by kernel_rfl) Th_ok G_yPoints_ok [0, 2, 3, 4, 5, 6, 7, 8, 16] ?_); intro K hK)
    | ((first | with_reducible refine runF_id ?_ | with_reducible refine stepF_id ?_); simp (maxSteps := 2000000) only [runF, stepF, forkOf, gdOf, List.toList_toArray, stepOp, look, opAV, pureOp, callOp, memOp, AS.ev, AS.get, AS.obj, initS, initFrom, AV.cells, AS.upd, Option.bind_some, Option.bind_none, Option.map_some, Option.map_none, Option.getD_none, Option.getD_some, ↓reduceIte, Nat.reduceEqDiff, Nat.reduceAdd, Nat.reduceMul, Nat.reduceSub, List.nil_append, List.append_nil, List.cons_append, List.map_cons, List.map_nil, true_and, and_true, AS.fin, pick, dedup, List.mem_cons, List.not_mem_nil, or_false, false_or, List.size_toArray, List.length_cons, List.length_nil, loadAV, List.drop_zero, List.drop_succ_cons, List.take_zero, List.take_succ_cons, List.getElem?_cons_zero, List.getElem?_cons_succ, List.head?_cons, List.mapM_cons, List.mapM_nil, Option.bind_eq_bind, Option.pure_def, deeps3, deep3, deep2, deep1, deeps, deeps2, mixInts, AV.plain, mk, mkD, DCon.lift, DCon.runC, ren3, ren2, ren1, numb, List.zipIdx_nil, List.zipIdx_cons, List.all_nil, List.all_cons, Nat.reduceLeDiff, List.range, List.range.loop, Ty.sz, beq_self_eq_true, Bool.and_self, and_self, Ty.ofC, AO.isDead, Nat.reduceLT, if_true, Nat.zero_add, Nat.add_zero, ite_true, Nat.le_refl, Bool.false_eq_true, reduceCtorEq, if_false, ite_false, binAV, AO.ren, AV.isCell, fillAV, List.set_cons_zero, List.set_cons_succ, Ty.cells, Ty.flat, Ty.dflt, List.getD_cons_zero, List.getD_cons_succ, Int.reduceToNat, Int.reduceSub, Int.reduceAdd, Int.reduceMul, Int.reduceNeg, forall_eq_or_imp, forall_eq, gdL, id_eq, Nat.lt_irrefl, srcOf, List.replicate_succ, List.replicate_zero, dite_true, List.isEmpty_cons, Option.isSome_some, List.length_append, List.length_singleton, bne_self_eq_false, Bool.not_true, Bool.not_false, conF, asArgs, asArg, asTy, asI1, asB1, asS1, asL1, canons, canon, Fork.true_, Fork.false_, bne, Bool.not_not, List.length_map, pickO, AS.over, TI.bl, bne_iff_ne, AS.over2, without, keys, List.mem_singleton, memOp2, memOp3, absorb, abInt, abBool, abStr, abList, gones, Int.toNat_natCast, List.take_length, subE, List.nodup_cons, List.nodup_nil, not_false_eq_true, Nat.sub_self, conR, asG, asI, asBo, asStr, asIs, asBs, asE4, asI2, asI3, asLL, asLLL, Th_int, Th_Sint, Th_bool, Th_string, G_yPoints, c_l1Has, hL])
    | ((with_reducible refine ens_step ?_ (fun hE => ?_)); · ((repeat' with_reducible apply And.intro) <;> first | with_reducible assumption | omega | exact True.intro | with_reducible rfl | (show ByteArray.size _ ≤ _; decide) | (simp; done) | (simp; omega) | rfl))
    | ((with_reducible refine And.intro ?_ ?_); · ((repeat' with_reducible apply And.intro) <;> first | with_reducible assumption | omega | exact True.intro | with_reducible rfl | (show ByteArray.size _ ≤ _; decide) | (simp; done) | (simp; omega) | rfl))
    | ((with_reducible refine Fork.intro (fun h' => ?_) (fun h' => ?_)) <;> (try simp only [Bool.not_eq_true', Bool.not_eq_false', bne] at h') <;> (replace hL := And.intro h' hL) <;> (try simp only [decide_eq_true_eq, decide_eq_false_iff_not, beq_iff_eq, beq_eq_false_iff_ne, ne_eq] at h') <;> (try (have hdb := dif_bad (k := k) (by omega) hL.1; replace hL := And.intro hdb hL)) <;> (try (have hnd := dif_next (k := k) (by omega) hk2 hL.1)) <;> (try (have hke : k = xs.length := (by omega); subst hke; have hde := dif_end hk2; replace hL := And.intro hde hL)))
    | (with_reducible refine AWp.skipS ?_)
    | ((with_reducible refine AWp.condT rfl ?_))
    | ((with_reducible refine AWp.condF rfl ?_))
    | (with_reducible refine AWp.condB rfl ?_)
    | (with_reducible refine AWp.ret ?_)
    | (with_reducible refine seqQ_n ?_)
    | (with_reducible refine seqQ_ret ?_)
    | (with_reducible refine blkQ_ret ?_)
    | (with_reducible refine blkQ_n ?_)
    | (with_reducible refine seqQ_exit ?_)
    | (with_reducible refine blkQ_exit ?_)
    | (with_reducible refine blkQ_other (by decide) ?_)
    | (with_reducible refine AWp.block ?_)
    | (with_reducible refine AWp.exit ?_)
    | (with_reducible refine AWp.skip ?_)
    | ((with_reducible refine loop_id ?_); refine AWp.loopAt 2 rfl ?_; refine AWp.loopO [2, 3, 4, 7, 8, 9, 10, 11, 12, 13, 14, 15, 16, 17] (fun k => [(7, .lit (.int .i64 (k : Nat)))]) (fun k => []) (fun k => k ≤ xs.length ∧ (xs.take k).Nodup) (fun k => xs.length - k) 0 (by exact ⟨by omega, by simp⟩) (by refine Sub.auto (by first | exact frok0 | assumption) rfl rfl ?_ ?_ <;> (try simp only [subE, AS.over2, without, keys, look, List.cons_append, List.nil_append, List.append_nil, List.mem_cons, List.not_mem_nil, or_false, or_true, true_or, false_or, Nat.reduceEqDiff, ↓reduceIte, Option.some.injEq, AV.lit.injEq, Value.int.injEq, Value.bool.injEq, AV.own.injEq, AO.row.injEq, AO.box.injEq, List.cons.injEq, AV.agg.injEq, AV.sl.injEq, true_and, and_true, and_self, heq_eq_eq, List.length_nil, List.length_cons, List.map_nil, List.take_zero, Int.natCast_add, Int.cast_ofNat_Int, Int.natCast_zero, List.length_append, List.length_map, List.length_take, Nat.zero_add]) <;> (simp)) (fun k hk_2 L2 hLoop2 => ?_); obtain ⟨hk1, hk2⟩ := hk_2)
    | ((with_reducible refine seqQ_f ?_); refine hLoop2 (k + 1) _ (by exact ⟨by omega, hnd⟩) (by omega) ?_; (refine Sub.auto (by first | exact frok0 | assumption) rfl rfl ?_ ?_ <;> (try simp only [subE, AS.over2, without, keys, look, List.cons_append, List.nil_append, List.append_nil, List.mem_cons, List.not_mem_nil, or_false, or_true, true_or, false_or, Nat.reduceEqDiff, ↓reduceIte, Option.some.injEq, AV.lit.injEq, Value.int.injEq, Value.bool.injEq, AV.own.injEq, AO.row.injEq, AO.box.injEq, List.cons.injEq, AV.agg.injEq, AV.sl.injEq, true_and, and_true, and_self, heq_eq_eq, List.length_nil, List.length_cons, List.map_nil, List.take_zero, Int.natCast_add, Int.cast_ofNat_Int, Int.natCast_zero, List.length_append, List.length_map, List.length_take, Nat.zero_add]) <;> (omega)))
    | ((with_reducible refine EndsAt_id ?_); (try subst_vars); (try simp only [id_eq, hL, List.length_cons, List.length_nil, Nat.zero_add, Nat.reduceAdd, Bool.and_true, Bool.and_false, Bool.true_and, Bool.false_and, Bool.and_self, ↓reduceIte, Bool.false_eq_true, Bool.not_true, Bool.not_false, bne]); refine EndsAt.done [] (by first | exact .inr rfl | exact .inl rfl) rfl rfl ?_ ?_ <;> first | decide | (repeat' (first | rfl | apply And.intro | trivial)))
    | (with_reducible refine AWp.seq ?_)⟩
def trsB (xs : List Int) : Bool := allIn 1 7 xs && difB xs
theorem allIn_bd {lo hi : Int} {xs : List Int} (h : allIn lo hi xs = true) : ∀ x ∈ xs, lo ≤ x ∧ x ≤ hi := fun x hx => by
  have := List.all_eq_true.1 h x hx
  exact inr_t this
theorem trs_len {xs : List Int} (h1 : allIn 1 7 xs = true) (h2 : difB xs = true) : xs.length ≤ 7 := pigeon 7 xs (of_decide_eq_true h2) (allIn_bd h1)
theorem tru_big {xs : List Int} (h : (7 : Int) < xs.length) : (allIn 1 7 xs && difB xs) = false := by
  rw [Bool.eq_false_iff]
  intro hh
  rw [Bool.and_eq_true] at hh
  have := trs_len hh.1 hh.2
  omega
theorem trs_use {xs : List Int} (h : trsB xs = true) : allIn 1 7 xs = true ∧ difB xs = true := by simpa [trsB] using h
/-- the first right shares -/
def colF (f : Int → Int → Bool) (t : Nat) : List Int → List Int → List Int × List Int → List Int × List Int
  | i :: l, s :: r, c => if c.1.length < t ∧ f i s = true then colF f t l r (c.1 ++ [i], c.2 ++ [s]) else colF f t l r c
  | _, _, c => c
section
variable {f : Int → Int → Bool} {t k : Nat} {is ss xs ys : List Int}
theorem colF_t (hk : k < is.length) (hs : k < ss.length) (h1 : (xs.length : Int) < t) (h2 : f (is.getD k 0) (ss.getD k 0) = true) : colF f t (is.drop k) (ss.drop k) (xs, ys) = colF f t (is.drop (k + 1)) (ss.drop (k + 1)) (xs ++ [is.getD k 0], ys ++ [ss.getD k 0]) := by
  rw [drop_at 0 hk, drop_at 0 hs]; simp only [colF]; rw [if_pos ⟨by omega, h2⟩]
theorem colF_1 (hk : k < is.length) (hs : k < ss.length) (h1 : ¬ (xs.length : Int) < t) : colF f t (is.drop k) (ss.drop k) (xs, ys) = colF f t (is.drop (k + 1)) (ss.drop (k + 1)) (xs, ys) := by
  rw [drop_at 0 hk, drop_at 0 hs]; simp only [colF]; rw [if_neg (fun h => h1 (by have := h.1; omega))]
theorem colF_2 (hk : k < is.length) (hs : k < ss.length) (h2 : f (is.getD k 0) (ss.getD k 0) = false) : colF f t (is.drop k) (ss.drop k) (xs, ys) = colF f t (is.drop (k + 1)) (ss.drop (k + 1)) (xs, ys) := by
  rw [drop_at 0 hk, drop_at 0 hs]; simp only [colF]; rw [if_neg (fun h => by rw [h2] at h; cases h.2)]
theorem colF_end {c : List Int × List Int} : colF f t (is.drop is.length) ss c = c := by simp [colF]
end
noncomputable def valV (p q g : Int) (cs is ss : List Int) (x : Int) : Int × Bool :=
  let c := colF (shrB p q g cs) cs.length is ss ([], [])
  if (c.1.length : Int) < cs.length then (0, false) else (dotF q (lagL q c.1 x c.1.length) c.2 0, true)
theorem valV_f {p q g : Int} {cs is ss xs ys : List Int} {x : Int} (h : (xs, ys) = colF (shrB p q g cs) cs.length is ss ([], [])) (h2 : (xs.length : Int) < cs.length) : valV p q g cs is ss x = (0, false) := by
  unfold valV; rw [← h]; exact if_pos h2
theorem valV_t {p q g : Int} {cs is ss xs ys : List Int} {x : Int} (h : (xs, ys) = colF (shrB p q g cs) cs.length is ss ([], [])) (h2 : ¬ (xs.length : Int) < cs.length) : valV p q g cs is ss x = (dotF q (lagL q xs x xs.length) ys 0, true) := by
  unfold valV; rw [← h]; exact if_neg h2
theorem sub_pts {q : Int} {is xs : List Int} (hq : M.Prime q) (hb : 7 < q ∧ q ≤ 2000000000) (h1 : ∀ x ∈ is, 1 ≤ x ∧ x ≤ 7) (h2 : is.Nodup) (hs : xs.Sublist is) : PtsOK q xs := by
  have hn := h2.sublist hs
  have hbx : ∀ x ∈ xs, 1 ≤ x ∧ x ≤ 7 := fun x hx => h1 x (hs.subset hx)
  exact ⟨hq, hb, pigeon 7 xs hn hbx, hbx, hn⟩
theorem sub_next {is xs : List Int} {k : Nat} (hk : k < is.length) (h : xs.Sublist (is.take k)) : (xs ++ [is.getD k 0]).Sublist (is.take (k + 1)) := by
  rw [take_at 0 hk]; exact h.append (List.Sublist.refl _)
theorem sub_skip {is xs : List Int} {k : Nat} (hk : k < is.length) (h : xs.Sublist (is.take k)) : xs.Sublist (is.take (k + 1)) := by
  rw [take_at 0 hk]; exact h.trans (List.sublist_append_left _ _)
theorem app_bd {q : Int} {ys : List Int} {s : Int} (h : ∀ y ∈ ys, 0 ≤ y ∧ y < q) (hs : 0 ≤ s ∧ s < q) : ∀ y ∈ ys ++ [s], 0 ≤ y ∧ y < q := fun y hy => by
  rcases List.mem_append.1 hy with hy | hy
  · exact h y hy
  · simp only [List.mem_singleton] at hy; subst hy; exact hs
noncomputable def okRc (p q g : Int) (cs is ss : List Int) : Bool := shB p q g && comB p q cs && trsB is && ((ss.length : Int) == is.length) && expsB q ss
noncomputable def recV (p q g : Int) (cs is ss : List Int) (x : Int) : Int × Bool := if okRc p q g cs is ss = true then valV p q g cs is ss x else (0, false)
theorem okRc_use {p q g : Int} {cs is ss : List Int} (h : okRc p q g cs is ss = true) : shB p q g = true ∧ comB p q cs = true ∧ (allIn 1 7 is = true ∧ difB is = true) ∧ ss.length = is.length ∧ expsB q ss = true := by
  simp only [okRc, Bool.and_eq_true, beq_iff_eq] at h
  exact ⟨h.1.1.1.1, h.1.1.1.2, trs_use h.1.1.2, by omega, h.2⟩
noncomputable def c_areTrustees : Con0 := conF [(.list .int)] fun (⟨xs, _⟩ : (List Int) × Unit) => (xs.length ≤ 9223372036854775806, .lit (.bool (trsB xs)), [])
noncomputable def G_areTrustees : List (FuncId × Con) := [(120, mk c_areTru), (152, mk c_areDifferent)]
theorem G_areTrustees_ok : ∀ f C, (f, C) ∈ G_areTrustees → C.ok Try.prog f := by
  intro f C h
  simp only [G_areTrustees, List.mem_cons, Prod.mk.injEq, List.not_mem_nil, or_false] at h
  rcases h with ⟨rfl, rfl⟩ | ⟨rfl, rfl⟩
  · exact ok_areTru
  · exact ok_areDifferent
set_option maxRecDepth 100000 in
set_option maxHeartbeats 4000000 in
theorem ok_areTrustees : (mk c_areTrustees).ok Try.prog 141 := okF (Θ := Th) (N := 9) (rs := [.tmp 2]) Th_ok Try.func141 (by kernel_rfl) rfl Try.results141 (by decide) (by kernel_rfl) fun (⟨xs, _⟩ : (List Int) × Unit) => ⟨rfl, rfl, Nat.le_of_ble_eq_true rfl, fun hc w0 => by
  have hL := dmy_eq
  try dsimp only at hc
  try dsimp only
  have hxl := hc
  refine AWp.body rfl ?_
  repeat' first
    | ((with_reducible refine hK _ _ ?_); clear hK K)
    | ((with_reducible refine hK _ _ (by kernel_rfl) ?_); clear hK K)
    | ((with_reducible refine AWp.pS Th_ok G_areTrustees_ok [0, 2] (by decide) ?_); intro K hK)
    | ((with_reducible refine AWp.dS (by kernel_rfl) Th_ok G_areTrustees_ok [0, 2] ?_); intro K hK)
    | ((with_reducible refine AWp.pE Th_ok G_areTrustees_ok [0, 2] (by decide) ?_); intro K hK)
    | ((with_reducible refine AWp.dE (by kernel_rfl) Th_ok G_areTrustees_ok [0, 2] ?_); intro K hK)
    | ((first | with_reducible refine runF_id ?_ | with_reducible refine stepF_id ?_); simp (maxSteps := 2000000) only [runF, stepF, forkOf, gdOf, List.toList_toArray, stepOp, look, opAV, pureOp, callOp, memOp, AS.ev, AS.get, AS.obj, initS, initFrom, AV.cells, AS.upd, Option.bind_some, Option.bind_none, Option.map_some, Option.map_none, Option.getD_none, Option.getD_some, ↓reduceIte, Nat.reduceEqDiff, Nat.reduceAdd, Nat.reduceMul, Nat.reduceSub, List.nil_append, List.append_nil, List.cons_append, List.map_cons, List.map_nil, true_and, and_true, AS.fin, pick, dedup, List.mem_cons, List.not_mem_nil, or_false, false_or, List.size_toArray, List.length_cons, List.length_nil, loadAV, List.drop_zero, List.drop_succ_cons, List.take_zero, List.take_succ_cons, List.getElem?_cons_zero, List.getElem?_cons_succ, List.head?_cons, List.mapM_cons, List.mapM_nil, Option.bind_eq_bind, Option.pure_def, deeps3, deep3, deep2, deep1, deeps, deeps2, mixInts, AV.plain, mk, mkD, DCon.lift, DCon.runC, ren3, ren2, ren1, numb, List.zipIdx_nil, List.zipIdx_cons, List.all_nil, List.all_cons, Nat.reduceLeDiff, List.range, List.range.loop, Ty.sz, beq_self_eq_true, Bool.and_self, and_self, Ty.ofC, AO.isDead, Nat.reduceLT, if_true, Nat.zero_add, Nat.add_zero, ite_true, Nat.le_refl, Bool.false_eq_true, reduceCtorEq, if_false, ite_false, binAV, AO.ren, AV.isCell, fillAV, List.set_cons_zero, List.set_cons_succ, Ty.cells, Ty.flat, Ty.dflt, List.getD_cons_zero, List.getD_cons_succ, Int.reduceToNat, Int.reduceSub, Int.reduceAdd, Int.reduceMul, Int.reduceNeg, forall_eq_or_imp, forall_eq, gdL, id_eq, Nat.lt_irrefl, srcOf, List.replicate_succ, List.replicate_zero, dite_true, List.isEmpty_cons, Option.isSome_some, List.length_append, List.length_singleton, bne_self_eq_false, Bool.not_true, Bool.not_false, conF, asArgs, asArg, asTy, asI1, asB1, asS1, asL1, canons, canon, Fork.true_, Fork.false_, bne, Bool.not_not, List.length_map, pickO, AS.over, TI.bl, bne_iff_ne, AS.over2, without, keys, List.mem_singleton, memOp2, memOp3, absorb, abInt, abBool, abStr, abList, gones, Int.toNat_natCast, List.take_length, subE, List.nodup_cons, List.nodup_nil, not_false_eq_true, Nat.sub_self, conR, asG, asI, asBo, asStr, asIs, asBs, asE4, asI2, asI3, asLL, asLLL, Th_int, Th_Sint, Th_bool, G_areTrustees, c_areTru, c_areDifferent, hL])
    | ((with_reducible refine ens_step ?_ (fun hE => ?_)); · ((repeat' with_reducible apply And.intro) <;> first | with_reducible assumption | omega | exact True.intro | with_reducible rfl | (show ByteArray.size _ ≤ _; decide) | (simp; done) | (simp; omega) | rfl))
    | ((with_reducible refine And.intro ?_ ?_); · ((repeat' with_reducible apply And.intro) <;> first | with_reducible assumption | omega | exact True.intro | with_reducible rfl | (show ByteArray.size _ ≤ _; decide) | (simp; done) | (simp; omega) | rfl))
    | ((with_reducible refine Fork.intro (fun h' => ?_) (fun h' => ?_)) <;> (try simp only [Bool.not_eq_true', Bool.not_eq_false', bne] at h') <;> (replace hL := And.intro h' hL) <;> (try simp only [decide_eq_true_eq, decide_eq_false_iff_not, beq_iff_eq, beq_eq_false_iff_ne, ne_eq] at h'))
    | (with_reducible refine AWp.skipS ?_)
    | ((with_reducible refine AWp.condT rfl ?_))
    | ((with_reducible refine AWp.condF rfl ?_))
    | (with_reducible refine AWp.condB rfl ?_)
    | (with_reducible refine AWp.ret ?_)
    | (with_reducible refine seqQ_n ?_)
    | (with_reducible refine seqQ_ret ?_)
    | (with_reducible refine blkQ_ret ?_)
    | (with_reducible refine blkQ_n ?_)
    | (with_reducible refine seqQ_exit ?_)
    | (with_reducible refine blkQ_exit ?_)
    | (with_reducible refine blkQ_other (by decide) ?_)
    | (with_reducible refine AWp.block ?_)
    | (with_reducible refine AWp.exit ?_)
    | (with_reducible refine AWp.skip ?_)
    | ((with_reducible refine EndsAt_id ?_); (try subst_vars); (try simp only [trsB, hL, List.length_cons, List.length_nil, Nat.zero_add, Nat.reduceAdd, Bool.and_true, Bool.and_false, Bool.true_and, Bool.false_and, Bool.and_self, ↓reduceIte, Bool.false_eq_true, Bool.not_true, Bool.not_false, bne]); refine EndsAt.done [] (by first | exact .inr rfl | exact .inl rfl) rfl rfl ?_ ?_ <;> first | decide | (repeat' (first | rfl | apply And.intro | trivial)))
    | (with_reducible refine AWp.seq ?_)⟩
noncomputable def c_areSharesOf : Con0 := conF [(.pair .int (.pair .int .int)), (.list .int), (.list .int), (.list .int)] fun (⟨⟨p, q, g⟩, cs, is, ss, _⟩ : (Int × Int × Int) × (List Int) × (List Int) × (List Int) × Unit) => (is.length ≤ 9223372036854775806, .lit (.bool (okRc p q g cs is ss)), [])
noncomputable def G_areSharesOf : List (FuncId × Con) := [(79, mk c_isSharing), (140, mk c_areCommits), (141, mk c_areTrustees), (80, mk c_areExps)]
theorem G_areSharesOf_ok : ∀ f C, (f, C) ∈ G_areSharesOf → C.ok Try.prog f := by
  intro f C h
  simp only [G_areSharesOf, List.mem_cons, Prod.mk.injEq, List.not_mem_nil, or_false] at h
  rcases h with ⟨rfl, rfl⟩ | ⟨rfl, rfl⟩ | ⟨rfl, rfl⟩ | ⟨rfl, rfl⟩
  · exact ok_isSharing
  · exact ok_areCommits
  · exact ok_areTrustees
  · exact ok_areExps
set_option maxRecDepth 100000 in
set_option maxHeartbeats 4000000 in
theorem ok_areSharesOf : (mk c_areSharesOf).ok Try.prog 105 := okF (Θ := Th) (N := 32) (rs := [.tmp 8]) Th_ok Try.func105 (by kernel_rfl) rfl Try.results105 (by decide) (by kernel_rfl) fun (⟨⟨p, q, g⟩, cs, is, ss, _⟩ : (Int × Int × Int) × (List Int) × (List Int) × (List Int) × Unit) => ⟨rfl, rfl, Nat.le_of_ble_eq_true rfl, fun hc w0 => by
  have hL := dmy_eq
  try dsimp only at hc
  try dsimp only
  have hbl := hc
  refine AWp.body rfl ?_
  repeat' first
    | ((with_reducible refine hK _ _ ?_); clear hK K)
    | ((with_reducible refine hK _ _ (by kernel_rfl) ?_); clear hK K)
    | ((with_reducible refine AWp.pS Th_ok G_areSharesOf_ok [0, 1, 2, 3, 4, 8] (by decide) ?_); intro K hK)
    | ((with_reducible refine AWp.dS (by kernel_rfl) Th_ok G_areSharesOf_ok [0, 1, 2, 3, 4, 8] ?_); intro K hK)
    | ((with_reducible refine AWp.pE Th_ok G_areSharesOf_ok [0, 1, 2, 3, 4, 8] (by decide) ?_); intro K hK)
    | ((with_reducible refine AWp.dE (by kernel_rfl) Th_ok G_areSharesOf_ok [0, 1, 2, 3, 4, 8] ?_); intro K hK)
    | ((first | with_reducible refine runF_id ?_ | with_reducible refine stepF_id ?_); simp (maxSteps := 2000000) only [runF, stepF, forkOf, gdOf, List.toList_toArray, stepOp, look, opAV, pureOp, callOp, memOp, AS.ev, AS.get, AS.obj, initS, initFrom, AV.cells, AS.upd, Option.bind_some, Option.bind_none, Option.map_some, Option.map_none, Option.getD_none, Option.getD_some, ↓reduceIte, Nat.reduceEqDiff, Nat.reduceAdd, Nat.reduceMul, Nat.reduceSub, List.nil_append, List.append_nil, List.cons_append, List.map_cons, List.map_nil, true_and, and_true, AS.fin, pick, dedup, List.mem_cons, List.not_mem_nil, or_false, false_or, List.size_toArray, List.length_cons, List.length_nil, loadAV, List.drop_zero, List.drop_succ_cons, List.take_zero, List.take_succ_cons, List.getElem?_cons_zero, List.getElem?_cons_succ, List.head?_cons, List.mapM_cons, List.mapM_nil, Option.bind_eq_bind, Option.pure_def, deeps3, deep3, deep2, deep1, deeps, deeps2, mixInts, AV.plain, mk, mkD, DCon.lift, DCon.runC, ren3, ren2, ren1, numb, List.zipIdx_nil, List.zipIdx_cons, List.all_nil, List.all_cons, Nat.reduceLeDiff, List.range, List.range.loop, Ty.sz, beq_self_eq_true, Bool.and_self, and_self, Ty.ofC, AO.isDead, Nat.reduceLT, if_true, Nat.zero_add, Nat.add_zero, ite_true, Nat.le_refl, Bool.false_eq_true, reduceCtorEq, if_false, ite_false, binAV, AO.ren, AV.isCell, fillAV, List.set_cons_zero, List.set_cons_succ, Ty.cells, Ty.flat, Ty.dflt, List.getD_cons_zero, List.getD_cons_succ, Int.reduceToNat, Int.reduceSub, Int.reduceAdd, Int.reduceMul, Int.reduceNeg, forall_eq_or_imp, forall_eq, gdL, id_eq, Nat.lt_irrefl, srcOf, List.replicate_succ, List.replicate_zero, dite_true, List.isEmpty_cons, Option.isSome_some, List.length_append, List.length_singleton, bne_self_eq_false, Bool.not_true, Bool.not_false, conF, asArgs, asArg, asTy, asI1, asB1, asS1, asL1, canons, canon, Fork.true_, Fork.false_, bne, Bool.not_not, List.length_map, pickO, AS.over, TI.bl, bne_iff_ne, AS.over2, without, keys, List.mem_singleton, memOp2, memOp3, absorb, abInt, abBool, abStr, abList, gones, Int.toNat_natCast, List.take_length, subE, List.nodup_cons, List.nodup_nil, not_false_eq_true, Nat.sub_self, conR, asG, asI, asBo, asStr, asIs, asBs, asE4, asI2, asI3, asLL, asLLL, Th_int, Th_Sint, Th_bool, Th_implEqualLog, Th_implGroup, Th_lawsEqualLog, Th_lawsGroup, Th_string, G_areSharesOf, c_isSharing, c_areCommits, c_areTrustees, c_areExps, hL])
    | ((with_reducible refine ens_step ?_ (fun hE => ?_)); · ((repeat' with_reducible apply And.intro) <;> first | with_reducible assumption | omega | exact True.intro | with_reducible rfl | (show ByteArray.size _ ≤ _; decide) | (simp; done) | (simp; omega) | rfl))
    | ((with_reducible refine And.intro ?_ ?_); · ((repeat' with_reducible apply And.intro) <;> first | with_reducible assumption | omega | exact True.intro | with_reducible rfl | (show ByteArray.size _ ≤ _; decide) | (simp; done) | (simp; omega) | rfl))
    | ((with_reducible refine Fork.intro (fun h' => ?_) (fun h' => ?_)) <;> (try simp only [Bool.not_eq_true', Bool.not_eq_false', bne] at h') <;> (replace hL := And.intro h' hL) <;> (try simp only [decide_eq_true_eq, decide_eq_false_iff_not, beq_iff_eq, beq_eq_false_iff_ne, ne_eq] at h') <;> (try (have hsh := shB_of h'; obtain ⟨hgd, hq7⟩ := hsh; have hG := M.goodB_of hgd; have hq2 := hG.q2; have hqp := hG.qp; have hp3 := hG.p3; have hpM := hG.pM)))
    | (with_reducible refine AWp.skipS ?_)
    | ((with_reducible refine AWp.condT rfl ?_))
    | ((with_reducible refine AWp.condF rfl ?_))
    | (with_reducible refine AWp.condB rfl ?_)
    | (with_reducible refine AWp.ret ?_)
    | (with_reducible refine seqQ_n ?_)
    | (with_reducible refine seqQ_ret ?_)
    | (with_reducible refine blkQ_ret ?_)
    | (with_reducible refine blkQ_n ?_)
    | (with_reducible refine seqQ_exit ?_)
    | (with_reducible refine blkQ_exit ?_)
    | (with_reducible refine blkQ_other (by decide) ?_)
    | (with_reducible refine AWp.block ?_)
    | (with_reducible refine AWp.exit ?_)
    | (with_reducible refine AWp.skip ?_)
    | ((with_reducible refine EndsAt_id ?_); (try subst_vars); (try simp only [okRc, hL, List.length_cons, List.length_nil, Nat.zero_add, Nat.reduceAdd, Bool.and_true, Bool.and_false, Bool.true_and, Bool.false_and, Bool.and_self, ↓reduceIte, Bool.false_eq_true, Bool.not_true, Bool.not_false, bne]); refine EndsAt.done [] (by first | exact .inr rfl | exact .inl rfl) rfl rfl ?_ ?_ <;> first | decide | (repeat' (first | rfl | apply And.intro | trivial)))
    | (with_reducible refine AWp.seq ?_)⟩
noncomputable def c_valueAt : Con0 := conF [(.pair .int (.pair .int .int)), (.list .int), (.list .int), (.list .int), .int] fun (⟨⟨p, q, g⟩, cs, is, ss, x, _⟩ : (Int × Int × Int) × (List Int) × (List Int) × (List Int) × Int × Unit) => (M.Grp p q g ∧ 7 < q ∧ (∀ c ∈ cs, 0 ≤ c ∧ c < p) ∧ (cs.length ≤ 7) ∧ (∀ i ∈ is, 1 ≤ i ∧ i ≤ 7) ∧ is.Nodup ∧ ss.length = is.length ∧ (∀ s ∈ ss, 0 ≤ s ∧ s < q) ∧ (0 ≤ x ∧ x ≤ 7), .tup [.lit (.int .i64 ((valV p q g cs is ss x).1)), .lit (.bool ((valV p q g cs is ss x).2))], [])
noncomputable def G_valueAt : List (FuncId × Con) := [(131, mk c_isShare), (93, mk c_lagrange), (92, mk c_dot)]
theorem G_valueAt_ok : ∀ f C, (f, C) ∈ G_valueAt → C.ok Try.prog f := by
  intro f C h
  simp only [G_valueAt, List.mem_cons, Prod.mk.injEq, List.not_mem_nil, or_false] at h
  rcases h with ⟨rfl, rfl⟩ | ⟨rfl, rfl⟩ | ⟨rfl, rfl⟩
  · exact ok_isShare
  · exact ok_lagrange
  · exact ok_dot
set_option maxRecDepth 100000 in
set_option maxHeartbeats 4000000 in
theorem ok_valueAt : (mk c_valueAt).ok Try.prog 106 := okF (Θ := Th) (N := 66) (rs := [.tmp 10, .tmp 11]) Th_ok Try.func106 (by kernel_rfl) rfl Try.results106 (by decide) (by kernel_rfl) fun (⟨⟨p, q, g⟩, cs, is, ss, x, _⟩ : (Int × Int × Int) × (List Int) × (List Int) × (List Int) × Int × Unit) => ⟨rfl, rfl, Nat.le_of_ble_eq_true rfl, fun hc w0 => by
  have hL := dmy_eq
  try dsimp only at hc
  try dsimp only
  obtain ⟨hG, hq7, hcs, hcl, his, hnd, hsl, hss, hx⟩ := hc
  have hq2 := hG.q2
  have hqp := hG.qp
  have hp3 := hG.p3
  have hpM := hG.pM
  have hgb : 0 ≤ g ∧ g < p := ⟨by have := hG.g2; omega, hG.gp⟩
  have hil := pigeon 7 is hnd his
  have hpq := hG.pq
  have hpb : 7 < q ∧ q ≤ 2000000000 := ⟨hq7, by omega⟩
  refine AWp.body rfl ?_
  repeat' first
    | ((with_reducible refine hK _ _ ?_); clear hK K)
    | ((with_reducible refine hK _ _ (by kernel_rfl) ?_); clear hK K)
    | ((with_reducible refine AWp.pS Th_ok G_valueAt_ok [0, 1, 2, 3, 4, 5, 10, 11, 12, 13, 14, 15, 18, 19, 20, 21, 39, 56] (by decide) ?_); intro K hK)
    | ((with_reducible refine AWp.dS (by kernel_rfl) Th_ok G_valueAt_ok [0, 1, 2, 3, 4, 5, 10, 11, 12, 13, 14, 15, 18, 19, 20, 21, 39, 56] ?_); intro K hK)
    | ((with_reducible refine AWp.pE Th_ok G_valueAt_ok [0, 1, 2, 3, 4, 5, 10, 11, 12, 13, 14, 15, 18, 19, 20, 21, 39, 56] (by decide) ?_); intro K hK)
    | ((with_reducible refine AWp.dE (by kernel_rfl) Th_ok G_valueAt_ok [0, 1, 2, 3, 4, 5, 10, 11, 12, 13, 14, 15, 18, 19, 20, 21, 39, 56] ?_); intro K hK)
    | ((first | with_reducible refine runF_id ?_ | with_reducible refine stepF_id ?_); simp (maxSteps := 2000000) only [runF, stepF, forkOf, gdOf, List.toList_toArray, stepOp, look, opAV, pureOp, callOp, memOp, AS.ev, AS.get, AS.obj, initS, initFrom, AV.cells, AS.upd, Option.bind_some, Option.bind_none, Option.map_some, Option.map_none, Option.getD_none, Option.getD_some, ↓reduceIte, Nat.reduceEqDiff, Nat.reduceAdd, Nat.reduceMul, Nat.reduceSub, List.nil_append, List.append_nil, List.cons_append, List.map_cons, List.map_nil, true_and, and_true, AS.fin, pick, dedup, List.mem_cons, List.not_mem_nil, or_false, false_or, List.size_toArray, List.length_cons, List.length_nil, loadAV, List.drop_zero, List.drop_succ_cons, List.take_zero, List.take_succ_cons, List.getElem?_cons_zero, List.getElem?_cons_succ, List.head?_cons, List.mapM_cons, List.mapM_nil, Option.bind_eq_bind, Option.pure_def, deeps3, deep3, deep2, deep1, deeps, deeps2, mixInts, AV.plain, mk, mkD, DCon.lift, DCon.runC, ren3, ren2, ren1, numb, List.zipIdx_nil, List.zipIdx_cons, List.all_nil, List.all_cons, Nat.reduceLeDiff, List.range, List.range.loop, Ty.sz, beq_self_eq_true, Bool.and_self, and_self, Ty.ofC, AO.isDead, Nat.reduceLT, if_true, Nat.zero_add, Nat.add_zero, ite_true, Nat.le_refl, Bool.false_eq_true, reduceCtorEq, if_false, ite_false, binAV, AO.ren, AV.isCell, fillAV, List.set_cons_zero, List.set_cons_succ, Ty.cells, Ty.flat, Ty.dflt, List.getD_cons_zero, List.getD_cons_succ, Int.reduceToNat, Int.reduceSub, Int.reduceAdd, Int.reduceMul, Int.reduceNeg, forall_eq_or_imp, forall_eq, gdL, id_eq, Nat.lt_irrefl, srcOf, List.replicate_succ, List.replicate_zero, dite_true, List.isEmpty_cons, Option.isSome_some, List.length_append, List.length_singleton, bne_self_eq_false, Bool.not_true, Bool.not_false, conF, asArgs, asArg, asTy, asI1, asB1, asS1, asL1, canons, canon, Fork.true_, Fork.false_, bne, Bool.not_not, List.length_map, pickO, AS.over, TI.bl, bne_iff_ne, AS.over2, without, keys, List.mem_singleton, memOp2, memOp3, absorb, abInt, abBool, abStr, abList, gones, Int.toNat_natCast, List.take_length, subE, List.nodup_cons, List.nodup_nil, not_false_eq_true, Nat.sub_self, conR, asG, asI, asBo, asStr, asIs, asBs, asE4, asI2, asI3, asLL, asLLL, Th_int, Th_Sint, Th_bool, Th_implBases, Th_implDealing, Th_implEqualLog, Th_implGroup, Th_implSDealing, Th_lawsDealing, Th_lawsEqualLog, Th_lawsGroup, Th_lawsSDealing, G_valueAt, c_isShare, c_lagrange, c_dot, hL])
    | ((with_reducible refine ens_step ?_ (fun hE => ?_)); · ((repeat' with_reducible apply And.intro) <;> first | with_reducible assumption | omega | exact True.intro | with_reducible rfl | (show ByteArray.size _ ≤ _; decide) | (simp; done) | (simp; omega) | rfl))
    | ((with_reducible refine And.intro ?_ ?_); · ((repeat' with_reducible apply And.intro) <;> first | with_reducible assumption | omega | exact True.intro | with_reducible rfl | (show ByteArray.size _ ≤ _; decide) | (simp; done) | (simp; omega) | rfl))
    | ((with_reducible refine Fork.intro (fun h' => ?_) (fun h' => ?_)) <;> (try simp only [Bool.not_eq_true', Bool.not_eq_false', bne] at h') <;> (replace hL := And.intro h' hL) <;> (try simp only [decide_eq_true_eq, decide_eq_false_iff_not, beq_iff_eq, beq_eq_false_iff_ne, ne_eq] at h') <;> (try (have hik := his _ (getD_in 0 (k := k) (by omega)); have hsk := getD_bd' hss (k := k) (by omega); have hsn := sub_next (k := k) (by omega) hz3; have hss2 := sub_skip (k := k) (by omega) hz3; have hab := app_bd hz5 hsk)) <;> (try (have hct := colF_t (f := shrB p q g cs) (t := cs.length) (is := is) (ss := ss) (ys := ys) (xs := xs) (k := k) (by omega) (by omega) hlt hL.1; rw [hct] at hz2)) <;> (try (have hc2 := colF_2 (f := shrB p q g cs) (t := cs.length) (is := is) (ss := ss) (ys := ys) (xs := xs) (k := k) (by omega) (by omega) hL.1; rw [hc2] at hz2)) <;> (try (have hc1 := colF_1 (f := shrB p q g cs) (t := cs.length) (is := is) (ss := ss) (ys := ys) (xs := xs) (k := k) (by omega) (by omega) h'; rw [hc1] at hz2)) <;> (try (have hlt : (xs.length : Int) < cs.length := h')) <;> (try (have hke : k = is.length := (by omega); subst hke; rw [colF_end] at hz2; rw [List.take_length] at hz3; have hpt := sub_pts hpq hpb his hnd hz3; have hptl := hpt.len; have hlb := lagL_bd (q := q) (x := x) (by omega) (xs := xs) (k := xs.length); have hll := lagL_len (q := q) (x := x) (xs := xs) (k := xs.length))) <;> (try (have hvf := valV_f (x := x) hz2 h'; replace hL := And.intro hvf hL)) <;> (try (have hvt := valV_t (x := x) hz2 h'; replace hL := And.intro hvt hL)))
    | (with_reducible refine AWp.skipS ?_)
    | ((with_reducible refine AWp.condT rfl ?_))
    | ((with_reducible refine AWp.condF rfl ?_))
    | (with_reducible refine AWp.condB rfl ?_)
    | (with_reducible refine AWp.ret ?_)
    | (with_reducible refine seqQ_n ?_)
    | (with_reducible refine seqQ_ret ?_)
    | (with_reducible refine blkQ_ret ?_)
    | (with_reducible refine blkQ_n ?_)
    | (with_reducible refine seqQ_exit ?_)
    | (with_reducible refine blkQ_exit ?_)
    | (with_reducible refine blkQ_other (by decide) ?_)
    | (with_reducible refine AWp.block ?_)
    | (with_reducible refine AWp.exit ?_)
    | (with_reducible refine AWp.skip ?_)
    | ((with_reducible refine loop_id ?_); refine AWp.loopAt 3 rfl ?_; refine AWp.loopO [12, 13, 14, 15, 20, 21, 22, 23, 24, 25, 26, 27, 28, 29, 30, 31, 32, 33, 34, 35, 36, 37, 38, 39, 40, 41, 42, 43, 44, 45, 46, 47, 48, 49, 50, 51] (fun z : Nat × List Int × List Int => [(20, .lit (.int .i64 (z.1 : Nat))), (12, .own 24 z.2.1.length), (13, .own 32 z.2.2.length)]) (fun z => [(24, .row 3 .int z.2.1), (32, .row 3 .int z.2.2)]) (fun z => z.1 ≤ is.length ∧ colF (shrB p q g cs) cs.length (is.drop z.1) (ss.drop z.1) (z.2.1, z.2.2) = colF (shrB p q g cs) cs.length is ss ([], []) ∧ z.2.1.Sublist (is.take z.1) ∧ z.2.2.length = z.2.1.length ∧ (∀ y ∈ z.2.2, 0 ≤ y ∧ y < q) ∧ z.2.1.length ≤ z.1) (fun z => is.length - z.1) (0, [], []) (by (try dsimp only); exact ⟨by omega, rfl, List.nil_sublist _, rfl, by simp, by simp⟩) (by (refine Sub.auto (by first | exact frok0 | assumption) rfl rfl ?_ ?_ <;> (try simp only [subE, AS.over2, without, keys, look, List.cons_append, List.nil_append, List.append_nil, List.mem_cons, List.not_mem_nil, or_false, or_true, true_or, false_or, Nat.reduceEqDiff, ↓reduceIte, Option.some.injEq, AV.lit.injEq, Value.int.injEq, Value.bool.injEq, AV.own.injEq, AO.row.injEq, AO.box.injEq, List.cons.injEq, AV.agg.injEq, AV.sl.injEq, true_and, and_true, and_self, heq_eq_eq, List.length_nil, List.length_cons, List.map_nil, List.take_zero, Int.natCast_add, Int.cast_ofNat_Int, Int.natCast_zero, List.length_append, List.length_map, List.length_take, Nat.zero_add]) <;> (simp))) (fun z hz3 L3 hLoop3 => ?_); obtain ⟨k, xs, ys⟩ := z; (try dsimp only at hz3); obtain ⟨hz1, hz2, hz3, hz4, hz5, hz6⟩ := hz3)
    | ((with_reducible refine seqQ_f ?_); refine hLoop3 (k + 1, _, _) _ (by (try dsimp only); first | exact ⟨by omega, hz2, hsn, by simp; omega, hab, by simp; omega⟩ | exact ⟨by omega, hz2, hss2, hz4, hz5, by omega⟩) (by (try dsimp only); omega) ?_; ((refine Sub.auto (by first | exact frok0 | assumption) rfl rfl ?_ ?_ <;> (try simp only [subE, AS.over2, without, keys, look, List.cons_append, List.nil_append, List.append_nil, List.mem_cons, List.not_mem_nil, or_false, or_true, true_or, false_or, Nat.reduceEqDiff, ↓reduceIte, Option.some.injEq, AV.lit.injEq, Value.int.injEq, Value.bool.injEq, AV.own.injEq, AO.row.injEq, AO.box.injEq, List.cons.injEq, AV.agg.injEq, AV.sl.injEq, true_and, and_true, and_self, heq_eq_eq, List.length_nil, List.length_cons, List.map_nil, List.take_zero, Int.natCast_add, Int.cast_ofNat_Int, Int.natCast_zero, List.length_append, List.length_map, List.length_take, Nat.zero_add]) <;> ((repeat' apply And.intro) <;> first | rfl | omega | (simp; done) | (simp; omega)))))
    | ((with_reducible refine EndsAt_id ?_); (try subst_vars); (try simp only [id_eq, hL, List.length_cons, List.length_nil, Nat.zero_add, Nat.reduceAdd, Bool.and_true, Bool.and_false, Bool.true_and, Bool.false_and, Bool.and_self, ↓reduceIte, Bool.false_eq_true, Bool.not_true, Bool.not_false, bne]); refine EndsAt.done [] (by first | exact .inr rfl | exact .inl rfl) rfl rfl ?_ ?_ <;> first | decide | (repeat' (first | rfl | apply And.intro | trivial)))
    | (with_reducible refine AWp.seq ?_)⟩
noncomputable def c_ReconstructI : Con0 := conF [(.pair .int (.pair .int .int)), (.list .int), (.list .int), (.list .int)] fun (⟨⟨p, q, g⟩, cs, is, ss, _⟩ : (Int × Int × Int) × (List Int) × (List Int) × (List Int) × Unit) => (is.length ≤ 9223372036854775806, .tup [.lit (.int .i64 ((recV p q g cs is ss 0).1)), .lit (.bool ((recV p q g cs is ss 0).2))], [])
noncomputable def G_ReconstructI : List (FuncId × Con) := [(105, mk c_areSharesOf), (106, mk c_valueAt)]
theorem G_ReconstructI_ok : ∀ f C, (f, C) ∈ G_ReconstructI → C.ok Try.prog f := by
  intro f C h
  simp only [G_ReconstructI, List.mem_cons, Prod.mk.injEq, List.not_mem_nil, or_false] at h
  rcases h with ⟨rfl, rfl⟩ | ⟨rfl, rfl⟩
  · exact ok_areSharesOf
  · exact ok_valueAt
set_option maxRecDepth 100000 in
set_option maxHeartbeats 4000000 in
theorem ok_ReconstructI : (mk c_ReconstructI).ok Try.prog 48 := okF (Θ := Th) (N := 23) (rs := [.tmp 8, .tmp 9]) Th_ok Try.func48 (by kernel_rfl) rfl Try.results48 (by decide) (by kernel_rfl) fun (⟨⟨p, q, g⟩, cs, is, ss, _⟩ : (Int × Int × Int) × (List Int) × (List Int) × (List Int) × Unit) => ⟨rfl, rfl, Nat.le_of_ble_eq_true rfl, fun hc w0 => by
  have hL := dmy_eq
  try dsimp only at hc
  try dsimp only
  have hbl := hc
  refine AWp.body rfl ?_
  repeat' first
    | ((with_reducible refine hK _ _ ?_); clear hK K)
    | ((with_reducible refine hK _ _ (by kernel_rfl) ?_); clear hK K)
    | ((with_reducible refine AWp.pS Th_ok G_ReconstructI_ok [0, 1, 2, 3, 4, 8, 9, 15] (by decide) ?_); intro K hK)
    | ((with_reducible refine AWp.dS (by kernel_rfl) Th_ok G_ReconstructI_ok [0, 1, 2, 3, 4, 8, 9, 15] ?_); intro K hK)
    | ((with_reducible refine AWp.pE Th_ok G_ReconstructI_ok [0, 1, 2, 3, 4, 8, 9, 15] (by decide) ?_); intro K hK)
    | ((with_reducible refine AWp.dE (by kernel_rfl) Th_ok G_ReconstructI_ok [0, 1, 2, 3, 4, 8, 9, 15] ?_); intro K hK)
    | ((first | with_reducible refine runF_id ?_ | with_reducible refine stepF_id ?_); simp (maxSteps := 2000000) only [runF, stepF, forkOf, gdOf, List.toList_toArray, stepOp, look, opAV, pureOp, callOp, memOp, AS.ev, AS.get, AS.obj, initS, initFrom, AV.cells, AS.upd, Option.bind_some, Option.bind_none, Option.map_some, Option.map_none, Option.getD_none, Option.getD_some, ↓reduceIte, Nat.reduceEqDiff, Nat.reduceAdd, Nat.reduceMul, Nat.reduceSub, List.nil_append, List.append_nil, List.cons_append, List.map_cons, List.map_nil, true_and, and_true, AS.fin, pick, dedup, List.mem_cons, List.not_mem_nil, or_false, false_or, List.size_toArray, List.length_cons, List.length_nil, loadAV, List.drop_zero, List.drop_succ_cons, List.take_zero, List.take_succ_cons, List.getElem?_cons_zero, List.getElem?_cons_succ, List.head?_cons, List.mapM_cons, List.mapM_nil, Option.bind_eq_bind, Option.pure_def, deeps3, deep3, deep2, deep1, deeps, deeps2, mixInts, AV.plain, mk, mkD, DCon.lift, DCon.runC, ren3, ren2, ren1, numb, List.zipIdx_nil, List.zipIdx_cons, List.all_nil, List.all_cons, Nat.reduceLeDiff, List.range, List.range.loop, Ty.sz, beq_self_eq_true, Bool.and_self, and_self, Ty.ofC, AO.isDead, Nat.reduceLT, if_true, Nat.zero_add, Nat.add_zero, ite_true, Nat.le_refl, Bool.false_eq_true, reduceCtorEq, if_false, ite_false, binAV, AO.ren, AV.isCell, fillAV, List.set_cons_zero, List.set_cons_succ, Ty.cells, Ty.flat, Ty.dflt, List.getD_cons_zero, List.getD_cons_succ, Int.reduceToNat, Int.reduceSub, Int.reduceAdd, Int.reduceMul, Int.reduceNeg, forall_eq_or_imp, forall_eq, gdL, id_eq, Nat.lt_irrefl, srcOf, List.replicate_succ, List.replicate_zero, dite_true, List.isEmpty_cons, Option.isSome_some, List.length_append, List.length_singleton, bne_self_eq_false, Bool.not_true, Bool.not_false, conF, asArgs, asArg, asTy, asI1, asB1, asS1, asL1, canons, canon, Fork.true_, Fork.false_, bne, Bool.not_not, List.length_map, pickO, AS.over, TI.bl, bne_iff_ne, AS.over2, without, keys, List.mem_singleton, memOp2, memOp3, absorb, abInt, abBool, abStr, abList, gones, Int.toNat_natCast, List.take_length, subE, List.nodup_cons, List.nodup_nil, not_false_eq_true, Nat.sub_self, conR, asG, asI, asBo, asStr, asIs, asBs, asE4, asI2, asI3, asLL, asLLL, Th_int, Th_Sint, Th_bool, Th_implGroup, G_ReconstructI, c_areSharesOf, c_valueAt, hL])
    | ((with_reducible refine ens_step ?_ (fun hE => ?_)); · ((repeat' with_reducible apply And.intro) <;> first | with_reducible assumption | omega | exact True.intro | with_reducible rfl | (show ByteArray.size _ ≤ _; decide) | (simp; done) | (simp; omega) | rfl))
    | ((with_reducible refine And.intro ?_ ?_); · ((repeat' with_reducible apply And.intro) <;> first | with_reducible assumption | omega | exact True.intro | with_reducible rfl | (show ByteArray.size _ ≤ _; decide) | (simp; done) | (simp; omega) | rfl))
    | ((with_reducible refine Fork.intro (fun h' => ?_) (fun h' => ?_)) <;> (try simp only [Bool.not_eq_true', Bool.not_eq_false', bne] at h') <;> (replace hL := And.intro h' hL) <;> (try simp only [decide_eq_true_eq, decide_eq_false_iff_not, beq_iff_eq, beq_eq_false_iff_ne, ne_eq] at h') <;> (try (have hrc := okRc_use h'; obtain ⟨hr1, hr2, ⟨hr3, hr4⟩, hr5, hr6⟩ := hrc; have hsh := shB_of hr1; obtain ⟨hgd, hq7⟩ := hsh; have hG := M.goodB_of hgd; have hcm := comB_use hr2; obtain ⟨hcl, hcb⟩ := hcm; have his := allIn_bd hr3; have hnd : is.Nodup := (of_decide_eq_true hr4); have hss := expsB_all12' hr6)))
    | (with_reducible refine AWp.skipS ?_)
    | ((with_reducible refine AWp.condT rfl ?_))
    | ((with_reducible refine AWp.condF rfl ?_))
    | (with_reducible refine AWp.condB rfl ?_)
    | (with_reducible refine AWp.ret ?_)
    | (with_reducible refine seqQ_n ?_)
    | (with_reducible refine seqQ_ret ?_)
    | (with_reducible refine blkQ_ret ?_)
    | (with_reducible refine blkQ_n ?_)
    | (with_reducible refine seqQ_exit ?_)
    | (with_reducible refine blkQ_exit ?_)
    | (with_reducible refine blkQ_other (by decide) ?_)
    | (with_reducible refine AWp.block ?_)
    | (with_reducible refine AWp.exit ?_)
    | (with_reducible refine AWp.skip ?_)
    | ((with_reducible refine EndsAt_id ?_); (try subst_vars); (try simp only [recV, hL, List.length_cons, List.length_nil, Nat.zero_add, Nat.reduceAdd, Bool.and_true, Bool.and_false, Bool.true_and, Bool.false_and, Bool.and_self, ↓reduceIte, Bool.false_eq_true, Bool.not_true, Bool.not_false, bne]); refine EndsAt.done [] (by first | exact .inr rfl | exact .inl rfl) rfl rfl ?_ ?_ <;> first | decide | (repeat' (first | rfl | apply And.intro | trivial)))
    | (with_reducible refine AWp.seq ?_)⟩
noncomputable def c_ReconstructS : Con0 := conF [(.pair .int (.pair .int .int)), (.list .int), (.list .int), (.list .int)] fun (⟨⟨p, q, g⟩, cs, is, ss, _⟩ : (Int × Int × Int) × (List Int) × (List Int) × (List Int) × Unit) => (is.length ≤ 9223372036854775806, .tup [.lit (.int .i64 ((recV p q g cs is ss 0).1)), .lit (.bool ((recV p q g cs is ss 0).2))], [])
noncomputable def G_ReconstructS : List (FuncId × Con) := [(75, mk c_sGroup), (101, mk c_sCommits), (102, mk c_l1All), (103, mk c_yPoints), (76, mk c_gExps), (104, mk c_sFits), (90, mk c_yLagrange), (89, mk c_nDot)]
theorem G_ReconstructS_ok : ∀ f C, (f, C) ∈ G_ReconstructS → C.ok Try.prog f := by
  intro f C h
  simp only [G_ReconstructS, List.mem_cons, Prod.mk.injEq, List.not_mem_nil, or_false] at h
  rcases h with ⟨rfl, rfl⟩ | ⟨rfl, rfl⟩ | ⟨rfl, rfl⟩ | ⟨rfl, rfl⟩ | ⟨rfl, rfl⟩ | ⟨rfl, rfl⟩ | ⟨rfl, rfl⟩ | ⟨rfl, rfl⟩
  · exact ok_sGroup
  · exact ok_sCommits
  · exact ok_l1All
  · exact ok_yPoints
  · exact ok_gExps
  · exact ok_sFits
  · exact ok_yLagrange
  · exact ok_nDot
set_option maxRecDepth 100000 in
set_option maxHeartbeats 4000000 in
theorem ok_ReconstructS : (mk c_ReconstructS).ok Try.prog 47 := okF (Θ := Th) (N := 98) (rs := [.tmp 8, .tmp 9]) Th_ok Try.func47 (by kernel_rfl) rfl Try.results47 (by decide) (by kernel_rfl) fun (⟨⟨p, q, g⟩, cs, is, ss, _⟩ : (Int × Int × Int) × (List Int) × (List Int) × (List Int) × Unit) => ⟨rfl, rfl, Nat.le_of_ble_eq_true rfl, fun hc w0 => by
  have hL := dmy_eq
  try dsimp only at hc
  try dsimp only
  have hbl := hc
  refine AWp.body rfl ?_
  repeat' first
    | ((with_reducible refine hK _ _ ?_); clear hK K)
    | ((with_reducible refine hK _ _ (by kernel_rfl) ?_); clear hK K)
    | ((with_reducible refine AWp.pS Th_ok G_ReconstructS_ok [0, 1, 2, 3, 4, 8, 9, 10, 11, 12, 13, 50, 51, 52, 53, 54, 72, 89] (by decide) ?_); intro K hK)
    | ((with_reducible refine AWp.dS (by kernel_rfl) Th_ok G_ReconstructS_ok [0, 1, 2, 3, 4, 8, 9, 10, 11, 12, 13, 50, 51, 52, 53, 54, 72, 89] ?_); intro K hK)
    | ((with_reducible refine AWp.pE Th_ok G_ReconstructS_ok [0, 1, 2, 3, 4, 8, 9, 10, 11, 12, 13, 50, 51, 52, 53, 54, 72, 89] (by decide) ?_); intro K hK)
    | ((with_reducible refine AWp.dE (by kernel_rfl) Th_ok G_ReconstructS_ok [0, 1, 2, 3, 4, 8, 9, 10, 11, 12, 13, 50, 51, 52, 53, 54, 72, 89] ?_); intro K hK)
    | ((first | with_reducible refine runF_id ?_ | with_reducible refine stepF_id ?_); simp (maxSteps := 2000000) only [runF, stepF, forkOf, gdOf, List.toList_toArray, stepOp, look, opAV, pureOp, callOp, memOp, AS.ev, AS.get, AS.obj, initS, initFrom, AV.cells, AS.upd, Option.bind_some, Option.bind_none, Option.map_some, Option.map_none, Option.getD_none, Option.getD_some, ↓reduceIte, Nat.reduceEqDiff, Nat.reduceAdd, Nat.reduceMul, Nat.reduceSub, List.nil_append, List.append_nil, List.cons_append, List.map_cons, List.map_nil, true_and, and_true, AS.fin, pick, dedup, List.mem_cons, List.not_mem_nil, or_false, false_or, List.size_toArray, List.length_cons, List.length_nil, loadAV, List.drop_zero, List.drop_succ_cons, List.take_zero, List.take_succ_cons, List.getElem?_cons_zero, List.getElem?_cons_succ, List.head?_cons, List.mapM_cons, List.mapM_nil, Option.bind_eq_bind, Option.pure_def, deeps3, deep3, deep2, deep1, deeps, deeps2, mixInts, AV.plain, mk, mkD, DCon.lift, DCon.runC, ren3, ren2, ren1, numb, List.zipIdx_nil, List.zipIdx_cons, List.all_nil, List.all_cons, Nat.reduceLeDiff, List.range, List.range.loop, Ty.sz, beq_self_eq_true, Bool.and_self, and_self, Ty.ofC, AO.isDead, Nat.reduceLT, if_true, Nat.zero_add, Nat.add_zero, ite_true, Nat.le_refl, Bool.false_eq_true, reduceCtorEq, if_false, ite_false, binAV, AO.ren, AV.isCell, fillAV, List.set_cons_zero, List.set_cons_succ, Ty.cells, Ty.flat, Ty.dflt, List.getD_cons_zero, List.getD_cons_succ, Int.reduceToNat, Int.reduceSub, Int.reduceAdd, Int.reduceMul, Int.reduceNeg, forall_eq_or_imp, forall_eq, gdL, id_eq, Nat.lt_irrefl, srcOf, List.replicate_succ, List.replicate_zero, dite_true, List.isEmpty_cons, Option.isSome_some, List.length_append, List.length_singleton, bne_self_eq_false, Bool.not_true, Bool.not_false, conF, asArgs, asArg, asTy, asI1, asB1, asS1, asL1, canons, canon, Fork.true_, Fork.false_, bne, Bool.not_not, List.length_map, pickO, AS.over, TI.bl, bne_iff_ne, AS.over2, without, keys, List.mem_singleton, memOp2, memOp3, absorb, abInt, abBool, abStr, abList, gones, Int.toNat_natCast, List.take_length, subE, List.nodup_cons, List.nodup_nil, not_false_eq_true, Nat.sub_self, conR, asG, asI, asBo, asStr, asIs, asBs, asE4, asI2, asI3, asLL, asLLL, Th_int, Th_Sint, Th_bool, Th_implBases, Th_implDealing, Th_implEqualLog, Th_implGroup, Th_implSDealing, Th_implSharedKey, Th_lawsEqualLog, Th_lawsGroup, Th_lawsSDealing, Th_lawsSharedKey, G_ReconstructS, c_sGroup, c_sCommits, c_l1All, c_yPoints, c_gExps, c_sFits, c_yLagrange, c_nDot, hL])
    | ((with_reducible refine ens_step ?_ (fun hE => ?_)); · ((repeat' with_reducible apply And.intro) <;> first | with_reducible assumption | omega | exact True.intro | with_reducible rfl | (show ByteArray.size _ ≤ _; decide) | (simp; done) | (simp; omega) | rfl))
    | ((with_reducible refine And.intro ?_ ?_); · ((repeat' with_reducible apply And.intro) <;> first | with_reducible assumption | omega | exact True.intro | with_reducible rfl | (show ByteArray.size _ ≤ _; decide) | (simp; done) | (simp; omega) | rfl))
    | ((with_reducible refine Fork.intro (fun h' => ?_) (fun h' => ?_)) <;> (try simp only [Bool.not_eq_true', Bool.not_eq_false', bne] at h') <;> (replace hL := And.intro h' hL) <;> (try simp only [decide_eq_true_eq, decide_eq_false_iff_not, beq_iff_eq, beq_eq_false_iff_ne, ne_eq] at h') <;> (try (have hpg := tru_big (xs := is) h'; replace hL := And.intro hpg hL)) <;> (try (have hsh := shB_of h'; obtain ⟨hgd, hq7⟩ := hsh; have hG := M.goodB_of hgd; have hq2 := hG.q2; have hqp := hG.qp; have hp3 := hG.p3; have hpM := hG.pM; have hgb : 0 ≤ g ∧ g < p := ⟨by have := hG.g2; omega, hG.gp⟩; have hpq := hG.pq; have hpb : 7 < q ∧ q ≤ 2000000000 := ⟨hq7, by omega⟩)) <;> (try (have hcm := comB_use h'; obtain ⟨hcl, hcs⟩ := hcm)) <;> (try (have his : ∀ x ∈ is, (1 : Int) ≤ x ∧ x ≤ 7 := allIn_bd h')) <;> (try (have hnd : is.Nodup := (of_decide_eq_true h'))) <;> (try (have hss := expsB_all12' h'; have hx : (0 : Int) ≤ 0 ∧ (0 : Int) ≤ 7 := (by omega))) <;> (try (have hik := his _ (getD_in 0 (k := k) (by omega)); have hsk := getD_bd' hss (k := k) (by omega); have hsn := sub_next (k := k) (by omega) hz3; have hss2 := sub_skip (k := k) (by omega) hz3; have hab := app_bd hz5 hsk)) <;> (try (have hct := colF_t (f := shrB p q g cs) (t := cs.length) (is := is) (ss := ss) (ys := ys) (xs := xs) (k := k) (by omega) (by omega) hlt hL.1; rw [hct] at hz2)) <;> (try (have hc2 := colF_2 (f := shrB p q g cs) (t := cs.length) (is := is) (ss := ss) (ys := ys) (xs := xs) (k := k) (by omega) (by omega) hL.1; rw [hc2] at hz2)) <;> (try (have hc1 := colF_1 (f := shrB p q g cs) (t := cs.length) (is := is) (ss := ss) (ys := ys) (xs := xs) (k := k) (by omega) (by omega) h'; rw [hc1] at hz2)) <;> (try (have hlt : (xs.length : Int) < cs.length := h')) <;> (try (have hke : k = is.length := (by omega); subst hke; rw [colF_end] at hz2; rw [List.take_length] at hz3; have hpt := sub_pts hpq hpb his hnd hz3; have hptl := hpt.len; have hlb := lagL_bd (q := q) (x := 0) (by omega) (xs := xs) (k := xs.length); have hll := lagL_len (q := q) (x := 0) (xs := xs) (k := xs.length))) <;> (try (have hvf := valV_f (x := 0) hz2 h'; replace hL := And.intro hvf hL)) <;> (try (have hvt := valV_t (x := 0) hz2 h'; replace hL := And.intro hvt hL)))
    | (with_reducible refine AWp.skipS ?_)
    | ((with_reducible refine AWp.condT rfl ?_))
    | ((with_reducible refine AWp.condF rfl ?_))
    | (with_reducible refine AWp.condB rfl ?_)
    | (with_reducible refine AWp.ret ?_)
    | (with_reducible refine seqQ_n ?_)
    | (with_reducible refine seqQ_ret ?_)
    | (with_reducible refine blkQ_ret ?_)
    | (with_reducible refine blkQ_n ?_)
    | (with_reducible refine seqQ_exit ?_)
    | (with_reducible refine blkQ_exit ?_)
    | (with_reducible refine blkQ_other (by decide) ?_)
    | (with_reducible refine AWp.block ?_)
    | (with_reducible refine AWp.exit ?_)
    | (with_reducible refine AWp.skip ?_)
    | ((with_reducible refine loop_id ?_); refine AWp.loopAt 5 rfl ?_; refine AWp.sub (Sub.nilSlot 10 300010 3 .int rfl rfl) ?_; refine AWp.sub (Sub.nilSlot 11 300011 3 .int rfl rfl) ?_; refine AWp.loopO [10, 11, 12, 13, 53, 54, 55, 56, 57, 58, 59, 60, 61, 62, 63, 64, 65, 66, 67, 68, 69, 70, 71, 72, 73, 74, 75, 76, 77, 78, 79, 80, 81, 82, 83, 84] (fun z : Nat × List Int × List Int => [(53, .lit (.int .i64 (z.1 : Nat))), (10, .own 300010 z.2.1.length), (11, .own 300011 z.2.2.length)]) (fun z => [(300010, .row 3 .int z.2.1), (300011, .row 3 .int z.2.2)]) (fun z => z.1 ≤ is.length ∧ colF (shrB p q g cs) cs.length (is.drop z.1) (ss.drop z.1) (z.2.1, z.2.2) = colF (shrB p q g cs) cs.length is ss ([], []) ∧ z.2.1.Sublist (is.take z.1) ∧ z.2.2.length = z.2.1.length ∧ (∀ y ∈ z.2.2, 0 ≤ y ∧ y < q) ∧ z.2.1.length ≤ z.1) (fun z => is.length - z.1) (0, [], []) (by (try dsimp only); exact ⟨by omega, rfl, List.nil_sublist _, rfl, by simp, by simp⟩) (by (refine Sub.auto (by first | exact frok0 | assumption) rfl rfl ?_ ?_ <;> (try simp only [subE, AS.over2, without, keys, look, List.cons_append, List.nil_append, List.append_nil, List.mem_cons, List.not_mem_nil, or_false, or_true, true_or, false_or, Nat.reduceEqDiff, ↓reduceIte, Option.some.injEq, AV.lit.injEq, Value.int.injEq, Value.bool.injEq, AV.own.injEq, AO.row.injEq, AO.box.injEq, List.cons.injEq, AV.agg.injEq, AV.sl.injEq, true_and, and_true, and_self, heq_eq_eq, List.length_nil, List.length_cons, List.map_nil, List.take_zero, Int.natCast_add, Int.cast_ofNat_Int, Int.natCast_zero, List.length_append, List.length_map, List.length_take, Nat.zero_add]) <;> (simp))) (fun z hz5 L5 hLoop5 => ?_); obtain ⟨k, xs, ys⟩ := z; (try dsimp only at hz5); obtain ⟨hz1, hz2, hz3, hz4, hz5, hz6⟩ := hz5)
    | ((with_reducible refine seqQ_f ?_); refine hLoop5 (k + 1, _, _) _ (by (try dsimp only); first | exact ⟨by omega, hz2, hsn, by simp; omega, hab, by simp; omega⟩ | exact ⟨by omega, hz2, hss2, hz4, hz5, by omega⟩) (by (try dsimp only); omega) ?_; ((refine Sub.auto (by first | exact frok0 | assumption) rfl rfl ?_ ?_ <;> (try simp only [subE, AS.over2, without, keys, look, List.cons_append, List.nil_append, List.append_nil, List.mem_cons, List.not_mem_nil, or_false, or_true, true_or, false_or, Nat.reduceEqDiff, ↓reduceIte, Option.some.injEq, AV.lit.injEq, Value.int.injEq, Value.bool.injEq, AV.own.injEq, AO.row.injEq, AO.box.injEq, List.cons.injEq, AV.agg.injEq, AV.sl.injEq, true_and, and_true, and_self, heq_eq_eq, List.length_nil, List.length_cons, List.map_nil, List.take_zero, Int.natCast_add, Int.cast_ofNat_Int, Int.natCast_zero, List.length_append, List.length_map, List.length_take, Nat.zero_add]) <;> ((repeat' apply And.intro) <;> first | rfl | omega | (simp; done) | (simp; omega)))))
    | ((with_reducible refine EndsAt_id ?_); (try subst_vars); (try simp only [recV, okRc, trsB, hL, List.length_cons, List.length_nil, Nat.zero_add, Nat.reduceAdd, Bool.and_true, Bool.and_false, Bool.true_and, Bool.false_and, Bool.and_self, ↓reduceIte, Bool.false_eq_true, Bool.not_true, Bool.not_false, bne]); refine EndsAt.done [] (by first | exact .inr rfl | exact .inl rfl) rfl rfl ?_ ?_ <;> first | decide | (repeat' (first | rfl | apply And.intro | trivial)))
    | (with_reducible refine AWp.seq ?_)⟩
noncomputable def okCs (p q g t : Int) (ss : List Int) : Bool := shB p q g && inr t 1 7 && inr ss.length 1 7 && expsB q ss
theorem tkl {n : Nat} {ss : List Int} (h : n ≤ ss.length) : (ss.take n).length = n := by rw [List.length_take]; omega
theorem tk_bd {q : Int} {ss : List Int} {n : Nat} (h : ∀ x ∈ ss, 0 ≤ x ∧ x < q) : ∀ x ∈ ss.take n, 0 ≤ x ∧ x < q := fun x hx => h x (List.mem_of_mem_take hx)
noncomputable def c_AreConsistentI : Con0 := conF [(.pair .int (.pair .int .int)), .int, (.list .int)] fun (⟨⟨p, q, g⟩, t, ss, _⟩ : (Int × Int × Int) × Int × (List Int) × Unit) => (True, .tup [.lit (.bool (okCs p q g t ss && consB q (nT t ss) ss)), .lit (.bool (okCs p q g t ss))], [])
noncomputable def G_AreConsistentI : List (FuncId × Con) := [(79, mk c_isSharing), (91, mk c_isTrustee), (73, mk c_within), (80, mk c_areExps), (93, mk c_lagrange), (92, mk c_dot)]
theorem G_AreConsistentI_ok : ∀ f C, (f, C) ∈ G_AreConsistentI → C.ok Try.prog f := by
  intro f C h
  simp only [G_AreConsistentI, List.mem_cons, Prod.mk.injEq, List.not_mem_nil, or_false] at h
  rcases h with ⟨rfl, rfl⟩ | ⟨rfl, rfl⟩ | ⟨rfl, rfl⟩ | ⟨rfl, rfl⟩ | ⟨rfl, rfl⟩ | ⟨rfl, rfl⟩
  · exact ok_isSharing
  · exact ok_isTrustee
  · exact ok_within
  · exact ok_areExps
  · exact ok_lagrange
  · exact ok_dot
set_option maxRecDepth 100000 in
set_option maxHeartbeats 4000000 in
theorem ok_AreConsistentI : (mk c_AreConsistentI).ok Try.prog 40 := okF (Θ := Th) (N := 70) (rs := [.tmp 6, .tmp 7]) Th_ok Try.func40 (by kernel_rfl) rfl Try.results40 (by decide) (by kernel_rfl) fun (⟨⟨p, q, g⟩, t, ss, _⟩ : (Int × Int × Int) × Int × (List Int) × Unit) => ⟨rfl, rfl, Nat.le_of_ble_eq_true rfl, fun hc w0 => by
  have hL := dmy_eq
  try dsimp only at hc
  try dsimp only
  refine AWp.body rfl ?_
  repeat' first
    | ((with_reducible refine hK _ _ ?_); clear hK K)
    | ((with_reducible refine hK _ _ (by kernel_rfl) ?_); clear hK K)
    | ((with_reducible refine AWp.pS Th_ok G_AreConsistentI_ok [0, 1, 2, 3, 6, 7, 8, 9, 10, 11, 12, 32, 38, 39, 40, 48, 49, 50, 51, 68] (by decide) ?_); intro K hK)
    | ((with_reducible refine AWp.dS (by kernel_rfl) Th_ok G_AreConsistentI_ok [0, 1, 2, 3, 6, 7, 8, 9, 10, 11, 12, 32, 38, 39, 40, 48, 49, 50, 51, 68] ?_); intro K hK)
    | ((with_reducible refine AWp.pE Th_ok G_AreConsistentI_ok [0, 1, 2, 3, 6, 7, 8, 9, 10, 11, 12, 32, 38, 39, 40, 48, 49, 50, 51, 68] (by decide) ?_); intro K hK)
    | ((with_reducible refine AWp.dE (by kernel_rfl) Th_ok G_AreConsistentI_ok [0, 1, 2, 3, 6, 7, 8, 9, 10, 11, 12, 32, 38, 39, 40, 48, 49, 50, 51, 68] ?_); intro K hK)
    | ((first | with_reducible refine runF_id ?_ | with_reducible refine stepF_id ?_); simp (maxSteps := 2000000) only [runF, stepF, forkOf, gdOf, List.toList_toArray, stepOp, look, opAV, pureOp, callOp, memOp, AS.ev, AS.get, AS.obj, initS, initFrom, AV.cells, AS.upd, Option.bind_some, Option.bind_none, Option.map_some, Option.map_none, Option.getD_none, Option.getD_some, ↓reduceIte, Nat.reduceEqDiff, Nat.reduceAdd, Nat.reduceMul, Nat.reduceSub, List.nil_append, List.append_nil, List.cons_append, List.map_cons, List.map_nil, true_and, and_true, AS.fin, pick, dedup, List.mem_cons, List.not_mem_nil, or_false, false_or, List.size_toArray, List.length_cons, List.length_nil, loadAV, List.drop_zero, List.drop_succ_cons, List.take_zero, List.take_succ_cons, List.getElem?_cons_zero, List.getElem?_cons_succ, List.head?_cons, List.mapM_cons, List.mapM_nil, Option.bind_eq_bind, Option.pure_def, deeps3, deep3, deep2, deep1, deeps, deeps2, mixInts, AV.plain, mk, mkD, DCon.lift, DCon.runC, ren3, ren2, ren1, numb, List.zipIdx_nil, List.zipIdx_cons, List.all_nil, List.all_cons, Nat.reduceLeDiff, List.range, List.range.loop, Ty.sz, beq_self_eq_true, Bool.and_self, and_self, Ty.ofC, AO.isDead, Nat.reduceLT, if_true, Nat.zero_add, Nat.add_zero, ite_true, Nat.le_refl, Bool.false_eq_true, reduceCtorEq, if_false, ite_false, binAV, AO.ren, AV.isCell, fillAV, List.set_cons_zero, List.set_cons_succ, Ty.cells, Ty.flat, Ty.dflt, List.getD_cons_zero, List.getD_cons_succ, Int.reduceToNat, Int.reduceSub, Int.reduceAdd, Int.reduceMul, Int.reduceNeg, forall_eq_or_imp, forall_eq, gdL, id_eq, Nat.lt_irrefl, srcOf, List.replicate_succ, List.replicate_zero, dite_true, List.isEmpty_cons, Option.isSome_some, List.length_append, List.length_singleton, bne_self_eq_false, Bool.not_true, Bool.not_false, conF, asArgs, asArg, asTy, asI1, asB1, asS1, asL1, canons, canon, Fork.true_, Fork.false_, bne, Bool.not_not, List.length_map, pickO, AS.over, TI.bl, bne_iff_ne, AS.over2, without, keys, List.mem_singleton, memOp2, memOp3, absorb, abInt, abBool, abStr, abList, gones, Int.toNat_natCast, List.take_length, subE, List.nodup_cons, List.nodup_nil, not_false_eq_true, Nat.sub_self, conR, asG, asI, asBo, asStr, asIs, asBs, asE4, asI2, asI3, asLL, asLLL, Th_int, Th_Sint, Th_bool, Th_implBases, Th_implDealing, Th_implEqualLog, Th_implGroup, Th_implSDealing, Th_lawsDealing, Th_lawsEqualLog, Th_lawsGroup, Th_lawsSDealing, Th_string, G_AreConsistentI, c_isSharing, c_isTrustee, c_within, c_areExps, c_lagrange, c_dot, ptsN_len, Int.toNat_natCast, hL])
    | ((with_reducible refine ens_step ?_ (fun hE => ?_)); · ((repeat' with_reducible apply And.intro) <;> first | with_reducible assumption | omega | exact True.intro | with_reducible rfl | (show ByteArray.size _ ≤ _; decide) | (simp; done) | (simp; omega) | rfl))
    | ((with_reducible refine And.intro ?_ ?_); · ((repeat' with_reducible apply And.intro) <;> first | with_reducible assumption | omega | exact True.intro | with_reducible rfl | (show ByteArray.size _ ≤ _; decide) | (simp; done) | (simp; omega) | rfl))
    | ((with_reducible refine Fork.intro (fun h' => ?_) (fun h' => ?_)) <;> (try simp only [Bool.not_eq_true', Bool.not_eq_false', bne] at h') <;> (replace hL := And.intro h' hL) <;> (try simp only [decide_eq_true_eq, decide_eq_false_iff_not, beq_iff_eq, beq_eq_false_iff_ne, ne_eq] at h') <;> (try (have hsh := shB_of h'; obtain ⟨hgd, hq7⟩ := hsh; have hG := M.goodB_of hgd; have hq2 := hG.q2; have hqp := hG.qp; have hp3 := hG.p3; have hpM := hG.pM; have hpq := hG.pq; have hpb : 7 < q ∧ q ≤ 2000000000 := ⟨hq7, by omega⟩)) <;> (try (have hin := inr_t h')) <;> (try (have hss := expsB_all12' h'; have hnt := nT_le (shares := ss) (t := t) (by omega); obtain ⟨hn7, hnl, hnA, hnB⟩ := hnt; have hne := nT_eq (shares := ss) (t := t) (by omega); have htl := tkl hnl; have htb := tk_bd (n := nT t ss) hss; have hpt := ptsN_ok hpq hpb hn7; have hsm := chkN_small hpq hpb hn7 hnl hss; replace hL := And.intro hne hL)) <;> (try (have hlb := lagL_bd (q := q) (x := (k : Int) + 1) (by omega) (xs := ptsN (nT t ss)) (k := (nT t ss)); have hll := lagL_len (q := q) (x := (k : Int) + 1) (xs := ptsN (nT t ss)) (k := (nT t ss)))) <;> (try (have hjn : j = nT t ss := (by omega); subst hjn)) <;> (try (have hck : chkB q (nT t ss) ss k = true := beq_iff_eq.2 h'; have hcn := chkN_t hz2 hck)) <;> (try (have hck : chkB q (nT t ss) ss k = false := beq_eq_false_iff_ne.2 h'; have hcf := cons_f (by omega) hck; replace hL := And.intro hcf hL)) <;> (try (have hke : k = ss.length := (by omega); subst hke; have hct : consB q (nT t ss) ss = true := hz2; replace hL := And.intro hct hL)))
    | (with_reducible refine AWp.skipS ?_)
    | ((with_reducible refine AWp.condT rfl ?_))
    | ((with_reducible refine AWp.condF rfl ?_))
    | (with_reducible refine AWp.condB rfl ?_)
    | (with_reducible refine AWp.ret ?_)
    | (with_reducible refine seqQ_n ?_)
    | (with_reducible refine seqQ_ret ?_)
    | (with_reducible refine blkQ_ret ?_)
    | (with_reducible refine blkQ_n ?_)
    | (with_reducible refine seqQ_exit ?_)
    | (with_reducible refine blkQ_exit ?_)
    | (with_reducible refine blkQ_other (by decide) ?_)
    | (with_reducible refine AWp.block ?_)
    | (with_reducible refine AWp.exit ?_)
    | (with_reducible refine AWp.skip ?_)
    | ((with_reducible refine loop_id ?_); refine AWp.loopAt 6 rfl ?_; refine AWp.loopO [9, 10, 39, 40, 41, 42, 43, 44, 45, 46, 47] (fun j => [(39, .lit (.int .i64 (j : Nat))), (9, .own 224 j)]) (fun j => [(224, .row 3 .int (ptsN j))]) (fun j => j ≤ nT t ss) (fun j => nT t ss - j) 0 (by omega) (by refine Sub.auto (by first | exact frok0 | assumption) rfl rfl ?_ ?_ <;> (try simp only [subE, AS.over2, without, keys, look, List.cons_append, List.nil_append, List.append_nil, List.mem_cons, List.not_mem_nil, or_false, or_true, true_or, false_or, Nat.reduceEqDiff, ↓reduceIte, Option.some.injEq, AV.lit.injEq, Value.int.injEq, Value.bool.injEq, AV.own.injEq, AO.row.injEq, AO.box.injEq, List.cons.injEq, AV.agg.injEq, AV.sl.injEq, true_and, and_true, and_self, heq_eq_eq, List.length_nil, List.length_cons, List.map_nil, List.take_zero, Int.natCast_add, Int.cast_ofNat_Int, Int.natCast_zero, List.length_append, List.length_map, List.length_take, Nat.zero_add]) <;> (simp [ptsN])) (fun j hj_6 L6 hLoop6 => ?_); have hpl := ptsN_len (n := j))
    | ((with_reducible refine seqQ_f ?_); refine hLoop6 (j + 1) _ (by omega) (by omega) ?_; (refine Sub.auto (by first | exact frok0 | assumption) rfl rfl ?_ ?_ <;> (try simp only [subE, AS.over2, without, keys, look, List.cons_append, List.nil_append, List.append_nil, List.mem_cons, List.not_mem_nil, or_false, or_true, true_or, false_or, Nat.reduceEqDiff, ↓reduceIte, Option.some.injEq, AV.lit.injEq, Value.int.injEq, Value.bool.injEq, AV.own.injEq, AO.row.injEq, AO.box.injEq, List.cons.injEq, AV.agg.injEq, AV.sl.injEq, true_and, and_true, and_self, heq_eq_eq, List.length_nil, List.length_cons, List.map_nil, List.take_zero, Int.natCast_add, Int.cast_ofNat_Int, Int.natCast_zero, List.length_append, List.length_map, List.length_take, Nat.zero_add]) <;> ((repeat' apply And.intro) <;> first | omega | exact ptsN_step | (simp [ptsN_len]; done))))
    | ((with_reducible refine loop_id ?_); refine AWp.loopAt 11 rfl ?_; refine AWp.loopO [6, 7, 11, 12, 50, 51, 52, 53, 54, 55, 56, 57, 58, 59, 60, 61, 62, 63, 64, 65, 66, 67, 68, 69] (fun k => [(50, .lit (.int .i64 (k : Nat)))]) (fun k => []) (fun k => k ≤ ss.length ∧ chkN q (nT t ss) ss k = true) (fun k => ss.length - k) 0 (by exact ⟨by omega, rfl⟩) (by refine Sub.auto (by first | exact frok0 | assumption) rfl rfl ?_ ?_ <;> (try simp only [subE, AS.over2, without, keys, look, List.cons_append, List.nil_append, List.append_nil, List.mem_cons, List.not_mem_nil, or_false, or_true, true_or, false_or, Nat.reduceEqDiff, ↓reduceIte, Option.some.injEq, AV.lit.injEq, Value.int.injEq, Value.bool.injEq, AV.own.injEq, AO.row.injEq, AO.box.injEq, List.cons.injEq, AV.agg.injEq, AV.sl.injEq, true_and, and_true, and_self, heq_eq_eq, List.length_nil, List.length_cons, List.map_nil, List.take_zero, Int.natCast_add, Int.cast_ofNat_Int, Int.natCast_zero, List.length_append, List.length_map, List.length_take, Nat.zero_add]) <;> (simp)) (fun k hk_11 L11 hLoop11 => ?_); obtain ⟨hz1, hz2⟩ := hk_11)
    | ((with_reducible refine seqQ_f ?_); refine hLoop11 (k + 1) _ (by exact ⟨by omega, hcn⟩) (by omega) ?_; (refine Sub.auto (by first | exact frok0 | assumption) rfl rfl ?_ ?_ <;> (try simp only [subE, AS.over2, without, keys, look, List.cons_append, List.nil_append, List.append_nil, List.mem_cons, List.not_mem_nil, or_false, or_true, true_or, false_or, Nat.reduceEqDiff, ↓reduceIte, Option.some.injEq, AV.lit.injEq, Value.int.injEq, Value.bool.injEq, AV.own.injEq, AO.row.injEq, AO.box.injEq, List.cons.injEq, AV.agg.injEq, AV.sl.injEq, true_and, and_true, and_self, heq_eq_eq, List.length_nil, List.length_cons, List.map_nil, List.take_zero, Int.natCast_add, Int.cast_ofNat_Int, Int.natCast_zero, List.length_append, List.length_map, List.length_take, Nat.zero_add]) <;> (omega)))
    | ((with_reducible refine EndsAt_id ?_); (try subst_vars); (try simp only [okCs, hL, List.length_cons, List.length_nil, Nat.zero_add, Nat.reduceAdd, Bool.and_true, Bool.and_false, Bool.true_and, Bool.false_and, Bool.and_self, ↓reduceIte, Bool.false_eq_true, Bool.not_true, Bool.not_false, bne]); refine EndsAt.done [] (by first | exact .inr rfl | exact .inl rfl) rfl rfl ?_ ?_ <;> first | decide | (repeat' (first | rfl | apply And.intro | trivial)))
    | (with_reducible refine AWp.seq ?_)⟩
noncomputable def c_AreConsistentS : Con0 := conF [(.pair .int (.pair .int .int)), .int, (.list .int)] fun (⟨⟨p, q, g⟩, t, ss, _⟩ : (Int × Int × Int) × Int × (List Int) × Unit) => (True, .tup [.lit (.bool (okCs p q g t ss && consB q (nT t ss) ss)), .lit (.bool (okCs p q g t ss))], [])
noncomputable def G_AreConsistentS : List (FuncId × Con) := [(75, mk c_sGroup), (69, mk c_l1In), (76, mk c_gExps), (90, mk c_yLagrange), (89, mk c_nDot)]
theorem G_AreConsistentS_ok : ∀ f C, (f, C) ∈ G_AreConsistentS → C.ok Try.prog f := by
  intro f C h
  simp only [G_AreConsistentS, List.mem_cons, Prod.mk.injEq, List.not_mem_nil, or_false] at h
  rcases h with ⟨rfl, rfl⟩ | ⟨rfl, rfl⟩ | ⟨rfl, rfl⟩ | ⟨rfl, rfl⟩ | ⟨rfl, rfl⟩
  · exact ok_sGroup
  · exact ok_l1In
  · exact ok_gExps
  · exact ok_yLagrange
  · exact ok_nDot
set_option maxRecDepth 100000 in
set_option maxHeartbeats 4000000 in
theorem ok_AreConsistentS : (mk c_AreConsistentS).ok Try.prog 39 := okF (Θ := Th) (N := 69) (rs := [.tmp 6, .tmp 7]) Th_ok Try.func39 (by kernel_rfl) rfl Try.results39 (by decide) (by kernel_rfl) fun (⟨⟨p, q, g⟩, t, ss, _⟩ : (Int × Int × Int) × Int × (List Int) × Unit) => ⟨rfl, rfl, Nat.le_of_ble_eq_true rfl, fun hc w0 => by
  have hL := dmy_eq
  try dsimp only at hc
  try dsimp only
  refine AWp.body rfl ?_
  repeat' first
    | ((with_reducible refine hK _ _ ?_); clear hK K)
    | ((with_reducible refine hK _ _ (by kernel_rfl) ?_); clear hK K)
    | ((with_reducible refine AWp.pS Th_ok G_AreConsistentS_ok [0, 1, 2, 3, 6, 7, 8, 9, 10, 30, 34, 37, 49, 68] (by decide) ?_); intro K hK)
    | ((with_reducible refine AWp.dS (by kernel_rfl) Th_ok G_AreConsistentS_ok [0, 1, 2, 3, 6, 7, 8, 9, 10, 30, 34, 37, 49, 68] ?_); intro K hK)
    | ((with_reducible refine AWp.pE Th_ok G_AreConsistentS_ok [0, 1, 2, 3, 6, 7, 8, 9, 10, 30, 34, 37, 49, 68] (by decide) ?_); intro K hK)
    | ((with_reducible refine AWp.dE (by kernel_rfl) Th_ok G_AreConsistentS_ok [0, 1, 2, 3, 6, 7, 8, 9, 10, 30, 34, 37, 49, 68] ?_); intro K hK)
    | ((first | with_reducible refine runF_id ?_ | with_reducible refine stepF_id ?_); simp (maxSteps := 2000000) only [runF, stepF, forkOf, gdOf, List.toList_toArray, stepOp, look, opAV, pureOp, callOp, memOp, AS.ev, AS.get, AS.obj, initS, initFrom, AV.cells, AS.upd, Option.bind_some, Option.bind_none, Option.map_some, Option.map_none, Option.getD_none, Option.getD_some, ↓reduceIte, Nat.reduceEqDiff, Nat.reduceAdd, Nat.reduceMul, Nat.reduceSub, List.nil_append, List.append_nil, List.cons_append, List.map_cons, List.map_nil, true_and, and_true, AS.fin, pick, dedup, List.mem_cons, List.not_mem_nil, or_false, false_or, List.size_toArray, List.length_cons, List.length_nil, loadAV, List.drop_zero, List.drop_succ_cons, List.take_zero, List.take_succ_cons, List.getElem?_cons_zero, List.getElem?_cons_succ, List.head?_cons, List.mapM_cons, List.mapM_nil, Option.bind_eq_bind, Option.pure_def, deeps3, deep3, deep2, deep1, deeps, deeps2, mixInts, AV.plain, mk, mkD, DCon.lift, DCon.runC, ren3, ren2, ren1, numb, List.zipIdx_nil, List.zipIdx_cons, List.all_nil, List.all_cons, Nat.reduceLeDiff, List.range, List.range.loop, Ty.sz, beq_self_eq_true, Bool.and_self, and_self, Ty.ofC, AO.isDead, Nat.reduceLT, if_true, Nat.zero_add, Nat.add_zero, ite_true, Nat.le_refl, Bool.false_eq_true, reduceCtorEq, if_false, ite_false, binAV, AO.ren, AV.isCell, fillAV, List.set_cons_zero, List.set_cons_succ, Ty.cells, Ty.flat, Ty.dflt, List.getD_cons_zero, List.getD_cons_succ, Int.reduceToNat, Int.reduceSub, Int.reduceAdd, Int.reduceMul, Int.reduceNeg, forall_eq_or_imp, forall_eq, gdL, id_eq, Nat.lt_irrefl, srcOf, List.replicate_succ, List.replicate_zero, dite_true, List.isEmpty_cons, Option.isSome_some, List.length_append, List.length_singleton, bne_self_eq_false, Bool.not_true, Bool.not_false, conF, asArgs, asArg, asTy, asI1, asB1, asS1, asL1, canons, canon, Fork.true_, Fork.false_, bne, Bool.not_not, List.length_map, pickO, AS.over, TI.bl, bne_iff_ne, AS.over2, without, keys, List.mem_singleton, memOp2, memOp3, absorb, abInt, abBool, abStr, abList, gones, Int.toNat_natCast, List.take_length, subE, List.nodup_cons, List.nodup_nil, not_false_eq_true, Nat.sub_self, conR, asG, asI, asBo, asStr, asIs, asBs, asE4, asI2, asI3, asLL, asLLL, Th_int, Th_Sint, Th_bool, Th_implBases, Th_implDealing, Th_implGroup, Th_implSDealing, Th_lawsDealing, Th_lawsEqualLog, Th_lawsGroup, Th_lawsSDealing, Th_string, G_AreConsistentS, c_sGroup, c_l1In, c_gExps, c_yLagrange, c_nDot, ptsN_len, Int.toNat_natCast, hL])
    | ((with_reducible refine ens_step ?_ (fun hE => ?_)); · ((repeat' with_reducible apply And.intro) <;> first | with_reducible assumption | omega | exact True.intro | with_reducible rfl | (show ByteArray.size _ ≤ _; decide) | (simp; done) | (simp; omega) | rfl))
    | ((with_reducible refine And.intro ?_ ?_); · ((repeat' with_reducible apply And.intro) <;> first | with_reducible assumption | omega | exact True.intro | with_reducible rfl | (show ByteArray.size _ ≤ _; decide) | (simp; done) | (simp; omega) | rfl))
    | ((with_reducible refine Fork.intro (fun h' => ?_) (fun h' => ?_)) <;> (try simp only [Bool.not_eq_true', Bool.not_eq_false', bne] at h') <;> (replace hL := And.intro h' hL) <;> (try simp only [decide_eq_true_eq, decide_eq_false_iff_not, beq_iff_eq, beq_eq_false_iff_ne, ne_eq] at h') <;> (try (have hsh := shB_of h'; obtain ⟨hgd, hq7⟩ := hsh; have hG := M.goodB_of hgd; have hq2 := hG.q2; have hqp := hG.qp; have hp3 := hG.p3; have hpM := hG.pM; have hpq := hG.pq; have hpb : 7 < q ∧ q ≤ 2000000000 := ⟨hq7, by omega⟩)) <;> (try (have hin := inr_t h')) <;> (try (have hss := expsB_all12' h'; have hnt := nT_le (shares := ss) (t := t) (by omega); obtain ⟨hn7, hnl, hnA, hnB⟩ := hnt; have hne := nT_eq (shares := ss) (t := t) (by omega); have htl := tkl hnl; have htb := tk_bd (n := nT t ss) hss; have hpt := ptsN_ok hpq hpb hn7; have hsm := chkN_small hpq hpb hn7 hnl hss; replace hL := And.intro hne hL)) <;> (try (have hle := hnA h'; rw [hle] at hsm; have hct : consB q (nT t ss) ss = true := (by rw [hle]; exact hsm); replace hL := And.intro hct hL)) <;> (try (have hnt2 := hnB (by omega); have hnt3 : t.toNat = nT t ss := (by omega))) <;> (try (have hjn : j = nT t ss := (by omega); subst hjn)) <;> (try (have hlb := lagL_bd (q := q) (x := (k : Int) + 1) (by omega) (xs := ptsN (nT t ss)) (k := (nT t ss)); have hll := lagL_len (q := q) (x := (k : Int) + 1) (xs := ptsN (nT t ss)) (k := (nT t ss)); have hk1 : ((k : Int) + 1 - 1) = k := (by omega); replace hL := And.intro hk1 (And.intro hnt3 hL))) <;> (try (have hck : chkB q (nT t ss) ss k = true := beq_iff_eq.2 h'; have hcn := chkN_t hz2 hck)) <;> (try (have hck : chkB q (nT t ss) ss k = false := beq_eq_false_iff_ne.2 h'; have hcf := cons_f (by omega) hck; replace hL := And.intro hcf hL)) <;> (try (have hke : k = ss.length := (by omega); subst hke; have hct : consB q (nT t ss) ss = true := hz2; replace hL := And.intro hct hL)))
    | (with_reducible refine AWp.skipS ?_)
    | ((with_reducible refine AWp.condT rfl ?_))
    | ((with_reducible refine AWp.condF rfl ?_))
    | (with_reducible refine AWp.condB rfl ?_)
    | (with_reducible refine AWp.ret ?_)
    | (with_reducible refine seqQ_n ?_)
    | (with_reducible refine seqQ_ret ?_)
    | (with_reducible refine blkQ_ret ?_)
    | (with_reducible refine blkQ_n ?_)
    | (with_reducible refine seqQ_exit ?_)
    | (with_reducible refine blkQ_exit ?_)
    | (with_reducible refine blkQ_other (by decide) ?_)
    | (with_reducible refine AWp.block ?_)
    | (with_reducible refine AWp.exit ?_)
    | (with_reducible refine AWp.skip ?_)
    | ((with_reducible refine loop_id ?_); refine AWp.loopAt 7 rfl ?_; refine AWp.sub (Sub.nilSlot 8 300008 3 .int rfl rfl) ?_; refine AWp.loopO [8, 9, 35, 36, 37, 38, 39, 40, 41, 42, 43] (fun j => [(9, .lit (.int .i64 ((j : Nat) + 1))), (8, .own 300008 j)]) (fun j => [(300008, .row 3 .int (ptsN j))]) (fun j => j ≤ nT t ss) (fun j => nT t ss - j) 0 (by omega) (by refine Sub.auto (by first | exact frok0 | assumption) rfl rfl ?_ ?_ <;> (try simp only [subE, AS.over2, without, keys, look, List.cons_append, List.nil_append, List.append_nil, List.mem_cons, List.not_mem_nil, or_false, or_true, true_or, false_or, Nat.reduceEqDiff, ↓reduceIte, Option.some.injEq, AV.lit.injEq, Value.int.injEq, Value.bool.injEq, AV.own.injEq, AO.row.injEq, AO.box.injEq, List.cons.injEq, AV.agg.injEq, AV.sl.injEq, true_and, and_true, and_self, heq_eq_eq, List.length_nil, List.length_cons, List.map_nil, List.take_zero, Int.natCast_add, Int.cast_ofNat_Int, Int.natCast_zero, List.length_append, List.length_map, List.length_take, Nat.zero_add]) <;> (simp [ptsN])) (fun j hj_7 L7 hLoop7 => ?_); have hpl := ptsN_len (n := j))
    | ((with_reducible refine seqQ_f ?_); refine hLoop7 (j + 1) _ (by omega) (by omega) ?_; (refine Sub.auto (by first | exact frok0 | assumption) rfl rfl ?_ ?_ <;> (try simp only [subE, AS.over2, without, keys, look, List.cons_append, List.nil_append, List.append_nil, List.mem_cons, List.not_mem_nil, or_false, or_true, true_or, false_or, Nat.reduceEqDiff, ↓reduceIte, Option.some.injEq, AV.lit.injEq, Value.int.injEq, Value.bool.injEq, AV.own.injEq, AO.row.injEq, AO.box.injEq, List.cons.injEq, AV.agg.injEq, AV.sl.injEq, true_and, and_true, and_self, heq_eq_eq, List.length_nil, List.length_cons, List.map_nil, List.take_zero, Int.natCast_add, Int.cast_ofNat_Int, Int.natCast_zero, List.length_append, List.length_map, List.length_take, Nat.zero_add]) <;> ((repeat' apply And.intro) <;> first | omega | exact ptsN_step | (simp [ptsN_len]; done))))
    | ((with_reducible refine loop_id ?_); refine AWp.loopAt 11 rfl ?_; refine AWp.loopO [6, 7, 10, 46, 47, 48, 49, 50, 51, 52, 53, 54, 55, 56, 57, 58, 59, 60, 61, 62, 63, 64, 65, 66, 67, 68] (fun k => [(10, .lit (.int .i64 ((k : Nat) + 1)))]) (fun k => []) (fun k => (nT t ss ≤ k ∧ k ≤ ss.length) ∧ chkN q (nT t ss) ss k = true) (fun k => ss.length - k) (nT t ss) (by exact ⟨by omega, hsm⟩) (by refine Sub.auto (by first | exact frok0 | assumption) rfl rfl ?_ ?_ <;> (try simp only [subE, AS.over2, without, keys, look, List.cons_append, List.nil_append, List.append_nil, List.mem_cons, List.not_mem_nil, or_false, or_true, true_or, false_or, Nat.reduceEqDiff, ↓reduceIte, Option.some.injEq, AV.lit.injEq, Value.int.injEq, Value.bool.injEq, AV.own.injEq, AO.row.injEq, AO.box.injEq, List.cons.injEq, AV.agg.injEq, AV.sl.injEq, true_and, and_true, and_self, heq_eq_eq, List.length_nil, List.length_cons, List.map_nil, List.take_zero, Int.natCast_add, Int.cast_ofNat_Int, Int.natCast_zero, List.length_append, List.length_map, List.length_take, Nat.zero_add]) <;> ((repeat' apply And.intro) <;> first | rfl | omega | (simp; omega))) (fun k hk_11 L11 hLoop11 => ?_); obtain ⟨hz1, hz2⟩ := hk_11)
    | ((with_reducible refine seqQ_f ?_); refine hLoop11 (k + 1) _ (by exact ⟨by omega, hcn⟩) (by omega) ?_; (refine Sub.auto (by first | exact frok0 | assumption) rfl rfl ?_ ?_ <;> (try simp only [subE, AS.over2, without, keys, look, List.cons_append, List.nil_append, List.append_nil, List.mem_cons, List.not_mem_nil, or_false, or_true, true_or, false_or, Nat.reduceEqDiff, ↓reduceIte, Option.some.injEq, AV.lit.injEq, Value.int.injEq, Value.bool.injEq, AV.own.injEq, AO.row.injEq, AO.box.injEq, List.cons.injEq, AV.agg.injEq, AV.sl.injEq, true_and, and_true, and_self, heq_eq_eq, List.length_nil, List.length_cons, List.map_nil, List.take_zero, Int.natCast_add, Int.cast_ofNat_Int, Int.natCast_zero, List.length_append, List.length_map, List.length_take, Nat.zero_add]) <;> ((repeat' apply And.intro) <;> first | rfl | omega)))
    | ((with_reducible refine EndsAt_id ?_); (try subst_vars); (try simp only [okCs, hL, List.length_cons, List.length_nil, Nat.zero_add, Nat.reduceAdd, Bool.and_true, Bool.and_false, Bool.true_and, Bool.false_and, Bool.and_self, ↓reduceIte, Bool.false_eq_true, Bool.not_true, Bool.not_false, bne]); refine EndsAt.done [] (by first | exact .inr rfl | exact .inl rfl) rfl rfl ?_ ?_ <;> first | decide | (repeat' (first | rfl | apply And.intro | trivial)))
    | (with_reducible refine AWp.seq ?_)⟩
end Go.Proofs.Ytjapjmhifoeogaa
