import Derived.Test.YtljlimlgdnbllaaD11
import Derived.Test.YtljlimlgdnbllaaB7
/- VerifyOneOf on both sides. -/
set_option linter.all false
set_option linter.unusedVariables false
set_option linter.unusedSimpArgs false
namespace Go.Proofs.Ytljlimlgdnbllaa
open Go.RowKit
theorem expsB_all12 {q : Int} {xs : List Int} (h : expsB q xs = true) : ∀ x ∈ xs, 0 ≤ x ∧ x < q := fun x hx => expsB_mem h hx
theorem oneForm_use {p q : Int} {xs : List (Int × Int × Int × Int)} {pa pc pr : List Int} {b : Bool} (h : (oneForm p q xs pa pc pr && b) = true) : (pa.length : Int) = 2 * xs.length ∧ (∀ x ∈ pa, 0 ≤ x ∧ x < p) ∧ ∀ x ∈ pc, 0 ≤ x ∧ x < q := by
  simp only [oneForm, Bool.and_eq_true, beq_iff_eq] at h
  exact ⟨h.1.1.1.1.1.1, elemsB_all h.1.1.1.2, expsB_all12 h.1.1.2⟩
noncomputable def c_fulfils : Con0 := conF [(.pair .int (.pair .int .int)), (.list (.pair .int (.pair .int (.pair .int .int)))), (.pair (.list .int) (.pair (.list .int) (.list .int)))] fun (⟨⟨p, q, g⟩, xs, ⟨pa, pc, pr⟩, _⟩ : (Int × Int × Int) × (List (Int × Int × Int × Int)) × (List Int × List Int × List Int) × Unit) => (M.Grp p q g ∧ StsOK p q xs, .lit (.bool (oneForm p q xs pa pc pr && allEq p q xs pa pc pr)), [])
noncomputable def G_fulfils : List (FuncId × Con) := [(72, mk c_hasAll), (79, mk c_areExps), (109, mk c_simulated)]
theorem G_fulfils_ok : ∀ f C, (f, C) ∈ G_fulfils → C.ok Try.prog f := by
  intro f C h
  simp only [G_fulfils, List.mem_cons, Prod.mk.injEq, List.not_mem_nil, or_false] at h
  rcases h with ⟨rfl, rfl⟩ | ⟨rfl, rfl⟩ | ⟨rfl, rfl⟩
  · exact ok_hasAll
  · exact ok_areExps
  · exact ok_simulated
set_option maxRecDepth 100000 in
set_option maxHeartbeats 4000000 in
theorem ok_fulfils : (mk c_fulfils).ok Try.prog 120 := okF (Θ := Th) (N := 98) (rs := [.tmp 6]) Th_ok Try.func120 (by kernel_rfl) rfl Try.results120 (by decide) (by kernel_rfl) fun (⟨⟨p, q, g⟩, xs, ⟨pa, pc, pr⟩, _⟩ : (Int × Int × Int) × (List (Int × Int × Int × Int)) × (List Int × List Int × List Int) × Unit) => ⟨rfl, rfl, Nat.le_of_ble_eq_true rfl, fun hc w0 => by
  have hL := dmy_eq
  try dsimp only at hc
  try dsimp only
  obtain ⟨hG, hS⟩ := hc
  have hq2 := hG.q2
  have hqp := hG.qp
  have hp3 := hG.p3
  have hpM := hG.pM
  have hgb : 0 ≤ g ∧ g < p := ⟨by have := hG.g2; omega, hG.gp⟩
  have hxl := hS.len
  refine AWp.body rfl ?_
  repeat' first
    | ((with_reducible refine hK _ _ ?_); clear hK K)
    | ((with_reducible refine hK _ _ (by kernel_rfl) ?_); clear hK K)
    | ((with_reducible refine AWp.pS Th_ok G_fulfils_ok [0, 1, 2, 3, 5, 6, 7, 8, 9, 10, 11, 54, 55, 56, 57, 58, 96] (by decide) ?_); intro K hK)
    | ((with_reducible refine AWp.dS (by kernel_rfl) Th_ok G_fulfils_ok [0, 1, 2, 3, 5, 6, 7, 8, 9, 10, 11, 54, 55, 56, 57, 58, 96] ?_); intro K hK)
    | ((with_reducible refine AWp.pE Th_ok G_fulfils_ok [0, 1, 2, 3, 5, 6, 7, 8, 9, 10, 11, 54, 55, 56, 57, 58, 96] (by decide) ?_); intro K hK)
    | ((with_reducible refine AWp.dE (by kernel_rfl) Th_ok G_fulfils_ok [0, 1, 2, 3, 5, 6, 7, 8, 9, 10, 11, 54, 55, 56, 57, 58, 96] ?_); intro K hK)
    | ((first | with_reducible refine runF_id ?_ | with_reducible refine stepF_id ?_); simp (maxSteps := 2000000) only [runF, stepF, forkOf, gdOf, List.toList_toArray, stepOp, look, opAV, pureOp, callOp, memOp, AS.ev, AS.get, AS.obj, initS, initFrom, AV.cells, AS.upd, Option.bind_some, Option.bind_none, Option.map_some, Option.map_none, Option.getD_none, Option.getD_some, ↓reduceIte, Nat.reduceEqDiff, Nat.reduceAdd, Nat.reduceMul, Nat.reduceSub, List.nil_append, List.append_nil, List.cons_append, List.map_cons, List.map_nil, true_and, and_true, AS.fin, pick, dedup, List.mem_cons, List.not_mem_nil, or_false, false_or, List.size_toArray, List.length_cons, List.length_nil, loadAV, List.drop_zero, List.drop_succ_cons, List.take_zero, List.take_succ_cons, List.getElem?_cons_zero, List.getElem?_cons_succ, List.head?_cons, List.mapM_cons, List.mapM_nil, Option.bind_eq_bind, Option.pure_def, deeps3, deep3, deep2, deep1, deeps, deeps2, mixInts, AV.plain, mk, mkD, DCon.lift, DCon.runC, ren3, ren2, ren1, numb, List.zipIdx_nil, List.zipIdx_cons, List.all_nil, List.all_cons, Nat.reduceLeDiff, List.range, List.range.loop, Ty.sz, beq_self_eq_true, Bool.and_self, and_self, Ty.ofC, AO.isDead, Nat.reduceLT, if_true, Nat.zero_add, Nat.add_zero, ite_true, Nat.le_refl, Bool.false_eq_true, reduceCtorEq, if_false, ite_false, binAV, AO.ren, AV.isCell, fillAV, List.set_cons_zero, List.set_cons_succ, Ty.cells, Ty.flat, Ty.dflt, List.getD_cons_zero, List.getD_cons_succ, Int.reduceToNat, Int.reduceSub, Int.reduceAdd, Int.reduceMul, Int.reduceNeg, forall_eq_or_imp, forall_eq, gdL, id_eq, Nat.lt_irrefl, srcOf, List.replicate_succ, List.replicate_zero, dite_true, List.isEmpty_cons, Option.isSome_some, List.length_append, List.length_singleton, bne_self_eq_false, Bool.not_true, Bool.not_false, conF, asArgs, asArg, asTy, asI1, asB1, asS1, asL1, canons, canon, Fork.true_, Fork.false_, bne, Bool.not_not, List.length_map, pickO, AS.over, TI.bl, bne_iff_ne, AS.over2, without, keys, List.mem_singleton, memOp2, memOp3, absorb, abInt, abBool, abStr, abList, gones, Int.toNat_natCast, List.take_length, subE, List.nodup_cons, List.nodup_nil, not_false_eq_true, Nat.sub_self, conR, asG, asI, asBo, asStr, asIs, asBs, asE4, asI2, asI3, asLL, asLLL, Th_int, Th_bool, Th_string, Th_Sint, Th_implGroup, Th_implProof, Th_implEqualLog, Th_implSEqualLog, G_fulfils, c_hasAll, c_areExps, c_simulated, hL])
    | ((with_reducible refine ens_step ?_ (fun hE => ?_)); · ((repeat' with_reducible apply And.intro) <;> first | with_reducible assumption | omega | exact True.intro | with_reducible rfl | (show ByteArray.size _ ≤ _; decide) | (simp; done) | (simp; omega) | rfl))
    | ((with_reducible refine And.intro ?_ ?_); · ((repeat' with_reducible apply And.intro) <;> first | with_reducible assumption | omega | exact True.intro | with_reducible rfl | (show ByteArray.size _ ≤ _; decide) | (simp; done) | (simp; omega) | rfl))
    | ((with_reducible refine Fork.intro (fun h' => ?_) (fun h' => ?_)) <;> (try simp only [Bool.not_eq_true', Bool.not_eq_false', bne] at h') <;> (replace hL := And.intro h' hL) <;> (try simp only [decide_eq_true_eq, decide_eq_false_iff_not, beq_iff_eq, beq_eq_false_iff_ne, ne_eq] at h') <;> (try (have hpa := elemsB_all h')) <;> (try (have hpc := expsB_all12 (xs := pc) h')) <;> (try (have hpr := expsB_all12 (xs := pr) h')) <;> (try (have hb1 := getD_bd hpc (k := k) (by omega); have hb2 := getD_bd hpr (k := k) (by omega); have hst := hS.at (k := k) (by omega); obtain ⟨hst1, hst2, hst3, hst4⟩ := hst; have hp1 := getD_bd hpa (k := (2 * (k : Int)).toNat) (by omega); have hp2 := getD_bd hpa (k := (2 * (k : Int) + 1).toNat) (by omega); have hos := one_sim (pc := pc) (pr := pr) hp3 hq2 hS hpa (k := k) (by omega) (by omega))) <;> (try (have hlf : oneEq p q xs pa pc pr k = false := hos.trans (and_f1 hL.1); have haf := all_false (n := xs.length) (by omega) hlf; replace hL := And.intro haf hL)) <;> (try (have hlf : oneEq p q xs pa pc pr k = false := hos.trans (and_f2 hL.1); have haf := all_false (n := xs.length) (by omega) hlf; replace hL := And.intro haf hL)) <;> (try (have hke : k = xs.length := (by omega); subst hke; replace hL := And.intro hk2 hL)))
    | (with_reducible refine AWp.skipS ?_)
    | ((with_reducible refine AWp.condT rfl ?_))
    | ((with_reducible refine AWp.condF rfl ?_))
    | (with_reducible refine AWp.condB rfl ?_)
    | (with_reducible refine AWp.ret ?_)
    | (with_reducible refine seqQ_n ?_)
    | (with_reducible refine seqQ_ret ?_)
    | (with_reducible refine blkQ_ret ?_)
    | (with_reducible refine blkQ_n ?_)
    | (with_reducible refine seqQ_exit ?_)
    | (with_reducible refine blkQ_exit ?_)
    | (with_reducible refine blkQ_other (by decide) ?_)
    | (with_reducible refine AWp.block ?_)
    | (with_reducible refine AWp.exit ?_)
    | (with_reducible refine AWp.skip ?_)
    | ((with_reducible refine loop_id ?_); refine AWp.loopAt 5 rfl ?_; refine AWp.loopO [6, 8, 9, 10, 11, 57, 58, 59, 60, 61, 62, 63, 64, 65, 66, 67, 68, 69, 70, 71, 72, 73, 74, 75, 76, 77, 78, 79, 80, 81, 82, 83, 84, 85, 86, 87, 88, 89, 90, 91, 92, 93, 94, 95, 96, 97] (fun k => [(57, .lit (.int .i64 (k : Nat)))]) (fun k => []) (fun k => k ≤ xs.length ∧ (List.range k).all (oneEq p q xs pa pc pr) = true) (fun k => xs.length - k) 0 (by exact ⟨by omega, rfl⟩) (by refine Sub.auto (by first | exact frok0 | assumption) rfl rfl ?_ ?_ <;> (try simp only [subE, AS.over2, without, keys, look, List.cons_append, List.nil_append, List.append_nil, List.mem_cons, List.not_mem_nil, or_false, or_true, true_or, false_or, Nat.reduceEqDiff, ↓reduceIte, Option.some.injEq, AV.lit.injEq, Value.int.injEq, Value.bool.injEq, AV.own.injEq, AO.row.injEq, AO.box.injEq, List.cons.injEq, AV.agg.injEq, AV.sl.injEq, true_and, and_true, and_self, heq_eq_eq, List.length_nil, List.length_cons, List.map_nil, List.take_zero, Int.natCast_add, Int.cast_ofNat_Int, Int.natCast_zero, List.length_append, List.length_map, List.length_take, Nat.zero_add]) <;> (simp)) (fun k hk_5 L5 hLoop5 => ?_); obtain ⟨hk1, hk2⟩ := hk_5)
    | ((with_reducible refine seqQ_f ?_); refine hLoop5 (k + 1) _ (by exact ⟨by omega, all_step hk2 (hos.trans (and_t hL.2.1 hL.1))⟩) (by omega) ?_; (refine Sub.auto (by first | exact frok0 | assumption) rfl rfl ?_ ?_ <;> (try simp only [subE, AS.over2, without, keys, look, List.cons_append, List.nil_append, List.append_nil, List.mem_cons, List.not_mem_nil, or_false, or_true, true_or, false_or, Nat.reduceEqDiff, ↓reduceIte, Option.some.injEq, AV.lit.injEq, Value.int.injEq, Value.bool.injEq, AV.own.injEq, AO.row.injEq, AO.box.injEq, List.cons.injEq, AV.agg.injEq, AV.sl.injEq, true_and, and_true, and_self, heq_eq_eq, List.length_nil, List.length_cons, List.map_nil, List.take_zero, Int.natCast_add, Int.cast_ofNat_Int, Int.natCast_zero, List.length_append, List.length_map, List.length_take, Nat.zero_add]) <;> (omega)))
    | ((with_reducible refine EndsAt_id ?_); (try subst_vars); (try simp only [oneForm, allEq, hL, List.length_cons, List.length_nil, Nat.zero_add, Nat.reduceAdd, Bool.and_true, Bool.and_false, Bool.true_and, Bool.false_and, Bool.and_self, ↓reduceIte, Bool.false_eq_true, Bool.not_true, Bool.not_false, bne]); refine EndsAt.done [] (by first | exact .inr rfl | exact .inl rfl) rfl rfl ?_ ?_ <;> first | decide | (repeat' (first | rfl | apply And.intro | trivial)))
    | (with_reducible refine AWp.seq ?_)⟩
noncomputable def c_verifyOneOf : Con0 := conF [(.pair .int (.pair .int .int)), .str, (.list (.pair .int (.pair .int (.pair .int .int)))), (.pair (.list .int) (.pair (.list .int) (.list .int)))] fun (⟨⟨p, q, g⟩, s, xs, ⟨pa, pc, pr⟩, _⟩ : (Int × Int × Int) × ByteArray × (List (Int × Int × Int × Int)) × (List Int × List Int × List Int) × Unit) => (M.Grp p q g ∧ s.size ≤ 40 ∧ StsOK p q xs, .lit (.bool (vOne p q g s xs pa pc pr)), [])
noncomputable def G_verifyOneOf : List (FuncId × Con) := [(120, mk c_fulfils), (110, mk c_oneOfChallenge), (93, mk c_sum)]
theorem G_verifyOneOf_ok : ∀ f C, (f, C) ∈ G_verifyOneOf → C.ok Try.prog f := by
  intro f C h
  simp only [G_verifyOneOf, List.mem_cons, Prod.mk.injEq, List.not_mem_nil, or_false] at h
  rcases h with ⟨rfl, rfl⟩ | ⟨rfl, rfl⟩ | ⟨rfl, rfl⟩
  · exact ok_fulfils
  · exact ok_oneOfChallenge
  · exact ok_sum
set_option maxRecDepth 100000 in
set_option maxHeartbeats 4000000 in
theorem ok_verifyOneOf : (mk c_verifyOneOf).ok Try.prog 104 := okF (Θ := Th) (N := 35) (rs := [.tmp 8]) Th_ok Try.func104 (by kernel_rfl) rfl Try.results104 (by decide) (by kernel_rfl) fun (⟨⟨p, q, g⟩, s, xs, ⟨pa, pc, pr⟩, _⟩ : (Int × Int × Int) × ByteArray × (List (Int × Int × Int × Int)) × (List Int × List Int × List Int) × Unit) => ⟨rfl, rfl, Nat.le_of_ble_eq_true rfl, fun hc w0 => by
  have hL := dmy_eq
  try dsimp only at hc
  try dsimp only
  obtain ⟨hG, hs, hS⟩ := hc
  have hq2 := hG.q2
  have hqp := hG.qp
  have hp3 := hG.p3
  have hpM := hG.pM
  have hgb : 0 ≤ g ∧ g < p := ⟨by have := hG.g2; omega, hG.gp⟩
  have hxl := hS.len
  refine AWp.body rfl ?_
  repeat' first
    | ((with_reducible refine hK _ _ ?_); clear hK K)
    | ((with_reducible refine hK _ _ (by kernel_rfl) ?_); clear hK K)
    | ((with_reducible refine AWp.pS Th_ok G_verifyOneOf_ok [0, 1, 2, 3, 4, 7, 8, 9, 10, 15] (by decide) ?_); intro K hK)
    | ((with_reducible refine AWp.dS (by kernel_rfl) Th_ok G_verifyOneOf_ok [0, 1, 2, 3, 4, 7, 8, 9, 10, 15] ?_); intro K hK)
    | ((with_reducible refine AWp.pE Th_ok G_verifyOneOf_ok [0, 1, 2, 3, 4, 7, 8, 9, 10, 15] (by decide) ?_); intro K hK)
    | ((with_reducible refine AWp.dE (by kernel_rfl) Th_ok G_verifyOneOf_ok [0, 1, 2, 3, 4, 7, 8, 9, 10, 15] ?_); intro K hK)
    | ((first | with_reducible refine runF_id ?_ | with_reducible refine stepF_id ?_); simp (maxSteps := 2000000) only [runF, stepF, forkOf, gdOf, List.toList_toArray, stepOp, look, opAV, pureOp, callOp, memOp, AS.ev, AS.get, AS.obj, initS, initFrom, AV.cells, AS.upd, Option.bind_some, Option.bind_none, Option.map_some, Option.map_none, Option.getD_none, Option.getD_some, ↓reduceIte, Nat.reduceEqDiff, Nat.reduceAdd, Nat.reduceMul, Nat.reduceSub, List.nil_append, List.append_nil, List.cons_append, List.map_cons, List.map_nil, true_and, and_true, AS.fin, pick, dedup, List.mem_cons, List.not_mem_nil, or_false, false_or, List.size_toArray, List.length_cons, List.length_nil, loadAV, List.drop_zero, List.drop_succ_cons, List.take_zero, List.take_succ_cons, List.getElem?_cons_zero, List.getElem?_cons_succ, List.head?_cons, List.mapM_cons, List.mapM_nil, Option.bind_eq_bind, Option.pure_def, deeps3, deep3, deep2, deep1, deeps, deeps2, mixInts, AV.plain, mk, mkD, DCon.lift, DCon.runC, ren3, ren2, ren1, numb, List.zipIdx_nil, List.zipIdx_cons, List.all_nil, List.all_cons, Nat.reduceLeDiff, List.range, List.range.loop, Ty.sz, beq_self_eq_true, Bool.and_self, and_self, Ty.ofC, AO.isDead, Nat.reduceLT, if_true, Nat.zero_add, Nat.add_zero, ite_true, Nat.le_refl, Bool.false_eq_true, reduceCtorEq, if_false, ite_false, binAV, AO.ren, AV.isCell, fillAV, List.set_cons_zero, List.set_cons_succ, Ty.cells, Ty.flat, Ty.dflt, List.getD_cons_zero, List.getD_cons_succ, Int.reduceToNat, Int.reduceSub, Int.reduceAdd, Int.reduceMul, Int.reduceNeg, forall_eq_or_imp, forall_eq, gdL, id_eq, Nat.lt_irrefl, srcOf, List.replicate_succ, List.replicate_zero, dite_true, List.isEmpty_cons, Option.isSome_some, List.length_append, List.length_singleton, bne_self_eq_false, Bool.not_true, Bool.not_false, conF, asArgs, asArg, asTy, asI1, asB1, asS1, asL1, canons, canon, Fork.true_, Fork.false_, bne, Bool.not_not, List.length_map, pickO, AS.over, TI.bl, bne_iff_ne, AS.over2, without, keys, List.mem_singleton, memOp2, memOp3, absorb, abInt, abBool, abStr, abList, gones, Int.toNat_natCast, List.take_length, subE, List.nodup_cons, List.nodup_nil, not_false_eq_true, Nat.sub_self, conR, asG, asI, asBo, asStr, asIs, asBs, asE4, asI2, asI3, asLL, asLLL, Th_int, Th_bool, Th_string, Th_Sint, Th_implGroup, Th_implProof, Th_implEqualLog, Th_implSEqualLog, G_verifyOneOf, c_fulfils, c_oneOfChallenge, c_sum, hL])
    | ((with_reducible refine ens_step ?_ (fun hE => ?_)); · ((repeat' with_reducible apply And.intro) <;> first | with_reducible assumption | omega | exact True.intro | with_reducible rfl | (show ByteArray.size _ ≤ _; decide) | (simp; done) | (simp; omega) | rfl))
    | ((with_reducible refine And.intro ?_ ?_); · ((repeat' with_reducible apply And.intro) <;> first | with_reducible assumption | omega | exact True.intro | with_reducible rfl | (show ByteArray.size _ ≤ _; decide) | (simp; done) | (simp; omega) | rfl))
    | ((with_reducible refine Fork.intro (fun h' => ?_) (fun h' => ?_)) <;> (try simp only [Bool.not_eq_true', Bool.not_eq_false', bne] at h') <;> (replace hL := And.intro h' hL) <;> (try simp only [decide_eq_true_eq, decide_eq_false_iff_not, beq_iff_eq, beq_eq_false_iff_ne, ne_eq] at h') <;> (try (have hfo := oneForm_use (xs := xs) (pa := pa) (pc := pc) (pr := pr) h'; obtain ⟨hf1, hf2, hf3⟩ := hfo)))
    | (with_reducible refine AWp.skipS ?_)
    | ((with_reducible refine AWp.condT rfl ?_))
    | ((with_reducible refine AWp.condF rfl ?_))
    | (with_reducible refine AWp.condB rfl ?_)
    | (with_reducible refine AWp.ret ?_)
    | (with_reducible refine seqQ_n ?_)
    | (with_reducible refine seqQ_ret ?_)
    | (with_reducible refine blkQ_ret ?_)
    | (with_reducible refine blkQ_n ?_)
    | (with_reducible refine seqQ_exit ?_)
    | (with_reducible refine blkQ_exit ?_)
    | (with_reducible refine blkQ_other (by decide) ?_)
    | (with_reducible refine AWp.block ?_)
    | (with_reducible refine AWp.exit ?_)
    | (with_reducible refine AWp.skip ?_)
    | ((with_reducible refine EndsAt_id ?_); (try subst_vars); (try simp only [vOne, hL, List.length_cons, List.length_nil, Nat.zero_add, Nat.reduceAdd, Bool.and_true, Bool.and_false, Bool.true_and, Bool.false_and, Bool.and_self, ↓reduceIte, Bool.false_eq_true, Bool.not_true, Bool.not_false, bne]); refine EndsAt.done [] (by first | exact .inr rfl | exact .inl rfl) rfl rfl ?_ ?_ <;> first | decide | (repeat' (first | rfl | apply And.intro | trivial)))
    | (with_reducible refine AWp.seq ?_)⟩
noncomputable def c_sVerifyOne : Con0 := conF [(.pair .int (.pair .int .int)), .str, (.list (.pair .int (.pair .int (.pair .int .int)))), (.pair (.list .int) (.pair (.list .int) (.list .int)))] fun (⟨⟨p, q, g⟩, s, xs, ⟨pa, pc, pr⟩, _⟩ : (Int × Int × Int) × ByteArray × (List (Int × Int × Int × Int)) × (List Int × List Int × List Int) × Unit) => (M.Grp p q g ∧ s.size ≤ 40 ∧ StsOK p q xs, .lit (.bool (vOne p q g s xs pa pc pr)), [])
noncomputable def G_sVerifyOne : List (FuncId × Con) := [(64, mk c_gIs), (65, mk c_gExps), (91, mk c_nSum), (140, mk c_sJoint), (69, mk c_gExp), (67, mk c_gMul)]
theorem G_sVerifyOne_ok : ∀ f C, (f, C) ∈ G_sVerifyOne → C.ok Try.prog f := by
  intro f C h
  simp only [G_sVerifyOne, List.mem_cons, Prod.mk.injEq, List.not_mem_nil, or_false] at h
  rcases h with ⟨rfl, rfl⟩ | ⟨rfl, rfl⟩ | ⟨rfl, rfl⟩ | ⟨rfl, rfl⟩ | ⟨rfl, rfl⟩ | ⟨rfl, rfl⟩
  · exact ok_gIs
  · exact ok_gExps
  · exact ok_nSum
  · exact ok_sJoint
  · exact ok_gExp
  · exact ok_gMul
set_option maxRecDepth 100000 in
set_option maxHeartbeats 4000000 in
theorem ok_sVerifyOne : (mk c_sVerifyOne).ok Try.prog 100 := okF (Θ := Th) (N := 130) (rs := [.tmp 8]) Th_ok Try.func100 (by kernel_rfl) rfl Try.results100 (by decide) (by kernel_rfl) fun (⟨⟨p, q, g⟩, s, xs, ⟨pa, pc, pr⟩, _⟩ : (Int × Int × Int) × ByteArray × (List (Int × Int × Int × Int)) × (List Int × List Int × List Int) × Unit) => ⟨rfl, rfl, Nat.le_of_ble_eq_true rfl, fun hc w0 => by
  have hL := dmy_eq
  try dsimp only at hc
  try dsimp only
  obtain ⟨hG, hs, hS⟩ := hc
  have hq2 := hG.q2
  have hqp := hG.qp
  have hp3 := hG.p3
  have hpM := hG.pM
  have hgb : 0 ≤ g ∧ g < p := ⟨by have := hG.g2; omega, hG.gp⟩
  have hxl := hS.len
  refine AWp.body rfl ?_
  repeat' first
    | ((with_reducible refine hK _ _ ?_); clear hK K)
    | ((with_reducible refine hK _ _ (by kernel_rfl) ?_); clear hK K)
    | ((with_reducible refine AWp.pS Th_ok G_sVerifyOne_ok [0, 1, 2, 3, 4, 7, 8, 9, 10, 11, 12, 56, 68, 69, 70, 71, 72, 128] (by decide) ?_); intro K hK)
    | ((with_reducible refine AWp.dS (by kernel_rfl) Th_ok G_sVerifyOne_ok [0, 1, 2, 3, 4, 7, 8, 9, 10, 11, 12, 56, 68, 69, 70, 71, 72, 128] ?_); intro K hK)
    | ((with_reducible refine AWp.pE Th_ok G_sVerifyOne_ok [0, 1, 2, 3, 4, 7, 8, 9, 10, 11, 12, 56, 68, 69, 70, 71, 72, 128] (by decide) ?_); intro K hK)
    | ((with_reducible refine AWp.dE (by kernel_rfl) Th_ok G_sVerifyOne_ok [0, 1, 2, 3, 4, 7, 8, 9, 10, 11, 12, 56, 68, 69, 70, 71, 72, 128] ?_); intro K hK)
    | ((first | with_reducible refine runF_id ?_ | with_reducible refine stepF_id ?_); simp (maxSteps := 2000000) only [runF, stepF, forkOf, gdOf, List.toList_toArray, stepOp, look, opAV, pureOp, callOp, memOp, AS.ev, AS.get, AS.obj, initS, initFrom, AV.cells, AS.upd, Option.bind_some, Option.bind_none, Option.map_some, Option.map_none, Option.getD_none, Option.getD_some, ↓reduceIte, Nat.reduceEqDiff, Nat.reduceAdd, Nat.reduceMul, Nat.reduceSub, List.nil_append, List.append_nil, List.cons_append, List.map_cons, List.map_nil, true_and, and_true, AS.fin, pick, dedup, List.mem_cons, List.not_mem_nil, or_false, false_or, List.size_toArray, List.length_cons, List.length_nil, loadAV, List.drop_zero, List.drop_succ_cons, List.take_zero, List.take_succ_cons, List.getElem?_cons_zero, List.getElem?_cons_succ, List.head?_cons, List.mapM_cons, List.mapM_nil, Option.bind_eq_bind, Option.pure_def, deeps3, deep3, deep2, deep1, deeps, deeps2, mixInts, AV.plain, mk, mkD, DCon.lift, DCon.runC, ren3, ren2, ren1, numb, List.zipIdx_nil, List.zipIdx_cons, List.all_nil, List.all_cons, Nat.reduceLeDiff, List.range, List.range.loop, Ty.sz, beq_self_eq_true, Bool.and_self, and_self, Ty.ofC, AO.isDead, Nat.reduceLT, if_true, Nat.zero_add, Nat.add_zero, ite_true, Nat.le_refl, Bool.false_eq_true, reduceCtorEq, if_false, ite_false, binAV, AO.ren, AV.isCell, fillAV, List.set_cons_zero, List.set_cons_succ, Ty.cells, Ty.flat, Ty.dflt, List.getD_cons_zero, List.getD_cons_succ, Int.reduceToNat, Int.reduceSub, Int.reduceAdd, Int.reduceMul, Int.reduceNeg, forall_eq_or_imp, forall_eq, gdL, id_eq, Nat.lt_irrefl, srcOf, List.replicate_succ, List.replicate_zero, dite_true, List.isEmpty_cons, Option.isSome_some, List.length_append, List.length_singleton, bne_self_eq_false, Bool.not_true, Bool.not_false, conF, asArgs, asArg, asTy, asI1, asB1, asS1, asL1, canons, canon, Fork.true_, Fork.false_, bne, Bool.not_not, List.length_map, pickO, AS.over, TI.bl, bne_iff_ne, AS.over2, without, keys, List.mem_singleton, memOp2, memOp3, absorb, abInt, abBool, abStr, abList, gones, Int.toNat_natCast, List.take_length, subE, List.nodup_cons, List.nodup_nil, not_false_eq_true, Nat.sub_self, conR, asG, asI, asBo, asStr, asIs, asBs, asE4, asI2, asI3, asLL, asLLL, Th_int, Th_bool, Th_string, Th_Sint, Th_implGroup, Th_implProof, Th_implEqualLog, Th_implSEqualLog, G_sVerifyOne, c_gIs, c_gExps, c_nSum, c_sJoint, c_gExp, c_gMul, hL])
    | ((with_reducible refine ens_step ?_ (fun hE => ?_)); · ((repeat' with_reducible apply And.intro) <;> first | with_reducible assumption | omega | exact True.intro | with_reducible rfl | exact (gpw_bd (by omega)).1 | exact (gpw_bd (by omega)).2 | (show ByteArray.size _ ≤ _; decide) | (simp; done) | (simp; omega) | rfl))
    | ((with_reducible refine And.intro ?_ ?_); · ((repeat' with_reducible apply And.intro) <;> first | with_reducible assumption | omega | exact True.intro | with_reducible rfl | exact (gpw_bd (by omega)).1 | exact (gpw_bd (by omega)).2 | (show ByteArray.size _ ≤ _; decide) | (simp; done) | (simp; omega) | rfl))
    | ((with_reducible refine Fork.intro (fun h' => ?_) (fun h' => ?_)) <;> (try simp only [Bool.not_eq_true', Bool.not_eq_false', bne] at h') <;> (replace hL := And.intro h' hL) <;> (try simp only [decide_eq_true_eq, decide_eq_false_iff_not, beq_iff_eq, beq_eq_false_iff_ne, ne_eq] at h') <;> (try (have hpa := elemsB_all h')) <;> (try (have hpc := expsB_all12 (xs := pc) h')) <;> (try (have hpr := expsB_all12 (xs := pr) h')) <;> (try (have hb1 := getD_bd hpc (k := k) (by omega); have hb2 := getD_bd hpr (k := k) (by omega); have hst := hS.at (k := k) (by omega); obtain ⟨hst1, hst2, hst3, hst4⟩ := hst; have hp1 := getD_bd hpa (k := (2 * (k : Int)).toNat) (by omega); have hp2 := getD_bd hpa (k := (2 * (k : Int) + 1).toNat) (by omega); have hos := one_sim (pc := pc) (pr := pr) hp3 hq2 hS hpa (k := k) (by omega) (by omega))) <;> (try (have hlf : oneEq p q xs pa pc pr k = false := and_f1 hL.1; have haf := all_false (n := xs.length) (by omega) hlf; replace hL := And.intro haf hL)) <;> (try (have hlf : oneEq p q xs pa pc pr k = false := and_f2 hL.1; have haf := all_false (n := xs.length) (by omega) hlf; replace hL := And.intro haf hL)) <;> (try (have hke : k = xs.length := (by omega); subst hke; replace hL := And.intro hk2 hL)))
    | (with_reducible refine AWp.skipS ?_)
    | ((with_reducible refine AWp.condT rfl ?_))
    | ((with_reducible refine AWp.condF rfl ?_))
    | (with_reducible refine AWp.condB rfl ?_)
    | (with_reducible refine AWp.ret ?_)
    | (with_reducible refine seqQ_n ?_)
    | (with_reducible refine seqQ_ret ?_)
    | (with_reducible refine blkQ_ret ?_)
    | (with_reducible refine blkQ_n ?_)
    | (with_reducible refine seqQ_exit ?_)
    | (with_reducible refine blkQ_exit ?_)
    | (with_reducible refine blkQ_other (by decide) ?_)
    | (with_reducible refine AWp.block ?_)
    | (with_reducible refine AWp.exit ?_)
    | (with_reducible refine AWp.skip ?_)
    | ((with_reducible refine loop_id ?_); refine AWp.loopAt 6 rfl ?_; refine AWp.loopO [8, 9, 10, 11, 12, 71, 72, 73, 74, 75, 76, 77, 78, 79, 80, 81, 82, 83, 84, 85, 86, 87, 88, 89, 90, 91, 92, 93, 94, 95, 96, 97, 98, 99, 100, 101, 102, 103, 104, 105, 106, 107, 108, 109, 110, 111, 112, 113, 114, 115, 116, 117, 118, 119, 120, 121, 122, 123, 124, 125, 126, 127, 128, 129] (fun k => [(71, .lit (.int .i64 (k : Nat)))]) (fun k => []) (fun k => k ≤ xs.length ∧ (List.range k).all (oneEq p q xs pa pc pr) = true) (fun k => xs.length - k) 0 (by exact ⟨by omega, rfl⟩) (by refine Sub.auto (by first | exact frok0 | assumption) rfl rfl ?_ ?_ <;> (try simp only [subE, AS.over2, without, keys, look, List.cons_append, List.nil_append, List.append_nil, List.mem_cons, List.not_mem_nil, or_false, or_true, true_or, false_or, Nat.reduceEqDiff, ↓reduceIte, Option.some.injEq, AV.lit.injEq, Value.int.injEq, Value.bool.injEq, AV.own.injEq, AO.row.injEq, AO.box.injEq, List.cons.injEq, AV.agg.injEq, AV.sl.injEq, true_and, and_true, and_self, heq_eq_eq, List.length_nil, List.length_cons, List.map_nil, List.take_zero, Int.natCast_add, Int.cast_ofNat_Int, Int.natCast_zero, List.length_append, List.length_map, List.length_take, Nat.zero_add]) <;> (simp)) (fun k hk_6 L6 hLoop6 => ?_); obtain ⟨hk1, hk2⟩ := hk_6)
    | ((with_reducible refine seqQ_f ?_); refine hLoop6 (k + 1) _ (by exact ⟨by omega, all_step hk2 (and_t hL.2.1 hL.1)⟩) (by omega) ?_; (refine Sub.auto (by first | exact frok0 | assumption) rfl rfl ?_ ?_ <;> (try simp only [subE, AS.over2, without, keys, look, List.cons_append, List.nil_append, List.append_nil, List.mem_cons, List.not_mem_nil, or_false, or_true, true_or, false_or, Nat.reduceEqDiff, ↓reduceIte, Option.some.injEq, AV.lit.injEq, Value.int.injEq, Value.bool.injEq, AV.own.injEq, AO.row.injEq, AO.box.injEq, List.cons.injEq, AV.agg.injEq, AV.sl.injEq, true_and, and_true, and_self, heq_eq_eq, List.length_nil, List.length_cons, List.map_nil, List.take_zero, Int.natCast_add, Int.cast_ofNat_Int, Int.natCast_zero, List.length_append, List.length_map, List.length_take, Nat.zero_add]) <;> (omega)))
    | ((with_reducible refine EndsAt_id ?_); (try subst_vars); (try simp only [vOne, oneForm, allEq, hL, List.length_cons, List.length_nil, Nat.zero_add, Nat.reduceAdd, Bool.and_true, Bool.and_false, Bool.true_and, Bool.false_and, Bool.and_self, ↓reduceIte, Bool.false_eq_true, Bool.not_true, Bool.not_false, bne]); refine EndsAt.done [] (by first | exact .inr rfl | exact .inl rfl) rfl rfl ?_ ?_ <;> first | decide | (repeat' (first | rfl | apply And.intro | trivial)))
    | (with_reducible refine AWp.seq ?_)⟩
noncomputable def c_VerifyOneOfI : Con0 := conF [(.pair .int (.pair .int .int)), .str, (.list (.pair .int (.pair .int (.pair .int .int)))), (.pair (.list .int) (.pair (.list .int) (.list .int)))] fun (⟨⟨p, q, g⟩, s, xs, ⟨pa, pc, pr⟩, _⟩ : (Int × Int × Int) × ByteArray × (List (Int × Int × Int × Int)) × (List Int × List Int × List Int) × Unit) => (xs.length ≤ 9223372036854775806, .tup [.lit (.bool (okVO p q g s xs && vOne p q g s xs pa pc pr)), .lit (.bool (okVO p q g s xs))], [])
noncomputable def G_VerifyOneOfI : List (FuncId × Con) := [(101, mk c_isValidGroup), (102, mk c_isLabel), (103, mk c_areStatements), (104, mk c_verifyOneOf)]
theorem G_VerifyOneOfI_ok : ∀ f C, (f, C) ∈ G_VerifyOneOfI → C.ok Try.prog f := by
  intro f C h
  simp only [G_VerifyOneOfI, List.mem_cons, Prod.mk.injEq, List.not_mem_nil, or_false] at h
  rcases h with ⟨rfl, rfl⟩ | ⟨rfl, rfl⟩ | ⟨rfl, rfl⟩ | ⟨rfl, rfl⟩
  · exact ok_isValidGroup
  · exact ok_isLabel
  · exact ok_areStatements
  · exact ok_verifyOneOf
set_option maxRecDepth 100000 in
set_option maxHeartbeats 4000000 in
theorem ok_VerifyOneOfI : (mk c_VerifyOneOfI).ok Try.prog 46 := okF (Θ := Th) (N := 29) (rs := [.tmp 8, .tmp 9]) Th_ok Try.func46 (by kernel_rfl) rfl Try.results46 (by decide) (by kernel_rfl) fun (⟨⟨p, q, g⟩, s, xs, ⟨pa, pc, pr⟩, _⟩ : (Int × Int × Int) × ByteArray × (List (Int × Int × Int × Int)) × (List Int × List Int × List Int) × Unit) => ⟨rfl, rfl, Nat.le_of_ble_eq_true rfl, fun hc w0 => by
  have hL := dmy_eq
  try dsimp only at hc
  try dsimp only
  have hrl0 := hc
  refine AWp.body rfl ?_
  repeat' first
    | ((with_reducible refine hK _ _ ?_); clear hK K)
    | ((with_reducible refine hK _ _ (by kernel_rfl) ?_); clear hK K)
    | ((with_reducible refine AWp.pS Th_ok G_VerifyOneOfI_ok [0, 1, 2, 3, 4, 7, 8, 9, 23] (by decide) ?_); intro K hK)
    | ((with_reducible refine AWp.dS (by kernel_rfl) Th_ok G_VerifyOneOfI_ok [0, 1, 2, 3, 4, 7, 8, 9, 23] ?_); intro K hK)
    | ((with_reducible refine AWp.pE Th_ok G_VerifyOneOfI_ok [0, 1, 2, 3, 4, 7, 8, 9, 23] (by decide) ?_); intro K hK)
    | ((with_reducible refine AWp.dE (by kernel_rfl) Th_ok G_VerifyOneOfI_ok [0, 1, 2, 3, 4, 7, 8, 9, 23] ?_); intro K hK)
    | ((first | with_reducible refine runF_id ?_ | with_reducible refine stepF_id ?_); simp (maxSteps := 2000000) only [runF, stepF, forkOf, gdOf, List.toList_toArray, stepOp, look, opAV, pureOp, callOp, memOp, AS.ev, AS.get, AS.obj, initS, initFrom, AV.cells, AS.upd, Option.bind_some, Option.bind_none, Option.map_some, Option.map_none, Option.getD_none, Option.getD_some, ↓reduceIte, Nat.reduceEqDiff, Nat.reduceAdd, Nat.reduceMul, Nat.reduceSub, List.nil_append, List.append_nil, List.cons_append, List.map_cons, List.map_nil, true_and, and_true, AS.fin, pick, dedup, List.mem_cons, List.not_mem_nil, or_false, false_or, List.size_toArray, List.length_cons, List.length_nil, loadAV, List.drop_zero, List.drop_succ_cons, List.take_zero, List.take_succ_cons, List.getElem?_cons_zero, List.getElem?_cons_succ, List.head?_cons, List.mapM_cons, List.mapM_nil, Option.bind_eq_bind, Option.pure_def, deeps3, deep3, deep2, deep1, deeps, deeps2, mixInts, AV.plain, mk, mkD, DCon.lift, DCon.runC, ren3, ren2, ren1, numb, List.zipIdx_nil, List.zipIdx_cons, List.all_nil, List.all_cons, Nat.reduceLeDiff, List.range, List.range.loop, Ty.sz, beq_self_eq_true, Bool.and_self, and_self, Ty.ofC, AO.isDead, Nat.reduceLT, if_true, Nat.zero_add, Nat.add_zero, ite_true, Nat.le_refl, Bool.false_eq_true, reduceCtorEq, if_false, ite_false, binAV, AO.ren, AV.isCell, fillAV, List.set_cons_zero, List.set_cons_succ, Ty.cells, Ty.flat, Ty.dflt, List.getD_cons_zero, List.getD_cons_succ, Int.reduceToNat, Int.reduceSub, Int.reduceAdd, Int.reduceMul, Int.reduceNeg, forall_eq_or_imp, forall_eq, gdL, id_eq, Nat.lt_irrefl, srcOf, List.replicate_succ, List.replicate_zero, dite_true, List.isEmpty_cons, Option.isSome_some, List.length_append, List.length_singleton, bne_self_eq_false, Bool.not_true, Bool.not_false, conF, asArgs, asArg, asTy, asI1, asB1, asS1, asL1, canons, canon, Fork.true_, Fork.false_, bne, Bool.not_not, List.length_map, pickO, AS.over, TI.bl, bne_iff_ne, AS.over2, without, keys, List.mem_singleton, memOp2, memOp3, absorb, abInt, abBool, abStr, abList, gones, Int.toNat_natCast, List.take_length, subE, List.nodup_cons, List.nodup_nil, not_false_eq_true, Nat.sub_self, conR, asG, asI, asBo, asStr, asIs, asBs, asE4, asI2, asI3, asLL, asLLL, Th_int, Th_bool, Th_string, Th_Sint, Th_implGroup, Th_implProof, Th_implEqualLog, Th_implSEqualLog, G_VerifyOneOfI, c_isValidGroup, c_isLabel, c_areStatements, c_verifyOneOf, hL])
    | ((with_reducible refine and_id ?_); (generalize hv : M.chal p q g _ _ = v); have bv : 0 ≤ v ∧ v < q := by rw [← hv]; exact chal_bd (by omega) _ _)
    | ((with_reducible refine and_id ?_); (generalize hv : cmt p q g _ _ _ = v); have bv : 0 ≤ v ∧ v < p := by rw [← hv]; exact cmt_bd (by omega))
    | ((with_reducible refine and_id ?_); (generalize hv : M.gpw p q _ _ = v); have bv : 0 ≤ v ∧ v < p := by rw [← hv]; exact gpw_bd (by omega))
    | ((with_reducible refine and_id ?_); (generalize hv : M.mulL p _ = v); have bv : 0 ≤ v ∧ v < p := by rw [← hv]; exact mulL_bd' (by omega))
    | ((with_reducible refine ens_step ?_ (fun hE => ?_)); · ((repeat' with_reducible apply And.intro) <;> first | with_reducible assumption | omega | exact True.intro | with_reducible rfl | (show ByteArray.size _ ≤ _; decide) | (simp; done) | (simp; omega) | rfl))
    | ((with_reducible refine And.intro ?_ ?_); · ((repeat' with_reducible apply And.intro) <;> first | with_reducible assumption | omega | exact True.intro | with_reducible rfl | (show ByteArray.size _ ≤ _; decide) | (simp; done) | (simp; omega) | rfl))
    | ((with_reducible refine Fork.intro (fun h' => ?_) (fun h' => ?_)) <;> (try simp only [Bool.not_eq_true', Bool.not_eq_false', bne] at h') <;> (replace hL := And.intro h' hL) <;> (try simp only [decide_eq_true_eq, decide_eq_false_iff_not, beq_iff_eq, beq_eq_false_iff_ne, ne_eq] at h') <;> (try (have hG := M.goodB_of h'; have hq2 := hG.q2; have hqp := hG.qp; have hp3 := hG.p3; have hpM := hG.pM)) <;> (try (have hsl := h'; rw [Bool.and_eq_true, decide_eq_true_eq] at hsl; obtain ⟨hg1, hg2⟩ := hsl; have hG := M.goodB_of hg1; have hq2 := hG.q2; have hqp := hG.qp; have hp3 := hG.p3; have hpM := hG.pM)) <;> (try (have hS := okSt_use h'; have hxl := hS.len)))
    | (with_reducible refine AWp.skipS ?_)
    | ((with_reducible refine AWp.condT rfl ?_))
    | ((with_reducible refine AWp.condF rfl ?_))
    | (with_reducible refine AWp.condB rfl ?_)
    | (with_reducible refine AWp.ret ?_)
    | (with_reducible refine seqQ_n ?_)
    | (with_reducible refine seqQ_ret ?_)
    | (with_reducible refine blkQ_ret ?_)
    | (with_reducible refine blkQ_n ?_)
    | (with_reducible refine seqQ_exit ?_)
    | (with_reducible refine blkQ_exit ?_)
    | (with_reducible refine blkQ_other (by decide) ?_)
    | (with_reducible refine AWp.block ?_)
    | (with_reducible refine AWp.exit ?_)
    | (with_reducible refine AWp.skip ?_)
    | ((with_reducible refine EndsAt_id ?_); (try subst_vars); (try simp only [okVO, hL, List.length_cons, List.length_nil, Nat.zero_add, Nat.reduceAdd, Bool.and_true, Bool.and_false, Bool.true_and, Bool.false_and, Bool.and_self, ↓reduceIte, Bool.false_eq_true, Bool.not_true, Bool.not_false, bne]); refine EndsAt.done [] (by first | exact .inr rfl | exact .inl rfl) rfl rfl ?_ ?_ <;> first | decide | (repeat' (first | rfl | apply And.intro | trivial)))
    | (with_reducible refine AWp.seq ?_)⟩
noncomputable def c_VerifyOneOfS : Con0 := conF [(.pair .int (.pair .int .int)), .str, (.list (.pair .int (.pair .int (.pair .int .int)))), (.pair (.list .int) (.pair (.list .int) (.list .int)))] fun (⟨⟨p, q, g⟩, s, xs, ⟨pa, pc, pr⟩, _⟩ : (Int × Int × Int) × ByteArray × (List (Int × Int × Int × Int)) × (List Int × List Int × List Int) × Unit) => (xs.length ≤ 9223372036854775806, .tup [.lit (.bool (okVO p q g s xs && vOne p q g s xs pa pc pr)), .lit (.bool (okVO p q g s xs))], [])
noncomputable def G_VerifyOneOfS : List (FuncId × Con) := [(98, mk c_sLabel), (99, mk c_sAll), (100, mk c_sVerifyOne)]
theorem G_VerifyOneOfS_ok : ∀ f C, (f, C) ∈ G_VerifyOneOfS → C.ok Try.prog f := by
  intro f C h
  simp only [G_VerifyOneOfS, List.mem_cons, Prod.mk.injEq, List.not_mem_nil, or_false] at h
  rcases h with ⟨rfl, rfl⟩ | ⟨rfl, rfl⟩ | ⟨rfl, rfl⟩
  · exact ok_sLabel
  · exact ok_sAll
  · exact ok_sVerifyOne
set_option maxRecDepth 100000 in
set_option maxHeartbeats 4000000 in
theorem ok_VerifyOneOfS : (mk c_VerifyOneOfS).ok Try.prog 44 := okF (Θ := Th) (N := 25) (rs := [.tmp 8, .tmp 9]) Th_ok Try.func44 (by kernel_rfl) rfl Try.results44 (by decide) (by kernel_rfl) fun (⟨⟨p, q, g⟩, s, xs, ⟨pa, pc, pr⟩, _⟩ : (Int × Int × Int) × ByteArray × (List (Int × Int × Int × Int)) × (List Int × List Int × List Int) × Unit) => ⟨rfl, rfl, Nat.le_of_ble_eq_true rfl, fun hc w0 => by
  have hL := dmy_eq
  try dsimp only at hc
  try dsimp only
  have hrl0 := hc
  refine AWp.body rfl ?_
  repeat' first
    | ((with_reducible refine hK _ _ ?_); clear hK K)
    | ((with_reducible refine hK _ _ (by kernel_rfl) ?_); clear hK K)
    | ((with_reducible refine AWp.pS Th_ok G_VerifyOneOfS_ok [0, 1, 2, 3, 4, 7, 8, 9, 19] (by decide) ?_); intro K hK)
    | ((with_reducible refine AWp.dS (by kernel_rfl) Th_ok G_VerifyOneOfS_ok [0, 1, 2, 3, 4, 7, 8, 9, 19] ?_); intro K hK)
    | ((with_reducible refine AWp.pE Th_ok G_VerifyOneOfS_ok [0, 1, 2, 3, 4, 7, 8, 9, 19] (by decide) ?_); intro K hK)
    | ((with_reducible refine AWp.dE (by kernel_rfl) Th_ok G_VerifyOneOfS_ok [0, 1, 2, 3, 4, 7, 8, 9, 19] ?_); intro K hK)
    | ((first | with_reducible refine runF_id ?_ | with_reducible refine stepF_id ?_); simp (maxSteps := 2000000) only [runF, stepF, forkOf, gdOf, List.toList_toArray, stepOp, look, opAV, pureOp, callOp, memOp, AS.ev, AS.get, AS.obj, initS, initFrom, AV.cells, AS.upd, Option.bind_some, Option.bind_none, Option.map_some, Option.map_none, Option.getD_none, Option.getD_some, ↓reduceIte, Nat.reduceEqDiff, Nat.reduceAdd, Nat.reduceMul, Nat.reduceSub, List.nil_append, List.append_nil, List.cons_append, List.map_cons, List.map_nil, true_and, and_true, AS.fin, pick, dedup, List.mem_cons, List.not_mem_nil, or_false, false_or, List.size_toArray, List.length_cons, List.length_nil, loadAV, List.drop_zero, List.drop_succ_cons, List.take_zero, List.take_succ_cons, List.getElem?_cons_zero, List.getElem?_cons_succ, List.head?_cons, List.mapM_cons, List.mapM_nil, Option.bind_eq_bind, Option.pure_def, deeps3, deep3, deep2, deep1, deeps, deeps2, mixInts, AV.plain, mk, mkD, DCon.lift, DCon.runC, ren3, ren2, ren1, numb, List.zipIdx_nil, List.zipIdx_cons, List.all_nil, List.all_cons, Nat.reduceLeDiff, List.range, List.range.loop, Ty.sz, beq_self_eq_true, Bool.and_self, and_self, Ty.ofC, AO.isDead, Nat.reduceLT, if_true, Nat.zero_add, Nat.add_zero, ite_true, Nat.le_refl, Bool.false_eq_true, reduceCtorEq, if_false, ite_false, binAV, AO.ren, AV.isCell, fillAV, List.set_cons_zero, List.set_cons_succ, Ty.cells, Ty.flat, Ty.dflt, List.getD_cons_zero, List.getD_cons_succ, Int.reduceToNat, Int.reduceSub, Int.reduceAdd, Int.reduceMul, Int.reduceNeg, forall_eq_or_imp, forall_eq, gdL, id_eq, Nat.lt_irrefl, srcOf, List.replicate_succ, List.replicate_zero, dite_true, List.isEmpty_cons, Option.isSome_some, List.length_append, List.length_singleton, bne_self_eq_false, Bool.not_true, Bool.not_false, conF, asArgs, asArg, asTy, asI1, asB1, asS1, asL1, canons, canon, Fork.true_, Fork.false_, bne, Bool.not_not, List.length_map, pickO, AS.over, TI.bl, bne_iff_ne, AS.over2, without, keys, List.mem_singleton, memOp2, memOp3, absorb, abInt, abBool, abStr, abList, gones, Int.toNat_natCast, List.take_length, subE, List.nodup_cons, List.nodup_nil, not_false_eq_true, Nat.sub_self, conR, asG, asI, asBo, asStr, asIs, asBs, asE4, asI2, asI3, asLL, asLLL, Th_int, Th_bool, Th_string, Th_Sint, Th_implGroup, Th_implProof, Th_implEqualLog, Th_implSEqualLog, G_VerifyOneOfS, c_sLabel, c_sAll, c_sVerifyOne, hL])
    | ((with_reducible refine and_id ?_); (generalize hv : M.chal p q g _ _ = v); have bv : 0 ≤ v ∧ v < q := by rw [← hv]; exact chal_bd (by omega) _ _)
    | ((with_reducible refine and_id ?_); (generalize hv : cmt p q g _ _ _ = v); have bv : 0 ≤ v ∧ v < p := by rw [← hv]; exact cmt_bd (by omega))
    | ((with_reducible refine and_id ?_); (generalize hv : M.gpw p q _ _ = v); have bv : 0 ≤ v ∧ v < p := by rw [← hv]; exact gpw_bd (by omega))
    | ((with_reducible refine and_id ?_); (generalize hv : M.mulL p _ = v); have bv : 0 ≤ v ∧ v < p := by rw [← hv]; exact mulL_bd' (by omega))
    | ((with_reducible refine ens_step ?_ (fun hE => ?_)); · ((repeat' with_reducible apply And.intro) <;> first | with_reducible assumption | omega | exact True.intro | with_reducible rfl | (show ByteArray.size _ ≤ _; decide) | (simp; done) | (simp; omega) | rfl))
    | ((with_reducible refine And.intro ?_ ?_); · ((repeat' with_reducible apply And.intro) <;> first | with_reducible assumption | omega | exact True.intro | with_reducible rfl | (show ByteArray.size _ ≤ _; decide) | (simp; done) | (simp; omega) | rfl))
    | ((with_reducible refine Fork.intro (fun h' => ?_) (fun h' => ?_)) <;> (try simp only [Bool.not_eq_true', Bool.not_eq_false', bne] at h') <;> (replace hL := And.intro h' hL) <;> (try simp only [decide_eq_true_eq, decide_eq_false_iff_not, beq_iff_eq, beq_eq_false_iff_ne, ne_eq] at h') <;> (try (have hG := M.goodB_of h'; have hq2 := hG.q2; have hqp := hG.qp; have hp3 := hG.p3; have hpM := hG.pM)) <;> (try (have hsl := h'; rw [Bool.and_eq_true, decide_eq_true_eq] at hsl; obtain ⟨hg1, hg2⟩ := hsl; have hG := M.goodB_of hg1; have hq2 := hG.q2; have hqp := hG.qp; have hp3 := hG.p3; have hpM := hG.pM)) <;> (try (have hS := okSt_use h'; have hxl := hS.len)))
    | (with_reducible refine AWp.skipS ?_)
    | ((with_reducible refine AWp.condT rfl ?_))
    | ((with_reducible refine AWp.condF rfl ?_))
    | (with_reducible refine AWp.condB rfl ?_)
    | (with_reducible refine AWp.ret ?_)
    | (with_reducible refine seqQ_n ?_)
    | (with_reducible refine seqQ_ret ?_)
    | (with_reducible refine blkQ_ret ?_)
    | (with_reducible refine blkQ_n ?_)
    | (with_reducible refine seqQ_exit ?_)
    | (with_reducible refine blkQ_exit ?_)
    | (with_reducible refine blkQ_other (by decide) ?_)
    | (with_reducible refine AWp.block ?_)
    | (with_reducible refine AWp.exit ?_)
    | (with_reducible refine AWp.skip ?_)
    | ((with_reducible refine EndsAt_id ?_); (try subst_vars); (try simp only [okVO, hL, List.length_cons, List.length_nil, Nat.zero_add, Nat.reduceAdd, Bool.and_true, Bool.and_false, Bool.true_and, Bool.false_and, Bool.and_self, ↓reduceIte, Bool.false_eq_true, Bool.not_true, Bool.not_false, bne]); refine EndsAt.done [] (by first | exact .inr rfl | exact .inl rfl) rfl rfl ?_ ?_ <;> first | decide | (repeat' (first | rfl | apply And.intro | trivial)))
    | (with_reducible refine AWp.seq ?_)⟩
end Go.Proofs.Ytljlimlgdnbllaa
