import Derived.Test.YtljlimlgdnbllaaB7
import Derived.Test.YtljlimlgdnbllaaD1
import Derived.Test.YtljlimlgdnbllaaD2
/- ProveSum on both sides. -/
set_option linter.all false
set_option linter.unusedVariables false
set_option linter.unusedSimpArgs false
namespace Go.Proofs.Ytljlimlgdnbllaa
open Go.RowKit
/-- the proof of a sum -/
noncomputable def prSum (p q g bh : Int) (rs l : List Int) (k0 : Int) : List Int × List Int × List Int :=
  let s := sumL q l
  let r := sumL q rs
  let x := M.gpw p q bh k0
  let e := M.chal p q g [115, 117, 109] [bh, cmt p q g bh s r, s, x]
  ([x], [e], [(k0 + e * r) % q])
noncomputable def okSum (p q g bh : Int) (bs rs l ks : List Int) : Bool := l9B p q g bh bs && inr l.length 1 24 && ((rs.length : Int) == l.length) && ((ks.length : Int) == 1) && (expsB q rs && (expsB q l && expsB q ks))
noncomputable def PSum (p q g bh : Int) (bs rs l ks : List Int) : List Int × List Int × List Int := if okSum p q g bh bs rs l ks = true then prSum p q g bh rs l (ks.getD 0 0) else ([], [], [])
theorem expsB_app {q : Int} {a b : List Int} : expsB q (a ++ b) = (expsB q a && expsB q b) := by simp [expsB, List.all_append]
theorem sumL_bd {q : Int} (hq : 1 ≤ q) (xs : List Int) : 0 ≤ sumL q xs ∧ sumL q xs < q := sumL_lt hq xs
theorem expsB_all {q : Int} {xs : List Int} (h : expsB q xs = true) : ∀ x ∈ xs, 0 ≤ x ∧ x < q := fun x hx => expsB_mem h hx
theorem q_bd' {q p : Int} (h : 2 ≤ q) (h1 : q < p) (h2 : p ≤ 2000000000) : -9000000000000000000 ≤ q ∧ q ≤ 9000000000000000000 := by omega
noncomputable def c_ProveSumI : Con0 := conF [(.pair .int (.pair .int .int)), (.pair .int (.list .int)), (.list .int), (.list .int), (.list .int)] fun (⟨⟨p, q, g⟩, ⟨bh, bs⟩, rs, l, ks, _⟩ : (Int × Int × Int) × (Int × List Int) × (List Int) × (List Int) × (List Int) × Unit) => (True, .tup [.agg [.own 0 (PSum p q g bh bs rs l ks).1.length, .own 1 (PSum p q g bh bs rs l ks).2.1.length, .own 2 (PSum p q g bh bs rs l ks).2.2.length], .lit (.bool (okSum p q g bh bs rs l ks))], [.row 3 .int (PSum p q g bh bs rs l ks).1, .row 3 .int (PSum p q g bh bs rs l ks).2.1, .row 3 .int (PSum p q g bh bs rs l ks).2.2])
noncomputable def G_ProveSumI : List (FuncId × Con) := [(70, mk c_isValidBases), (71, mk c_within), (92, mk c_Concat), (79, mk c_areExps), (93, mk c_sum), (77, mk c_pow), (81, mk c_commit), (76, mk c_challenge), (85, mk c_exp)]
theorem G_ProveSumI_ok : ∀ f C, (f, C) ∈ G_ProveSumI → C.ok Try.prog f := by
  intro f C h
  simp only [G_ProveSumI, List.mem_cons, Prod.mk.injEq, List.not_mem_nil, or_false] at h
  rcases h with ⟨rfl, rfl⟩ | ⟨rfl, rfl⟩ | ⟨rfl, rfl⟩ | ⟨rfl, rfl⟩ | ⟨rfl, rfl⟩ | ⟨rfl, rfl⟩ | ⟨rfl, rfl⟩ | ⟨rfl, rfl⟩ | ⟨rfl, rfl⟩
  · exact ok_isValidBases
  · exact ok_within
  · exact ok_Concat
  · exact ok_areExps
  · exact ok_sum
  · exact ok_pow
  · exact ok_commit
  · exact ok_challenge
  · exact ok_exp
set_option maxRecDepth 100000 in
set_option maxHeartbeats 4000000 in
theorem ok_ProveSumI : (mk c_ProveSumI).ok Try.prog 39 := okF (Θ := Th) (N := 95) (rs := [.cell 10 38, .tmp 11]) Th_ok Try.func39 (by kernel_rfl) rfl Try.results39 (by decide) (by kernel_rfl) fun (⟨⟨p, q, g⟩, ⟨bh, bs⟩, rs, l, ks, _⟩ : (Int × Int × Int) × (Int × List Int) × (List Int) × (List Int) × (List Int) × Unit) => ⟨rfl, rfl, Nat.le_of_ble_eq_true rfl, fun hc w0 => by
  have hL := dmy_eq
  try dsimp only at hc
  try dsimp only
  refine AWp.body rfl ?_
  repeat' first
    | ((with_reducible refine hK _ _ ?_); clear hK K)
    | ((with_reducible refine hK _ _ (by kernel_rfl) ?_); clear hK K)
    | ((with_reducible refine AWp.pS Th_ok G_ProveSumI_ok [0, 1, 2, 3, 4, 5, 6, 10, 11, 12, 13, 14, 15, 48] (by decide) ?_); intro K hK)
    | ((with_reducible refine AWp.dS (by kernel_rfl) Th_ok G_ProveSumI_ok [0, 1, 2, 3, 4, 5, 6, 10, 11, 12, 13, 14, 15, 48] ?_); intro K hK)
    | ((with_reducible refine AWp.pE Th_ok G_ProveSumI_ok [0, 1, 2, 3, 4, 5, 6, 10, 11, 12, 13, 14, 15, 48] (by decide) ?_); intro K hK)
    | ((with_reducible refine AWp.dE (by kernel_rfl) Th_ok G_ProveSumI_ok [0, 1, 2, 3, 4, 5, 6, 10, 11, 12, 13, 14, 15, 48] ?_); intro K hK)
    | ((first | with_reducible refine runF_id ?_ | with_reducible refine stepF_id ?_); simp (maxSteps := 2000000) only [runF, stepF, forkOf, gdOf, List.toList_toArray, stepOp, look, opAV, pureOp, callOp, memOp, AS.ev, AS.get, AS.obj, initS, initFrom, AV.cells, AS.upd, Option.bind_some, Option.bind_none, Option.map_some, Option.map_none, Option.getD_none, Option.getD_some, ↓reduceIte, Nat.reduceEqDiff, Nat.reduceAdd, Nat.reduceMul, Nat.reduceSub, List.nil_append, List.append_nil, List.cons_append, List.map_cons, List.map_nil, true_and, and_true, AS.fin, pick, dedup, List.mem_cons, List.not_mem_nil, or_false, false_or, List.size_toArray, List.length_cons, List.length_nil, loadAV, List.drop_zero, List.drop_succ_cons, List.take_zero, List.take_succ_cons, List.getElem?_cons_zero, List.getElem?_cons_succ, List.head?_cons, List.mapM_cons, List.mapM_nil, Option.bind_eq_bind, Option.pure_def, deeps3, deep3, deep2, deep1, deeps, deeps2, mixInts, AV.plain, mk, mkD, DCon.lift, DCon.runC, ren3, ren2, ren1, numb, List.zipIdx_nil, List.zipIdx_cons, List.all_nil, List.all_cons, Nat.reduceLeDiff, List.range, List.range.loop, Ty.sz, beq_self_eq_true, Bool.and_self, and_self, Ty.ofC, AO.isDead, Nat.reduceLT, if_true, Nat.zero_add, Nat.add_zero, ite_true, Nat.le_refl, Bool.false_eq_true, reduceCtorEq, if_false, ite_false, binAV, AO.ren, AV.isCell, fillAV, List.set_cons_zero, List.set_cons_succ, Ty.cells, Ty.flat, Ty.dflt, List.getD_cons_zero, List.getD_cons_succ, Int.reduceToNat, Int.reduceSub, Int.reduceAdd, Int.reduceMul, Int.reduceNeg, forall_eq_or_imp, forall_eq, gdL, id_eq, Nat.lt_irrefl, srcOf, List.replicate_succ, List.replicate_zero, dite_true, List.isEmpty_cons, Option.isSome_some, List.length_append, List.length_singleton, bne_self_eq_false, Bool.not_true, Bool.not_false, conF, asArgs, asArg, asTy, asI1, asB1, asS1, asL1, canons, canon, Fork.true_, Fork.false_, bne, Bool.not_not, List.length_map, pickO, AS.over, TI.bl, bne_iff_ne, AS.over2, without, keys, List.mem_singleton, memOp2, memOp3, absorb, abInt, abBool, abStr, abList, gones, Int.toNat_natCast, List.take_length, subE, conR, asG, asI, asBo, asStr, asIs, asBs, asE4, asI2, asI3, asLL, asLLL, Th_int, Th_bool, Th_string, Th_Sint, Th_SSint, Th_implGroup, Th_implBases, Th_implProof, G_ProveSumI, c_isValidBases, c_within, c_Concat, c_areExps, c_sum, c_pow, c_commit, c_challenge, c_exp, List.flatten_cons, List.flatten_nil, expsB_app, hL])
    | ((with_reducible refine and_id ?_); (generalize hv : M.gpw p q _ _ = v); have bv : 0 ≤ v ∧ v < p := by rw [← hv]; exact gpw_bd (by omega))
    | ((with_reducible refine and_id ?_); (generalize hv : cmt p q g _ _ _ = v); have bv : 0 ≤ v ∧ v < p := by rw [← hv]; exact cmt_bd (by omega))
    | ((with_reducible refine and_id ?_); (generalize hv : M.chal p q g _ _ = v); have bv : 0 ≤ v ∧ v < q := by rw [← hv]; exact chal_bd (by omega) _ _)
    | ((with_reducible refine and_id ?_); (generalize hv : (_ : Int) % q = v); have bv : 0 ≤ v ∧ v < q := by rw [← hv]; exact emod_bd (by omega))
    | ((with_reducible refine and_id ?_); (generalize hv : M.mulL p _ = v); have bv : 0 ≤ v ∧ v < p := by rw [← hv]; exact mulL_bd' (by omega))
    | ((with_reducible refine and_id ?_); (generalize hv : sumL q _ = v); have bv : 0 ≤ v ∧ v < q := by rw [← hv]; exact sumL_bd (by omega) _)
    | ((with_reducible refine and_id ?_); (generalize hv : (_ * _ : Int) = v); have bv : 0 ≤ v ∧ v ≤ 4000000000000000000 := by rw [← hv]; exact mul_bd (by omega) (by omega))
    | ((with_reducible refine ens_step ?_ (fun hE => ?_)); · ((repeat' with_reducible apply And.intro) <;> first | with_reducible assumption | omega | exact True.intro | with_reducible rfl | (show ByteArray.size _ ≤ _; decide) | (simp; done) | (simp; omega) | rfl))
    | ((with_reducible refine And.intro ?_ ?_); · ((repeat' with_reducible apply And.intro) <;> first | with_reducible assumption | omega | exact True.intro | with_reducible rfl | (show ByteArray.size _ ≤ _; decide) | (simp; done) | (simp; omega) | rfl))
    | ((with_reducible refine Fork.intro (fun h' => ?_) (fun h' => ?_)) <;> (try simp only [Bool.not_eq_true', Bool.not_eq_false', bne] at h') <;> (replace hL := And.intro h' hL) <;> (try simp only [decide_eq_true_eq, decide_eq_false_iff_not, beq_iff_eq, beq_eq_false_iff_ne, ne_eq] at h') <;> (try (have hl9 := l9B_use h'; obtain ⟨hG, hbb, hq2, hqp, hp3, hpM, hgb⟩ := hl9)) <;> (try (have h2 := h'; rw [Bool.and_eq_true, Bool.and_eq_true] at h2; obtain ⟨h3, h4, h5⟩ := h2)) <;> (try (have hA := expsB_all h3; have hB := expsB_all h4; have hk0 := expsB_get h5 0 (by omega))) <;> (try (have hin := inr_t h')))
    | (with_reducible refine AWp.skipS ?_)
    | ((with_reducible refine AWp.condT rfl ?_))
    | ((with_reducible refine AWp.condF rfl ?_))
    | (with_reducible refine AWp.condB rfl ?_)
    | ((with_reducible refine AWp.ret_id ?_); refine AWp.sub (Sub.nilBox 16 0 100000 3 .int rfl rfl rfl) ?_)
    | ((with_reducible refine AWp.ret_id ?_); refine AWp.sub (Sub.nilBox 16 1 100001 3 .int rfl rfl rfl) ?_)
    | ((with_reducible refine AWp.ret_id ?_); refine AWp.sub (Sub.nilBox 16 2 100002 3 .int rfl rfl rfl) ?_)
    | (with_reducible refine AWp.ret ?_)
    | (with_reducible refine seqQ_n ?_)
    | (with_reducible refine seqQ_ret ?_)
    | (with_reducible refine blkQ_ret ?_)
    | (with_reducible refine blkQ_n ?_)
    | (with_reducible refine seqQ_exit ?_)
    | (with_reducible refine blkQ_exit ?_)
    | (with_reducible refine blkQ_other (by decide) ?_)
    | (with_reducible refine AWp.block ?_)
    | (with_reducible refine AWp.exit ?_)
    | (with_reducible refine AWp.skip ?_)
    | ((with_reducible refine EndsAt_id ?_); (try subst_vars); (try simp only [PSum, okSum, prSum, hL, List.length_cons, List.length_nil, Nat.zero_add, Nat.reduceAdd, Bool.and_true, Bool.and_false, Bool.true_and, Bool.false_and, Bool.and_self, ↓reduceIte, Bool.false_eq_true, Bool.not_true, Bool.not_false, bne]); refine EndsAt.done [_, _, _] (by first | exact .inr rfl | exact .inl rfl) rfl rfl ?_ ?_ <;> first | decide | (repeat' (first | rfl | apply And.intro | trivial)))
    | (with_reducible refine AWp.seq ?_)⟩
noncomputable def c_rSumChallenge : Con0 := conF [(.pair .int (.pair .int .int)), (.pair .int (.list .int)), .int, .int, .int] fun (⟨⟨p, q, g⟩, ⟨bh, bs⟩, c, t, x, _⟩ : (Int × Int × Int) × (Int × List Int) × Int × Int × Int × Unit) => (M.Grp p q g ∧ (0 ≤ bh ∧ bh < p) ∧ (0 ≤ c ∧ c < p) ∧ (0 ≤ t ∧ t < q) ∧ (0 ≤ x ∧ x < p), .lit (.int .i64 (M.chal p q g [115, 117, 109] [bh, c, t, x])), [])
noncomputable def G_rSumChallenge : List (FuncId × Con) := [(126, mk c_hChallenge)]
theorem G_rSumChallenge_ok : ∀ f C, (f, C) ∈ G_rSumChallenge → C.ok Try.prog f := by
  intro f C h
  simp only [G_rSumChallenge, List.mem_cons, Prod.mk.injEq, List.not_mem_nil, or_false] at h
  obtain ⟨rfl, rfl⟩ := h
  exact ok_hChallenge
set_option maxRecDepth 100000 in
set_option maxHeartbeats 4000000 in
theorem ok_rSumChallenge : (mk c_rSumChallenge).ok Try.prog 68 := okF (Θ := Th) (N := 19) (rs := [.tmp 10]) Th_ok Try.func68 (by kernel_rfl) rfl Try.results68 (by decide) (by kernel_rfl) fun (⟨⟨p, q, g⟩, ⟨bh, bs⟩, c, t, x, _⟩ : (Int × Int × Int) × (Int × List Int) × Int × Int × Int × Unit) => ⟨rfl, rfl, Nat.le_of_ble_eq_true rfl, fun hc w0 => by
  have hL := dmy_eq
  try dsimp only at hc
  try dsimp only
  obtain ⟨hG, hb, hc1, ht, hx⟩ := hc
  have hq2 := hG.q2
  have hqp := hG.qp
  have hp3 := hG.p3
  have hpM := hG.pM
  have hgb : 0 ≤ g ∧ g < p := ⟨by have := hG.g2; omega, hG.gp⟩
  refine AWp.body rfl ?_
  repeat' first
    | ((with_reducible refine hK _ _ ?_); clear hK K)
    | ((with_reducible refine hK _ _ (by kernel_rfl) ?_); clear hK K)
    | ((with_reducible refine AWp.pS Th_ok G_rSumChallenge_ok [0, 1, 2, 3, 4, 5, 6, 10] (by decide) ?_); intro K hK)
    | ((with_reducible refine AWp.dS (by kernel_rfl) Th_ok G_rSumChallenge_ok [0, 1, 2, 3, 4, 5, 6, 10] ?_); intro K hK)
    | ((with_reducible refine AWp.pE Th_ok G_rSumChallenge_ok [0, 1, 2, 3, 4, 5, 6, 10] (by decide) ?_); intro K hK)
    | ((with_reducible refine AWp.dE (by kernel_rfl) Th_ok G_rSumChallenge_ok [0, 1, 2, 3, 4, 5, 6, 10] ?_); intro K hK)
    | ((first | with_reducible refine runF_id ?_ | with_reducible refine stepF_id ?_); simp (maxSteps := 2000000) only [runF, stepF, forkOf, gdOf, List.toList_toArray, stepOp, look, opAV, pureOp, callOp, memOp, AS.ev, AS.get, AS.obj, initS, initFrom, AV.cells, AS.upd, Option.bind_some, Option.bind_none, Option.map_some, Option.map_none, Option.getD_none, Option.getD_some, ↓reduceIte, Nat.reduceEqDiff, Nat.reduceAdd, Nat.reduceMul, Nat.reduceSub, List.nil_append, List.append_nil, List.cons_append, List.map_cons, List.map_nil, true_and, and_true, AS.fin, pick, dedup, List.mem_cons, List.not_mem_nil, or_false, false_or, List.size_toArray, List.length_cons, List.length_nil, loadAV, List.drop_zero, List.drop_succ_cons, List.take_zero, List.take_succ_cons, List.getElem?_cons_zero, List.getElem?_cons_succ, List.head?_cons, List.mapM_cons, List.mapM_nil, Option.bind_eq_bind, Option.pure_def, deeps3, deep3, deep2, deep1, deeps, deeps2, mixInts, AV.plain, mk, mkD, DCon.lift, DCon.runC, ren3, ren2, ren1, numb, List.zipIdx_nil, List.zipIdx_cons, List.all_nil, List.all_cons, Nat.reduceLeDiff, List.range, List.range.loop, Ty.sz, beq_self_eq_true, Bool.and_self, and_self, Ty.ofC, AO.isDead, Nat.reduceLT, if_true, Nat.zero_add, Nat.add_zero, ite_true, Nat.le_refl, Bool.false_eq_true, reduceCtorEq, if_false, ite_false, binAV, AO.ren, AV.isCell, fillAV, List.set_cons_zero, List.set_cons_succ, Ty.cells, Ty.flat, Ty.dflt, List.getD_cons_zero, List.getD_cons_succ, Int.reduceToNat, Int.reduceSub, Int.reduceAdd, Int.reduceMul, Int.reduceNeg, forall_eq_or_imp, forall_eq, gdL, id_eq, Nat.lt_irrefl, srcOf, List.replicate_succ, List.replicate_zero, dite_true, List.isEmpty_cons, Option.isSome_some, List.length_append, List.length_singleton, bne_self_eq_false, Bool.not_true, Bool.not_false, conF, asArgs, asArg, asTy, asI1, asB1, asS1, asL1, canons, canon, Fork.true_, Fork.false_, bne, Bool.not_not, List.length_map, pickO, AS.over, TI.bl, bne_iff_ne, AS.over2, without, keys, List.mem_singleton, memOp2, memOp3, absorb, abInt, abBool, abStr, abList, gones, Int.toNat_natCast, List.take_length, subE, conR, asG, asI, asBo, asStr, asIs, asBs, asE4, asI2, asI3, asLL, asLLL, Th_int, Th_bool, Th_string, Th_Sint, Th_implGroup, Th_implBases, Th_implProof, G_rSumChallenge, c_hChallenge, hL])
    | ((with_reducible refine and_id ?_); (generalize hv : M.chal p q g _ _ = v); have bv : 0 ≤ v ∧ v < q := by rw [← hv]; exact chal_bd (by omega) _ _)
    | ((with_reducible refine and_id ?_); (generalize hv : cmt p q g _ _ _ = v); have bv : 0 ≤ v ∧ v < p := by rw [← hv]; exact cmt_bd (by omega))
    | ((with_reducible refine and_id ?_); (generalize hv : M.gpw p q _ _ = v); have bv : 0 ≤ v ∧ v < p := by rw [← hv]; exact gpw_bd (by omega))
    | ((with_reducible refine and_id ?_); (generalize hv : M.mulL p _ = v); have bv : 0 ≤ v ∧ v < p := by rw [← hv]; exact mulL_bd' (by omega))
    | ((with_reducible refine ens_step ?_ (fun hE => ?_)); · ((repeat' with_reducible apply And.intro) <;> first | with_reducible assumption | omega | exact True.intro | with_reducible rfl | (show ByteArray.size _ ≤ _; decide) | (simp; done) | (simp; omega) | rfl))
    | ((with_reducible refine And.intro ?_ ?_); · ((repeat' with_reducible apply And.intro) <;> first | with_reducible assumption | omega | exact True.intro | with_reducible rfl | (show ByteArray.size _ ≤ _; decide) | (simp; done) | (simp; omega) | rfl))
    | ((with_reducible refine Fork.intro (fun h' => ?_) (fun h' => ?_)) <;> (try simp only [Bool.not_eq_true', Bool.not_eq_false', bne] at h') <;> (replace hL := And.intro h' hL) <;> (try simp only [decide_eq_true_eq, decide_eq_false_iff_not, beq_iff_eq, beq_eq_false_iff_ne, ne_eq] at h'))
    | (with_reducible refine AWp.skipS ?_)
    | ((with_reducible refine AWp.condT rfl ?_))
    | ((with_reducible refine AWp.condF rfl ?_))
    | (with_reducible refine AWp.condB rfl ?_)
    | (with_reducible refine AWp.ret ?_)
    | (with_reducible refine seqQ_n ?_)
    | (with_reducible refine seqQ_ret ?_)
    | (with_reducible refine blkQ_ret ?_)
    | (with_reducible refine blkQ_n ?_)
    | (with_reducible refine seqQ_exit ?_)
    | (with_reducible refine blkQ_exit ?_)
    | (with_reducible refine blkQ_other (by decide) ?_)
    | (with_reducible refine AWp.block ?_)
    | (with_reducible refine AWp.exit ?_)
    | (with_reducible refine AWp.skip ?_)
    | ((with_reducible refine EndsAt_id ?_); (try subst_vars); refine EndsAt.done [] (by first | exact .inr rfl | exact .inl rfl) rfl rfl ?_ ?_ <;> first | decide | (repeat' (first | rfl | apply And.intro | trivial)))
    | (with_reducible refine AWp.seq ?_)⟩
noncomputable def c_ProveSumS : Con0 := conF [(.pair .int (.pair .int .int)), (.pair .int (.list .int)), (.list .int), (.list .int), (.list .int)] fun (⟨⟨p, q, g⟩, ⟨bh, bs⟩, rs, l, ks, _⟩ : (Int × Int × Int) × (Int × List Int) × (List Int) × (List Int) × (List Int) × Unit) => (True, .tup [.agg [.own 0 (PSum p q g bh bs rs l ks).1.length, .own 1 (PSum p q g bh bs rs l ks).2.1.length, .own 2 (PSum p q g bh bs rs l ks).2.2.length], .lit (.bool (okSum p q g bh bs rs l ks))], [.row 3 .int (PSum p q g bh bs rs l ks).1, .row 3 .int (PSum p q g bh bs rs l ks).2.1, .row 3 .int (PSum p q g bh bs rs l ks).2.2])
noncomputable def G_ProveSumS : List (FuncId × Con) := [(62, mk c_l9Good), (63, mk c_l1In), (65, mk c_gExps), (91, mk c_nSum), (69, mk c_gExp), (82, mk c_pCommit), (68, mk c_rSumChallenge), (84, mk c_nMod)]
theorem G_ProveSumS_ok : ∀ f C, (f, C) ∈ G_ProveSumS → C.ok Try.prog f := by
  intro f C h
  simp only [G_ProveSumS, List.mem_cons, Prod.mk.injEq, List.not_mem_nil, or_false] at h
  rcases h with ⟨rfl, rfl⟩ | ⟨rfl, rfl⟩ | ⟨rfl, rfl⟩ | ⟨rfl, rfl⟩ | ⟨rfl, rfl⟩ | ⟨rfl, rfl⟩ | ⟨rfl, rfl⟩ | ⟨rfl, rfl⟩
  · exact ok_l9Good
  · exact ok_l1In
  · exact ok_gExps
  · exact ok_nSum
  · exact ok_gExp
  · exact ok_pCommit
  · exact ok_rSumChallenge
  · exact ok_nMod
set_option maxRecDepth 100000 in
set_option maxHeartbeats 4000000 in
theorem ok_ProveSumS : (mk c_ProveSumS).ok Try.prog 38 := okF (Θ := Th) (N := 98) (rs := [.cell 10 38, .tmp 11]) Th_ok Try.func38 (by kernel_rfl) rfl Try.results38 (by decide) (by kernel_rfl) fun (⟨⟨p, q, g⟩, ⟨bh, bs⟩, rs, l, ks, _⟩ : (Int × Int × Int) × (Int × List Int) × (List Int) × (List Int) × (List Int) × Unit) => ⟨rfl, rfl, Nat.le_of_ble_eq_true rfl, fun hc w0 => by
  have hL := dmy_eq
  try dsimp only at hc
  try dsimp only
  refine AWp.body rfl ?_
  repeat' first
    | ((with_reducible refine hK _ _ ?_); clear hK K)
    | ((with_reducible refine hK _ _ (by kernel_rfl) ?_); clear hK K)
    | ((with_reducible refine AWp.pS Th_ok G_ProveSumS_ok [0, 1, 2, 3, 4, 5, 6, 10, 11, 12, 13, 14, 15, 55] (by decide) ?_); intro K hK)
    | ((with_reducible refine AWp.dS (by kernel_rfl) Th_ok G_ProveSumS_ok [0, 1, 2, 3, 4, 5, 6, 10, 11, 12, 13, 14, 15, 55] ?_); intro K hK)
    | ((with_reducible refine AWp.pE Th_ok G_ProveSumS_ok [0, 1, 2, 3, 4, 5, 6, 10, 11, 12, 13, 14, 15, 55] (by decide) ?_); intro K hK)
    | ((with_reducible refine AWp.dE (by kernel_rfl) Th_ok G_ProveSumS_ok [0, 1, 2, 3, 4, 5, 6, 10, 11, 12, 13, 14, 15, 55] ?_); intro K hK)
    | ((first | with_reducible refine runF_id ?_ | with_reducible refine stepF_id ?_); simp (maxSteps := 2000000) only [runF, stepF, forkOf, gdOf, List.toList_toArray, stepOp, look, opAV, pureOp, callOp, memOp, AS.ev, AS.get, AS.obj, initS, initFrom, AV.cells, AS.upd, Option.bind_some, Option.bind_none, Option.map_some, Option.map_none, Option.getD_none, Option.getD_some, ↓reduceIte, Nat.reduceEqDiff, Nat.reduceAdd, Nat.reduceMul, Nat.reduceSub, List.nil_append, List.append_nil, List.cons_append, List.map_cons, List.map_nil, true_and, and_true, AS.fin, pick, dedup, List.mem_cons, List.not_mem_nil, or_false, false_or, List.size_toArray, List.length_cons, List.length_nil, loadAV, List.drop_zero, List.drop_succ_cons, List.take_zero, List.take_succ_cons, List.getElem?_cons_zero, List.getElem?_cons_succ, List.head?_cons, List.mapM_cons, List.mapM_nil, Option.bind_eq_bind, Option.pure_def, deeps3, deep3, deep2, deep1, deeps, deeps2, mixInts, AV.plain, mk, mkD, DCon.lift, DCon.runC, ren3, ren2, ren1, numb, List.zipIdx_nil, List.zipIdx_cons, List.all_nil, List.all_cons, Nat.reduceLeDiff, List.range, List.range.loop, Ty.sz, beq_self_eq_true, Bool.and_self, and_self, Ty.ofC, AO.isDead, Nat.reduceLT, if_true, Nat.zero_add, Nat.add_zero, ite_true, Nat.le_refl, Bool.false_eq_true, reduceCtorEq, if_false, ite_false, binAV, AO.ren, AV.isCell, fillAV, List.set_cons_zero, List.set_cons_succ, Ty.cells, Ty.flat, Ty.dflt, List.getD_cons_zero, List.getD_cons_succ, Int.reduceToNat, Int.reduceSub, Int.reduceAdd, Int.reduceMul, Int.reduceNeg, forall_eq_or_imp, forall_eq, gdL, id_eq, Nat.lt_irrefl, srcOf, List.replicate_succ, List.replicate_zero, dite_true, List.isEmpty_cons, Option.isSome_some, List.length_append, List.length_singleton, bne_self_eq_false, Bool.not_true, Bool.not_false, conF, asArgs, asArg, asTy, asI1, asB1, asS1, asL1, canons, canon, Fork.true_, Fork.false_, bne, Bool.not_not, List.length_map, pickO, AS.over, TI.bl, bne_iff_ne, AS.over2, without, keys, List.mem_singleton, memOp2, memOp3, absorb, abInt, abBool, abStr, abList, gones, Int.toNat_natCast, List.take_length, subE, conR, asG, asI, asBo, asStr, asIs, asBs, asE4, asI2, asI3, asLL, asLLL, Th_int, Th_bool, Th_string, Th_Sint, Th_implGroup, Th_implBases, Th_implProof, G_ProveSumS, c_l9Good, c_l1In, c_gExps, c_nSum, c_gExp, c_pCommit, c_rSumChallenge, c_nMod, hL])
    | ((with_reducible refine and_id ?_); (generalize hv : M.gpw p q _ _ = v); have bv : 0 ≤ v ∧ v < p := by rw [← hv]; exact gpw_bd (by omega))
    | ((with_reducible refine and_id ?_); (generalize hv : cmt p q g _ _ _ = v); have bv : 0 ≤ v ∧ v < p := by rw [← hv]; exact cmt_bd (by omega))
    | ((with_reducible refine and_id ?_); (generalize hv : (_ : Int) % q = v); have bv : 0 ≤ v ∧ v < q := by rw [← hv]; exact emod_bd (by omega))
    | ((with_reducible refine and_id ?_); (generalize hv : M.chal p q g _ _ = v); have bv : 0 ≤ v ∧ v < q := by rw [← hv]; exact chal_bd (by omega) _ _)
    | ((with_reducible refine and_id ?_); (generalize hv : M.mulL p _ = v); have bv : 0 ≤ v ∧ v < p := by rw [← hv]; exact mulL_bd' (by omega))
    | ((with_reducible refine and_id ?_); (generalize hv : sumL q _ = v); have bv : 0 ≤ v ∧ v < q := by rw [← hv]; exact sumL_bd (by omega) _)
    | ((with_reducible refine and_id ?_); (generalize hv : (_ * _ : Int) = v); have bv : 0 ≤ v ∧ v ≤ 4000000000000000000 := by rw [← hv]; exact mul_bd (by omega) (by omega))
    | ((with_reducible refine ens_step ?_ (fun hE => ?_)); · ((repeat' with_reducible apply And.intro) <;> first | with_reducible assumption | omega | exact True.intro | with_reducible rfl | (show ByteArray.size _ ≤ _; decide) | (simp; done) | (simp; omega) | rfl))
    | ((with_reducible refine And.intro ?_ ?_); · ((repeat' with_reducible apply And.intro) <;> first | with_reducible assumption | omega | exact True.intro | with_reducible rfl | (show ByteArray.size _ ≤ _; decide) | (simp; done) | (simp; omega) | rfl))
    | ((with_reducible refine Fork.intro (fun h' => ?_) (fun h' => ?_)) <;> (try simp only [Bool.not_eq_true', Bool.not_eq_false', bne] at h') <;> (replace hL := And.intro h' hL) <;> (try simp only [decide_eq_true_eq, decide_eq_false_iff_not, beq_iff_eq, beq_eq_false_iff_ne, ne_eq] at h') <;> (try (have hl9 := l9B_use h'; obtain ⟨hG, hbb, hq2, hqp, hp3, hpM, hgb⟩ := hl9)) <;> (try (have hA := expsB_all h')) <;> (try (have hk0 := expsB_get h' 0 (by omega))) <;> (try (have hin := inr_t h')))
    | (with_reducible refine AWp.skipS ?_)
    | ((with_reducible refine AWp.condT rfl ?_))
    | ((with_reducible refine AWp.condF rfl ?_))
    | (with_reducible refine AWp.condB rfl ?_)
    | ((with_reducible refine AWp.ret_id ?_); refine AWp.sub (Sub.nilBox 16 0 100000 3 .int rfl rfl rfl) ?_)
    | ((with_reducible refine AWp.ret_id ?_); refine AWp.sub (Sub.nilBox 16 1 100001 3 .int rfl rfl rfl) ?_)
    | ((with_reducible refine AWp.ret_id ?_); refine AWp.sub (Sub.nilBox 16 2 100002 3 .int rfl rfl rfl) ?_)
    | (with_reducible refine AWp.ret ?_)
    | (with_reducible refine seqQ_n ?_)
    | (with_reducible refine seqQ_ret ?_)
    | (with_reducible refine blkQ_ret ?_)
    | (with_reducible refine blkQ_n ?_)
    | (with_reducible refine seqQ_exit ?_)
    | (with_reducible refine blkQ_exit ?_)
    | (with_reducible refine blkQ_other (by decide) ?_)
    | (with_reducible refine AWp.block ?_)
    | (with_reducible refine AWp.exit ?_)
    | (with_reducible refine AWp.skip ?_)
    | ((with_reducible refine EndsAt_id ?_); (try subst_vars); (try simp only [PSum, okSum, prSum, hL, List.length_cons, List.length_nil, Nat.zero_add, Nat.reduceAdd, Bool.and_true, Bool.and_false, Bool.true_and, Bool.false_and, Bool.and_self, ↓reduceIte, Bool.false_eq_true, Bool.not_true, Bool.not_false, bne]); refine EndsAt.done [_, _, _] (by first | exact .inr rfl | exact .inl rfl) rfl rfl ?_ ?_ <;> first | decide | (repeat' (first | rfl | apply And.intro | trivial)))
    | (with_reducible refine AWp.seq ?_)⟩
end Go.Proofs.Ytljlimlgdnbllaa
