import Derived.Test.YtlggpehioflbdaaZD33
import Derived.Test.YtlggpehioflbdaaZD25
/- Partial decryptions of all trustees. -/
set_option linter.all false
set_option linter.unusedVariables false
set_option linter.unusedSimpArgs false
namespace Go.Proofs.Ytlggpehioflbdaa
open Go.RowKit
noncomputable def ptL (p q g u : Int) (is xs ks : List Int) (k : Nat) : List (Int × Int × List Int × List Int × List Int) := (List.range k).map fun j => (is.getD j 0, M.gpw p q u (xs.getD j 0), prP p q g u (xs.getD j 0) (ks.getD j 0))
theorem ptL_len {p q g u : Int} {is xs ks : List Int} {k : Nat} : (ptL p q g u is xs ks k).length = k := by simp [ptL]
theorem ptL_step {p q g u : Int} {is xs ks : List Int} {k : Nat} : ptL p q g u is xs ks k ++ [(is.getD k 0, M.gpw p q u (xs.getD k 0), (prP p q g u (xs.getD k 0) (ks.getD k 0)).1, (prP p q g u (xs.getD k 0) (ks.getD k 0)).2.1, (prP p q g u (xs.getD k 0) (ks.getD k 0)).2.2)] = ptL p q g u is xs ks (k + 1) := by simp [ptL, List.range_succ]
noncomputable def okPo (p q g u v : Int) (is xs ks : List Int) : Bool := shB p q g && (elemB p q u && elemB p q v) && trsB is && ((xs.length : Int) == is.length) && ((ks.length : Int) == is.length) && expsB q xs && expsB q ks
theorem okPo_use {p q g u v : Int} {is xs ks : List Int} (h : okPo p q g u v is xs ks = true) : is.length ≤ 7 := by
  simp only [okPo, Bool.and_eq_true] at h
  obtain ⟨h1, h2⟩ := trs_use h.1.1.1.1.2
  exact trs_len h1 h2
noncomputable def PPo (p q g u v : Int) (is xs ks : List Int) : List (Int × Int × List Int × List Int × List Int) := if okPo p q g u v is xs ks = true then ptL p q g u is xs ks is.length else []
theorem szn_le {t : Ty} {a b : Nat} (xs : List t.den) (h1 : xs.length ≤ a) (h2 : ∀ x ∈ xs, t.szn x ≤ b) : Ty.szn (.list t) xs ≤ a + a * b := by
  have h3 : (xs.map t.szn).sum ≤ xs.length * b := by
    clear h1
    induction xs with
    | nil => simp
    | cons x l ih =>
      have e1 := ih fun y hy => h2 y (by simp [hy])
      have e2 := h2 x (by simp)
      simp only [List.map_cons, List.sum_cons, List.length_cons, Nat.succ_mul]
      omega
  have h4 : xs.length * b ≤ a * b := Nat.mul_le_mul_right _ h1
  show xs.length + (xs.map t.szn).sum ≤ _
  omega
theorem PPo_le (p q g u v : Int) (is xs ks : List Int) : (PPo p q g u v is xs ks).length ≤ 7 := by
  unfold PPo; split
  · rename_i h
    rw [ptL_len]; exact okPo_use h
  · simp
theorem PPo_szn (p q g u v : Int) (is xs ks : List Int) : Ty.szn (.list (.pair .int (.pair .int (.pair (.list .int) (.pair (.list .int) (.list .int)))))) (PPo p q g u v is xs ks) ≤ 35 := by
  refine szn_le (t := (.pair .int (.pair .int (.pair (.list .int) (.pair (.list .int) (.list .int)))))) (a := 7) (b := 4) _ (PPo_le p q g u v is xs ks) fun x hx => ?_
  unfold PPo at hx
  split at hx
  · obtain ⟨j, _, rfl⟩ := List.mem_map.1 hx
    have h := prP_len p q g u (xs.getD j 0) (ks.getD j 0)
    rw [szn_pi, szn_pi, szn_pl, szn_pl, szn_int, szn_int, szn_int]
    simp only; omega
  · cases hx
noncomputable def c_PartialsOfI : Con0 := conF [(.pair .int (.pair .int .int)), (.pair .int .int), (.list .int), (.list .int), (.list .int)] fun (⟨⟨p, q, g⟩, ⟨u, v⟩, is, xs, ks, _⟩ : (Int × Int × Int) × (Int × Int) × (List Int) × (List Int) × (List Int) × Unit) => (is.length ≤ 9223372036854775806, .tup [.own 0 (PPo p q g u v is xs ks).length, .lit (.bool (okPo p q g u v is xs ks))], [.row 89 (.pair .int (.pair .int (.pair (.list .int) (.pair (.list .int) (.list .int))))) (PPo p q g u v is xs ks)])
noncomputable def G_PartialsOfI : List (FuncId × Con) := [(97, mk c_isSharing), (118, mk c_hasCipher), (127, mk c_areTrustees), (110, mk c_areExps), (120, mk c_partial_)]
theorem G_PartialsOfI_ok : ∀ f C, (f, C) ∈ G_PartialsOfI → C.ok Try.prog f := by
  intro f C h
  simp only [G_PartialsOfI, List.mem_cons, Prod.mk.injEq, List.not_mem_nil, or_false] at h
  rcases h with ⟨rfl, rfl⟩ | ⟨rfl, rfl⟩ | ⟨rfl, rfl⟩ | ⟨rfl, rfl⟩ | ⟨rfl, rfl⟩
  · exact ok_isSharing
  · exact ok_hasCipher
  · exact ok_areTrustees
  · exact ok_areExps
  · exact ok_partial_
set_option maxRecDepth 100000 in
set_option maxHeartbeats 4000000 in
theorem ok_PartialsOfI : (mk c_PartialsOfI).ok Try.prog 72 := okF (Θ := Th) (N := 80) (rs := [.tmp 10, .tmp 11]) Th_ok Try.func72 (by kernel_rfl) rfl Try.results72 (by decide) (by kernel_rfl) fun (⟨⟨p, q, g⟩, ⟨u, v⟩, is, xs, ks, _⟩ : (Int × Int × Int) × (Int × Int) × (List Int) × (List Int) × (List Int) × Unit) => ⟨rfl, rfl, Nat.le_of_ble_eq_true rfl, fun hc w0 => by
  have hL := dmy_eq
  try dsimp only at hc
  try dsimp only
  have hbl := hc
  refine AWp.body rfl ?_
  repeat' first
    | ((with_reducible refine hK _ _ ?_); clear hK K)
    | ((with_reducible refine hK _ _ (by kernel_rfl) ?_); clear hK K)
    | ((with_reducible refine AWp.pS Th_ok G_PartialsOfI_ok [0, 1, 2, 3, 4, 5, 6, 10, 11, 12, 13, 14, 54, 56, 57, 58, 59] (by decide) ?_); intro K hK)
    | ((with_reducible refine AWp.dS (by kernel_rfl) Th_ok G_PartialsOfI_ok [0, 1, 2, 3, 4, 5, 6, 10, 11, 12, 13, 14, 54, 56, 57, 58, 59] ?_); intro K hK)
    | ((with_reducible refine AWp.pE Th_ok G_PartialsOfI_ok [0, 1, 2, 3, 4, 5, 6, 10, 11, 12, 13, 14, 54, 56, 57, 58, 59] (by decide) ?_); intro K hK)
    | ((with_reducible refine AWp.dE (by kernel_rfl) Th_ok G_PartialsOfI_ok [0, 1, 2, 3, 4, 5, 6, 10, 11, 12, 13, 14, 54, 56, 57, 58, 59] ?_); intro K hK)
    | ((first | with_reducible refine runF_id ?_ | with_reducible refine stepF_id ?_); simp (maxSteps := 2000000) only [runF, stepF, forkOf, gdOf, List.toList_toArray, stepOp, look, opAV, pureOp, callOp, memOp, AS.ev, AS.get, AS.obj, initS, initFrom, AV.cells, AS.upd, Option.bind_some, Option.bind_none, Option.map_some, Option.map_none, Option.getD_none, Option.getD_some, ↓reduceIte, Nat.reduceEqDiff, Nat.reduceAdd, Nat.reduceMul, Nat.reduceSub, List.nil_append, List.append_nil, List.cons_append, List.map_cons, List.map_nil, true_and, and_true, AS.fin, pick, dedup, List.mem_cons, List.not_mem_nil, or_false, false_or, List.size_toArray, List.length_cons, List.length_nil, loadAV, List.drop_zero, List.drop_succ_cons, List.take_zero, List.take_succ_cons, List.getElem?_cons_zero, List.getElem?_cons_succ, List.head?_cons, List.mapM_cons, List.mapM_nil, Option.bind_eq_bind, Option.pure_def, deeps3, deep3, deep2, deep1, deeps, deeps2, mixInts, AV.plain, mk, mkD, DCon.lift, DCon.runC, ren3, ren2, ren1, numb, List.zipIdx_nil, List.zipIdx_cons, List.all_nil, List.all_cons, Nat.reduceLeDiff, List.range, List.range.loop, Ty.sz, beq_self_eq_true, Bool.and_self, and_self, Ty.ofC, AO.isDead, Nat.reduceLT, if_true, Nat.zero_add, Nat.add_zero, ite_true, Nat.le_refl, Bool.false_eq_true, reduceCtorEq, if_false, ite_false, binAV, AO.ren, AV.isCell, fillAV, List.set_cons_zero, List.set_cons_succ, Ty.cells, Ty.flat, Ty.dflt, List.getD_cons_zero, List.getD_cons_succ, Int.reduceToNat, Int.reduceSub, Int.reduceAdd, Int.reduceMul, Int.reduceNeg, forall_eq_or_imp, forall_eq, gdL, id_eq, Nat.lt_irrefl, srcOf, List.replicate_succ, List.replicate_zero, dite_true, List.isEmpty_cons, Option.isSome_some, List.length_append, List.length_singleton, bne_self_eq_false, Bool.not_true, Bool.not_false, conF, asArgs, asArg, asTy, asI1, asB1, asS1, asL1, canons, canon, Fork.true_, Fork.false_, bne, Bool.not_not, List.length_map, pickO, AS.over, TI.bl, bne_iff_ne, AS.over2, without, keys, List.mem_singleton, memOp2, memOp3, absorb, abInt, abBool, abStr, abList, gones, Int.toNat_natCast, List.take_length, subE, List.nodup_cons, List.nodup_nil, not_false_eq_true, Nat.sub_self, conR, asG, asI, asBo, asStr, asIs, asBs, asE4, asI2, asI3, asLL, asLLL, Th_int, Th_SSint, Th_Sbool, Th_Sint, Th_bool, Th_implCipher, Th_implGroup, Th_implKeyGen, Th_implProof, Th_implSDealing, Th_implSFault, Th_implSPartial, Th_lawsDealing, Th_lawsGroup, Th_lawsKeyGen, Th_lawsProof, Th_lawsSDealing, Th_lawsSFault, G_PartialsOfI, c_isSharing, c_hasCipher, c_areTrustees, c_areExps, c_partial_, egB_1, elemsB_2, Bool.true_and, Bool.and_false, hL])
    | ((with_reducible refine ens_step ?_ (fun hE => ?_)); · ((repeat' with_reducible apply And.intro) <;> first | with_reducible assumption | omega | exact True.intro | with_reducible rfl | (show ByteArray.size _ ≤ _; decide) | (simp; done) | (simp; omega) | rfl))
    | ((with_reducible refine And.intro ?_ ?_); · ((repeat' with_reducible apply And.intro) <;> first | with_reducible assumption | omega | exact True.intro | with_reducible rfl | (show ByteArray.size _ ≤ _; decide) | (simp; done) | (simp; omega) | rfl))
    | ((with_reducible refine Fork.intro (fun h' => ?_) (fun h' => ?_)) <;> (try simp only [Bool.not_eq_true', Bool.not_eq_false', bne] at h') <;> (replace hL := And.intro h' hL) <;> (try simp only [decide_eq_true_eq, decide_eq_false_iff_not, beq_iff_eq, beq_eq_false_iff_ne, ne_eq] at h') <;> (try (have hsh := shB_of h'; obtain ⟨hgd, hq7⟩ := hsh; have hG := M.goodB_of hgd; have hq2 := hG.q2; have hqp := hG.qp; have hp3 := hG.p3; have hpM := hG.pM; have hgb : 0 ≤ g ∧ g < p := ⟨by have := hG.g2; omega, hG.gp⟩)) <;> (try (have hu := cph_bd h')) <;> (try (have htr : trsB is = true := h'; have htu := trs_use htr; obtain ⟨ht1, ht2⟩ := htu; have hl7 := trs_len ht1 ht2)) <;> (try (have ht1 : allIn 1 7 is = true := h')) <;> (try (have ht2 : difB is = true := h'; have hl7 := trs_len ht1 ht2)) <;> (try (have hpg := tru_big (xs := is) h'; replace hL := And.intro hpg hL)) <;> (try (have hxs : ∀ x ∈ xs, 0 ≤ x ∧ x < q := expsB_all12' h')) <;> (try (have hks : ∀ x ∈ ks, 0 ≤ x ∧ x < q := expsB_all12' h')) <;> (try (have hxk := getD_bd' hxs (k := k) (by omega); have hkk := getD_bd' hks (k := k) (by omega); have hst := ptL_step (p := p) (q := q) (g := g) (u := u) (is := is) (xs := xs) (ks := ks) (k := k))) <;> (try (have hke : k = is.length := (by omega); subst hke)))
    | (with_reducible refine AWp.skipS ?_)
    | ((with_reducible refine AWp.condT rfl ?_))
    | ((with_reducible refine AWp.condF rfl ?_))
    | (with_reducible refine AWp.condB rfl ?_)
    | ((with_reducible refine AWp.ret_id ?_); refine AWp.sub (Sub.nilSlot 10 200010 89 (.pair .int (.pair .int (.pair (.list .int) (.pair (.list .int) (.list .int))))) rfl rfl) ?_)
    | (with_reducible refine AWp.ret ?_)
    | (with_reducible refine seqQ_n ?_)
    | (with_reducible refine seqQ_ret ?_)
    | (with_reducible refine blkQ_ret ?_)
    | (with_reducible refine blkQ_n ?_)
    | (with_reducible refine seqQ_exit ?_)
    | (with_reducible refine blkQ_exit ?_)
    | (with_reducible refine blkQ_other (by decide) ?_)
    | (with_reducible refine AWp.block ?_)
    | (with_reducible refine AWp.exit ?_)
    | (with_reducible refine AWp.skip ?_)
    | ((with_reducible refine loop_id ?_); refine AWp.loopAt 5 rfl ?_; refine AWp.loopO [12, 13, 14, 58, 59, 60, 61, 62, 63, 64, 65, 66, 67, 68, 69, 70, 71, 72, 73, 74, 75, 76, 77, 78] (fun k => [(58, .lit (.int .i64 (k : Nat))), (12, .own 352 k)]) (fun k => [(352, .row 89 (.pair .int (.pair .int (.pair (.list .int) (.pair (.list .int) (.list .int))))) (ptL p q g u is xs ks k))]) (fun k => k ≤ is.length) (fun k => is.length - k) 0 (by omega) (by refine Sub.auto (by first | exact frok0 | assumption) rfl rfl ?_ ?_ <;> (try simp only [subE, AS.over2, without, keys, look, List.cons_append, List.nil_append, List.append_nil, List.mem_cons, List.not_mem_nil, or_false, or_true, true_or, false_or, Nat.reduceEqDiff, ↓reduceIte, Option.some.injEq, AV.lit.injEq, Value.int.injEq, Value.bool.injEq, AV.own.injEq, AO.row.injEq, AO.box.injEq, List.cons.injEq, AV.agg.injEq, AV.sl.injEq, true_and, and_true, and_self, heq_eq_eq, List.length_nil, List.length_cons, List.map_nil, List.take_zero, Int.natCast_add, Int.cast_ofNat_Int, Int.natCast_zero, List.length_append, List.length_map, List.length_take, Nat.zero_add]) <;> ((repeat' apply And.intro) <;> first | rfl | (simp [ptL]; done))) (fun k hk_5 L5 hLoop5 => ?_); have hpk := ptL_len (p := p) (q := q) (g := g) (u := u) (is := is) (xs := xs) (ks := ks) (k := k))
    | ((with_reducible refine seqQ_f ?_); refine hLoop5 (k + 1) _ (by omega) (by omega) ?_; (refine Sub.auto (by first | exact frok0 | assumption) rfl rfl ?_ ?_ <;> (try simp only [subE, AS.over2, without, keys, look, List.cons_append, List.nil_append, List.append_nil, List.mem_cons, List.not_mem_nil, or_false, or_true, true_or, false_or, Nat.reduceEqDiff, ↓reduceIte, Option.some.injEq, AV.lit.injEq, Value.int.injEq, Value.bool.injEq, AV.own.injEq, AO.row.injEq, AO.box.injEq, List.cons.injEq, AV.agg.injEq, AV.sl.injEq, true_and, and_true, and_self, heq_eq_eq, List.length_nil, List.length_cons, List.map_nil, List.take_zero, Int.natCast_add, Int.cast_ofNat_Int, Int.natCast_zero, List.length_append, List.length_map, List.length_take, Nat.zero_add]) <;> ((repeat' apply And.intro) <;> first | rfl | omega | exact hst | (simp; done))))
    | ((with_reducible refine EndsAt_id ?_); (try subst_vars); (try simp only [PPo, okPo, ptL_len, hL, List.length_cons, List.length_nil, Nat.zero_add, Nat.reduceAdd, Bool.and_true, Bool.and_false, Bool.true_and, Bool.false_and, Bool.and_self, ↓reduceIte, Bool.false_eq_true, Bool.not_true, Bool.not_false, bne]); refine EndsAt.done [_] (by first | exact .inr rfl | exact .inl rfl) rfl rfl ?_ ?_ <;> first | decide | (repeat' (first | rfl | apply And.intro | trivial)))
    | (with_reducible refine AWp.seq ?_)⟩
noncomputable def c_PartialsOfS : Con0 := conF [(.pair .int (.pair .int .int)), (.pair .int .int), (.list .int), (.list .int), (.list .int)] fun (⟨⟨p, q, g⟩, ⟨u, v⟩, is, xs, ks, _⟩ : (Int × Int × Int) × (Int × Int) × (List Int) × (List Int) × (List Int) × Unit) => (is.length ≤ 9223372036854775806, .tup [.own 0 (PPo p q g u v is xs ks).length, .lit (.bool (okPo p q g u v is xs ks))], [.row 89 (.pair .int (.pair .int (.pair (.list .int) (.pair (.list .int) (.list .int))))) (PPo p q g u v is xs ks)])
noncomputable def G_PartialsOfS : List (FuncId × Con) := [(91, mk c_sGroup), (116, mk c_eGood), (125, mk c_l1All), (126, mk c_yPoints), (93, mk c_gExps), (117, mk c_tPartial)]
theorem G_PartialsOfS_ok : ∀ f C, (f, C) ∈ G_PartialsOfS → C.ok Try.prog f := by
  intro f C h
  simp only [G_PartialsOfS, List.mem_cons, Prod.mk.injEq, List.not_mem_nil, or_false] at h
  rcases h with ⟨rfl, rfl⟩ | ⟨rfl, rfl⟩ | ⟨rfl, rfl⟩ | ⟨rfl, rfl⟩ | ⟨rfl, rfl⟩ | ⟨rfl, rfl⟩
  · exact ok_sGroup
  · exact ok_eGood
  · exact ok_l1All
  · exact ok_yPoints
  · exact ok_gExps
  · exact ok_tPartial
set_option maxRecDepth 100000 in
set_option maxHeartbeats 4000000 in
theorem ok_PartialsOfS : (mk c_PartialsOfS).ok Try.prog 71 := okF (Θ := Th) (N := 90) (rs := [.tmp 10, .tmp 11]) Th_ok Try.func71 (by kernel_rfl) rfl Try.results71 (by decide) (by kernel_rfl) fun (⟨⟨p, q, g⟩, ⟨u, v⟩, is, xs, ks, _⟩ : (Int × Int × Int) × (Int × Int) × (List Int) × (List Int) × (List Int) × Unit) => ⟨rfl, rfl, Nat.le_of_ble_eq_true rfl, fun hc w0 => by
  have hL := dmy_eq
  try dsimp only at hc
  try dsimp only
  have hbl := hc
  refine AWp.body rfl ?_
  repeat' first
    | ((with_reducible refine hK _ _ ?_); clear hK K)
    | ((with_reducible refine hK _ _ (by kernel_rfl) ?_); clear hK K)
    | ((with_reducible refine AWp.pS Th_ok G_PartialsOfS_ok [0, 1, 2, 3, 4, 5, 6, 10, 11, 12, 13, 14, 15, 65, 66, 67, 68, 69] (by decide) ?_); intro K hK)
    | ((with_reducible refine AWp.dS (by kernel_rfl) Th_ok G_PartialsOfS_ok [0, 1, 2, 3, 4, 5, 6, 10, 11, 12, 13, 14, 15, 65, 66, 67, 68, 69] ?_); intro K hK)
    | ((with_reducible refine AWp.pE Th_ok G_PartialsOfS_ok [0, 1, 2, 3, 4, 5, 6, 10, 11, 12, 13, 14, 15, 65, 66, 67, 68, 69] (by decide) ?_); intro K hK)
    | ((with_reducible refine AWp.dE (by kernel_rfl) Th_ok G_PartialsOfS_ok [0, 1, 2, 3, 4, 5, 6, 10, 11, 12, 13, 14, 15, 65, 66, 67, 68, 69] ?_); intro K hK)
    | ((first | with_reducible refine runF_id ?_ | with_reducible refine stepF_id ?_); simp (maxSteps := 2000000) only [runF, stepF, forkOf, gdOf, List.toList_toArray, stepOp, look, opAV, pureOp, callOp, memOp, AS.ev, AS.get, AS.obj, initS, initFrom, AV.cells, AS.upd, Option.bind_some, Option.bind_none, Option.map_some, Option.map_none, Option.getD_none, Option.getD_some, ↓reduceIte, Nat.reduceEqDiff, Nat.reduceAdd, Nat.reduceMul, Nat.reduceSub, List.nil_append, List.append_nil, List.cons_append, List.map_cons, List.map_nil, true_and, and_true, AS.fin, pick, dedup, List.mem_cons, List.not_mem_nil, or_false, false_or, List.size_toArray, List.length_cons, List.length_nil, loadAV, List.drop_zero, List.drop_succ_cons, List.take_zero, List.take_succ_cons, List.getElem?_cons_zero, List.getElem?_cons_succ, List.head?_cons, List.mapM_cons, List.mapM_nil, Option.bind_eq_bind, Option.pure_def, deeps3, deep3, deep2, deep1, deeps, deeps2, mixInts, AV.plain, mk, mkD, DCon.lift, DCon.runC, ren3, ren2, ren1, numb, List.zipIdx_nil, List.zipIdx_cons, List.all_nil, List.all_cons, Nat.reduceLeDiff, List.range, List.range.loop, Ty.sz, beq_self_eq_true, Bool.and_self, and_self, Ty.ofC, AO.isDead, Nat.reduceLT, if_true, Nat.zero_add, Nat.add_zero, ite_true, Nat.le_refl, Bool.false_eq_true, reduceCtorEq, if_false, ite_false, binAV, AO.ren, AV.isCell, fillAV, List.set_cons_zero, List.set_cons_succ, Ty.cells, Ty.flat, Ty.dflt, List.getD_cons_zero, List.getD_cons_succ, Int.reduceToNat, Int.reduceSub, Int.reduceAdd, Int.reduceMul, Int.reduceNeg, forall_eq_or_imp, forall_eq, gdL, id_eq, Nat.lt_irrefl, srcOf, List.replicate_succ, List.replicate_zero, dite_true, List.isEmpty_cons, Option.isSome_some, List.length_append, List.length_singleton, bne_self_eq_false, Bool.not_true, Bool.not_false, conF, asArgs, asArg, asTy, asI1, asB1, asS1, asL1, canons, canon, Fork.true_, Fork.false_, bne, Bool.not_not, List.length_map, pickO, AS.over, TI.bl, bne_iff_ne, AS.over2, without, keys, List.mem_singleton, memOp2, memOp3, absorb, abInt, abBool, abStr, abList, gones, Int.toNat_natCast, List.take_length, subE, List.nodup_cons, List.nodup_nil, not_false_eq_true, Nat.sub_self, conR, asG, asI, asBo, asStr, asIs, asBs, asE4, asI2, asI3, asLL, asLLL, Th_int, Th_SSint, Th_Sint, Th_bool, Th_implCipher, Th_implDealing, Th_implGroup, Th_implKeyGen, Th_implPartial, Th_implProof, Th_implSCipher, Th_implSDealing, Th_implSFault, Th_implSPartial, Th_lawsCipher, Th_lawsDealing, Th_lawsGroup, Th_lawsKeyGen, Th_lawsProof, Th_lawsSDealing, Th_lawsSFault, G_PartialsOfS, c_sGroup, c_eGood, c_l1All, c_yPoints, c_gExps, c_tPartial, egB_1, elemsB_2, Bool.true_and, Bool.and_false, hL])
    | ((with_reducible refine ens_step ?_ (fun hE => ?_)); · ((repeat' with_reducible apply And.intro) <;> first | with_reducible assumption | omega | exact True.intro | with_reducible rfl | (show ByteArray.size _ ≤ _; decide) | (simp; done) | (simp; omega) | rfl))
    | ((with_reducible refine And.intro ?_ ?_); · ((repeat' with_reducible apply And.intro) <;> first | with_reducible assumption | omega | exact True.intro | with_reducible rfl | (show ByteArray.size _ ≤ _; decide) | (simp; done) | (simp; omega) | rfl))
    | ((with_reducible refine Fork.intro (fun h' => ?_) (fun h' => ?_)) <;> (try simp only [Bool.not_eq_true', Bool.not_eq_false', bne] at h') <;> (replace hL := And.intro h' hL) <;> (try simp only [decide_eq_true_eq, decide_eq_false_iff_not, beq_iff_eq, beq_eq_false_iff_ne, ne_eq] at h') <;> (try (have hsh := shB_of h'; obtain ⟨hgd, hq7⟩ := hsh; have hG := M.goodB_of hgd; have hq2 := hG.q2; have hqp := hG.qp; have hp3 := hG.p3; have hpM := hG.pM; have hgb : 0 ≤ g ∧ g < p := ⟨by have := hG.g2; omega, hG.gp⟩)) <;> (try (have hu := cph_bd h')) <;> (try (have htr : trsB is = true := h'; have htu := trs_use htr; obtain ⟨ht1, ht2⟩ := htu; have hl7 := trs_len ht1 ht2)) <;> (try (have ht1 : allIn 1 7 is = true := h')) <;> (try (have ht2 : difB is = true := h'; have hl7 := trs_len ht1 ht2)) <;> (try (have hpg := tru_big (xs := is) h'; replace hL := And.intro hpg hL)) <;> (try (have hxs : ∀ x ∈ xs, 0 ≤ x ∧ x < q := expsB_all12' h')) <;> (try (have hks : ∀ x ∈ ks, 0 ≤ x ∧ x < q := expsB_all12' h')) <;> (try (have hxk := getD_bd' hxs (k := k) (by omega); have hkk := getD_bd' hks (k := k) (by omega); have hst := ptL_step (p := p) (q := q) (g := g) (u := u) (is := is) (xs := xs) (ks := ks) (k := k))) <;> (try (have hke : k = is.length := (by omega); subst hke)))
    | (with_reducible refine AWp.skipS ?_)
    | ((with_reducible refine AWp.condT rfl ?_))
    | ((with_reducible refine AWp.condF rfl ?_))
    | (with_reducible refine AWp.condB rfl ?_)
    | ((with_reducible refine AWp.ret_id ?_); refine AWp.sub (Sub.nilSlot 10 200010 89 (.pair .int (.pair .int (.pair (.list .int) (.pair (.list .int) (.list .int))))) rfl rfl) ?_)
    | (with_reducible refine AWp.ret ?_)
    | (with_reducible refine seqQ_n ?_)
    | (with_reducible refine seqQ_ret ?_)
    | (with_reducible refine blkQ_ret ?_)
    | (with_reducible refine blkQ_n ?_)
    | (with_reducible refine seqQ_exit ?_)
    | (with_reducible refine blkQ_exit ?_)
    | (with_reducible refine blkQ_other (by decide) ?_)
    | (with_reducible refine AWp.block ?_)
    | (with_reducible refine AWp.exit ?_)
    | (with_reducible refine AWp.skip ?_)
    | ((with_reducible refine loop_id ?_); refine AWp.loopAt 6 rfl ?_; refine AWp.sub (Sub.nilSlot 13 300013 89 (.pair .int (.pair .int (.pair (.list .int) (.pair (.list .int) (.list .int))))) rfl rfl) ?_; refine AWp.loopO [13, 14, 15, 68, 69, 70, 71, 72, 73, 74, 75, 76, 77, 78, 79, 80, 81, 82, 83, 84, 85, 86, 87, 88] (fun k => [(68, .lit (.int .i64 (k : Nat))), (13, .own 300013 k)]) (fun k => [(300013, .row 89 (.pair .int (.pair .int (.pair (.list .int) (.pair (.list .int) (.list .int))))) (ptL p q g u is xs ks k))]) (fun k => k ≤ is.length) (fun k => is.length - k) 0 (by omega) (by refine Sub.auto (by first | exact frok0 | assumption) rfl rfl ?_ ?_ <;> (try simp only [subE, AS.over2, without, keys, look, List.cons_append, List.nil_append, List.append_nil, List.mem_cons, List.not_mem_nil, or_false, or_true, true_or, false_or, Nat.reduceEqDiff, ↓reduceIte, Option.some.injEq, AV.lit.injEq, Value.int.injEq, Value.bool.injEq, AV.own.injEq, AO.row.injEq, AO.box.injEq, List.cons.injEq, AV.agg.injEq, AV.sl.injEq, true_and, and_true, and_self, heq_eq_eq, List.length_nil, List.length_cons, List.map_nil, List.take_zero, Int.natCast_add, Int.cast_ofNat_Int, Int.natCast_zero, List.length_append, List.length_map, List.length_take, Nat.zero_add]) <;> ((repeat' apply And.intro) <;> first | rfl | (simp [ptL]; done))) (fun k hk_6 L6 hLoop6 => ?_); have hpk := ptL_len (p := p) (q := q) (g := g) (u := u) (is := is) (xs := xs) (ks := ks) (k := k))
    | ((with_reducible refine seqQ_f ?_); refine hLoop6 (k + 1) _ (by omega) (by omega) ?_; (refine Sub.auto (by first | exact frok0 | assumption) rfl rfl ?_ ?_ <;> (try simp only [subE, AS.over2, without, keys, look, List.cons_append, List.nil_append, List.append_nil, List.mem_cons, List.not_mem_nil, or_false, or_true, true_or, false_or, Nat.reduceEqDiff, ↓reduceIte, Option.some.injEq, AV.lit.injEq, Value.int.injEq, Value.bool.injEq, AV.own.injEq, AO.row.injEq, AO.box.injEq, List.cons.injEq, AV.agg.injEq, AV.sl.injEq, true_and, and_true, and_self, heq_eq_eq, List.length_nil, List.length_cons, List.map_nil, List.take_zero, Int.natCast_add, Int.cast_ofNat_Int, Int.natCast_zero, List.length_append, List.length_map, List.length_take, Nat.zero_add]) <;> ((repeat' apply And.intro) <;> first | rfl | omega | exact hst | (simp; done))))
    | ((with_reducible refine EndsAt_id ?_); (try subst_vars); (try simp only [PPo, okPo, ptL_len, trsB, hL, List.length_cons, List.length_nil, Nat.zero_add, Nat.reduceAdd, Bool.and_true, Bool.and_false, Bool.true_and, Bool.false_and, Bool.and_self, ↓reduceIte, Bool.false_eq_true, Bool.not_true, Bool.not_false, bne]); refine EndsAt.done [_] (by first | exact .inr rfl | exact .inl rfl) rfl rfl ?_ ?_ <;> first | decide | (repeat' (first | rfl | apply And.intro | trivial)))
    | (with_reducible refine AWp.seq ?_)⟩
end Go.Proofs.Ytlggpehioflbdaa
