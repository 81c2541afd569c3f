import Derived.Test.YtlggpehioflbdaaZD23
/- Complaints on both sides. -/
set_option linter.all false
set_option linter.unusedVariables false
set_option linter.unusedSimpArgs false
namespace Go.Proofs.Ytlggpehioflbdaa
open Go.RowKit
theorem kg_use {p q g : Int} {l : List (List Int × List Int)} (h : kgB p q g l = true) : shB p q g = true ∧ DsOK p q l ∧ (l.getD 0 ([], [])).2.length = l.length := by
  simp only [kgB, Bool.and_eq_true, beq_iff_eq] at h
  exact ⟨h.1.1, alk_use h.1.2, by omega⟩
theorem mapT_step {α β : Type} (f : α → β) (xs : List α) (d : α) {k : Nat} (hk : k < xs.length) : (xs.take k).map f ++ [f (xs.getD k d)] = (xs.take (k + 1)).map f := by
  rw [take_at d hk, List.map_append]; rfl
theorem mapT_len {α β : Type} {f : α → β} {xs : List α} {k : Nat} (hk : k ≤ xs.length) : ((xs.take k).map f).length = k := by
  rw [List.length_map, List.length_take]; omega
theorem badL_7 {p q g : Int} {cs ss : List Int} (h : ss.length ≤ 7) : (badL p q g cs ss).length ≤ 7 := Nat.le_trans (badL_le p q g cs ss) h
/-- the complaints of the first k dealings -/
noncomputable def cmpL (p q g : Int) (l : List (List Int × List Int)) (k : Nat) : List (List Int) := (l.take k).map fun d => badL p q g d.1 d.2
theorem cmpL_step {p q g : Int} {l : List (List Int × List Int)} {k : Nat} (hk : k < l.length) : cmpL p q g l k ++ [badL p q g (l.getD k ([], [])).1 (l.getD k ([], [])).2] = cmpL p q g l (k + 1) := mapT_step (fun d : List Int × List Int => badL p q g d.1 d.2) l ([], []) hk
theorem cmpL_len {p q g : Int} {l : List (List Int × List Int)} {k : Nat} (hk : k ≤ l.length) : (cmpL p q g l k).length = k := mapT_len hk
noncomputable def PCm (p q g : Int) (l : List (List Int × List Int)) : List (List Int) := if kgB p q g l = true then cmpL p q g l l.length else []
theorem szn_LL {a b : Nat} : ∀ (xss : List (List Int)), xss.length ≤ a → (∀ x ∈ xss, x.length ≤ b) → Ty.szn (.list (.list .int)) xss ≤ a + a * b := fun xss h1 h2 => by
  have h3 : (xss.map (Ty.szn (.list .int))).sum ≤ xss.length * b := by
    clear h1
    induction xss with
    | nil => simp
    | cons x l ih =>
      have e1 := ih fun y hy => h2 y (by simp [hy])
      have e2 := h2 x (by simp)
      have e3 := szn_int x
      simp only [List.map_cons, List.sum_cons, List.length_cons, Nat.succ_mul]
      omega
  have h4 : xss.length * b ≤ a * b := Nat.mul_le_mul_right _ h1
  show xss.length + (xss.map (Ty.szn (.list .int))).sum ≤ _
  omega
theorem PCm_le (p q g : Int) (l : List (List Int × List Int)) : (PCm p q g l).length ≤ 7 := by
  unfold PCm; split
  · rename_i h
    have := (kg_use h).2.1.len
    rw [cmpL_len (Nat.le_refl _)]; omega
  · simp
theorem PCm_szn (p q g : Int) (l : List (List Int × List Int)) : Ty.szn (.list (.list .int)) (PCm p q g l) ≤ 56 := by
  refine szn_LL (a := 7) (b := 7) _ (PCm_le p q g l) fun x hx => ?_
  unfold PCm at hx
  split at hx
  · rename_i h
    obtain ⟨_, hds, hdn⟩ := kg_use h
    obtain ⟨d, hd, rfl⟩ := List.mem_map.1 hx
    have hd := List.mem_of_mem_take hd
    have h1 := (dlB_use (hds.each d hd).1).2.2.1
    exact badL_7 h1.2
  · cases hx
noncomputable def c_ComplaintsInI : Con0 := conF [(.pair .int (.pair .int .int)), (.list (.pair (.list .int) (.list .int)))] fun (⟨⟨p, q, g⟩, l, _⟩ : (Int × Int × Int) × (List (List Int × List Int)) × Unit) => (l.length ≤ 9223372036854775806, .tup [.own 0 (PCm p q g l).length, .lit (.bool (kgB p q g l))], [.row 38 (.list .int) (PCm p q g l)])
noncomputable def G_ComplaintsInI : List (FuncId × Con) := [(84, mk c_IsKeyGenInputI), (85, mk c_bad)]
theorem G_ComplaintsInI_ok : ∀ f C, (f, C) ∈ G_ComplaintsInI → C.ok Try.prog f := by
  intro f C h
  simp only [G_ComplaintsInI, List.mem_cons, Prod.mk.injEq, List.not_mem_nil, or_false] at h
  rcases h with ⟨rfl, rfl⟩ | ⟨rfl, rfl⟩
  · exact ok_IsKeyGenInputI
  · exact ok_bad
set_option maxRecDepth 100000 in
set_option maxHeartbeats 4000000 in
theorem ok_ComplaintsInI : (mk c_ComplaintsInI).ok Try.prog 19 := okF (Θ := Th) (N := 28) (rs := [.tmp 4, .tmp 5]) Th_ok Try.func19 (by kernel_rfl) rfl Try.results19 (by decide) (by kernel_rfl) fun (⟨⟨p, q, g⟩, l, _⟩ : (Int × Int × Int) × (List (List Int × List Int)) × Unit) => ⟨rfl, rfl, Nat.le_of_ble_eq_true rfl, fun hc w0 => by
  have hL := dmy_eq
  try dsimp only at hc
  try dsimp only
  have hbl := hc
  refine AWp.body rfl ?_
  repeat' first
    | ((with_reducible refine hK _ _ ?_); clear hK K)
    | ((with_reducible refine hK _ _ (by kernel_rfl) ?_); clear hK K)
    | ((with_reducible refine AWp.pS Th_ok G_ComplaintsInI_ok [0, 1, 2, 4, 5, 6, 8, 12, 14, 15, 16, 17] (by decide) ?_); intro K hK)
    | ((with_reducible refine AWp.dS (by kernel_rfl) Th_ok G_ComplaintsInI_ok [0, 1, 2, 4, 5, 6, 8, 12, 14, 15, 16, 17] ?_); intro K hK)
    | ((with_reducible refine AWp.pE Th_ok G_ComplaintsInI_ok [0, 1, 2, 4, 5, 6, 8, 12, 14, 15, 16, 17] (by decide) ?_); intro K hK)
    | ((with_reducible refine AWp.dE (by kernel_rfl) Th_ok G_ComplaintsInI_ok [0, 1, 2, 4, 5, 6, 8, 12, 14, 15, 16, 17] ?_); intro K hK)
    | ((first | with_reducible refine runF_id ?_ | with_reducible refine stepF_id ?_); simp (maxSteps := 2000000) only [runF, stepF, forkOf, gdOf, List.toList_toArray, stepOp, look, opAV, pureOp, callOp, memOp, AS.ev, AS.get, AS.obj, initS, initFrom, AV.cells, AS.upd, Option.bind_some, Option.bind_none, Option.map_some, Option.map_none, Option.getD_none, Option.getD_some, ↓reduceIte, Nat.reduceEqDiff, Nat.reduceAdd, Nat.reduceMul, Nat.reduceSub, List.nil_append, List.append_nil, List.cons_append, List.map_cons, List.map_nil, true_and, and_true, AS.fin, pick, dedup, List.mem_cons, List.not_mem_nil, or_false, false_or, List.size_toArray, List.length_cons, List.length_nil, loadAV, List.drop_zero, List.drop_succ_cons, List.take_zero, List.take_succ_cons, List.getElem?_cons_zero, List.getElem?_cons_succ, List.head?_cons, List.mapM_cons, List.mapM_nil, Option.bind_eq_bind, Option.pure_def, deeps3, deep3, deep2, deep1, deeps, deeps2, mixInts, AV.plain, mk, mkD, DCon.lift, DCon.runC, ren3, ren2, ren1, numb, List.zipIdx_nil, List.zipIdx_cons, List.all_nil, List.all_cons, Nat.reduceLeDiff, List.range, List.range.loop, Ty.sz, beq_self_eq_true, Bool.and_self, and_self, Ty.ofC, AO.isDead, Nat.reduceLT, if_true, Nat.zero_add, Nat.add_zero, ite_true, Nat.le_refl, Bool.false_eq_true, reduceCtorEq, if_false, ite_false, binAV, AO.ren, AV.isCell, fillAV, List.set_cons_zero, List.set_cons_succ, Ty.cells, Ty.flat, Ty.dflt, List.getD_cons_zero, List.getD_cons_succ, Int.reduceToNat, Int.reduceSub, Int.reduceAdd, Int.reduceMul, Int.reduceNeg, forall_eq_or_imp, forall_eq, gdL, id_eq, Nat.lt_irrefl, srcOf, List.replicate_succ, List.replicate_zero, dite_true, List.isEmpty_cons, Option.isSome_some, List.length_append, List.length_singleton, bne_self_eq_false, Bool.not_true, Bool.not_false, conF, asArgs, asArg, asTy, asI1, asB1, asS1, asL1, canons, canon, Fork.true_, Fork.false_, bne, Bool.not_not, List.length_map, pickO, AS.over, TI.bl, bne_iff_ne, AS.over2, without, keys, List.mem_singleton, memOp2, memOp3, absorb, abInt, abBool, abStr, abList, gones, Int.toNat_natCast, List.take_length, subE, List.nodup_cons, List.nodup_nil, not_false_eq_true, Nat.sub_self, conR, asG, asI, asBo, asStr, asIs, asBs, asE4, asI2, asI3, asLL, asLLL, Th_int, Th_SSint, Th_bool, Th_implDealing, Th_implGroup, Th_implSDealing, Th_lawsGroup, Th_lawsSDealing, Th_string, G_ComplaintsInI, c_IsKeyGenInputI, c_bad, hL])
    | ((with_reducible refine ens_step ?_ (fun hE => ?_)); · ((repeat' with_reducible apply And.intro) <;> first | with_reducible assumption | omega | exact True.intro | with_reducible rfl | (show ByteArray.size _ ≤ _; decide) | (simp; done) | (simp; omega) | rfl))
    | ((with_reducible refine And.intro ?_ ?_); · ((repeat' with_reducible apply And.intro) <;> first | with_reducible assumption | omega | exact True.intro | with_reducible rfl | (show ByteArray.size _ ≤ _; decide) | (simp; done) | (simp; omega) | rfl))
    | ((with_reducible refine Fork.intro (fun h' => ?_) (fun h' => ?_)) <;> (try simp only [Bool.not_eq_true', Bool.not_eq_false', bne] at h') <;> (replace hL := And.intro h' hL) <;> (try simp only [decide_eq_true_eq, decide_eq_false_iff_not, beq_iff_eq, beq_eq_false_iff_ne, ne_eq] at h') <;> (try (have hkg := kg_use h'; obtain ⟨hsB, hds, hdn⟩ := hkg; have hsh := shB_of hsB; obtain ⟨hgd, hq7⟩ := hsh; have hG := M.goodB_of hgd; have hq2 := hG.q2; have hqp := hG.qp; have hp3 := hG.p3; have hpM := hG.pM; have hdm := hds.dim; have hdl := hds.len)) <;> (try (have hdk := hds.at (k := k) (by omega); obtain ⟨hk3, hk4, hk5, hk6⟩ := hdk; have hcs := cmpL_step (p := p) (q := q) (g := g) (l := l) (k := k) (by omega))) <;> (try (have hke : k = l.length := (by omega); subst hke)))
    | (with_reducible refine AWp.skipS ?_)
    | ((with_reducible refine AWp.condT rfl ?_))
    | ((with_reducible refine AWp.condF rfl ?_))
    | (with_reducible refine AWp.condB rfl ?_)
    | ((with_reducible refine AWp.ret_id ?_); refine AWp.sub (Sub.nilSlot 4 200004 38 (.list .int) rfl rfl) ?_)
    | (with_reducible refine AWp.ret ?_)
    | (with_reducible refine seqQ_n ?_)
    | (with_reducible refine seqQ_ret ?_)
    | (with_reducible refine blkQ_ret ?_)
    | (with_reducible refine blkQ_n ?_)
    | (with_reducible refine seqQ_exit ?_)
    | (with_reducible refine blkQ_exit ?_)
    | (with_reducible refine blkQ_other (by decide) ?_)
    | (with_reducible refine AWp.block ?_)
    | (with_reducible refine AWp.exit ?_)
    | (with_reducible refine AWp.skip ?_)
    | ((with_reducible refine loop_id ?_); refine AWp.loopAt 5 rfl ?_; refine AWp.loopO [6, 8, 16, 17, 18, 19, 20, 21, 22, 23, 24, 25, 26] (fun k => [(16, .lit (.int .i64 (k : Nat))), (6, .own 56 k)]) (fun k => [(56, .row 38 (.list .int) (cmpL p q g l k))]) (fun k => k ≤ l.length) (fun k => l.length - k) 0 (by omega) (by refine Sub.auto (by first | exact frok0 | assumption) rfl rfl ?_ ?_ <;> (try simp only [subE, AS.over2, without, keys, look, List.cons_append, List.nil_append, List.append_nil, List.mem_cons, List.not_mem_nil, or_false, or_true, true_or, false_or, Nat.reduceEqDiff, ↓reduceIte, Option.some.injEq, AV.lit.injEq, Value.int.injEq, Value.bool.injEq, AV.own.injEq, AO.row.injEq, AO.box.injEq, List.cons.injEq, AV.agg.injEq, AV.sl.injEq, true_and, and_true, and_self, heq_eq_eq, List.length_nil, List.length_cons, List.map_nil, List.take_zero, Int.natCast_add, Int.cast_ofNat_Int, Int.natCast_zero, List.length_append, List.length_map, List.length_take, Nat.zero_add]) <;> ((repeat' apply And.intro) <;> first | rfl | (simp [cmpL]; done))) (fun k hk_5 L5 hLoop5 => ?_); have hcl := cmpL_len (p := p) (q := q) (g := g) (l := l) (k := k) (by omega))
    | ((with_reducible refine seqQ_f ?_); refine hLoop5 (k + 1) _ (by omega) (by omega) ?_; (refine Sub.auto (by first | exact frok0 | assumption) rfl rfl ?_ ?_ <;> (try simp only [subE, AS.over2, without, keys, look, List.cons_append, List.nil_append, List.append_nil, List.mem_cons, List.not_mem_nil, or_false, or_true, true_or, false_or, Nat.reduceEqDiff, ↓reduceIte, Option.some.injEq, AV.lit.injEq, Value.int.injEq, Value.bool.injEq, AV.own.injEq, AO.row.injEq, AO.box.injEq, List.cons.injEq, AV.agg.injEq, AV.sl.injEq, true_and, and_true, and_self, heq_eq_eq, List.length_nil, List.length_cons, List.map_nil, List.take_zero, Int.natCast_add, Int.cast_ofNat_Int, Int.natCast_zero, List.length_append, List.length_map, List.length_take, Nat.zero_add]) <;> ((repeat' apply And.intro) <;> first | rfl | omega | exact hcs | (simp; done))))
    | ((with_reducible refine EndsAt_id ?_); (try subst_vars); (try simp only [PCm, cmpL_len (Nat.le_refl _), hL, List.length_cons, List.length_nil, Nat.zero_add, Nat.reduceAdd, Bool.and_true, Bool.and_false, Bool.true_and, Bool.false_and, Bool.and_self, ↓reduceIte, Bool.false_eq_true, Bool.not_true, Bool.not_false, bne]); refine EndsAt.done [_] (by first | exact .inr rfl | exact .inl rfl) rfl rfl ?_ ?_ <;> first | decide | (repeat' (first | rfl | apply And.intro | trivial)))
    | (with_reducible refine AWp.seq ?_)⟩
noncomputable def c_ComplaintsInS : Con0 := conF [(.pair .int (.pair .int .int)), (.list (.pair (.list .int) (.list .int)))] fun (⟨⟨p, q, g⟩, l, _⟩ : (Int × Int × Int) × (List (List Int × List Int)) × Unit) => (l.length ≤ 9223372036854775806, .tup [.own 0 (PCm p q g l).length, .lit (.bool (kgB p q g l))], [.row 38 (.list .int) (PCm p q g l)])
noncomputable def G_ComplaintsInS : List (FuncId × Con) := [(82, mk c_kgInput), (83, mk c_sBad)]
theorem G_ComplaintsInS_ok : ∀ f C, (f, C) ∈ G_ComplaintsInS → C.ok Try.prog f := by
  intro f C h
  simp only [G_ComplaintsInS, List.mem_cons, Prod.mk.injEq, List.not_mem_nil, or_false] at h
  rcases h with ⟨rfl, rfl⟩ | ⟨rfl, rfl⟩
  · exact ok_kgInput
  · exact ok_sBad
set_option maxRecDepth 100000 in
set_option maxHeartbeats 4000000 in
theorem ok_ComplaintsInS : (mk c_ComplaintsInS).ok Try.prog 16 := okF (Θ := Th) (N := 27) (rs := [.tmp 4, .tmp 5]) Th_ok Try.func16 (by kernel_rfl) rfl Try.results16 (by decide) (by kernel_rfl) fun (⟨⟨p, q, g⟩, l, _⟩ : (Int × Int × Int) × (List (List Int × List Int)) × Unit) => ⟨rfl, rfl, Nat.le_of_ble_eq_true rfl, fun hc w0 => by
  have hL := dmy_eq
  try dsimp only at hc
  try dsimp only
  have hbl := hc
  refine AWp.body rfl ?_
  repeat' first
    | ((with_reducible refine hK _ _ ?_); clear hK K)
    | ((with_reducible refine hK _ _ (by kernel_rfl) ?_); clear hK K)
    | ((with_reducible refine AWp.pS Th_ok G_ComplaintsInS_ok [0, 1, 2, 4, 5, 6, 8, 12, 13, 14, 15, 16] (by decide) ?_); intro K hK)
    | ((with_reducible refine AWp.dS (by kernel_rfl) Th_ok G_ComplaintsInS_ok [0, 1, 2, 4, 5, 6, 8, 12, 13, 14, 15, 16] ?_); intro K hK)
    | ((with_reducible refine AWp.pE Th_ok G_ComplaintsInS_ok [0, 1, 2, 4, 5, 6, 8, 12, 13, 14, 15, 16] (by decide) ?_); intro K hK)
    | ((with_reducible refine AWp.dE (by kernel_rfl) Th_ok G_ComplaintsInS_ok [0, 1, 2, 4, 5, 6, 8, 12, 13, 14, 15, 16] ?_); intro K hK)
    | ((first | with_reducible refine runF_id ?_ | with_reducible refine stepF_id ?_); simp (maxSteps := 2000000) only [runF, stepF, forkOf, gdOf, List.toList_toArray, stepOp, look, opAV, pureOp, callOp, memOp, AS.ev, AS.get, AS.obj, initS, initFrom, AV.cells, AS.upd, Option.bind_some, Option.bind_none, Option.map_some, Option.map_none, Option.getD_none, Option.getD_some, ↓reduceIte, Nat.reduceEqDiff, Nat.reduceAdd, Nat.reduceMul, Nat.reduceSub, List.nil_append, List.append_nil, List.cons_append, List.map_cons, List.map_nil, true_and, and_true, AS.fin, pick, dedup, List.mem_cons, List.not_mem_nil, or_false, false_or, List.size_toArray, List.length_cons, List.length_nil, loadAV, List.drop_zero, List.drop_succ_cons, List.take_zero, List.take_succ_cons, List.getElem?_cons_zero, List.getElem?_cons_succ, List.head?_cons, List.mapM_cons, List.mapM_nil, Option.bind_eq_bind, Option.pure_def, deeps3, deep3, deep2, deep1, deeps, deeps2, mixInts, AV.plain, mk, mkD, DCon.lift, DCon.runC, ren3, ren2, ren1, numb, List.zipIdx_nil, List.zipIdx_cons, List.all_nil, List.all_cons, Nat.reduceLeDiff, List.range, List.range.loop, Ty.sz, beq_self_eq_true, Bool.and_self, and_self, Ty.ofC, AO.isDead, Nat.reduceLT, if_true, Nat.zero_add, Nat.add_zero, ite_true, Nat.le_refl, Bool.false_eq_true, reduceCtorEq, if_false, ite_false, binAV, AO.ren, AV.isCell, fillAV, List.set_cons_zero, List.set_cons_succ, Ty.cells, Ty.flat, Ty.dflt, List.getD_cons_zero, List.getD_cons_succ, Int.reduceToNat, Int.reduceSub, Int.reduceAdd, Int.reduceMul, Int.reduceNeg, forall_eq_or_imp, forall_eq, gdL, id_eq, Nat.lt_irrefl, srcOf, List.replicate_succ, List.replicate_zero, dite_true, List.isEmpty_cons, Option.isSome_some, List.length_append, List.length_singleton, bne_self_eq_false, Bool.not_true, Bool.not_false, conF, asArgs, asArg, asTy, asI1, asB1, asS1, asL1, canons, canon, Fork.true_, Fork.false_, bne, Bool.not_not, List.length_map, pickO, AS.over, TI.bl, bne_iff_ne, AS.over2, without, keys, List.mem_singleton, memOp2, memOp3, absorb, abInt, abBool, abStr, abList, gones, Int.toNat_natCast, List.take_length, subE, List.nodup_cons, List.nodup_nil, not_false_eq_true, Nat.sub_self, conR, asG, asI, asBo, asStr, asIs, asBs, asE4, asI2, asI3, asLL, asLLL, Th_int, Th_SSint, Th_bool, Th_implDealing, Th_implGroup, Th_implSDealing, Th_lawsGroup, Th_lawsSDealing, Th_string, G_ComplaintsInS, c_kgInput, c_sBad, hL])
    | ((with_reducible refine ens_step ?_ (fun hE => ?_)); · ((repeat' with_reducible apply And.intro) <;> first | with_reducible assumption | omega | exact True.intro | with_reducible rfl | (show ByteArray.size _ ≤ _; decide) | (simp; done) | (simp; omega) | rfl))
    | ((with_reducible refine And.intro ?_ ?_); · ((repeat' with_reducible apply And.intro) <;> first | with_reducible assumption | omega | exact True.intro | with_reducible rfl | (show ByteArray.size _ ≤ _; decide) | (simp; done) | (simp; omega) | rfl))
    | ((with_reducible refine Fork.intro (fun h' => ?_) (fun h' => ?_)) <;> (try simp only [Bool.not_eq_true', Bool.not_eq_false', bne] at h') <;> (replace hL := And.intro h' hL) <;> (try simp only [decide_eq_true_eq, decide_eq_false_iff_not, beq_iff_eq, beq_eq_false_iff_ne, ne_eq] at h') <;> (try (have hkg := kg_use h'; obtain ⟨hsB, hds, hdn⟩ := hkg; have hsh := shB_of hsB; obtain ⟨hgd, hq7⟩ := hsh; have hG := M.goodB_of hgd; have hq2 := hG.q2; have hqp := hG.qp; have hp3 := hG.p3; have hpM := hG.pM; have hdm := hds.dim; have hdl := hds.len)) <;> (try (have hdk := hds.at (k := k) (by omega); obtain ⟨hk3, hk4, hk5, hk6⟩ := hdk; have hcs := cmpL_step (p := p) (q := q) (g := g) (l := l) (k := k) (by omega))) <;> (try (have hke : k = l.length := (by omega); subst hke)))
    | (with_reducible refine AWp.skipS ?_)
    | ((with_reducible refine AWp.condT rfl ?_))
    | ((with_reducible refine AWp.condF rfl ?_))
    | (with_reducible refine AWp.condB rfl ?_)
    | ((with_reducible refine AWp.ret_id ?_); refine AWp.sub (Sub.nilSlot 4 200004 38 (.list .int) rfl rfl) ?_)
    | (with_reducible refine AWp.ret ?_)
    | (with_reducible refine seqQ_n ?_)
    | (with_reducible refine seqQ_ret ?_)
    | (with_reducible refine blkQ_ret ?_)
    | (with_reducible refine blkQ_n ?_)
    | (with_reducible refine seqQ_exit ?_)
    | (with_reducible refine blkQ_exit ?_)
    | (with_reducible refine blkQ_other (by decide) ?_)
    | (with_reducible refine AWp.block ?_)
    | (with_reducible refine AWp.exit ?_)
    | (with_reducible refine AWp.skip ?_)
    | ((with_reducible refine loop_id ?_); refine AWp.loopAt 5 rfl ?_; refine AWp.sub (Sub.nilSlot 6 300006 38 (.list .int) rfl rfl) ?_; refine AWp.loopO [6, 8, 15, 16, 17, 18, 19, 20, 21, 22, 23, 24, 25] (fun k => [(15, .lit (.int .i64 (k : Nat))), (6, .own 300006 k)]) (fun k => [(300006, .row 38 (.list .int) (cmpL p q g l k))]) (fun k => k ≤ l.length) (fun k => l.length - k) 0 (by omega) (by refine Sub.auto (by first | exact frok0 | assumption) rfl rfl ?_ ?_ <;> (try simp only [subE, AS.over2, without, keys, look, List.cons_append, List.nil_append, List.append_nil, List.mem_cons, List.not_mem_nil, or_false, or_true, true_or, false_or, Nat.reduceEqDiff, ↓reduceIte, Option.some.injEq, AV.lit.injEq, Value.int.injEq, Value.bool.injEq, AV.own.injEq, AO.row.injEq, AO.box.injEq, List.cons.injEq, AV.agg.injEq, AV.sl.injEq, true_and, and_true, and_self, heq_eq_eq, List.length_nil, List.length_cons, List.map_nil, List.take_zero, Int.natCast_add, Int.cast_ofNat_Int, Int.natCast_zero, List.length_append, List.length_map, List.length_take, Nat.zero_add]) <;> ((repeat' apply And.intro) <;> first | rfl | (simp [cmpL]; done))) (fun k hk_5 L5 hLoop5 => ?_); have hcl := cmpL_len (p := p) (q := q) (g := g) (l := l) (k := k) (by omega))
    | ((with_reducible refine seqQ_f ?_); refine hLoop5 (k + 1) _ (by omega) (by omega) ?_; (refine Sub.auto (by first | exact frok0 | assumption) rfl rfl ?_ ?_ <;> (try simp only [subE, AS.over2, without, keys, look, List.cons_append, List.nil_append, List.append_nil, List.mem_cons, List.not_mem_nil, or_false, or_true, true_or, false_or, Nat.reduceEqDiff, ↓reduceIte, Option.some.injEq, AV.lit.injEq, Value.int.injEq, Value.bool.injEq, AV.own.injEq, AO.row.injEq, AO.box.injEq, List.cons.injEq, AV.agg.injEq, AV.sl.injEq, true_and, and_true, and_self, heq_eq_eq, List.length_nil, List.length_cons, List.map_nil, List.take_zero, Int.natCast_add, Int.cast_ofNat_Int, Int.natCast_zero, List.length_append, List.length_map, List.length_take, Nat.zero_add]) <;> ((repeat' apply And.intro) <;> first | rfl | omega | exact hcs | (simp; done))))
    | ((with_reducible refine EndsAt_id ?_); (try subst_vars); (try simp only [PCm, cmpL_len (Nat.le_refl _), hL, List.length_cons, List.length_nil, Nat.zero_add, Nat.reduceAdd, Bool.and_true, Bool.and_false, Bool.true_and, Bool.false_and, Bool.and_self, ↓reduceIte, Bool.false_eq_true, Bool.not_true, Bool.not_false, bne]); refine EndsAt.done [_] (by first | exact .inr rfl | exact .inl rfl) rfl rfl ?_ ?_ <;> first | decide | (repeat' (first | rfl | apply And.intro | trivial)))
    | (with_reducible refine AWp.seq ?_)⟩
end Go.Proofs.Ytlggpehioflbdaa
