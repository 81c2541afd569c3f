import Derived.Test.YtlggpehioflbdaaZD6
/- Proofs of linear statements. -/
set_option linter.all false
set_option linter.unusedVariables false
set_option linter.unusedSimpArgs false
namespace Go.Proofs.Ytlggpehioflbdaa
open Go.RowKit
noncomputable def linResp (q e : Int) (es ks : List Int) : List Int := List.zipWith (fun k x => (k + e * x) % q) ks es
theorem linResp_step {q e : Int} {es ks : List Int} {k : Nat} (h1 : k < es.length) (h2 : k < ks.length) : (linResp q e es ks).take k ++ [(ks.getD k 0 + e * es.getD k 0) % q] = (linResp q e es ks).take (k + 1) := by
  have hl : k < (linResp q e es ks).length := by simp only [linResp, List.length_zipWith]; omega
  rw [List.take_succ_eq_append_getElem hl]
  simp [linResp, List.getD_eq_getElem?_getD, List.getElem?_eq_getElem h1, List.getElem?_eq_getElem h2]
theorem linResp_len {q e : Int} {es ks : List Int} (h : ks.length = es.length) : (linResp q e es ks).length = es.length := by
  simp only [linResp, List.length_zipWith]; omega
theorem linResp_all {q e : Int} {es ks : List Int} {k : Nat} (h : ks.length = es.length) (hk : k = es.length) : (linResp q e es ks).take k = linResp q e es ks := List.take_of_length_le (by rw [linResp_len h]; omega)
noncomputable def prLin (p q g : Int) (s : ByteArray) (rows : List (List Int)) (es ks : List Int) : List Int × List Int × List Int :=
  (imgs p q rows ks, [M.chal p q g s.data.toList (rows.flatten ++ (imgs p q rows es ++ imgs p q rows ks))], linResp q (M.chal p q g s.data.toList (rows.flatten ++ (imgs p q rows es ++ imgs p q rows ks))) es ks)
noncomputable def c_proveLinear : Con0 := conF [(.pair .int (.pair .int .int)), .str, (.list (.list .int)), (.list .int), (.list .int)] fun (⟨⟨p, q, g⟩, s, rows, es, ks, _⟩ : (Int × Int × Int) × ByteArray × (List (List Int)) × (List Int) × (List Int) × Unit) => (M.Grp p q g ∧ s.size ≤ 40 ∧ RowsOK p rows ∧ es.length = (rows.getD 0 []).length ∧ ks.length = es.length ∧ (∀ e ∈ es, 0 ≤ e ∧ e < q) ∧ ∀ e ∈ ks, 0 ≤ e ∧ e < q, .tup [.agg [.own 0 (imgs p q rows ks).length, .own 1 1, .own 2 (linResp q (M.chal p q g s.data.toList (rows.flatten ++ (imgs p q rows es ++ imgs p q rows ks))) es ks).length], .lit (.bool true)], [.row 3 .int (imgs p q rows ks), .row 3 .int [(M.chal p q g s.data.toList (rows.flatten ++ (imgs p q rows es ++ imgs p q rows ks)))], .row 3 .int (linResp q (M.chal p q g s.data.toList (rows.flatten ++ (imgs p q rows es ++ imgs p q rows ks))) es ks)])
noncomputable def G_proveLinear : List (FuncId × Con) := [(201, mk c_images), (203, mk c_Concat), (202, mk c_challenge), (100, mk c_exp)]
theorem G_proveLinear_ok : ∀ f C, (f, C) ∈ G_proveLinear → C.ok Try.prog f := by
  intro f C h
  simp only [G_proveLinear, List.mem_cons, Prod.mk.injEq, List.not_mem_nil, or_false] at h
  rcases h with ⟨rfl, rfl⟩ | ⟨rfl, rfl⟩ | ⟨rfl, rfl⟩ | ⟨rfl, rfl⟩
  · exact ok_images
  · exact ok_Concat
  · exact ok_challenge
  · exact ok_exp
set_option maxRecDepth 100000 in
set_option maxHeartbeats 4000000 in
theorem ok_proveLinear : (mk c_proveLinear).ok Try.prog 166 := okF (Θ := Th) (N := 68) (rs := [.cell 10 67, .tmp 11]) Th_ok Try.func166 (by kernel_rfl) rfl Try.results166 (by decide) (by kernel_rfl) fun (⟨⟨p, q, g⟩, s, rows, es, ks, _⟩ : (Int × Int × Int) × ByteArray × (List (List Int)) × (List Int) × (List Int) × Unit) => ⟨rfl, rfl, Nat.le_of_ble_eq_true rfl, fun hc w0 => by
  have hL := dmy_eq
  try dsimp only at hc
  try dsimp only
  obtain ⟨hG, hs, hR, hel, hkl, hes, hks⟩ := hc
  have hq2 := hG.q2
  have hqp := hG.qp
  have hp3 := hG.p3
  have hpM := hG.pM
  have hgb : 0 ≤ g ∧ g < p := ⟨by have := hG.g2; omega, hG.gp⟩
  have hrl := hR.len
  have hrw := hR.wid
  obtain ⟨hf1, hf2, hf3⟩ := hR.flat
  have hch := chal_bd (p := p) (q := q) (g := g) (by omega) s.data.toList (rows.flatten ++ (imgs p q rows es ++ imgs p q rows ks))
  have hallE : ∀ row ∈ rows, row.length ≤ es.length ∧ ∀ x ∈ row, 0 ≤ x ∧ x < p := fun row hr => ⟨by have := hR.each row hr; omega, hR.bd row hr⟩
  have hallK : ∀ row ∈ rows, row.length ≤ ks.length ∧ ∀ x ∈ row, 0 ≤ x ∧ x < p := fun row hr => ⟨by have := hR.each row hr; omega, hR.bd row hr⟩
  have hrn := linResp_len (q := q) (e := (M.chal p q g s.data.toList (rows.flatten ++ (imgs p q rows es ++ imgs p q rows ks)))) hkl
  have hmem := lin_mem hpM hf3 (imgs_bd (q := q) hp3 rows es) (imgs_bd (q := q) hp3 rows ks)
  refine AWp.body rfl ?_
  repeat' first
    | ((with_reducible refine hK _ _ ?_); clear hK K)
    | ((with_reducible refine hK _ _ (by kernel_rfl) ?_); clear hK K)
    | ((with_reducible refine AWp.pS Th_ok G_proveLinear_ok [0, 1, 2, 3, 4, 5, 10, 11, 12, 13, 14, 15, 16, 39, 44, 45, 46, 47] (by decide) ?_); intro K hK)
    | ((with_reducible refine AWp.dS (by kernel_rfl) Th_ok G_proveLinear_ok [0, 1, 2, 3, 4, 5, 10, 11, 12, 13, 14, 15, 16, 39, 44, 45, 46, 47] ?_); intro K hK)
    | ((with_reducible refine AWp.pE Th_ok G_proveLinear_ok [0, 1, 2, 3, 4, 5, 10, 11, 12, 13, 14, 15, 16, 39, 44, 45, 46, 47] (by decide) ?_); intro K hK)
    | ((with_reducible refine AWp.dE (by kernel_rfl) Th_ok G_proveLinear_ok [0, 1, 2, 3, 4, 5, 10, 11, 12, 13, 14, 15, 16, 39, 44, 45, 46, 47] ?_); intro K hK)
    | ((first | with_reducible refine runF_id ?_ | with_reducible refine stepF_id ?_); simp (maxSteps := 2000000) only [runF, stepF, forkOf, gdOf, List.toList_toArray, stepOp, look, opAV, pureOp, callOp, memOp, AS.ev, AS.get, AS.obj, initS, initFrom, AV.cells, AS.upd, Option.bind_some, Option.bind_none, Option.map_some, Option.map_none, Option.getD_none, Option.getD_some, ↓reduceIte, Nat.reduceEqDiff, Nat.reduceAdd, Nat.reduceMul, Nat.reduceSub, List.nil_append, List.append_nil, List.cons_append, List.map_cons, List.map_nil, true_and, and_true, AS.fin, pick, dedup, List.mem_cons, List.not_mem_nil, or_false, false_or, List.size_toArray, List.length_cons, List.length_nil, loadAV, List.drop_zero, List.drop_succ_cons, List.take_zero, List.take_succ_cons, List.getElem?_cons_zero, List.getElem?_cons_succ, List.head?_cons, List.mapM_cons, List.mapM_nil, Option.bind_eq_bind, Option.pure_def, deeps3, deep3, deep2, deep1, deeps, deeps2, mixInts, AV.plain, mk, mkD, DCon.lift, DCon.runC, ren3, ren2, ren1, numb, List.zipIdx_nil, List.zipIdx_cons, List.all_nil, List.all_cons, Nat.reduceLeDiff, List.range, List.range.loop, Ty.sz, beq_self_eq_true, Bool.and_self, and_self, Ty.ofC, AO.isDead, Nat.reduceLT, if_true, Nat.zero_add, Nat.add_zero, ite_true, Nat.le_refl, Bool.false_eq_true, reduceCtorEq, if_false, ite_false, binAV, AO.ren, AV.isCell, fillAV, List.set_cons_zero, List.set_cons_succ, Ty.cells, Ty.flat, Ty.dflt, List.getD_cons_zero, List.getD_cons_succ, Int.reduceToNat, Int.reduceSub, Int.reduceAdd, Int.reduceMul, Int.reduceNeg, forall_eq_or_imp, forall_eq, gdL, id_eq, Nat.lt_irrefl, srcOf, List.replicate_succ, List.replicate_zero, dite_true, List.isEmpty_cons, Option.isSome_some, List.length_append, List.length_singleton, bne_self_eq_false, Bool.not_true, Bool.not_false, conF, asArgs, asArg, asTy, asI1, asB1, asS1, asL1, canons, canon, Fork.true_, Fork.false_, bne, Bool.not_not, List.length_map, pickO, AS.over, TI.bl, bne_iff_ne, AS.over2, without, keys, List.mem_singleton, memOp2, memOp3, absorb, abInt, abBool, abStr, abList, gones, Int.toNat_natCast, List.take_length, subE, List.nodup_cons, List.nodup_nil, not_false_eq_true, Nat.sub_self, conR, asG, asI, asBo, asStr, asIs, asBs, asE4, asI2, asI3, asLL, asLLL, Th_int, Th_bool, Th_string, Th_Sint, Th_SSint, Th_implGroup, Th_implProof, G_proveLinear, c_images, c_Concat, c_challenge, c_exp, List.append_assoc, List.flatten_cons, List.flatten_nil, List.append_nil, imgs_len, hL])
    | ((with_reducible refine ens_step ?_ (fun hE => ?_)); · ((repeat' with_reducible apply And.intro) <;> first | with_reducible assumption | omega | exact True.intro | with_reducible rfl | (show ByteArray.size _ ≤ _; decide) | (simp; done) | (simp; omega) | rfl))
    | ((with_reducible refine And.intro ?_ ?_); · ((repeat' with_reducible apply And.intro) <;> first | with_reducible assumption | omega | exact True.intro | with_reducible rfl | (show ByteArray.size _ ≤ _; decide) | (simp; done) | (simp; omega) | rfl))
    | ((with_reducible refine Fork.intro (fun h' => ?_) (fun h' => ?_)) <;> (try simp only [Bool.not_eq_true', Bool.not_eq_false', bne] at h') <;> (replace hL := And.intro h' hL) <;> (try simp only [decide_eq_true_eq, decide_eq_false_iff_not, beq_iff_eq, beq_eq_false_iff_ne, ne_eq] at h') <;> (try (have hx1 := getD_bd hes (k := k) (by omega); have hx2 := getD_bd hks (k := k) (by omega); have hmb := mul_bd (a := (M.chal p q g s.data.toList (rows.flatten ++ (imgs p q rows es ++ imgs p q rows ks)))) (b := es.getD k 0) (by omega) (by omega))) <;> (try (have hke : k = es.length := (by omega); have hra := linResp_all (q := q) (e := (M.chal p q g s.data.toList (rows.flatten ++ (imgs p q rows es ++ imgs p q rows ks)))) hkl hke; subst hke; rw [hra])))
    | (with_reducible refine AWp.skipS ?_)
    | ((with_reducible refine AWp.condT rfl ?_))
    | ((with_reducible refine AWp.condF rfl ?_))
    | (with_reducible refine AWp.condB rfl ?_)
    | (with_reducible refine AWp.ret ?_)
    | (with_reducible refine seqQ_n ?_)
    | (with_reducible refine seqQ_ret ?_)
    | (with_reducible refine blkQ_ret ?_)
    | (with_reducible refine blkQ_n ?_)
    | (with_reducible refine seqQ_exit ?_)
    | (with_reducible refine blkQ_exit ?_)
    | (with_reducible refine blkQ_other (by decide) ?_)
    | (with_reducible refine AWp.block ?_)
    | (with_reducible refine AWp.exit ?_)
    | (with_reducible refine AWp.skip ?_)
    | ((with_reducible refine loop_id ?_); refine AWp.loopAt 7 rfl ?_; refine AWp.sub (Sub.nilBox 64 2 300012 3 .int rfl rfl rfl) ?_; refine AWp.loopO [15, 16, 46, 47, 48, 49, 50, 51, 52, 53, 54, 55, 56, 57, 58, 59, 60, 61, 62, 63, 64, 65, 66] (fun k => [(46, .lit (.int .i64 (k : Nat)))]) (fun k => [(64, .box 67 [.own 48 rows.length, .own 248 1, .own 300012 ((linResp q (M.chal p q g s.data.toList (rows.flatten ++ (imgs p q rows es ++ imgs p q rows ks))) es ks).take k).length]), (300012, .row 3 .int ((linResp q (M.chal p q g s.data.toList (rows.flatten ++ (imgs p q rows es ++ imgs p q rows ks))) es ks).take k))]) (fun k => k ≤ es.length) (fun k => es.length - k) 0 (by omega) (by refine Sub.auto (by first | exact frok0 | assumption) rfl rfl ?_ ?_ <;> (try simp only [subE, AS.over2, without, keys, look, List.cons_append, List.nil_append, List.append_nil, List.mem_cons, List.not_mem_nil, or_false, or_true, true_or, false_or, Nat.reduceEqDiff, ↓reduceIte, Option.some.injEq, AV.lit.injEq, Value.int.injEq, Value.bool.injEq, AV.own.injEq, AO.row.injEq, AO.box.injEq, List.cons.injEq, AV.agg.injEq, AV.sl.injEq, true_and, and_true, and_self, heq_eq_eq, List.length_nil, List.length_cons, List.map_nil, List.take_zero, Int.natCast_add, Int.cast_ofNat_Int, Int.natCast_zero, List.length_append, List.length_map, List.length_take, Nat.zero_add]) <;> (simp [linResp])) (fun k hk_7 L7 hLoop7 => ?_))
    | ((with_reducible refine seqQ_f ?_); refine hLoop7 (k + 1) _ (by omega) (by omega) ?_; (refine Sub.auto (by first | exact frok0 | assumption) rfl rfl ?_ ?_ <;> (try simp only [subE, AS.over2, without, keys, look, List.cons_append, List.nil_append, List.append_nil, List.mem_cons, List.not_mem_nil, or_false, or_true, true_or, false_or, Nat.reduceEqDiff, ↓reduceIte, Option.some.injEq, AV.lit.injEq, Value.int.injEq, Value.bool.injEq, AV.own.injEq, AO.row.injEq, AO.box.injEq, List.cons.injEq, AV.agg.injEq, AV.sl.injEq, true_and, and_true, and_self, heq_eq_eq, List.length_nil, List.length_cons, List.map_nil, List.take_zero, Int.natCast_add, Int.cast_ofNat_Int, Int.natCast_zero, List.length_append, List.length_map, List.length_take, Nat.zero_add]) <;> (first | (refine ⟨?_, ?_⟩ <;> first | omega | exact linResp_step (by omega) (by omega)) | omega | exact linResp_step (by omega) (by omega))))
    | ((with_reducible refine EndsAt_id ?_); (try subst_vars); (try simp only [imgs_len, linResp_len hkl, hL, List.length_cons, List.length_nil, Nat.zero_add, Nat.reduceAdd, Bool.and_true, Bool.and_false, Bool.true_and, Bool.false_and, Bool.and_self, ↓reduceIte, Bool.false_eq_true, Bool.not_true, Bool.not_false, bne]); refine EndsAt.done [_, _, _] (by first | exact .inr rfl | exact .inl rfl) rfl rfl ?_ ?_ <;> first | decide | (repeat' (first | rfl | apply And.intro | trivial)))
    | (with_reducible refine AWp.seq ?_)⟩
noncomputable def c_sProve : Con0 := conF [(.pair .int (.pair .int .int)), .str, (.list (.list .int)), (.list .int), (.list .int)] fun (⟨⟨p, q, g⟩, s, rows, es, ks, _⟩ : (Int × Int × Int) × ByteArray × (List (List Int)) × (List Int) × (List Int) × Unit) => (M.Grp p q g ∧ s.size ≤ 40 ∧ RowsOK p rows ∧ es.length = (rows.getD 0 []).length ∧ ks.length = es.length ∧ (∀ e ∈ es, 0 ≤ e ∧ e < q) ∧ ∀ e ∈ ks, 0 ≤ e ∧ e < q, .agg [.own 0 (imgs p q rows ks).length, .own 1 1, .own 2 (linResp q (M.chal p q g s.data.toList (rows.flatten ++ (imgs p q rows es ++ imgs p q rows ks))) es ks).length], [.row 3 .int (imgs p q rows ks), .row 3 .int [(M.chal p q g s.data.toList (rows.flatten ++ (imgs p q rows es ++ imgs p q rows ks)))], .row 3 .int (linResp q (M.chal p q g s.data.toList (rows.flatten ++ (imgs p q rows es ++ imgs p q rows ks))) es ks)])
noncomputable def G_sProve : List (FuncId × Con) := [(198, mk c_sImages), (200, mk c_sStatement), (199, mk c_hChallenge)]
theorem G_sProve_ok : ∀ f C, (f, C) ∈ G_sProve → C.ok Try.prog f := by
  intro f C h
  simp only [G_sProve, List.mem_cons, Prod.mk.injEq, List.not_mem_nil, or_false] at h
  rcases h with ⟨rfl, rfl⟩ | ⟨rfl, rfl⟩ | ⟨rfl, rfl⟩
  · exact ok_sImages
  · exact ok_sStatement
  · exact ok_hChallenge
set_option maxRecDepth 100000 in
set_option maxHeartbeats 4000000 in
theorem ok_sProve : (mk c_sProve).ok Try.prog 164 := okF (Θ := Th) (N := 59) (rs := [.cell 10 67]) Th_ok Try.func164 (by kernel_rfl) rfl Try.results164 (by decide) (by kernel_rfl) fun (⟨⟨p, q, g⟩, s, rows, es, ks, _⟩ : (Int × Int × Int) × ByteArray × (List (List Int)) × (List Int) × (List Int) × Unit) => ⟨rfl, rfl, Nat.le_of_ble_eq_true rfl, fun hc w0 => by
  have hL := dmy_eq
  try dsimp only at hc
  try dsimp only
  obtain ⟨hG, hs, hR, hel, hkl, hes, hks⟩ := hc
  have hq2 := hG.q2
  have hqp := hG.qp
  have hp3 := hG.p3
  have hpM := hG.pM
  have hgb : 0 ≤ g ∧ g < p := ⟨by have := hG.g2; omega, hG.gp⟩
  have hrl := hR.len
  have hrw := hR.wid
  obtain ⟨hf1, hf2, hf3⟩ := hR.flat
  have hch := chal_bd (p := p) (q := q) (g := g) (by omega) s.data.toList (rows.flatten ++ (imgs p q rows es ++ imgs p q rows ks))
  have hallE : ∀ row ∈ rows, row.length ≤ es.length ∧ ∀ x ∈ row, 0 ≤ x ∧ x < p := fun row hr => ⟨by have := hR.each row hr; omega, hR.bd row hr⟩
  have hallK : ∀ row ∈ rows, row.length ≤ ks.length ∧ ∀ x ∈ row, 0 ≤ x ∧ x < p := fun row hr => ⟨by have := hR.each row hr; omega, hR.bd row hr⟩
  have hrn := linResp_len (q := q) (e := (M.chal p q g s.data.toList (rows.flatten ++ (imgs p q rows es ++ imgs p q rows ks)))) hkl
  have hmem := lin_mem hpM hf3 (imgs_bd (q := q) hp3 rows es) (imgs_bd (q := q) hp3 rows ks)
  refine AWp.body rfl ?_
  repeat' first
    | ((with_reducible refine hK _ _ ?_); clear hK K)
    | ((with_reducible refine hK _ _ (by kernel_rfl) ?_); clear hK K)
    | ((with_reducible refine AWp.pS Th_ok G_sProve_ok [0, 1, 2, 3, 4, 5, 10, 11, 12, 13, 14, 34, 35, 36, 37] (by decide) ?_); intro K hK)
    | ((with_reducible refine AWp.dS (by kernel_rfl) Th_ok G_sProve_ok [0, 1, 2, 3, 4, 5, 10, 11, 12, 13, 14, 34, 35, 36, 37] ?_); intro K hK)
    | ((with_reducible refine AWp.pE Th_ok G_sProve_ok [0, 1, 2, 3, 4, 5, 10, 11, 12, 13, 14, 34, 35, 36, 37] (by decide) ?_); intro K hK)
    | ((with_reducible refine AWp.dE (by kernel_rfl) Th_ok G_sProve_ok [0, 1, 2, 3, 4, 5, 10, 11, 12, 13, 14, 34, 35, 36, 37] ?_); intro K hK)
    | ((first | with_reducible refine runF_id ?_ | with_reducible refine stepF_id ?_); simp (maxSteps := 2000000) only [runF, stepF, forkOf, gdOf, List.toList_toArray, stepOp, look, opAV, pureOp, callOp, memOp, AS.ev, AS.get, AS.obj, initS, initFrom, AV.cells, AS.upd, Option.bind_some, Option.bind_none, Option.map_some, Option.map_none, Option.getD_none, Option.getD_some, ↓reduceIte, Nat.reduceEqDiff, Nat.reduceAdd, Nat.reduceMul, Nat.reduceSub, List.nil_append, List.append_nil, List.cons_append, List.map_cons, List.map_nil, true_and, and_true, AS.fin, pick, dedup, List.mem_cons, List.not_mem_nil, or_false, false_or, List.size_toArray, List.length_cons, List.length_nil, loadAV, List.drop_zero, List.drop_succ_cons, List.take_zero, List.take_succ_cons, List.getElem?_cons_zero, List.getElem?_cons_succ, List.head?_cons, List.mapM_cons, List.mapM_nil, Option.bind_eq_bind, Option.pure_def, deeps3, deep3, deep2, deep1, deeps, deeps2, mixInts, AV.plain, mk, mkD, DCon.lift, DCon.runC, ren3, ren2, ren1, numb, List.zipIdx_nil, List.zipIdx_cons, List.all_nil, List.all_cons, Nat.reduceLeDiff, List.range, List.range.loop, Ty.sz, beq_self_eq_true, Bool.and_self, and_self, Ty.ofC, AO.isDead, Nat.reduceLT, if_true, Nat.zero_add, Nat.add_zero, ite_true, Nat.le_refl, Bool.false_eq_true, reduceCtorEq, if_false, ite_false, binAV, AO.ren, AV.isCell, fillAV, List.set_cons_zero, List.set_cons_succ, Ty.cells, Ty.flat, Ty.dflt, List.getD_cons_zero, List.getD_cons_succ, Int.reduceToNat, Int.reduceSub, Int.reduceAdd, Int.reduceMul, Int.reduceNeg, forall_eq_or_imp, forall_eq, gdL, id_eq, Nat.lt_irrefl, srcOf, List.replicate_succ, List.replicate_zero, dite_true, List.isEmpty_cons, Option.isSome_some, List.length_append, List.length_singleton, bne_self_eq_false, Bool.not_true, Bool.not_false, conF, asArgs, asArg, asTy, asI1, asB1, asS1, asL1, canons, canon, Fork.true_, Fork.false_, bne, Bool.not_not, List.length_map, pickO, AS.over, TI.bl, bne_iff_ne, AS.over2, without, keys, List.mem_singleton, memOp2, memOp3, absorb, abInt, abBool, abStr, abList, gones, Int.toNat_natCast, List.take_length, subE, List.nodup_cons, List.nodup_nil, not_false_eq_true, Nat.sub_self, conR, asG, asI, asBo, asStr, asIs, asBs, asE4, asI2, asI3, asLL, asLLL, Th_int, Th_bool, Th_string, Th_Sint, Th_SSint, Th_implGroup, Th_implProof, G_sProve, c_sImages, c_sStatement, c_hChallenge, List.append_assoc, imgs_len, hL])
    | ((with_reducible refine ens_step ?_ (fun hE => ?_)); · ((repeat' with_reducible apply And.intro) <;> first | with_reducible assumption | omega | exact True.intro | with_reducible rfl | (show ByteArray.size _ ≤ _; decide) | (simp; done) | (simp; omega) | rfl))
    | ((with_reducible refine And.intro ?_ ?_); · ((repeat' with_reducible apply And.intro) <;> first | with_reducible assumption | omega | exact True.intro | with_reducible rfl | (show ByteArray.size _ ≤ _; decide) | (simp; done) | (simp; omega) | rfl))
    | ((with_reducible refine Fork.intro (fun h' => ?_) (fun h' => ?_)) <;> (try simp only [Bool.not_eq_true', Bool.not_eq_false', bne] at h') <;> (replace hL := And.intro h' hL) <;> (try simp only [decide_eq_true_eq, decide_eq_false_iff_not, beq_iff_eq, beq_eq_false_iff_ne, ne_eq] at h') <;> (try (have hx1 := getD_bd hes (k := k) (by omega); have hx2 := getD_bd hks (k := k) (by omega); have hmb := mul_bd (a := (M.chal p q g s.data.toList (rows.flatten ++ (imgs p q rows es ++ imgs p q rows ks)))) (b := es.getD k 0) (by omega) (by omega))) <;> (try (have hke : k = es.length := (by omega); have hra := linResp_all (q := q) (e := (M.chal p q g s.data.toList (rows.flatten ++ (imgs p q rows es ++ imgs p q rows ks)))) hkl hke; subst hke; rw [hra])))
    | (with_reducible refine AWp.skipS ?_)
    | ((with_reducible refine AWp.condT rfl ?_))
    | ((with_reducible refine AWp.condF rfl ?_))
    | (with_reducible refine AWp.condB rfl ?_)
    | (with_reducible refine AWp.ret ?_)
    | (with_reducible refine seqQ_n ?_)
    | (with_reducible refine seqQ_ret ?_)
    | (with_reducible refine blkQ_ret ?_)
    | (with_reducible refine blkQ_n ?_)
    | (with_reducible refine seqQ_exit ?_)
    | (with_reducible refine blkQ_exit ?_)
    | (with_reducible refine blkQ_other (by decide) ?_)
    | (with_reducible refine AWp.block ?_)
    | (with_reducible refine AWp.exit ?_)
    | (with_reducible refine AWp.skip ?_)
    | ((with_reducible refine loop_id ?_); refine AWp.loopAt 5 rfl ?_; refine AWp.sub (Sub.nilBox 56 2 300012 3 .int rfl rfl rfl) ?_; refine AWp.loopO [13, 14, 36, 37, 38, 39, 40, 41, 42, 43, 44, 45, 46, 47, 48, 49, 50, 51, 52, 53, 54, 55, 56, 57] (fun k => [(36, .lit (.int .i64 (k : Nat)))]) (fun k => [(56, .box 67 [.own 40 rows.length, .own 176 1, .own 300012 ((linResp q (M.chal p q g s.data.toList (rows.flatten ++ (imgs p q rows es ++ imgs p q rows ks))) es ks).take k).length]), (300012, .row 3 .int ((linResp q (M.chal p q g s.data.toList (rows.flatten ++ (imgs p q rows es ++ imgs p q rows ks))) es ks).take k))]) (fun k => k ≤ es.length) (fun k => es.length - k) 0 (by omega) (by refine Sub.auto (by first | exact frok0 | assumption) rfl rfl ?_ ?_ <;> (try simp only [subE, AS.over2, without, keys, look, List.cons_append, List.nil_append, List.append_nil, List.mem_cons, List.not_mem_nil, or_false, or_true, true_or, false_or, Nat.reduceEqDiff, ↓reduceIte, Option.some.injEq, AV.lit.injEq, Value.int.injEq, Value.bool.injEq, AV.own.injEq, AO.row.injEq, AO.box.injEq, List.cons.injEq, AV.agg.injEq, AV.sl.injEq, true_and, and_true, and_self, heq_eq_eq, List.length_nil, List.length_cons, List.map_nil, List.take_zero, Int.natCast_add, Int.cast_ofNat_Int, Int.natCast_zero, List.length_append, List.length_map, List.length_take, Nat.zero_add]) <;> (simp [linResp])) (fun k hk_5 L5 hLoop5 => ?_))
    | ((with_reducible refine seqQ_f ?_); refine hLoop5 (k + 1) _ (by omega) (by omega) ?_; (refine Sub.auto (by first | exact frok0 | assumption) rfl rfl ?_ ?_ <;> (try simp only [subE, AS.over2, without, keys, look, List.cons_append, List.nil_append, List.append_nil, List.mem_cons, List.not_mem_nil, or_false, or_true, true_or, false_or, Nat.reduceEqDiff, ↓reduceIte, Option.some.injEq, AV.lit.injEq, Value.int.injEq, Value.bool.injEq, AV.own.injEq, AO.row.injEq, AO.box.injEq, List.cons.injEq, AV.agg.injEq, AV.sl.injEq, true_and, and_true, and_self, heq_eq_eq, List.length_nil, List.length_cons, List.map_nil, List.take_zero, Int.natCast_add, Int.cast_ofNat_Int, Int.natCast_zero, List.length_append, List.length_map, List.length_take, Nat.zero_add]) <;> (first | (refine ⟨?_, ?_⟩ <;> first | omega | exact linResp_step (by omega) (by omega)) | omega | exact linResp_step (by omega) (by omega))))
    | ((with_reducible refine EndsAt_id ?_); (try subst_vars); (try simp only [imgs_len, linResp_len hkl, hL, List.length_cons, List.length_nil, Nat.zero_add, Nat.reduceAdd, Bool.and_true, Bool.and_false, Bool.true_and, Bool.false_and, Bool.and_self, ↓reduceIte, Bool.false_eq_true, Bool.not_true, Bool.not_false, bne]); refine EndsAt.done [_, _, _] (by first | exact .inr rfl | exact .inl rfl) rfl rfl ?_ ?_ <;> first | decide | (repeat' (first | rfl | apply And.intro | trivial)))
    | (with_reducible refine AWp.seq ?_)⟩
end Go.Proofs.Ytlggpehioflbdaa
