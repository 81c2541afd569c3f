import Derived.Test.YtgnnmifpfgpllaaGreatZD39
/- Messages of many ciphertexts. -/
set_option linter.all false
set_option linter.unusedVariables false
set_option linter.unusedSimpArgs false
namespace Go.Proofs.YtgnnmifpfgpllaaGreat
open Go.RowKit
/-- the message of one ciphertext -/
noncomputable def daM (p q g : Int) (cs : List Int) (xs : List (Int × Int)) (l : List (List (Int × Int × List Int × List Int × List Int))) (k : Nat) : Int × Bool := cmV p q g cs (xs.getD k (0, 0)).1 (xs.getD k (0, 0)).2 (l.getD k [])
noncomputable def daK (p q g : Int) (cs : List Int) (xs : List (Int × Int)) (l : List (List (Int × Int × List Int × List Int × List Int))) (k : Nat) : Bool := (List.range k).all fun i => (daM p q g cs xs l i).2
noncomputable def daL (p q g : Int) (cs : List Int) (xs : List (Int × Int)) (l : List (List (Int × Int × List Int × List Int × List Int))) (k : Nat) : List Int := (List.range k).map fun i => (daM p q g cs xs l i).1
noncomputable def okDa (p q g : Int) (cs : List Int) (xs : List (Int × Int)) (l : List (List (Int × Int × List Int × List Int × List Int))) : Bool := shB p q g && comB p q cs && egB p q xs && ((l.length : Int) == xs.length)
section
variable {p q g : Int} {cs : List Int} {xs : List (Int × Int)} {l : List (List (Int × Int × List Int × List Int × List Int))} {k n : Nat}
theorem daK_0 : daK p q g cs xs l 0 = true := rfl
theorem daK_t (h : daK p q g cs xs l k = true) (h2 : (cmV p q g cs (xs.getD k (0, 0)).1 (xs.getD k (0, 0)).2 (l.getD k [])).2 = true) : daK p q g cs xs l (k + 1) = true := by
  unfold daK at *
  rw [List.range_succ, List.all_append, h]; simpa [daM] using h2
theorem daK_f (hk : k < n) (h2 : (cmV p q g cs (xs.getD k (0, 0)).1 (xs.getD k (0, 0)).2 (l.getD k [])).2 = false) : daK p q g cs xs l n = false := by
  unfold daK
  rw [Bool.eq_false_iff]
  intro h
  have h3 : (daM p q g cs xs l k).2 = true := List.all_eq_true.1 h k (List.mem_range.2 hk)
  unfold daM at h3
  rw [h2] at h3; cases h3
theorem daL_len : (daL p q g cs xs l k).length = k := by simp [daL]
theorem daL_step : daL p q g cs xs l k ++ [(cmV p q g cs (xs.getD k (0, 0)).1 (xs.getD k (0, 0)).2 (l.getD k [])).1] = daL p q g cs xs l (k + 1) := by simp [daL, List.range_succ, daM]
end
noncomputable def okDb (p q g : Int) (cs : List Int) (xs : List (Int × Int)) (l : List (List (Int × Int × List Int × List Int × List Int))) : Bool := okDa p q g cs xs l && daK p q g cs xs l xs.length
noncomputable def PDa (p q g : Int) (cs : List Int) (xs : List (Int × Int)) (l : List (List (Int × Int × List Int × List Int × List Int))) : List Int := if okDa p q g cs xs l = true then (if daK p q g cs xs l xs.length = true then daL p q g cs xs l xs.length else []) else []
theorem szl_at {l : List (List (Int × Int × List Int × List Int × List Int))} (h : Ty.szn (.list (.list (.pair .int (.pair .int (.pair (.list .int) (.pair (.list .int) (.list .int))))))) l ≤ 2000000) : ∀ x ∈ l, x.length ≤ 9223372036854775806 := fun x hx => by
  have h1 := mem_szn (.list (.pair .int (.pair .int (.pair (.list .int) (.pair (.list .int) (.list .int)))))) hx
  have h2 := len_szn (.pair .int (.pair .int (.pair (.list .int) (.pair (.list .int) (.list .int))))) x
  omega
theorem egB_le {p q : Int} {xs : List (Int × Int)} (h : egB p q xs = true) : xs.length ≤ 24 := by
  simp only [egB, Bool.and_eq_true, decide_eq_true_eq] at h
  omega
theorem PDa_le (p q g : Int) (cs : List Int) (xs : List (Int × Int)) (l : List (List (Int × Int × List Int × List Int × List Int))) : (PDa p q g cs xs l).length ≤ 24 := by
  unfold PDa; split
  · rename_i h
    simp only [okDa, Bool.and_eq_true] at h
    split
    · rw [daL_len]; exact egB_le h.1.2
    · simp
  · simp
noncomputable def c_DecryptAllI : Con0 := conF [(.pair .int (.pair .int .int)), (.list .int), (.list (.pair .int .int)), (.list (.list (.pair .int (.pair .int (.pair (.list .int) (.pair (.list .int) (.list .int)))))))] fun (⟨⟨p, q, g⟩, cs, xs, l, _⟩ : (Int × Int × Int) × (List Int) × (List (Int × Int)) × (List (List (Int × Int × (List Int) × (List Int) × (List Int)))) × Unit) => (xs.length ≤ 9223372036854775806 ∧ l.length ≤ 9223372036854775806 ∧ ∀ x ∈ l, x.length ≤ 9223372036854775806, .tup [.own 0 (PDa p q g cs xs l).length, .lit (.bool (okDb p q g cs xs l))], [.row 3 .int (PDa p q g cs xs l)])
noncomputable def G_DecryptAllI : List (FuncId × Con) := [(49, mk c_isSharing), (50, mk c_areCommits), (51, mk c_hasCiphers), (44, mk c_CombinePartialsI)]
theorem G_DecryptAllI_ok : ∀ f C, (f, C) ∈ G_DecryptAllI → C.ok Tryz.prog f := by
  intro f C h
  simp only [G_DecryptAllI, List.mem_cons, Prod.mk.injEq, List.not_mem_nil, or_false] at h
  rcases h with ⟨rfl, rfl⟩ | ⟨rfl, rfl⟩ | ⟨rfl, rfl⟩ | ⟨rfl, rfl⟩
  · exact ok_isSharing
  · exact ok_areCommits
  · exact ok_hasCiphers
  · exact ok_CombinePartialsI
set_option maxRecDepth 100000 in
set_option maxHeartbeats 4000000 in
theorem ok_DecryptAllI : (mk c_DecryptAllI).ok Tryz.prog 25 := okF (Θ := Th) (N := 64) (rs := [.tmp 8, .tmp 9]) Th_ok Tryz.func25 (by kernel_rfl) rfl Tryz.results25 (by decide) (by kernel_rfl) fun (⟨⟨p, q, g⟩, cs, xs, l, _⟩ : (Int × Int × Int) × (List Int) × (List (Int × Int)) × (List (List (Int × Int × (List Int) × (List Int) × (List Int)))) × Unit) => ⟨rfl, rfl, Nat.le_of_ble_eq_true rfl, fun hc w0 => by
  have hL := dmy_eq
  try dsimp only at hc
  try dsimp only
  obtain ⟨hb1, hb2, hbe⟩ := hc
  refine AWp.body rfl ?_
  repeat' first
    | ((with_reducible refine hK _ _ ?_); clear hK K)
    | ((with_reducible refine hK _ _ (by kernel_rfl) ?_); clear hK K)
    | ((with_reducible refine AWp.pS Th_ok G_DecryptAllI_ok [0, 1, 2, 3, 4, 8, 9, 10, 11, 12, 13, 14, 36, 38, 39, 40, 41, 57] (by decide) ?_); intro K hK)
    | ((with_reducible refine AWp.dS (by kernel_rfl) Th_ok G_DecryptAllI_ok [0, 1, 2, 3, 4, 8, 9, 10, 11, 12, 13, 14, 36, 38, 39, 40, 41, 57] ?_); intro K hK)
    | ((with_reducible refine AWp.pE Th_ok G_DecryptAllI_ok [0, 1, 2, 3, 4, 8, 9, 10, 11, 12, 13, 14, 36, 38, 39, 40, 41, 57] (by decide) ?_); intro K hK)
    | ((with_reducible refine AWp.dE (by kernel_rfl) Th_ok G_DecryptAllI_ok [0, 1, 2, 3, 4, 8, 9, 10, 11, 12, 13, 14, 36, 38, 39, 40, 41, 57] ?_); intro K hK)
    | ((first | with_reducible refine runF_id ?_ | with_reducible refine stepF_id ?_); simp (maxSteps := 2000000) only [runF, stepF, forkOf, gdOf, List.toList_toArray, stepOp, look, opAV, pureOp, callOp, memOp, AS.ev, AS.get, AS.obj, initS, initFrom, AV.cells, AS.upd, Option.bind_some, Option.bind_none, Option.map_some, Option.map_none, Option.getD_none, Option.getD_some, ↓reduceIte, Nat.reduceEqDiff, Nat.reduceAdd, Nat.reduceMul, Nat.reduceSub, List.nil_append, List.append_nil, List.cons_append, List.map_cons, List.map_nil, true_and, and_true, AS.fin, pick, dedup, List.mem_cons, List.not_mem_nil, or_false, false_or, List.size_toArray, List.length_cons, List.length_nil, loadAV, List.drop_zero, List.drop_succ_cons, List.take_zero, List.take_succ_cons, List.getElem?_cons_zero, List.getElem?_cons_succ, List.head?_cons, List.mapM_cons, List.mapM_nil, Option.bind_eq_bind, Option.pure_def, deeps3, deep3, deep2, deep1, deeps, deeps2, mixInts, AV.plain, mk, mkD, DCon.lift, DCon.runC, ren3, ren2, ren1, numb, List.zipIdx_nil, List.zipIdx_cons, List.all_nil, List.all_cons, Nat.reduceLeDiff, List.range, List.range.loop, Ty.sz, beq_self_eq_true, Bool.and_self, and_self, Ty.ofC, AO.isDead, Nat.reduceLT, if_true, Nat.zero_add, Nat.add_zero, ite_true, Nat.le_refl, Bool.false_eq_true, reduceCtorEq, if_false, ite_false, binAV, AO.ren, AV.isCell, fillAV, List.set_cons_zero, List.set_cons_succ, Ty.cells, Ty.flat, Ty.dflt, List.getD_cons_zero, List.getD_cons_succ, Int.reduceToNat, Int.reduceSub, Int.reduceAdd, Int.reduceMul, Int.reduceNeg, forall_eq_or_imp, forall_eq, gdL, id_eq, Nat.lt_irrefl, srcOf, List.replicate_succ, List.replicate_zero, dite_true, List.isEmpty_cons, Option.isSome_some, List.length_append, List.length_singleton, bne_self_eq_false, Bool.not_true, Bool.not_false, conF, asArgs, asArg, asTy, asI1, asB1, asS1, asL1, canons, canon, Fork.true_, Fork.false_, bne, Bool.not_not, List.length_map, pickO, AS.over, TI.bl, bne_iff_ne, AS.over2, without, keys, List.mem_singleton, memOp2, memOp3, absorb, abInt, abBool, abStr, abList, gones, Int.toNat_natCast, List.take_length, subE, List.nodup_cons, List.nodup_nil, not_false_eq_true, Nat.sub_self, conR, asG, asI, asBo, asStr, asIs, asBs, asE4, asI2, asI3, asLL, asLLL, Th_int, Th_Sint, Th_bool, Th_implCipher, Th_implGroup, Th_implSCipher, Th_implSPartial, Th_implSSPartial, Th_lawsCipher, Th_lawsGroup, Th_lawsProof, Th_lawsSCipher, Th_lawsSPartial, Th_lawsSSPartial, G_DecryptAllI, c_isSharing, c_areCommits, c_hasCiphers, c_CombinePartialsI, hL])
    | ((with_reducible refine ens_step ?_ (fun hE => ?_)); · ((repeat' with_reducible apply And.intro) <;> first | with_reducible assumption | omega | exact True.intro | with_reducible rfl | (show ByteArray.size _ ≤ _; decide) | (simp; done) | (simp; omega) | rfl))
    | ((with_reducible refine And.intro ?_ ?_); · ((repeat' with_reducible apply And.intro) <;> first | with_reducible assumption | omega | exact True.intro | with_reducible rfl | (show ByteArray.size _ ≤ _; decide) | (simp; done) | (simp; omega) | rfl))
    | ((with_reducible refine Fork.intro (fun h' => ?_) (fun h' => ?_)) <;> (try simp only [Bool.not_eq_true', Bool.not_eq_false', bne] at h') <;> (replace hL := And.intro h' hL) <;> (try simp only [decide_eq_true_eq, decide_eq_false_iff_not, beq_iff_eq, beq_eq_false_iff_ne, ne_eq] at h') <;> (try (have hsh := shB_of h'; obtain ⟨hgd, hq7⟩ := hsh; have hG := M.goodB_of hgd; have hq2 := hG.q2; have hqp := hG.qp; have hp3 := hG.p3; have hpM := hG.pM)) <;> (try (have hel := egB_le h')) <;> (try (have hxb := hbe (l.getD k []) (getD_in [] (by omega)))) <;> (try (have hkt := daK_t hz2 hL.1)) <;> (try (have hkf := daK_f (p := p) (q := q) (g := g) (cs := cs) (xs := xs) (l := l) (k := k) (n := xs.length) (by omega) hL.1; replace hL := And.intro hkf hL)) <;> (try (have hke : k = xs.length := (by omega); subst hke; replace hL := And.intro hz2 hL)))
    | (with_reducible refine AWp.skipS ?_)
    | ((with_reducible refine AWp.condT rfl ?_))
    | ((with_reducible refine AWp.condF rfl ?_))
    | (with_reducible refine AWp.condB rfl ?_)
    | ((with_reducible refine AWp.ret_id ?_); refine AWp.sub (Sub.nilSlot 8 200008 3 .int rfl rfl) ?_)
    | (with_reducible refine AWp.ret ?_)
    | (with_reducible refine seqQ_n ?_)
    | (with_reducible refine seqQ_ret ?_)
    | (with_reducible refine blkQ_ret ?_)
    | (with_reducible refine blkQ_n ?_)
    | (with_reducible refine seqQ_exit ?_)
    | (with_reducible refine blkQ_exit ?_)
    | (with_reducible refine blkQ_other (by decide) ?_)
    | (with_reducible refine AWp.block ?_)
    | (with_reducible refine AWp.exit ?_)
    | (with_reducible refine AWp.skip ?_)
    | ((with_reducible refine loop_id ?_); refine AWp.loopAt 5 rfl ?_; refine AWp.loopO [8, 9, 10, 11, 12, 13, 14, 40, 41, 42, 43, 44, 45, 46, 47, 48, 49, 50, 51, 52, 53, 54, 55, 56, 57, 58, 59, 60, 61, 62] (fun k => [(40, .lit (.int .i64 (k : Nat))), (10, .own 200 k)]) (fun k => [(200, .row 3 .int (daL p q g cs xs l k))]) (fun k => k ≤ xs.length ∧ daK p q g cs xs l k = true) (fun k => xs.length - k) 0 (by exact ⟨by omega, daK_0⟩) (by refine Sub.auto (by first | exact frok0 | assumption) rfl rfl ?_ ?_ <;> (try simp only [subE, AS.over2, without, keys, look, List.cons_append, List.nil_append, List.append_nil, List.mem_cons, List.not_mem_nil, or_false, or_true, true_or, false_or, Nat.reduceEqDiff, ↓reduceIte, Option.some.injEq, AV.lit.injEq, Value.int.injEq, Value.bool.injEq, AV.own.injEq, AO.row.injEq, AO.box.injEq, List.cons.injEq, AV.agg.injEq, AV.sl.injEq, true_and, and_true, and_self, heq_eq_eq, List.length_nil, List.length_cons, List.map_nil, List.take_zero, Int.natCast_add, Int.cast_ofNat_Int, Int.natCast_zero, List.length_append, List.length_map, List.length_take, Nat.zero_add]) <;> ((repeat' apply And.intro) <;> first | rfl | (simp [daL]; done))) (fun k hk_5 L5 hLoop5 => ?_); obtain ⟨hz1, hz2⟩ := hk_5; have hdl := daL_len (p := p) (q := q) (g := g) (cs := cs) (xs := xs) (l := l) (k := k))
    | ((with_reducible refine seqQ_f ?_); refine hLoop5 (k + 1) _ (by exact ⟨by omega, hkt⟩) (by omega) ?_; (refine Sub.auto (by first | exact frok0 | assumption) rfl rfl ?_ ?_ <;> (try simp only [subE, AS.over2, without, keys, look, List.cons_append, List.nil_append, List.append_nil, List.mem_cons, List.not_mem_nil, or_false, or_true, true_or, false_or, Nat.reduceEqDiff, ↓reduceIte, Option.some.injEq, AV.lit.injEq, Value.int.injEq, Value.bool.injEq, AV.own.injEq, AO.row.injEq, AO.box.injEq, List.cons.injEq, AV.agg.injEq, AV.sl.injEq, true_and, and_true, and_self, heq_eq_eq, List.length_nil, List.length_cons, List.map_nil, List.take_zero, Int.natCast_add, Int.cast_ofNat_Int, Int.natCast_zero, List.length_append, List.length_map, List.length_take, Nat.zero_add]) <;> ((repeat' apply And.intro) <;> first | rfl | omega | exact daL_step | (simp; done))))
    | ((with_reducible refine EndsAt_id ?_); (try subst_vars); (try simp only [PDa, okDb, okDa, daL_len, hL, List.length_cons, List.length_nil, Nat.zero_add, Nat.reduceAdd, Bool.and_true, Bool.and_false, Bool.true_and, Bool.false_and, Bool.and_self, ↓reduceIte, Bool.false_eq_true, Bool.not_true, Bool.not_false, bne]); refine EndsAt.done [_] (by first | exact .inr rfl | exact .inl rfl) rfl rfl ?_ ?_ <;> first | decide | (repeat' (first | rfl | apply And.intro | trivial)))
    | (with_reducible refine AWp.seq ?_)⟩
noncomputable def c_DecryptAllS : Con0 := conF [(.pair .int (.pair .int .int)), (.list .int), (.list (.pair .int .int)), (.list (.list (.pair .int (.pair .int (.pair (.list .int) (.pair (.list .int) (.list .int)))))))] fun (⟨⟨p, q, g⟩, cs, xs, l, _⟩ : (Int × Int × Int) × (List Int) × (List (Int × Int)) × (List (List (Int × Int × (List Int) × (List Int) × (List Int)))) × Unit) => (xs.length ≤ 9223372036854775806 ∧ l.length ≤ 9223372036854775806 ∧ ∀ x ∈ l, x.length ≤ 9223372036854775806, .tup [.own 0 (PDa p q g cs xs l).length, .lit (.bool (okDb p q g cs xs l))], [.row 3 .int (PDa p q g cs xs l)])
noncomputable def G_DecryptAllS : List (FuncId × Con) := [(46, mk c_sGroup), (47, mk c_sCommits), (48, mk c_eGood), (42, mk c_CombinePartialsS)]
theorem G_DecryptAllS_ok : ∀ f C, (f, C) ∈ G_DecryptAllS → C.ok Tryz.prog f := by
  intro f C h
  simp only [G_DecryptAllS, List.mem_cons, Prod.mk.injEq, List.not_mem_nil, or_false] at h
  rcases h with ⟨rfl, rfl⟩ | ⟨rfl, rfl⟩ | ⟨rfl, rfl⟩ | ⟨rfl, rfl⟩
  · exact ok_sGroup
  · exact ok_sCommits
  · exact ok_eGood
  · exact ok_CombinePartialsS
set_option maxRecDepth 100000 in
set_option maxHeartbeats 4000000 in
theorem ok_DecryptAllS : (mk c_DecryptAllS).ok Tryz.prog 22 := okF (Θ := Th) (N := 63) (rs := [.tmp 8, .tmp 9]) Th_ok Tryz.func22 (by kernel_rfl) rfl Tryz.results22 (by decide) (by kernel_rfl) fun (⟨⟨p, q, g⟩, cs, xs, l, _⟩ : (Int × Int × Int) × (List Int) × (List (Int × Int)) × (List (List (Int × Int × (List Int) × (List Int) × (List Int)))) × Unit) => ⟨rfl, rfl, Nat.le_of_ble_eq_true rfl, fun hc w0 => by
  have hL := dmy_eq
  try dsimp only at hc
  try dsimp only
  obtain ⟨hb1, hb2, hbe⟩ := hc
  refine AWp.body rfl ?_
  repeat' first
    | ((with_reducible refine hK _ _ ?_); clear hK K)
    | ((with_reducible refine hK _ _ (by kernel_rfl) ?_); clear hK K)
    | ((with_reducible refine AWp.pS Th_ok G_DecryptAllS_ok [0, 1, 2, 3, 4, 8, 9, 10, 11, 12, 13, 14, 36, 37, 38, 39, 40, 56] (by decide) ?_); intro K hK)
    | ((with_reducible refine AWp.dS (by kernel_rfl) Th_ok G_DecryptAllS_ok [0, 1, 2, 3, 4, 8, 9, 10, 11, 12, 13, 14, 36, 37, 38, 39, 40, 56] ?_); intro K hK)
    | ((with_reducible refine AWp.pE Th_ok G_DecryptAllS_ok [0, 1, 2, 3, 4, 8, 9, 10, 11, 12, 13, 14, 36, 37, 38, 39, 40, 56] (by decide) ?_); intro K hK)
    | ((with_reducible refine AWp.dE (by kernel_rfl) Th_ok G_DecryptAllS_ok [0, 1, 2, 3, 4, 8, 9, 10, 11, 12, 13, 14, 36, 37, 38, 39, 40, 56] ?_); intro K hK)
    | ((first | with_reducible refine runF_id ?_ | with_reducible refine stepF_id ?_); simp (maxSteps := 2000000) only [runF, stepF, forkOf, gdOf, List.toList_toArray, stepOp, look, opAV, pureOp, callOp, memOp, AS.ev, AS.get, AS.obj, initS, initFrom, AV.cells, AS.upd, Option.bind_some, Option.bind_none, Option.map_some, Option.map_none, Option.getD_none, Option.getD_some, ↓reduceIte, Nat.reduceEqDiff, Nat.reduceAdd, Nat.reduceMul, Nat.reduceSub, List.nil_append, List.append_nil, List.cons_append, List.map_cons, List.map_nil, true_and, and_true, AS.fin, pick, dedup, List.mem_cons, List.not_mem_nil, or_false, false_or, List.size_toArray, List.length_cons, List.length_nil, loadAV, List.drop_zero, List.drop_succ_cons, List.take_zero, List.take_succ_cons, List.getElem?_cons_zero, List.getElem?_cons_succ, List.head?_cons, List.mapM_cons, List.mapM_nil, Option.bind_eq_bind, Option.pure_def, deeps3, deep3, deep2, deep1, deeps, deeps2, mixInts, AV.plain, mk, mkD, DCon.lift, DCon.runC, ren3, ren2, ren1, numb, List.zipIdx_nil, List.zipIdx_cons, List.all_nil, List.all_cons, Nat.reduceLeDiff, List.range, List.range.loop, Ty.sz, beq_self_eq_true, Bool.and_self, and_self, Ty.ofC, AO.isDead, Nat.reduceLT, if_true, Nat.zero_add, Nat.add_zero, ite_true, Nat.le_refl, Bool.false_eq_true, reduceCtorEq, if_false, ite_false, binAV, AO.ren, AV.isCell, fillAV, List.set_cons_zero, List.set_cons_succ, Ty.cells, Ty.flat, Ty.dflt, List.getD_cons_zero, List.getD_cons_succ, Int.reduceToNat, Int.reduceSub, Int.reduceAdd, Int.reduceMul, Int.reduceNeg, forall_eq_or_imp, forall_eq, gdL, id_eq, Nat.lt_irrefl, srcOf, List.replicate_succ, List.replicate_zero, dite_true, List.isEmpty_cons, Option.isSome_some, List.length_append, List.length_singleton, bne_self_eq_false, Bool.not_true, Bool.not_false, conF, asArgs, asArg, asTy, asI1, asB1, asS1, asL1, canons, canon, Fork.true_, Fork.false_, bne, Bool.not_not, List.length_map, pickO, AS.over, TI.bl, bne_iff_ne, AS.over2, without, keys, List.mem_singleton, memOp2, memOp3, absorb, abInt, abBool, abStr, abList, gones, Int.toNat_natCast, List.take_length, subE, List.nodup_cons, List.nodup_nil, not_false_eq_true, Nat.sub_self, conR, asG, asI, asBo, asStr, asIs, asBs, asE4, asI2, asI3, asLL, asLLL, Th_int, Th_Sint, Th_bool, Th_implCipher, Th_implGroup, Th_implSCipher, Th_implSPartial, Th_implSSPartial, Th_lawsCipher, Th_lawsGroup, Th_lawsProof, Th_lawsSCipher, Th_lawsSPartial, Th_lawsSSPartial, G_DecryptAllS, c_sGroup, c_sCommits, c_eGood, c_CombinePartialsS, hL])
    | ((with_reducible refine ens_step ?_ (fun hE => ?_)); · ((repeat' with_reducible apply And.intro) <;> first | with_reducible assumption | omega | exact True.intro | with_reducible rfl | (show ByteArray.size _ ≤ _; decide) | (simp; done) | (simp; omega) | rfl))
    | ((with_reducible refine And.intro ?_ ?_); · ((repeat' with_reducible apply And.intro) <;> first | with_reducible assumption | omega | exact True.intro | with_reducible rfl | (show ByteArray.size _ ≤ _; decide) | (simp; done) | (simp; omega) | rfl))
    | ((with_reducible refine Fork.intro (fun h' => ?_) (fun h' => ?_)) <;> (try simp only [Bool.not_eq_true', Bool.not_eq_false', bne] at h') <;> (replace hL := And.intro h' hL) <;> (try simp only [decide_eq_true_eq, decide_eq_false_iff_not, beq_iff_eq, beq_eq_false_iff_ne, ne_eq] at h') <;> (try (have hsh := shB_of h'; obtain ⟨hgd, hq7⟩ := hsh; have hG := M.goodB_of hgd; have hq2 := hG.q2; have hqp := hG.qp; have hp3 := hG.p3; have hpM := hG.pM)) <;> (try (have hel := egB_le h')) <;> (try (have hxb := hbe (l.getD k []) (getD_in [] (by omega)))) <;> (try (have hkt := daK_t hz2 hL.1)) <;> (try (have hkf := daK_f (p := p) (q := q) (g := g) (cs := cs) (xs := xs) (l := l) (k := k) (n := xs.length) (by omega) hL.1; replace hL := And.intro hkf hL)) <;> (try (have hke : k = xs.length := (by omega); subst hke; replace hL := And.intro hz2 hL)))
    | (with_reducible refine AWp.skipS ?_)
    | ((with_reducible refine AWp.condT rfl ?_))
    | ((with_reducible refine AWp.condF rfl ?_))
    | (with_reducible refine AWp.condB rfl ?_)
    | ((with_reducible refine AWp.ret_id ?_); refine AWp.sub (Sub.nilSlot 8 200008 3 .int rfl rfl) ?_)
    | (with_reducible refine AWp.ret ?_)
    | (with_reducible refine seqQ_n ?_)
    | (with_reducible refine seqQ_ret ?_)
    | (with_reducible refine blkQ_ret ?_)
    | (with_reducible refine blkQ_n ?_)
    | (with_reducible refine seqQ_exit ?_)
    | (with_reducible refine blkQ_exit ?_)
    | (with_reducible refine blkQ_other (by decide) ?_)
    | (with_reducible refine AWp.block ?_)
    | (with_reducible refine AWp.exit ?_)
    | (with_reducible refine AWp.skip ?_)
    | ((with_reducible refine loop_id ?_); refine AWp.loopAt 5 rfl ?_; refine AWp.sub (Sub.nilSlot 10 300010 3 .int rfl rfl) ?_; refine AWp.loopO [8, 9, 10, 11, 12, 13, 14, 39, 40, 41, 42, 43, 44, 45, 46, 47, 48, 49, 50, 51, 52, 53, 54, 55, 56, 57, 58, 59, 60, 61] (fun k => [(39, .lit (.int .i64 (k : Nat))), (10, .own 300010 k)]) (fun k => [(300010, .row 3 .int (daL p q g cs xs l k))]) (fun k => k ≤ xs.length ∧ daK p q g cs xs l k = true) (fun k => xs.length - k) 0 (by exact ⟨by omega, daK_0⟩) (by refine Sub.auto (by first | exact frok0 | assumption) rfl rfl ?_ ?_ <;> (try simp only [subE, AS.over2, without, keys, look, List.cons_append, List.nil_append, List.append_nil, List.mem_cons, List.not_mem_nil, or_false, or_true, true_or, false_or, Nat.reduceEqDiff, ↓reduceIte, Option.some.injEq, AV.lit.injEq, Value.int.injEq, Value.bool.injEq, AV.own.injEq, AO.row.injEq, AO.box.injEq, List.cons.injEq, AV.agg.injEq, AV.sl.injEq, true_and, and_true, and_self, heq_eq_eq, List.length_nil, List.length_cons, List.map_nil, List.take_zero, Int.natCast_add, Int.cast_ofNat_Int, Int.natCast_zero, List.length_append, List.length_map, List.length_take, Nat.zero_add]) <;> ((repeat' apply And.intro) <;> first | rfl | (simp [daL]; done))) (fun k hk_5 L5 hLoop5 => ?_); obtain ⟨hz1, hz2⟩ := hk_5; have hdl := daL_len (p := p) (q := q) (g := g) (cs := cs) (xs := xs) (l := l) (k := k))
    | ((with_reducible refine seqQ_f ?_); refine hLoop5 (k + 1) _ (by exact ⟨by omega, hkt⟩) (by omega) ?_; (refine Sub.auto (by first | exact frok0 | assumption) rfl rfl ?_ ?_ <;> (try simp only [subE, AS.over2, without, keys, look, List.cons_append, List.nil_append, List.append_nil, List.mem_cons, List.not_mem_nil, or_false, or_true, true_or, false_or, Nat.reduceEqDiff, ↓reduceIte, Option.some.injEq, AV.lit.injEq, Value.int.injEq, Value.bool.injEq, AV.own.injEq, AO.row.injEq, AO.box.injEq, List.cons.injEq, AV.agg.injEq, AV.sl.injEq, true_and, and_true, and_self, heq_eq_eq, List.length_nil, List.length_cons, List.map_nil, List.take_zero, Int.natCast_add, Int.cast_ofNat_Int, Int.natCast_zero, List.length_append, List.length_map, List.length_take, Nat.zero_add]) <;> ((repeat' apply And.intro) <;> first | rfl | omega | exact daL_step | (simp; done))))
    | ((with_reducible refine EndsAt_id ?_); (try subst_vars); (try simp only [PDa, okDb, okDa, daL_len, hL, List.length_cons, List.length_nil, Nat.zero_add, Nat.reduceAdd, Bool.and_true, Bool.and_false, Bool.true_and, Bool.false_and, Bool.and_self, ↓reduceIte, Bool.false_eq_true, Bool.not_true, Bool.not_false, bne]); refine EndsAt.done [_] (by first | exact .inr rfl | exact .inl rfl) rfl rfl ?_ ?_ <;> first | decide | (repeat' (first | rfl | apply And.intro | trivial)))
    | (with_reducible refine AWp.seq ?_)⟩
end Go.Proofs.YtgnnmifpfgpllaaGreat
