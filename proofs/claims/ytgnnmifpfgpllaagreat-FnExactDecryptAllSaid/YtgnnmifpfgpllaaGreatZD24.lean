import Derived.Test.YtgnnmifpfgpllaaGreatZMath4
import Derived.Test.YtgnnmifpfgpllaaGreatZG1
import Derived.Test.YtgnnmifpfgpllaaGreatZD23
/- Lagrange's coefficients on both sides. -/
set_option linter.all false
set_option linter.unusedVariables false
set_option linter.unusedSimpArgs false
namespace Go.Proofs.YtgnnmifpfgpllaaGreat
open Go.RowKit
theorem rootsF_at {q : Int} {xs o : List Int} {k : Nat} (h : k < xs.length) : rootsF q (xs.drop k) o = rootsF q (xs.drop (k + 1)) (mulP q o [(-(xs.getD k 0)) % q, 1]) := by rw [drop_at 0 h]; rfl
theorem rootsF_end {q : Int} {xs o : List Int} : rootsF q (xs.drop xs.length) o = o := by simp [rootsF]
theorem two_bd {q r : Int} (hq : 2 ≤ q) : ∀ x ∈ [(-r) % q, 1], 0 ≤ x ∧ x < q := fun x hx => by
  simp only [List.mem_cons, List.not_mem_nil, or_false] at hx
  rcases hx with rfl | rfl
  · exact emod_bd (by omega)
  · omega
theorem basP_ok {q : Int} (hq : 2 ≤ q) {xs : List Int} {i : Nat} : (basP q xs i).length = (others xs i).length + 1 ∧ ∀ y ∈ basP q xs i, 0 ≤ y ∧ y < q := by
  have h0 := rootsF_ok hq (others xs i) [1] (by simp) (by simp; omega)
  have h1 := mulP_ok hq (f := rootsF q (others xs i) [1]) (g := [M.invm (evL q (xs.getD i 0) (rootsF q (others xs i) [1])) q])
  refine ⟨?_, h1.2⟩
  show (mulP q _ _).length = _
  rw [h1.1, h0.1]; simp; omega
noncomputable def c_fromRoots : Con0 := conF [.int, (.list .int)] fun (⟨q, xs, _⟩ : Int × (List Int) × Unit) => ((2 ≤ q ∧ q ≤ 2000000000) ∧ (∀ x ∈ xs, 0 ≤ x ∧ x ≤ 1000000) ∧ xs.length ≤ 90, .own 0 (rootsF q xs ([1] : List Int)).length, [.row 3 .int (rootsF q xs ([1] : List Int))])
noncomputable def G_fromRoots : List (FuncId × Con) := [(119, mk c_mod), (132, mk c_mulPolys)]
theorem G_fromRoots_ok : ∀ f C, (f, C) ∈ G_fromRoots → C.ok Tryz.prog f := by
  intro f C h
  simp only [G_fromRoots, List.mem_cons, Prod.mk.injEq, List.not_mem_nil, or_false] at h
  rcases h with ⟨rfl, rfl⟩ | ⟨rfl, rfl⟩
  · exact ok_mod
  · exact ok_mulPolys
set_option maxRecDepth 100000 in
set_option maxHeartbeats 4000000 in
theorem ok_fromRoots : (mk c_fromRoots).ok Tryz.prog 131 := okF (Θ := Th) (N := 25) (rs := [.tmp 4]) Th_ok Tryz.func131 (by kernel_rfl) rfl Tryz.results131 (by decide) (by kernel_rfl) fun (⟨q, xs, _⟩ : Int × (List Int) × Unit) => ⟨rfl, rfl, Nat.le_of_ble_eq_true rfl, fun hc w0 => by
  have hL := dmy_eq
  try dsimp only at hc
  try dsimp only
  obtain ⟨⟨hq2, hqM⟩, hxs, hxl⟩ := hc
  refine AWp.body rfl ?_
  repeat' first
    | ((with_reducible refine hK _ _ ?_); clear hK K)
    | ((with_reducible refine hK _ _ (by kernel_rfl) ?_); clear hK K)
    | ((with_reducible refine AWp.pS Th_ok G_fromRoots_ok [0, 1, 4, 5, 7, 9, 10, 11, 12] (by decide) ?_); intro K hK)
    | ((with_reducible refine AWp.dS (by kernel_rfl) Th_ok G_fromRoots_ok [0, 1, 4, 5, 7, 9, 10, 11, 12] ?_); intro K hK)
    | ((with_reducible refine AWp.pE Th_ok G_fromRoots_ok [0, 1, 4, 5, 7, 9, 10, 11, 12] (by decide) ?_); intro K hK)
    | ((with_reducible refine AWp.dE (by kernel_rfl) Th_ok G_fromRoots_ok [0, 1, 4, 5, 7, 9, 10, 11, 12] ?_); intro K hK)
    | ((first | with_reducible refine runF_id ?_ | with_reducible refine stepF_id ?_); simp (maxSteps := 2000000) only [runF, stepF, forkOf, gdOf, List.toList_toArray, stepOp, look, opAV, pureOp, callOp, memOp, AS.ev, AS.get, AS.obj, initS, initFrom, AV.cells, AS.upd, Option.bind_some, Option.bind_none, Option.map_some, Option.map_none, Option.getD_none, Option.getD_some, ↓reduceIte, Nat.reduceEqDiff, Nat.reduceAdd, Nat.reduceMul, Nat.reduceSub, List.nil_append, List.append_nil, List.cons_append, List.map_cons, List.map_nil, true_and, and_true, AS.fin, pick, dedup, List.mem_cons, List.not_mem_nil, or_false, false_or, List.size_toArray, List.length_cons, List.length_nil, loadAV, List.drop_zero, List.drop_succ_cons, List.take_zero, List.take_succ_cons, List.getElem?_cons_zero, List.getElem?_cons_succ, List.head?_cons, List.mapM_cons, List.mapM_nil, Option.bind_eq_bind, Option.pure_def, deeps3, deep3, deep2, deep1, deeps, deeps2, mixInts, AV.plain, mk, mkD, DCon.lift, DCon.runC, ren3, ren2, ren1, numb, List.zipIdx_nil, List.zipIdx_cons, List.all_nil, List.all_cons, Nat.reduceLeDiff, List.range, List.range.loop, Ty.sz, beq_self_eq_true, Bool.and_self, and_self, Ty.ofC, AO.isDead, Nat.reduceLT, if_true, Nat.zero_add, Nat.add_zero, ite_true, Nat.le_refl, Bool.false_eq_true, reduceCtorEq, if_false, ite_false, binAV, AO.ren, AV.isCell, fillAV, List.set_cons_zero, List.set_cons_succ, Ty.cells, Ty.flat, Ty.dflt, List.getD_cons_zero, List.getD_cons_succ, Int.reduceToNat, Int.reduceSub, Int.reduceAdd, Int.reduceMul, Int.reduceNeg, forall_eq_or_imp, forall_eq, gdL, id_eq, Nat.lt_irrefl, srcOf, List.replicate_succ, List.replicate_zero, dite_true, List.isEmpty_cons, Option.isSome_some, List.length_append, List.length_singleton, bne_self_eq_false, Bool.not_true, Bool.not_false, conF, asArgs, asArg, asTy, asI1, asB1, asS1, asL1, canons, canon, Fork.true_, Fork.false_, bne, Bool.not_not, List.length_map, pickO, AS.over, TI.bl, bne_iff_ne, AS.over2, without, keys, List.mem_singleton, memOp2, memOp3, absorb, abInt, abBool, abStr, abList, gones, Int.toNat_natCast, List.take_length, subE, List.nodup_cons, List.nodup_nil, not_false_eq_true, Nat.sub_self, conR, asG, asI, asBo, asStr, asIs, asBs, asE4, asI2, asI3, asLL, asLLL, Th_int, Th_Sint, Th_lawsGroup, Th_string, G_fromRoots, c_mod, c_mulPolys, hL])
    | ((with_reducible refine ens_step ?_ (fun hE => ?_)); · ((repeat' with_reducible apply And.intro) <;> first | with_reducible assumption | omega | exact True.intro | with_reducible rfl | (show ByteArray.size _ ≤ _; decide) | (simp; done) | (simp; omega) | rfl))
    | ((with_reducible refine And.intro ?_ ?_); · ((repeat' with_reducible apply And.intro) <;> first | with_reducible assumption | omega | exact True.intro | with_reducible rfl | (show ByteArray.size _ ≤ _; decide) | (simp; done) | (simp; omega) | rfl))
    | ((with_reducible refine Fork.intro (fun h' => ?_) (fun h' => ?_)) <;> (try simp only [Bool.not_eq_true', Bool.not_eq_false', bne] at h') <;> (replace hL := And.intro h' hL) <;> (try simp only [decide_eq_true_eq, decide_eq_false_iff_not, beq_iff_eq, beq_eq_false_iff_ne, ne_eq] at h') <;> (try (have hxk := hxs _ (getD_in 0 (k := k) (by omega)); have hmd := emod_bd (n := -(xs.getD k 0)) (q := q) (by omega); have htb := two_bd (r := xs.getD k 0) hq2; have hmp := mulP_ok hq2 (f := o) (g := [(-(xs.getD k 0)) % q, 1]); obtain ⟨hml, hmb⟩ := hmp; simp only [List.length_cons, List.length_nil] at hml; rw [rootsF_at (by omega)] at hz2)) <;> (try (have hke : k = xs.length := (by omega); subst hke; rw [rootsF_end] at hz2; subst hz2)))
    | (with_reducible refine AWp.skipS ?_)
    | ((with_reducible refine AWp.condT rfl ?_))
    | ((with_reducible refine AWp.condF rfl ?_))
    | (with_reducible refine AWp.condB rfl ?_)
    | (with_reducible refine AWp.ret ?_)
    | (with_reducible refine seqQ_n ?_)
    | (with_reducible refine seqQ_ret ?_)
    | (with_reducible refine blkQ_ret ?_)
    | (with_reducible refine blkQ_n ?_)
    | (with_reducible refine seqQ_exit ?_)
    | (with_reducible refine blkQ_exit ?_)
    | (with_reducible refine blkQ_other (by decide) ?_)
    | (with_reducible refine AWp.block ?_)
    | (with_reducible refine AWp.exit ?_)
    | (with_reducible refine AWp.skip ?_)
    | ((with_reducible refine loop_id ?_); refine AWp.loopAt 3 rfl ?_; refine AWp.sub (Sub.moved 5 8 300500 (1) (e := 3) (ty := .int) (xs := [1]) rfl rfl rfl (by rfl) rfl (by refine Sub.auto (by first | exact frok0 | assumption) rfl rfl ?_ ?_ <;> (try simp only [subE, AS.over2, without, keys, look, List.cons_append, List.nil_append, List.append_nil, List.mem_cons, List.not_mem_nil, or_false, or_true, true_or, false_or, Nat.reduceEqDiff, ↓reduceIte, Option.some.injEq, AV.lit.injEq, Value.int.injEq, Value.bool.injEq, AV.own.injEq, AO.row.injEq, AO.box.injEq, List.cons.injEq, AV.agg.injEq, AV.sl.injEq, true_and, and_true, and_self, heq_eq_eq, List.length_nil, List.length_cons, List.map_nil, List.take_zero, Int.natCast_add, Int.cast_ofNat_Int, Int.natCast_zero, List.length_append, List.length_map, List.length_take, Nat.zero_add]))) ?_; (try simp only [without, List.mem_singleton, Nat.reduceEqDiff, ↓reduceIte]); refine AWp.loopO [5, 7, 11, 12, 13, 14, 15, 16, 17, 18, 19, 20, 21, 22, 23] (fun z : Nat × List Int => [(11, .lit (.int .i64 (z.1 : Nat))), (5, .own 300500 z.2.length)]) (fun z => [(300500, .row 3 .int z.2)]) (fun z => z.1 ≤ xs.length ∧ rootsF q (xs.drop z.1) z.2 = rootsF q xs ([1] : List Int) ∧ z.2.length = z.1 + 1 ∧ ∀ y ∈ z.2, 0 ≤ y ∧ y < q) (fun z => xs.length - z.1) (0, [1]) (by (try dsimp only); exact ⟨by omega, rfl, rfl, by simp; omega⟩) (by (refine Sub.auto (by first | exact frok0 | assumption) rfl rfl ?_ ?_ <;> (try simp only [subE, AS.over2, without, keys, look, List.cons_append, List.nil_append, List.append_nil, List.mem_cons, List.not_mem_nil, or_false, or_true, true_or, false_or, Nat.reduceEqDiff, ↓reduceIte, Option.some.injEq, AV.lit.injEq, Value.int.injEq, Value.bool.injEq, AV.own.injEq, AO.row.injEq, AO.box.injEq, List.cons.injEq, AV.agg.injEq, AV.sl.injEq, true_and, and_true, and_self, heq_eq_eq, List.length_nil, List.length_cons, List.map_nil, List.take_zero, Int.natCast_add, Int.cast_ofNat_Int, Int.natCast_zero, List.length_append, List.length_map, List.length_take, Nat.zero_add]) <;> (first | done | simp))) (fun z hz3 L3 hLoop3 => ?_); obtain ⟨k, o⟩ := z; (try dsimp only at hz3); obtain ⟨hz1, hz2, hz3, hz4⟩ := hz3)
    | ((with_reducible refine seqQ_f ?_); refine hLoop3 (k + 1, mulP q o [(-(xs.getD k 0)) % q, 1]) _ (by (try dsimp only); exact ⟨by omega, hz2, by omega, hmb⟩) (by (try dsimp only); omega) ?_; (refine Sub.into 5 136 300500 (o.length + 2 - 1) (e := 3) (ty := .int) (xs := mulP q o [(-(xs.getD k 0)) % q, 1]) rfl (by omega) ?_ rfl ?_ <;> (refine Sub.auto (by first | exact frok0 | assumption) rfl rfl ?_ ?_ <;> (try simp only [subE, AS.over2, without, keys, look, List.cons_append, List.nil_append, List.append_nil, List.mem_cons, List.not_mem_nil, or_false, or_true, true_or, false_or, Nat.reduceEqDiff, ↓reduceIte, Option.some.injEq, AV.lit.injEq, Value.int.injEq, Value.bool.injEq, AV.own.injEq, AO.row.injEq, AO.box.injEq, List.cons.injEq, AV.agg.injEq, AV.sl.injEq, true_and, and_true, and_self, heq_eq_eq, List.length_nil, List.length_cons, List.map_nil, List.take_zero, Int.natCast_add, Int.cast_ofNat_Int, Int.natCast_zero, List.length_append, List.length_map, List.length_take, Nat.zero_add]) <;> (first | done | ((repeat' apply And.intro) <;> first | rfl | omega | (simp; done) | (simp; omega))))))
    | ((with_reducible refine EndsAt_id ?_); (try subst_vars); refine EndsAt.done [_] (by first | exact .inr rfl | exact .inl rfl) rfl rfl ?_ ?_ <;> first | decide | (repeat' (first | rfl | apply And.intro | trivial)))
    | (with_reducible refine AWp.seq ?_)⟩
noncomputable def c_basisAt : Con0 := conF [.int, (.list .int), .int] fun (⟨q, xs, i, _⟩ : Int × (List Int) × Int × Unit) => ((2 ≤ q ∧ q ≤ 2000000000) ∧ (∀ x ∈ xs, 0 ≤ x ∧ x ≤ 1000000) ∧ xs.length ≤ 90 ∧ 0 ≤ i ∧ i < xs.length, .own 0 (basP q xs i.toNat).length, [.row 3 .int (basP q xs i.toNat)])
noncomputable def G_basisAt : List (FuncId × Con) := [(130, mk c_Clone), (129, c_w_Delete), (131, mk c_fromRoots), (106, mk c_evalPoly), (133, mk c_inverse), (132, mk c_mulPolys)]
theorem G_basisAt_ok : ∀ f C, (f, C) ∈ G_basisAt → C.ok Tryz.prog f := by
  intro f C h
  simp only [G_basisAt, List.mem_cons, Prod.mk.injEq, List.not_mem_nil, or_false] at h
  rcases h with ⟨rfl, rfl⟩ | ⟨rfl, rfl⟩ | ⟨rfl, rfl⟩ | ⟨rfl, rfl⟩ | ⟨rfl, rfl⟩ | ⟨rfl, rfl⟩
  · exact ok_Clone
  · exact ok_w_Delete
  · exact ok_fromRoots
  · exact ok_evalPoly
  · exact ok_inverse
  · exact ok_mulPolys
set_option maxRecDepth 100000 in
set_option maxHeartbeats 4000000 in
theorem ok_basisAt : (mk c_basisAt).ok Tryz.prog 107 := okF (Θ := Th) (N := 31) (rs := [.tmp 6]) Th_ok Tryz.func107 (by kernel_rfl) rfl Tryz.results107 (by decide) (by kernel_rfl) fun (⟨q, xs, i, _⟩ : Int × (List Int) × Int × Unit) => ⟨rfl, rfl, Nat.le_of_ble_eq_true rfl, fun hc w0 => by
  have hL := dmy_eq
  try dsimp only at hc
  try dsimp only
  obtain ⟨⟨hq2, hqM⟩, hxs, hxl, hi0, hi1⟩ := hc
  have ht1 : (i + 1).toNat = i.toNat + 1 := by omega
  have hoo : xs.take i.toNat ++ xs.drop (i.toNat + 1) = others xs i.toNat := rfl
  have hol := others_len (xs := xs) (i := i.toNat) (by omega)
  have hob : ∀ y ∈ others xs i.toNat, 0 ≤ y ∧ y ≤ 1000000 := fun y hy => hxs y (others_mem hy)
  have hro := rootsF_ok hq2 (others xs i.toNat) [1] (by simp) (by simp; omega)
  obtain ⟨hrl, hrb⟩ := hro
  simp only [List.length_cons, List.length_nil] at hrl
  have hxi := hxs _ (getD_in 0 (k := i.toNat) (by omega))
  have heb := evL_bd (x := xs.getD i.toNat 0) hq2 (rootsF q (others xs i.toNat) [1])
  have hiv := invm_bd (a := (evL q (xs.getD i.toNat 0) (rootsF q (others xs i.toNat) [1]))) hq2
  have hbl := (mulP_ok hq2 (f := rootsF q (others xs i.toNat) [1]) (g := [M.invm (evL q (xs.getD i.toNat 0) (rootsF q (others xs i.toNat) [1])) q])).1
  simp only [List.length_cons, List.length_nil] at hbl
  replace hL := And.intro ht1 (And.intro hoo hL)
  refine AWp.body rfl ?_
  repeat' first
    | ((with_reducible refine hK _ _ ?_); clear hK K)
    | ((with_reducible refine hK _ _ (by kernel_rfl) ?_); clear hK K)
    | ((with_reducible refine AWp.pS Th_ok G_basisAt_ok [0, 1, 2, 6, 7, 8] (by decide) ?_); intro K hK)
    | ((with_reducible refine AWp.dS (by kernel_rfl) Th_ok G_basisAt_ok [0, 1, 2, 6, 7, 8] ?_); intro K hK)
    | ((with_reducible refine AWp.pE Th_ok G_basisAt_ok [0, 1, 2, 6, 7, 8] (by decide) ?_); intro K hK)
    | ((with_reducible refine AWp.dE (by kernel_rfl) Th_ok G_basisAt_ok [0, 1, 2, 6, 7, 8] ?_); intro K hK)
    | ((first | with_reducible refine runF_id ?_ | with_reducible refine stepF_id ?_); simp (maxSteps := 2000000) only [runF, stepF, forkOf, gdOf, List.toList_toArray, stepOp, look, opAV, pureOp, callOp, memOp, AS.ev, AS.get, AS.obj, initS, initFrom, AV.cells, AS.upd, Option.bind_some, Option.bind_none, Option.map_some, Option.map_none, Option.getD_none, Option.getD_some, ↓reduceIte, Nat.reduceEqDiff, Nat.reduceAdd, Nat.reduceMul, Nat.reduceSub, List.nil_append, List.append_nil, List.cons_append, List.map_cons, List.map_nil, true_and, and_true, AS.fin, pick, dedup, List.mem_cons, List.not_mem_nil, or_false, false_or, List.size_toArray, List.length_cons, List.length_nil, loadAV, List.drop_zero, List.drop_succ_cons, List.take_zero, List.take_succ_cons, List.getElem?_cons_zero, List.getElem?_cons_succ, List.head?_cons, List.mapM_cons, List.mapM_nil, Option.bind_eq_bind, Option.pure_def, deeps3, deep3, deep2, deep1, deeps, deeps2, mixInts, AV.plain, mk, mkD, DCon.lift, DCon.runC, ren3, ren2, ren1, numb, List.zipIdx_nil, List.zipIdx_cons, List.all_nil, List.all_cons, Nat.reduceLeDiff, List.range, List.range.loop, Ty.sz, beq_self_eq_true, Bool.and_self, and_self, Ty.ofC, AO.isDead, Nat.reduceLT, if_true, Nat.zero_add, Nat.add_zero, ite_true, Nat.le_refl, Bool.false_eq_true, reduceCtorEq, if_false, ite_false, binAV, AO.ren, AV.isCell, fillAV, List.set_cons_zero, List.set_cons_succ, Ty.cells, Ty.flat, Ty.dflt, List.getD_cons_zero, List.getD_cons_succ, Int.reduceToNat, Int.reduceSub, Int.reduceAdd, Int.reduceMul, Int.reduceNeg, forall_eq_or_imp, forall_eq, gdL, id_eq, Nat.lt_irrefl, srcOf, List.replicate_succ, List.replicate_zero, dite_true, List.isEmpty_cons, Option.isSome_some, List.length_append, List.length_singleton, bne_self_eq_false, Bool.not_true, Bool.not_false, conF, asArgs, asArg, asTy, asI1, asB1, asS1, asL1, canons, canon, Fork.true_, Fork.false_, bne, Bool.not_not, List.length_map, pickO, AS.over, TI.bl, bne_iff_ne, AS.over2, without, keys, List.mem_singleton, memOp2, memOp3, absorb, abInt, abBool, abStr, abList, gones, Int.toNat_natCast, List.take_length, subE, List.nodup_cons, List.nodup_nil, not_false_eq_true, Nat.sub_self, conR, asG, asI, asBo, asStr, asIs, asBs, asE4, asI2, asI3, asLL, asLLL, Th_int, Th_Sint, Th_implEqualLog, Th_implGroup, Th_lawsGroup, Th_string, G_basisAt, c_Clone, c_fromRoots, c_evalPoly, c_inverse, c_mulPolys, c_w_Delete, sel_w_Delete, conM, Con.wr, rowsT, rowsAO, lensR, cntR, mrkR, pair2, List.headD_cons, List.tail_cons, List.nodup_cons, List.nodup_nil, not_false_eq_true, cnt_int, cnt_mrk, mrk_len .int, Con.del, hL])
    | ((with_reducible refine ens_step ?_ (fun hE => ?_)); · ((repeat' with_reducible apply And.intro) <;> first | with_reducible assumption | omega | exact True.intro | with_reducible rfl | (show ByteArray.size _ ≤ _; decide) | (simp; done) | (simp; omega) | rfl))
    | ((with_reducible refine And.intro ?_ ?_); · ((repeat' with_reducible apply And.intro) <;> first | with_reducible assumption | omega | exact True.intro | with_reducible rfl | (show ByteArray.size _ ≤ _; decide) | (simp; done) | (simp; omega) | rfl))
    | ((with_reducible refine Fork.intro (fun h' => ?_) (fun h' => ?_)) <;> (try simp only [Bool.not_eq_true', Bool.not_eq_false', bne] at h') <;> (replace hL := And.intro h' hL) <;> (try simp only [decide_eq_true_eq, decide_eq_false_iff_not, beq_iff_eq, beq_eq_false_iff_ne, ne_eq] at h'))
    | (with_reducible refine AWp.skipS ?_)
    | ((with_reducible refine AWp.condT rfl ?_))
    | ((with_reducible refine AWp.condF rfl ?_))
    | (with_reducible refine AWp.condB rfl ?_)
    | (with_reducible refine AWp.ret ?_)
    | (with_reducible refine seqQ_n ?_)
    | (with_reducible refine seqQ_ret ?_)
    | (with_reducible refine blkQ_ret ?_)
    | (with_reducible refine blkQ_n ?_)
    | (with_reducible refine seqQ_exit ?_)
    | (with_reducible refine blkQ_exit ?_)
    | (with_reducible refine blkQ_other (by decide) ?_)
    | (with_reducible refine AWp.block ?_)
    | (with_reducible refine AWp.exit ?_)
    | (with_reducible refine AWp.skip ?_)
    | ((with_reducible refine EndsAt_id ?_); (try subst_vars); (try simp only [basP, hbl, hL, List.length_cons, List.length_nil, Nat.zero_add, Nat.reduceAdd, Bool.and_true, Bool.and_false, Bool.true_and, Bool.false_and, Bool.and_self, ↓reduceIte, Bool.false_eq_true, Bool.not_true, Bool.not_false, bne]); refine EndsAt.done [_] (by first | exact .inr rfl | exact .inl rfl) rfl rfl ?_ ?_ <;> first | decide | (repeat' (first | rfl | apply And.intro | trivial)))
    | (with_reducible refine AWp.seq ?_)⟩
noncomputable def c_lagrange : Con0 := conF [.int, (.list .int), .int] fun (⟨q, xs, x, _⟩ : Int × (List Int) × Int × Unit) => (PtsOK q xs ∧ (0 ≤ x ∧ x ≤ 7), .own 0 xs.length, [.row 3 .int (lagL q xs x xs.length)])
noncomputable def G_lagrange : List (FuncId × Con) := [(107, mk c_basisAt), (106, mk c_evalPoly)]
theorem G_lagrange_ok : ∀ f C, (f, C) ∈ G_lagrange → C.ok Tryz.prog f := by
  intro f C h
  simp only [G_lagrange, List.mem_cons, Prod.mk.injEq, List.not_mem_nil, or_false] at h
  rcases h with ⟨rfl, rfl⟩ | ⟨rfl, rfl⟩
  · exact ok_basisAt
  · exact ok_evalPoly
set_option maxRecDepth 100000 in
set_option maxHeartbeats 4000000 in
theorem ok_lagrange : (mk c_lagrange).ok Tryz.prog 71 := okF (Θ := Th) (N := 27) (rs := [.tmp 6]) Th_ok Tryz.func71 (by kernel_rfl) rfl Tryz.results71 (by decide) (by kernel_rfl) fun (⟨q, xs, x, _⟩ : Int × (List Int) × Int × Unit) => ⟨rfl, rfl, Nat.le_of_ble_eq_true rfl, fun hc w0 => by
  have hL := dmy_eq
  try dsimp only at hc
  try dsimp only
  obtain ⟨hP, hx⟩ := hc
  have hq7 := hP.big
  have hq2 : 2 ≤ q := by omega
  have hxl := hP.len
  have hxs := hP.bd
  have hxs2 : ∀ y ∈ xs, 0 ≤ y ∧ y ≤ 1000000 := fun y hy => by have := hxs y hy; omega
  refine AWp.body rfl ?_
  repeat' first
    | ((with_reducible refine hK _ _ ?_); clear hK K)
    | ((with_reducible refine hK _ _ (by kernel_rfl) ?_); clear hK K)
    | ((with_reducible refine AWp.pS Th_ok G_lagrange_ok [0, 1, 2, 6, 7, 8, 11, 12, 13] (by decide) ?_); intro K hK)
    | ((with_reducible refine AWp.dS (by kernel_rfl) Th_ok G_lagrange_ok [0, 1, 2, 6, 7, 8, 11, 12, 13] ?_); intro K hK)
    | ((with_reducible refine AWp.pE Th_ok G_lagrange_ok [0, 1, 2, 6, 7, 8, 11, 12, 13] (by decide) ?_); intro K hK)
    | ((with_reducible refine AWp.dE (by kernel_rfl) Th_ok G_lagrange_ok [0, 1, 2, 6, 7, 8, 11, 12, 13] ?_); intro K hK)
    | ((first | with_reducible refine runF_id ?_ | with_reducible refine stepF_id ?_); simp (maxSteps := 2000000) only [runF, stepF, forkOf, gdOf, List.toList_toArray, stepOp, look, opAV, pureOp, callOp, memOp, AS.ev, AS.get, AS.obj, initS, initFrom, AV.cells, AS.upd, Option.bind_some, Option.bind_none, Option.map_some, Option.map_none, Option.getD_none, Option.getD_some, ↓reduceIte, Nat.reduceEqDiff, Nat.reduceAdd, Nat.reduceMul, Nat.reduceSub, List.nil_append, List.append_nil, List.cons_append, List.map_cons, List.map_nil, true_and, and_true, AS.fin, pick, dedup, List.mem_cons, List.not_mem_nil, or_false, false_or, List.size_toArray, List.length_cons, List.length_nil, loadAV, List.drop_zero, List.drop_succ_cons, List.take_zero, List.take_succ_cons, List.getElem?_cons_zero, List.getElem?_cons_succ, List.head?_cons, List.mapM_cons, List.mapM_nil, Option.bind_eq_bind, Option.pure_def, deeps3, deep3, deep2, deep1, deeps, deeps2, mixInts, AV.plain, mk, mkD, DCon.lift, DCon.runC, ren3, ren2, ren1, numb, List.zipIdx_nil, List.zipIdx_cons, List.all_nil, List.all_cons, Nat.reduceLeDiff, List.range, List.range.loop, Ty.sz, beq_self_eq_true, Bool.and_self, and_self, Ty.ofC, AO.isDead, Nat.reduceLT, if_true, Nat.zero_add, Nat.add_zero, ite_true, Nat.le_refl, Bool.false_eq_true, reduceCtorEq, if_false, ite_false, binAV, AO.ren, AV.isCell, fillAV, List.set_cons_zero, List.set_cons_succ, Ty.cells, Ty.flat, Ty.dflt, List.getD_cons_zero, List.getD_cons_succ, Int.reduceToNat, Int.reduceSub, Int.reduceAdd, Int.reduceMul, Int.reduceNeg, forall_eq_or_imp, forall_eq, gdL, id_eq, Nat.lt_irrefl, srcOf, List.replicate_succ, List.replicate_zero, dite_true, List.isEmpty_cons, Option.isSome_some, List.length_append, List.length_singleton, bne_self_eq_false, Bool.not_true, Bool.not_false, conF, asArgs, asArg, asTy, asI1, asB1, asS1, asL1, canons, canon, Fork.true_, Fork.false_, bne, Bool.not_not, List.length_map, pickO, AS.over, TI.bl, bne_iff_ne, AS.over2, without, keys, List.mem_singleton, memOp2, memOp3, absorb, abInt, abBool, abStr, abList, gones, Int.toNat_natCast, List.take_length, subE, List.nodup_cons, List.nodup_nil, not_false_eq_true, Nat.sub_self, conR, asG, asI, asBo, asStr, asIs, asBs, asE4, asI2, asI3, asLL, asLLL, Th_int, Th_Sint, Th_lawsGroup, Th_string, Th_uint, G_lagrange, c_basisAt, c_evalPoly, hL])
    | ((with_reducible refine ens_step ?_ (fun hE => ?_)); · ((repeat' with_reducible apply And.intro) <;> first | with_reducible assumption | omega | exact True.intro | with_reducible rfl | (show ByteArray.size _ ≤ _; decide) | (simp; done) | (simp; omega) | rfl))
    | ((with_reducible refine And.intro ?_ ?_); · ((repeat' with_reducible apply And.intro) <;> first | with_reducible assumption | omega | exact True.intro | with_reducible rfl | (show ByteArray.size _ ≤ _; decide) | (simp; done) | (simp; omega) | rfl))
    | ((with_reducible refine Fork.intro (fun h' => ?_) (fun h' => ?_)) <;> (try simp only [Bool.not_eq_true', Bool.not_eq_false', bne] at h') <;> (replace hL := And.intro h' hL) <;> (try simp only [decide_eq_true_eq, decide_eq_false_iff_not, beq_iff_eq, beq_eq_false_iff_ne, ne_eq] at h') <;> (try (have hbp := basP_ok hq2 (xs := xs) (i := k); obtain ⟨hbl, hbb⟩ := hbp; have hol := others_len (xs := xs) (i := k) (by omega); have hbe := bas_ev (x := x) hq2 (xs := xs) (i := k); replace hL := And.intro hbe hL)) <;> (try (have hke : k = xs.length := (by omega); subst hke)))
    | (with_reducible refine AWp.skipS ?_)
    | ((with_reducible refine AWp.condT rfl ?_))
    | ((with_reducible refine AWp.condF rfl ?_))
    | (with_reducible refine AWp.condB rfl ?_)
    | (with_reducible refine AWp.ret ?_)
    | (with_reducible refine seqQ_n ?_)
    | (with_reducible refine seqQ_ret ?_)
    | (with_reducible refine blkQ_ret ?_)
    | (with_reducible refine blkQ_n ?_)
    | (with_reducible refine seqQ_exit ?_)
    | (with_reducible refine blkQ_exit ?_)
    | (with_reducible refine blkQ_other (by decide) ?_)
    | (with_reducible refine AWp.block ?_)
    | (with_reducible refine AWp.exit ?_)
    | (with_reducible refine AWp.skip ?_)
    | ((with_reducible refine loop_id ?_); refine AWp.loopAt 3 rfl ?_; refine AWp.loopO [7, 8, 12, 13, 14, 15, 16, 17, 18, 19, 20, 21, 22, 23, 24, 25] (fun k => [(12, .lit (.int .i64 (k : Nat))), (7, .own 8 k)]) (fun k => [(8, .row 3 .int (lagL q xs x k))]) (fun k => k ≤ xs.length) (fun k => xs.length - k) 0 (by omega) (by refine Sub.auto (by first | exact frok0 | assumption) rfl rfl ?_ ?_ <;> (try simp only [subE, AS.over2, without, keys, look, List.cons_append, List.nil_append, List.append_nil, List.mem_cons, List.not_mem_nil, or_false, or_true, true_or, false_or, Nat.reduceEqDiff, ↓reduceIte, Option.some.injEq, AV.lit.injEq, Value.int.injEq, Value.bool.injEq, AV.own.injEq, AO.row.injEq, AO.box.injEq, List.cons.injEq, AV.agg.injEq, AV.sl.injEq, true_and, and_true, and_self, heq_eq_eq, List.length_nil, List.length_cons, List.map_nil, List.take_zero, Int.natCast_add, Int.cast_ofNat_Int, Int.natCast_zero, List.length_append, List.length_map, List.length_take, Nat.zero_add]) <;> (simp [lagL])) (fun k hk_3 L3 hLoop3 => ?_); have hll := lagL_len (q := q) (x := x) (xs := xs) (k := k))
    | ((with_reducible refine seqQ_f ?_); refine hLoop3 (k + 1) _ (by omega) (by omega) ?_; (refine Sub.auto (by first | exact frok0 | assumption) rfl rfl ?_ ?_ <;> (try simp only [subE, AS.over2, without, keys, look, List.cons_append, List.nil_append, List.append_nil, List.mem_cons, List.not_mem_nil, or_false, or_true, true_or, false_or, Nat.reduceEqDiff, ↓reduceIte, Option.some.injEq, AV.lit.injEq, Value.int.injEq, Value.bool.injEq, AV.own.injEq, AO.row.injEq, AO.box.injEq, List.cons.injEq, AV.agg.injEq, AV.sl.injEq, true_and, and_true, and_self, heq_eq_eq, List.length_nil, List.length_cons, List.map_nil, List.take_zero, Int.natCast_add, Int.cast_ofNat_Int, Int.natCast_zero, List.length_append, List.length_map, List.length_take, Nat.zero_add]) <;> ((repeat' apply And.intro) <;> first | omega | exact lagL_step | (simp [lagL_len]; done))))
    | ((with_reducible refine EndsAt_id ?_); (try subst_vars); refine EndsAt.done [_] (by first | exact .inr rfl | exact .inl rfl) rfl rfl ?_ ?_ <;> first | decide | (repeat' (first | rfl | apply And.intro | trivial)))
    | (with_reducible refine AWp.seq ?_)⟩
theorem prodG_t {q x : Int} {i j : Nat} {xs : List Int} {u : Int} (h : j < xs.length) (e : (j : Int) = i) : prodG q x i (xs.drop j) j u = prodG q x i (xs.drop (j + 1)) (j + 1) u := by
  rw [drop_at 0 h]; simp only [prodG, if_pos (show j = i by omega)]
theorem prodG_f {q x : Int} {i j : Nat} {xs : List Int} {u : Int} (h : j < xs.length) (e : ¬ (j : Int) = i) : prodG q x i (xs.drop j) j u = prodG q x i (xs.drop (j + 1)) (j + 1) (u * ((x - xs.getD j 0) % q) % q) := by
  rw [drop_at 0 h]; simp only [prodG, if_neg (show ¬ j = i by omega)]
theorem prodG_end {q x : Int} {i k : Nat} {xs : List Int} {u : Int} : prodG q x i (xs.drop xs.length) k u = u := by simp [prodG]
theorem prodG_all {q x : Int} {i : Nat} {xs : List Int} : prodG q x i xs 0 1 = prodF q x (others xs i) 1 := prodG_eq xs 0 1 (Nat.zero_le _)
noncomputable def c_yLagrange : Con0 := conF [.int, (.list .int), .int] fun (⟨q, xs, x, _⟩ : Int × (List Int) × Int × Unit) => (PtsOK q xs ∧ (0 ≤ x ∧ x ≤ 7), .own 0 xs.length, [.row 3 .int (lagL q xs x xs.length)])
noncomputable def G_yLagrange : List (FuncId × Con) := [(115, mk c_nMod), (127, mk c_nInverse)]
theorem G_yLagrange_ok : ∀ f C, (f, C) ∈ G_yLagrange → C.ok Tryz.prog f := by
  intro f C h
  simp only [G_yLagrange, List.mem_cons, Prod.mk.injEq, List.not_mem_nil, or_false] at h
  rcases h with ⟨rfl, rfl⟩ | ⟨rfl, rfl⟩
  · exact ok_nMod
  · exact ok_nInverse
set_option maxRecDepth 100000 in
set_option maxHeartbeats 4000000 in
theorem ok_yLagrange : (mk c_yLagrange).ok Tryz.prog 104 := okF (Θ := Th) (N := 68) (rs := [.tmp 6]) Th_ok Tryz.func104 (by kernel_rfl) rfl Tryz.results104 (by decide) (by kernel_rfl) fun (⟨q, xs, x, _⟩ : Int × (List Int) × Int × Unit) => ⟨rfl, rfl, Nat.le_of_ble_eq_true rfl, fun hc w0 => by
  have hL := dmy_eq
  try dsimp only at hc
  try dsimp only
  obtain ⟨hP, hx⟩ := hc
  have hq7 := hP.big
  have hq2 : 2 ≤ q := by omega
  have hxl := hP.len
  have hxs := hP.bd
  refine AWp.body rfl ?_
  repeat' first
    | ((with_reducible refine hK _ _ ?_); clear hK K)
    | ((with_reducible refine hK _ _ (by kernel_rfl) ?_); clear hK K)
    | ((with_reducible refine AWp.pS Th_ok G_yLagrange_ok [0, 1, 2, 6, 7, 8, 9, 10, 11, 12, 13, 14, 16, 17, 18, 19, 23, 24, 25, 26, 32] (by decide) ?_); intro K hK)
    | ((with_reducible refine AWp.dS (by kernel_rfl) Th_ok G_yLagrange_ok [0, 1, 2, 6, 7, 8, 9, 10, 11, 12, 13, 14, 16, 17, 18, 19, 23, 24, 25, 26, 32] ?_); intro K hK)
    | ((with_reducible refine AWp.pE Th_ok G_yLagrange_ok [0, 1, 2, 6, 7, 8, 9, 10, 11, 12, 13, 14, 16, 17, 18, 19, 23, 24, 25, 26, 32] (by decide) ?_); intro K hK)
    | ((with_reducible refine AWp.dE (by kernel_rfl) Th_ok G_yLagrange_ok [0, 1, 2, 6, 7, 8, 9, 10, 11, 12, 13, 14, 16, 17, 18, 19, 23, 24, 25, 26, 32] ?_); intro K hK)
    | ((first | with_reducible refine runF_id ?_ | with_reducible refine stepF_id ?_); simp (maxSteps := 2000000) only [runF, stepF, forkOf, gdOf, List.toList_toArray, stepOp, look, opAV, pureOp, callOp, memOp, AS.ev, AS.get, AS.obj, initS, initFrom, AV.cells, AS.upd, Option.bind_some, Option.bind_none, Option.map_some, Option.map_none, Option.getD_none, Option.getD_some, ↓reduceIte, Nat.reduceEqDiff, Nat.reduceAdd, Nat.reduceMul, Nat.reduceSub, List.nil_append, List.append_nil, List.cons_append, List.map_cons, List.map_nil, true_and, and_true, AS.fin, pick, dedup, List.mem_cons, List.not_mem_nil, or_false, false_or, List.size_toArray, List.length_cons, List.length_nil, loadAV, List.drop_zero, List.drop_succ_cons, List.take_zero, List.take_succ_cons, List.getElem?_cons_zero, List.getElem?_cons_succ, List.head?_cons, List.mapM_cons, List.mapM_nil, Option.bind_eq_bind, Option.pure_def, deeps3, deep3, deep2, deep1, deeps, deeps2, mixInts, AV.plain, mk, mkD, DCon.lift, DCon.runC, ren3, ren2, ren1, numb, List.zipIdx_nil, List.zipIdx_cons, List.all_nil, List.all_cons, Nat.reduceLeDiff, List.range, List.range.loop, Ty.sz, beq_self_eq_true, Bool.and_self, and_self, Ty.ofC, AO.isDead, Nat.reduceLT, if_true, Nat.zero_add, Nat.add_zero, ite_true, Nat.le_refl, Bool.false_eq_true, reduceCtorEq, if_false, ite_false, binAV, AO.ren, AV.isCell, fillAV, List.set_cons_zero, List.set_cons_succ, Ty.cells, Ty.flat, Ty.dflt, List.getD_cons_zero, List.getD_cons_succ, Int.reduceToNat, Int.reduceSub, Int.reduceAdd, Int.reduceMul, Int.reduceNeg, forall_eq_or_imp, forall_eq, gdL, id_eq, Nat.lt_irrefl, srcOf, List.replicate_succ, List.replicate_zero, dite_true, List.isEmpty_cons, Option.isSome_some, List.length_append, List.length_singleton, bne_self_eq_false, Bool.not_true, Bool.not_false, conF, asArgs, asArg, asTy, asI1, asB1, asS1, asL1, canons, canon, Fork.true_, Fork.false_, bne, Bool.not_not, List.length_map, pickO, AS.over, TI.bl, bne_iff_ne, AS.over2, without, keys, List.mem_singleton, memOp2, memOp3, absorb, abInt, abBool, abStr, abList, gones, Int.toNat_natCast, List.take_length, subE, List.nodup_cons, List.nodup_nil, not_false_eq_true, Nat.sub_self, conR, asG, asI, asBo, asStr, asIs, asBs, asE4, asI2, asI3, asLL, asLLL, Th_int, Th_Sint, Th_implEqualLog, Th_implGroup, Th_lawsGroup, Th_string, G_yLagrange, c_nMod, c_nInverse, hL])
    | ((with_reducible refine ens_step ?_ (fun hE => ?_)); · ((repeat' with_reducible apply And.intro) <;> first | with_reducible assumption | omega | exact True.intro | with_reducible rfl | (show ByteArray.size _ ≤ _; decide) | (simp; done) | (simp; omega) | rfl))
    | ((with_reducible refine And.intro ?_ ?_); · ((repeat' with_reducible apply And.intro) <;> first | with_reducible assumption | omega | exact True.intro | with_reducible rfl | (show ByteArray.size _ ≤ _; decide) | (simp; done) | (simp; omega) | rfl))
    | ((with_reducible refine Fork.intro (fun h' => ?_) (fun h' => ?_)) <;> (try simp only [Bool.not_eq_true', Bool.not_eq_false', bne] at h') <;> (replace hL := And.intro h' hL) <;> (try simp only [decide_eq_true_eq, decide_eq_false_iff_not, beq_iff_eq, beq_eq_false_iff_ne, ne_eq] at h') <;> (try (have hxk := hxs _ (getD_in 0 (k := k) (by omega)); have hnz := hP.nz (i := k) (by omega); have hpr := hP.pr; have hub := prodF_bd (x := x) hq2 (others xs k) 1 (by omega); have hvb := prodF_bd (x := xs.getD k 0) hq2 (others xs k) 1 (by omega); have hmv := Int.emod_eq_of_lt hvb.1 hvb.2; have hiv := invm_bd (a := prodF q (xs.getD k 0) (others xs k) 1) hq2; have hmb := mul_bd (a := prodF q x (others xs k) 1) (b := M.invm (prodF q (xs.getD k 0) (others xs k) 1) q) (by omega) (by omega); rw [hmv] at hnz; replace hL := And.intro hmv hL)) <;> (try (have hke : k = xs.length := (by omega); subst hke)) <;> (try (have hxj := hxs _ (getD_in 0 (k := j) (by omega)); have hxj2 : -7 ≤ xs.getD j 0 ∧ xs.getD j 0 ≤ 7 := (by omega))) <;> (try (have hje : j = xs.length := (by omega); subst hje; rw [prodG_end, prodG_all] at hy2 hy3; subst hy2 hy3)) <;> (try (rw [prodG_t (by omega) h'] at hy2 hy3)) <;> (try (rw [prodG_f (by omega) h'] at hy2 hy3; have h1 := emod_bd (n := x - xs.getD j 0) (q := q) (by omega); have h2 := emod_bd (n := xs.getD k 0 - xs.getD j 0) (q := q) (by omega); have h3 := mul_bd (a := up) (b := (x - xs.getD j 0) % q) (by omega) (by omega); have h4 := mul_bd (a := dn) (b := (xs.getD k 0 - xs.getD j 0) % q) (by omega) (by omega); have h5 := emod_bd (n := up * ((x - xs.getD j 0) % q)) (q := q) (by omega); have h6 := emod_bd (n := dn * ((xs.getD k 0 - xs.getD j 0) % q)) (q := q) (by omega))))
    | (with_reducible refine AWp.skipS ?_)
    | ((with_reducible refine AWp.condT rfl ?_))
    | ((with_reducible refine AWp.condF rfl ?_))
    | (with_reducible refine AWp.condB rfl ?_)
    | (with_reducible refine AWp.ret ?_)
    | (with_reducible refine seqQ_n ?_)
    | (with_reducible refine seqQ_ret ?_)
    | (with_reducible refine blkQ_ret ?_)
    | (with_reducible refine blkQ_n ?_)
    | (with_reducible refine seqQ_exit ?_)
    | (with_reducible refine blkQ_exit ?_)
    | (with_reducible refine blkQ_other (by decide) ?_)
    | (with_reducible refine AWp.block ?_)
    | (with_reducible refine AWp.exit ?_)
    | (with_reducible refine AWp.skip ?_)
    | ((with_reducible refine loop_id ?_); refine AWp.loopAt 3 rfl ?_; refine AWp.sub (Sub.nilSlot 7 300007 3 .int rfl rfl) ?_; refine AWp.loopO [7, 8, 9, 10, 11, 12, 13, 14, 15, 18, 19, 20, 21, 22, 23, 24, 25, 26, 27, 28, 29, 30, 31, 32, 33, 34, 35, 36, 37, 38, 39, 40, 41, 42, 43, 44, 45, 46, 47, 48, 49, 50, 51, 52, 53, 54, 55, 56, 57, 58, 59, 60, 61, 62, 63, 64, 65, 66] (fun k => [(18, .lit (.int .i64 (k : Nat))), (7, .own 300007 k)]) (fun k => [(300007, .row 3 .int (lagL q xs x k))]) (fun k => k ≤ xs.length) (fun k => xs.length - k) 0 (by omega) (by refine Sub.auto (by first | exact frok0 | assumption) rfl rfl ?_ ?_ <;> (try simp only [subE, AS.over2, without, keys, look, List.cons_append, List.nil_append, List.append_nil, List.mem_cons, List.not_mem_nil, or_false, or_true, true_or, false_or, Nat.reduceEqDiff, ↓reduceIte, Option.some.injEq, AV.lit.injEq, Value.int.injEq, Value.bool.injEq, AV.own.injEq, AO.row.injEq, AO.box.injEq, List.cons.injEq, AV.agg.injEq, AV.sl.injEq, true_and, and_true, and_self, heq_eq_eq, List.length_nil, List.length_cons, List.map_nil, List.take_zero, Int.natCast_add, Int.cast_ofNat_Int, Int.natCast_zero, List.length_append, List.length_map, List.length_take, Nat.zero_add]) <;> (simp [lagL])) (fun k hk_3 L3 hLoop3 => ?_); have hll := lagL_len (q := q) (x := x) (xs := xs) (k := k))
    | ((with_reducible refine seqQ_f ?_); refine hLoop3 (k + 1) _ (by omega) (by omega) ?_; (refine Sub.auto (by first | exact frok0 | assumption) rfl rfl ?_ ?_ <;> (try simp only [subE, AS.over2, without, keys, look, List.cons_append, List.nil_append, List.append_nil, List.mem_cons, List.not_mem_nil, or_false, or_true, true_or, false_or, Nat.reduceEqDiff, ↓reduceIte, Option.some.injEq, AV.lit.injEq, Value.int.injEq, Value.bool.injEq, AV.own.injEq, AO.row.injEq, AO.box.injEq, List.cons.injEq, AV.agg.injEq, AV.sl.injEq, true_and, and_true, and_self, heq_eq_eq, List.length_nil, List.length_cons, List.map_nil, List.take_zero, Int.natCast_add, Int.cast_ofNat_Int, Int.natCast_zero, List.length_append, List.length_map, List.length_take, Nat.zero_add]) <;> ((repeat' apply And.intro) <;> first | omega | exact lagL_step | (simp [lagL_len]; done))))
    | ((with_reducible refine loop_id ?_); refine AWp.loopAt 7 rfl ?_; refine AWp.loopO [10, 11, 12, 13, 25, 26, 27, 28, 29, 30, 31, 32, 33, 34, 35, 36, 37, 38, 39, 40, 41, 42, 43, 44, 45, 46, 47, 48, 49, 50, 51] (fun z : Nat × Int × Int => [(25, .lit (.int .i64 (z.1 : Nat))), (10, .lit (.int .i64 z.2.1)), (11, .lit (.int .i64 z.2.2))]) (fun z => []) (fun z => z.1 ≤ xs.length ∧ prodG q x k (xs.drop z.1) z.1 z.2.1 = prodG q x k xs 0 1 ∧ prodG q (xs.getD k 0) k (xs.drop z.1) z.1 z.2.2 = prodG q (xs.getD k 0) k xs 0 1 ∧ (0 ≤ z.2.1 ∧ z.2.1 < q) ∧ (0 ≤ z.2.2 ∧ z.2.2 < q)) (fun z => xs.length - z.1) (0, 1, 1) (by (try dsimp only); exact ⟨by omega, rfl, rfl, by omega, by omega⟩) (by (refine Sub.auto (by first | exact frok0 | assumption) rfl rfl ?_ ?_ <;> (try simp only [subE, AS.over2, without, keys, look, List.cons_append, List.nil_append, List.append_nil, List.mem_cons, List.not_mem_nil, or_false, or_true, true_or, false_or, Nat.reduceEqDiff, ↓reduceIte, Option.some.injEq, AV.lit.injEq, Value.int.injEq, Value.bool.injEq, AV.own.injEq, AO.row.injEq, AO.box.injEq, List.cons.injEq, AV.agg.injEq, AV.sl.injEq, true_and, and_true, and_self, heq_eq_eq, List.length_nil, List.length_cons, List.map_nil, List.take_zero, Int.natCast_add, Int.cast_ofNat_Int, Int.natCast_zero, List.length_append, List.length_map, List.length_take, Nat.zero_add]) <;> (simp))) (fun z hz7 L7 hLoop7 => ?_); obtain ⟨j, up, dn⟩ := z; (try dsimp only at hz7); obtain ⟨hy1, hy2, hy3, hy4, hy5⟩ := hz7)
    | ((with_reducible refine seqQ_f ?_); refine hLoop7 (j + 1, _, _) _ (by (try dsimp only); first | exact ⟨by omega, hy2, hy3, by omega, by omega⟩) (by (try dsimp only); omega) ?_; ((refine Sub.auto (by first | exact frok0 | assumption) rfl rfl ?_ ?_ <;> (try simp only [subE, AS.over2, without, keys, look, List.cons_append, List.nil_append, List.append_nil, List.mem_cons, List.not_mem_nil, or_false, or_true, true_or, false_or, Nat.reduceEqDiff, ↓reduceIte, Option.some.injEq, AV.lit.injEq, Value.int.injEq, Value.bool.injEq, AV.own.injEq, AO.row.injEq, AO.box.injEq, List.cons.injEq, AV.agg.injEq, AV.sl.injEq, true_and, and_true, and_self, heq_eq_eq, List.length_nil, List.length_cons, List.map_nil, List.take_zero, Int.natCast_add, Int.cast_ofNat_Int, Int.natCast_zero, List.length_append, List.length_map, List.length_take, Nat.zero_add]) <;> ((repeat' apply And.intro) <;> first | rfl | omega))))
    | ((with_reducible refine EndsAt_id ?_); (try subst_vars); refine EndsAt.done [_] (by first | exact .inr rfl | exact .inl rfl) rfl rfl ?_ ?_ <;> first | decide | (repeat' (first | rfl | apply And.intro | trivial)))
    | (with_reducible refine AWp.seq ?_)⟩
end Go.Proofs.YtgnnmifpfgpllaaGreat
