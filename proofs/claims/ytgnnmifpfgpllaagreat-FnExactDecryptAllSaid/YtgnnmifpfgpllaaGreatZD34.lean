import Derived.Test.YtgnnmifpfgpllaaGreatZD33
import Derived.Test.YtgnnmifpfgpllaaGreatZD25
/- Good partial decryptions. -/
set_option linter.all false
set_option linter.unusedVariables false
set_option linter.unusedSimpArgs false
namespace Go.Proofs.YtgnnmifpfgpllaaGreat
open Go.RowKit
/-- the partials that are good, and whose -/
noncomputable def gd (F : (Int × Int × List Int × List Int × List Int) → Bool) (l : List (Int × Int × List Int × List Int × List Int)) : Nat → List Int × List Int
  | 0 => ([], [])
  | k + 1 => if hasN (l.getD k ((0 : Int), (0 : Int), ([] : List Int), ([] : List Int), ([] : List Int))).1 (gd F l k).2 = false ∧ F (l.getD k ((0 : Int), (0 : Int), ([] : List Int), ([] : List Int), ([] : List Int))) = true then ((gd F l k).1 ++ [(k : Int)], (gd F l k).2 ++ [(l.getD k ((0 : Int), (0 : Int), ([] : List Int), ([] : List Int), ([] : List Int))).1]) else gd F l k
section
variable {F : (Int × Int × List Int × List Int × List Int) → Bool} {l : List (Int × Int × List Int × List Int × List Int)} {k : Nat}
theorem gd_y (h1 : hasN (l.getD k ((0 : Int), (0 : Int), ([] : List Int), ([] : List Int), ([] : List Int))).1 (gd F l k).2 = false) (h2 : F (l.getD k ((0 : Int), (0 : Int), ([] : List Int), ([] : List Int), ([] : List Int))) = true) : ((gd F l k).1 ++ [(k : Int)] = (gd F l (k + 1)).1 ∧ (gd F l (k + 1)).1.length = (gd F l k).1.length + 1) ∧ (gd F l k).2 ++ [(l.getD k ((0 : Int), (0 : Int), ([] : List Int), ([] : List Int), ([] : List Int))).1] = (gd F l (k + 1)).2 ∧ (gd F l (k + 1)).2.length = (gd F l k).2.length + 1 := by
  rw [gd, if_pos ⟨h1, h2⟩]; simp
theorem gd_n1 (h1 : hasN (l.getD k ((0 : Int), (0 : Int), ([] : List Int), ([] : List Int), ([] : List Int))).1 (gd F l k).2 = true) : gd F l (k + 1) = gd F l k := by
  rw [gd, if_neg (fun h => by rw [h1] at h; cases h.1)]
theorem gd_n2 (h1 : F (l.getD k ((0 : Int), (0 : Int), ([] : List Int), ([] : List Int), ([] : List Int))) = false) : gd F l (k + 1) = gd F l k := by
  rw [gd, if_neg (fun h => by rw [h1] at h; cases h.2)]
theorem gd_len : ∀ k : Nat, (gd F l k).1.length ≤ k ∧ (gd F l k).2.length ≤ k
  | 0 => by simp [gd]
  | k + 1 => by
    have := gd_len k
    rw [gd]; split
    · simp only [List.length_append, List.length_cons, List.length_nil]; omega
    · omega
end
noncomputable def ipF (p q g : Int) (cs : List Int) (u : Int) (d : (Int × Int × List Int × List Int × List Int)) : Bool := iptB p q g cs u d.1 d.2.1 d.2.2.1 d.2.2.2.1 d.2.2.2.2
noncomputable def gdP (p q g : Int) (cs : List Int) (u : Int) (l : List (Int × Int × List Int × List Int × List Int)) (k : Nat) : List Int × List Int := gd (ipF p q g cs u) l k
noncomputable def okGp (p q g : Int) (cs : List Int) (u v : Int) (l : List (Int × Int × List Int × List Int × List Int)) : Bool := okDc p q g cs u v && !decide (14 < (l.length : Int))
theorem gp_use {p q g : Int} {cs : List Int} {u v : Int} {l : List (Int × Int × List Int × List Int × List Int)} (h : (okDc p q g cs u v && !decide (14 < (l.length : Int))) = true) : okDc p q g cs u v = true ∧ l.length ≤ 14 := by
  simp only [Bool.and_eq_true, Bool.not_eq_true', decide_eq_false_iff_not] at h
  exact ⟨h.1, by omega⟩
noncomputable def PGp (p q g : Int) (cs : List Int) (u v : Int) (l : List (Int × Int × List Int × List Int × List Int)) : List Int := if okGp p q g cs u v l = true then (gdP p q g cs u l l.length).1 else []
noncomputable def c_good_ : Con0 := conF [(.pair .int (.pair .int .int)), (.list .int), (.pair .int .int), (.list (.pair .int (.pair .int (.pair (.list .int) (.pair (.list .int) (.list .int))))))] fun (⟨⟨p, q, g⟩, cs, ⟨u, v⟩, l, _⟩ : (Int × Int × Int) × (List Int) × (Int × Int) × (List (Int × Int × (List Int) × (List Int) × (List Int))) × Unit) => (M.Grp p q g ∧ (0 ≤ u ∧ u < p) ∧ (∀ c ∈ cs, 0 ≤ c ∧ c < p) ∧ cs.length ≤ 7 ∧ l.length ≤ 14, .own 0 (gdP p q g cs u l l.length).1.length, [.row 3 .int (gdP p q g cs u l l.length).1])
noncomputable def G_good_ : List (FuncId × Con) := [(128, mk c_Contains), (38, mk c_isPartial)]
theorem G_good__ok : ∀ f C, (f, C) ∈ G_good_ → C.ok Tryz.prog f := by
  intro f C h
  simp only [G_good_, List.mem_cons, Prod.mk.injEq, List.not_mem_nil, or_false] at h
  rcases h with ⟨rfl, rfl⟩ | ⟨rfl, rfl⟩
  · exact ok_Contains
  · exact ok_isPartial
set_option maxRecDepth 100000 in
set_option maxHeartbeats 4000000 in
theorem ok_good_ : (mk c_good_).ok Tryz.prog 105 := okF (Θ := Th) (N := 45) (rs := [.tmp 8]) Th_ok Tryz.func105 (by kernel_rfl) rfl Tryz.results105 (by decide) (by kernel_rfl) fun (⟨⟨p, q, g⟩, cs, ⟨u, v⟩, l, _⟩ : (Int × Int × Int) × (List Int) × (Int × Int) × (List (Int × Int × (List Int) × (List Int) × (List Int))) × Unit) => ⟨rfl, rfl, Nat.le_of_ble_eq_true rfl, fun hc w0 => by
  have hL := dmy_eq
  try dsimp only at hc
  try dsimp only
  obtain ⟨hG, hu, hcs, hcl, hll⟩ := hc
  have hq2 := hG.q2
  have hqp := hG.qp
  have hp3 := hG.p3
  have hpM := hG.pM
  have hgb : 0 ≤ g ∧ g < p := ⟨by have := hG.g2; omega, hG.gp⟩
  refine AWp.body rfl ?_
  repeat' first
    | ((with_reducible refine hK _ _ ?_); clear hK K)
    | ((with_reducible refine hK _ _ (by kernel_rfl) ?_); clear hK K)
    | ((with_reducible refine AWp.pS Th_ok G_good__ok [0, 1, 2, 3, 4, 6, 8, 9, 10, 11, 12, 15, 16, 17, 18, 33] (by decide) ?_); intro K hK)
    | ((with_reducible refine AWp.dS (by kernel_rfl) Th_ok G_good__ok [0, 1, 2, 3, 4, 6, 8, 9, 10, 11, 12, 15, 16, 17, 18, 33] ?_); intro K hK)
    | ((with_reducible refine AWp.pE Th_ok G_good__ok [0, 1, 2, 3, 4, 6, 8, 9, 10, 11, 12, 15, 16, 17, 18, 33] (by decide) ?_); intro K hK)
    | ((with_reducible refine AWp.dE (by kernel_rfl) Th_ok G_good__ok [0, 1, 2, 3, 4, 6, 8, 9, 10, 11, 12, 15, 16, 17, 18, 33] ?_); intro K hK)
    | ((first | with_reducible refine runF_id ?_ | with_reducible refine stepF_id ?_); simp (maxSteps := 2000000) only [runF, stepF, forkOf, gdOf, List.toList_toArray, stepOp, look, opAV, pureOp, callOp, memOp, AS.ev, AS.get, AS.obj, initS, initFrom, AV.cells, AS.upd, Option.bind_some, Option.bind_none, Option.map_some, Option.map_none, Option.getD_none, Option.getD_some, ↓reduceIte, Nat.reduceEqDiff, Nat.reduceAdd, Nat.reduceMul, Nat.reduceSub, List.nil_append, List.append_nil, List.cons_append, List.map_cons, List.map_nil, true_and, and_true, AS.fin, pick, dedup, List.mem_cons, List.not_mem_nil, or_false, false_or, List.size_toArray, List.length_cons, List.length_nil, loadAV, List.drop_zero, List.drop_succ_cons, List.take_zero, List.take_succ_cons, List.getElem?_cons_zero, List.getElem?_cons_succ, List.head?_cons, List.mapM_cons, List.mapM_nil, Option.bind_eq_bind, Option.pure_def, deeps3, deep3, deep2, deep1, deeps, deeps2, mixInts, AV.plain, mk, mkD, DCon.lift, DCon.runC, ren3, ren2, ren1, numb, List.zipIdx_nil, List.zipIdx_cons, List.all_nil, List.all_cons, Nat.reduceLeDiff, List.range, List.range.loop, Ty.sz, beq_self_eq_true, Bool.and_self, and_self, Ty.ofC, AO.isDead, Nat.reduceLT, if_true, Nat.zero_add, Nat.add_zero, ite_true, Nat.le_refl, Bool.false_eq_true, reduceCtorEq, if_false, ite_false, binAV, AO.ren, AV.isCell, fillAV, List.set_cons_zero, List.set_cons_succ, Ty.cells, Ty.flat, Ty.dflt, List.getD_cons_zero, List.getD_cons_succ, Int.reduceToNat, Int.reduceSub, Int.reduceAdd, Int.reduceMul, Int.reduceNeg, forall_eq_or_imp, forall_eq, gdL, id_eq, Nat.lt_irrefl, srcOf, List.replicate_succ, List.replicate_zero, dite_true, List.isEmpty_cons, Option.isSome_some, List.length_append, List.length_singleton, bne_self_eq_false, Bool.not_true, Bool.not_false, conF, asArgs, asArg, asTy, asI1, asB1, asS1, asL1, canons, canon, Fork.true_, Fork.false_, bne, Bool.not_not, List.length_map, pickO, AS.over, TI.bl, bne_iff_ne, AS.over2, without, keys, List.mem_singleton, memOp2, memOp3, absorb, abInt, abBool, abStr, abList, gones, Int.toNat_natCast, List.take_length, subE, List.nodup_cons, List.nodup_nil, not_false_eq_true, Nat.sub_self, conR, asG, asI, asBo, asStr, asIs, asBs, asE4, asI2, asI3, asLL, asLLL, Th_int, Th_SSint, Th_Sint, Th_bool, Th_implCipher, Th_implGroup, Th_implPartial, Th_implSPartial, Th_lawsGroup, Th_string, G_good_, c_Contains, c_isPartial, hL])
    | ((with_reducible refine ens_step ?_ (fun hE => ?_)); · ((repeat' with_reducible apply And.intro) <;> first | with_reducible assumption | omega | exact True.intro | with_reducible rfl | (show ByteArray.size _ ≤ _; decide) | (simp; done) | (simp; omega) | rfl))
    | ((with_reducible refine And.intro ?_ ?_); · ((repeat' with_reducible apply And.intro) <;> first | with_reducible assumption | omega | exact True.intro | with_reducible rfl | (show ByteArray.size _ ≤ _; decide) | (simp; done) | (simp; omega) | rfl))
    | ((with_reducible refine Fork.intro (fun h' => ?_) (fun h' => ?_)) <;> (try simp only [Bool.not_eq_true', Bool.not_eq_false', bne] at h') <;> (replace hL := And.intro h' hL) <;> (try simp only [decide_eq_true_eq, decide_eq_false_iff_not, beq_iff_eq, beq_eq_false_iff_ne, ne_eq] at h') <;> (try (have hgn := gd_n1 (F := ipF p q g cs u) (l := l) (k := k) h'; have hg1 : gdP p q g cs u l (k + 1) = gdP p q g cs u l k := hgn)) <;> (try (have hgn := gd_n2 (F := ipF p q g cs u) (l := l) (k := k) h'; have hg1 : gdP p q g cs u l (k + 1) = gdP p q g cs u l k := hgn)) <;> (try (have hha : hasN (l.getD k ((0 : Int), (0 : Int), ([] : List Int), ([] : List Int), ([] : List Int))).1 (gdP p q g cs u l k).2 = false := h')) <;> (try (have hgy := gd_y (F := ipF p q g cs u) (l := l) (k := k) hha h'; obtain ⟨⟨hy1, hy2⟩, hy3, hy4⟩ := hgy; replace hy1 : (gdP p q g cs u l k).1 ++ [(k : Int)] = (gdP p q g cs u l (k + 1)).1 := hy1; replace hy3 : (gdP p q g cs u l k).2 ++ [(l.getD k ((0 : Int), (0 : Int), ([] : List Int), ([] : List Int), ([] : List Int))).1] = (gdP p q g cs u l (k + 1)).2 := hy3; replace hy2 : (gdP p q g cs u l (k + 1)).1.length = (gdP p q g cs u l k).1.length + 1 := hy2; replace hy4 : (gdP p q g cs u l (k + 1)).2.length = (gdP p q g cs u l k).2.length + 1 := hy4)) <;> (try (have hke : k = l.length := (by omega); subst hke)))
    | (with_reducible refine AWp.skipS ?_)
    | ((with_reducible refine AWp.condT rfl ?_))
    | ((with_reducible refine AWp.condF rfl ?_))
    | (with_reducible refine AWp.condB rfl ?_)
    | (with_reducible refine AWp.ret ?_)
    | (with_reducible refine seqQ_n ?_)
    | (with_reducible refine seqQ_ret ?_)
    | (with_reducible refine blkQ_ret ?_)
    | (with_reducible refine blkQ_n ?_)
    | (with_reducible refine seqQ_exit ?_)
    | (with_reducible refine blkQ_exit ?_)
    | (with_reducible refine blkQ_other (by decide) ?_)
    | (with_reducible refine AWp.block ?_)
    | (with_reducible refine AWp.exit ?_)
    | (with_reducible refine AWp.skip ?_)
    | ((with_reducible refine loop_id ?_); refine AWp.loopAt 3 rfl ?_; refine AWp.loopO [9, 10, 11, 12, 17, 18, 19, 20, 21, 22, 23, 24, 25, 26, 27, 28, 29, 30, 31, 32, 33, 34, 35, 36, 37, 38, 39, 40, 41, 42, 43] (fun k => [(17, .lit (.int .i64 (k : Nat))), (9, .own 24 (gdP p q g cs u l k).1.length), (10, .own 32 (gdP p q g cs u l k).2.length)]) (fun k => [(24, .row 3 .int (gdP p q g cs u l k).1), (32, .row 3 .int (gdP p q g cs u l k).2)]) (fun k => k ≤ l.length) (fun k => l.length - k) 0 (by omega) (by refine Sub.auto (by first | exact frok0 | assumption) rfl rfl ?_ ?_ <;> (try simp only [subE, AS.over2, without, keys, look, List.cons_append, List.nil_append, List.append_nil, List.mem_cons, List.not_mem_nil, or_false, or_true, true_or, false_or, Nat.reduceEqDiff, ↓reduceIte, Option.some.injEq, AV.lit.injEq, Value.int.injEq, Value.bool.injEq, AV.own.injEq, AO.row.injEq, AO.box.injEq, List.cons.injEq, AV.agg.injEq, AV.sl.injEq, true_and, and_true, and_self, heq_eq_eq, List.length_nil, List.length_cons, List.map_nil, List.take_zero, Int.natCast_add, Int.cast_ofNat_Int, Int.natCast_zero, List.length_append, List.length_map, List.length_take, Nat.zero_add]) <;> ((repeat' apply And.intro) <;> first | rfl | (simp [gdP, gd]; done))) (fun k hk_3 L3 hLoop3 => ?_); have hgl := gd_len (F := ipF p q g cs u) (l := l) k; obtain ⟨hgl1, hgl2⟩ := hgl; replace hgl1 : (gdP p q g cs u l k).1.length ≤ k := hgl1; replace hgl2 : (gdP p q g cs u l k).2.length ≤ k := hgl2)
    | ((with_reducible refine seqQ_f ?_); refine hLoop3 (k + 1) _ (by omega) (by omega) ?_; (refine Sub.auto (by first | exact frok0 | assumption) rfl rfl ?_ ?_ <;> (try simp only [subE, AS.over2, without, keys, look, List.cons_append, List.nil_append, List.append_nil, List.mem_cons, List.not_mem_nil, or_false, or_true, true_or, false_or, Nat.reduceEqDiff, ↓reduceIte, Option.some.injEq, AV.lit.injEq, Value.int.injEq, Value.bool.injEq, AV.own.injEq, AO.row.injEq, AO.box.injEq, List.cons.injEq, AV.agg.injEq, AV.sl.injEq, true_and, and_true, and_self, heq_eq_eq, List.length_nil, List.length_cons, List.map_nil, List.take_zero, Int.natCast_add, Int.cast_ofNat_Int, Int.natCast_zero, List.length_append, List.length_map, List.length_take, Nat.zero_add]) <;> (first | (rw [hg1]; (repeat' apply And.intro) <;> first | rfl | omega) | ((repeat' apply And.intro) <;> first | rfl | omega | exact hy1 | exact hy3))))
    | ((with_reducible refine EndsAt_id ?_); (try subst_vars); (try simp only [id_eq, hL, List.length_cons, List.length_nil, Nat.zero_add, Nat.reduceAdd, Bool.and_true, Bool.and_false, Bool.true_and, Bool.false_and, Bool.and_self, ↓reduceIte, Bool.false_eq_true, Bool.not_true, Bool.not_false, bne]); refine EndsAt.done [_] (by first | exact .inr rfl | exact .inl rfl) rfl rfl ?_ ?_ <;> first | decide | (repeat' (first | rfl | apply And.intro | trivial)))
    | (with_reducible refine AWp.seq ?_)⟩
noncomputable def c_tGood : Con0 := conF [(.pair .int (.pair .int .int)), (.list .int), (.pair .int .int), (.list (.pair .int (.pair .int (.pair (.list .int) (.pair (.list .int) (.list .int))))))] fun (⟨⟨p, q, g⟩, cs, ⟨u, v⟩, l, _⟩ : (Int × Int × Int) × (List Int) × (Int × Int) × (List (Int × Int × (List Int) × (List Int) × (List Int))) × Unit) => (M.Grp p q g ∧ (0 ≤ u ∧ u < p) ∧ (∀ c ∈ cs, 0 ≤ c ∧ c < p) ∧ cs.length ≤ 7 ∧ l.length ≤ 14, .own 0 (gdP p q g cs u l l.length).1.length, [.row 3 .int (gdP p q g cs u l l.length).1])
noncomputable def G_tGood : List (FuncId × Con) := [(126, mk c_l1Has), (33, mk c_tVerify)]
theorem G_tGood_ok : ∀ f C, (f, C) ∈ G_tGood → C.ok Tryz.prog f := by
  intro f C h
  simp only [G_tGood, List.mem_cons, Prod.mk.injEq, List.not_mem_nil, or_false] at h
  rcases h with ⟨rfl, rfl⟩ | ⟨rfl, rfl⟩
  · exact ok_l1Has
  · exact ok_tVerify
set_option maxRecDepth 100000 in
set_option maxHeartbeats 4000000 in
theorem ok_tGood : (mk c_tGood).ok Tryz.prog 101 := okF (Θ := Th) (N := 43) (rs := [.tmp 8]) Th_ok Tryz.func101 (by kernel_rfl) rfl Tryz.results101 (by decide) (by kernel_rfl) fun (⟨⟨p, q, g⟩, cs, ⟨u, v⟩, l, _⟩ : (Int × Int × Int) × (List Int) × (Int × Int) × (List (Int × Int × (List Int) × (List Int) × (List Int))) × Unit) => ⟨rfl, rfl, Nat.le_of_ble_eq_true rfl, fun hc w0 => by
  have hL := dmy_eq
  try dsimp only at hc
  try dsimp only
  obtain ⟨hG, hu, hcs, hcl, hll⟩ := hc
  have hq2 := hG.q2
  have hqp := hG.qp
  have hp3 := hG.p3
  have hpM := hG.pM
  have hgb : 0 ≤ g ∧ g < p := ⟨by have := hG.g2; omega, hG.gp⟩
  refine AWp.body rfl ?_
  repeat' first
    | ((with_reducible refine hK _ _ ?_); clear hK K)
    | ((with_reducible refine hK _ _ (by kernel_rfl) ?_); clear hK K)
    | ((with_reducible refine AWp.pS Th_ok G_tGood_ok [0, 1, 2, 3, 4, 6, 8, 9, 10, 11, 12, 13, 14, 15, 16, 31] (by decide) ?_); intro K hK)
    | ((with_reducible refine AWp.dS (by kernel_rfl) Th_ok G_tGood_ok [0, 1, 2, 3, 4, 6, 8, 9, 10, 11, 12, 13, 14, 15, 16, 31] ?_); intro K hK)
    | ((with_reducible refine AWp.pE Th_ok G_tGood_ok [0, 1, 2, 3, 4, 6, 8, 9, 10, 11, 12, 13, 14, 15, 16, 31] (by decide) ?_); intro K hK)
    | ((with_reducible refine AWp.dE (by kernel_rfl) Th_ok G_tGood_ok [0, 1, 2, 3, 4, 6, 8, 9, 10, 11, 12, 13, 14, 15, 16, 31] ?_); intro K hK)
    | ((first | with_reducible refine runF_id ?_ | with_reducible refine stepF_id ?_); simp (maxSteps := 2000000) only [runF, stepF, forkOf, gdOf, List.toList_toArray, stepOp, look, opAV, pureOp, callOp, memOp, AS.ev, AS.get, AS.obj, initS, initFrom, AV.cells, AS.upd, Option.bind_some, Option.bind_none, Option.map_some, Option.map_none, Option.getD_none, Option.getD_some, ↓reduceIte, Nat.reduceEqDiff, Nat.reduceAdd, Nat.reduceMul, Nat.reduceSub, List.nil_append, List.append_nil, List.cons_append, List.map_cons, List.map_nil, true_and, and_true, AS.fin, pick, dedup, List.mem_cons, List.not_mem_nil, or_false, false_or, List.size_toArray, List.length_cons, List.length_nil, loadAV, List.drop_zero, List.drop_succ_cons, List.take_zero, List.take_succ_cons, List.getElem?_cons_zero, List.getElem?_cons_succ, List.head?_cons, List.mapM_cons, List.mapM_nil, Option.bind_eq_bind, Option.pure_def, deeps3, deep3, deep2, deep1, deeps, deeps2, mixInts, AV.plain, mk, mkD, DCon.lift, DCon.runC, ren3, ren2, ren1, numb, List.zipIdx_nil, List.zipIdx_cons, List.all_nil, List.all_cons, Nat.reduceLeDiff, List.range, List.range.loop, Ty.sz, beq_self_eq_true, Bool.and_self, and_self, Ty.ofC, AO.isDead, Nat.reduceLT, if_true, Nat.zero_add, Nat.add_zero, ite_true, Nat.le_refl, Bool.false_eq_true, reduceCtorEq, if_false, ite_false, binAV, AO.ren, AV.isCell, fillAV, List.set_cons_zero, List.set_cons_succ, Ty.cells, Ty.flat, Ty.dflt, List.getD_cons_zero, List.getD_cons_succ, Int.reduceToNat, Int.reduceSub, Int.reduceAdd, Int.reduceMul, Int.reduceNeg, forall_eq_or_imp, forall_eq, gdL, id_eq, Nat.lt_irrefl, srcOf, List.replicate_succ, List.replicate_zero, dite_true, List.isEmpty_cons, Option.isSome_some, List.length_append, List.length_singleton, bne_self_eq_false, Bool.not_true, Bool.not_false, conF, asArgs, asArg, asTy, asI1, asB1, asS1, asL1, canons, canon, Fork.true_, Fork.false_, bne, Bool.not_not, List.length_map, pickO, AS.over, TI.bl, bne_iff_ne, AS.over2, without, keys, List.mem_singleton, memOp2, memOp3, absorb, abInt, abBool, abStr, abList, gones, Int.toNat_natCast, List.take_length, subE, List.nodup_cons, List.nodup_nil, not_false_eq_true, Nat.sub_self, conR, asG, asI, asBo, asStr, asIs, asBs, asE4, asI2, asI3, asLL, asLLL, Th_int, Th_SSint, Th_Sint, Th_bool, Th_implCipher, Th_implGroup, Th_implPartial, Th_implSPartial, Th_lawsGroup, Th_string, G_tGood, c_l1Has, c_tVerify, hL])
    | ((with_reducible refine ens_step ?_ (fun hE => ?_)); · ((repeat' with_reducible apply And.intro) <;> first | with_reducible assumption | omega | exact True.intro | with_reducible rfl | (show ByteArray.size _ ≤ _; decide) | (simp; done) | (simp; omega) | rfl))
    | ((with_reducible refine And.intro ?_ ?_); · ((repeat' with_reducible apply And.intro) <;> first | with_reducible assumption | omega | exact True.intro | with_reducible rfl | (show ByteArray.size _ ≤ _; decide) | (simp; done) | (simp; omega) | rfl))
    | ((with_reducible refine Fork.intro (fun h' => ?_) (fun h' => ?_)) <;> (try simp only [Bool.not_eq_true', Bool.not_eq_false', bne] at h') <;> (replace hL := And.intro h' hL) <;> (try simp only [decide_eq_true_eq, decide_eq_false_iff_not, beq_iff_eq, beq_eq_false_iff_ne, ne_eq] at h') <;> (try (have hgn := gd_n1 (F := ipF p q g cs u) (l := l) (k := k) h'; have hg1 : gdP p q g cs u l (k + 1) = gdP p q g cs u l k := hgn)) <;> (try (have hgn := gd_n2 (F := ipF p q g cs u) (l := l) (k := k) h'; have hg1 : gdP p q g cs u l (k + 1) = gdP p q g cs u l k := hgn)) <;> (try (have hha : hasN (l.getD k ((0 : Int), (0 : Int), ([] : List Int), ([] : List Int), ([] : List Int))).1 (gdP p q g cs u l k).2 = false := h')) <;> (try (have hgy := gd_y (F := ipF p q g cs u) (l := l) (k := k) hha h'; obtain ⟨⟨hy1, hy2⟩, hy3, hy4⟩ := hgy; replace hy1 : (gdP p q g cs u l k).1 ++ [(k : Int)] = (gdP p q g cs u l (k + 1)).1 := hy1; replace hy3 : (gdP p q g cs u l k).2 ++ [(l.getD k ((0 : Int), (0 : Int), ([] : List Int), ([] : List Int), ([] : List Int))).1] = (gdP p q g cs u l (k + 1)).2 := hy3; replace hy2 : (gdP p q g cs u l (k + 1)).1.length = (gdP p q g cs u l k).1.length + 1 := hy2; replace hy4 : (gdP p q g cs u l (k + 1)).2.length = (gdP p q g cs u l k).2.length + 1 := hy4)) <;> (try (have hke : k = l.length := (by omega); subst hke)))
    | (with_reducible refine AWp.skipS ?_)
    | ((with_reducible refine AWp.condT rfl ?_))
    | ((with_reducible refine AWp.condF rfl ?_))
    | (with_reducible refine AWp.condB rfl ?_)
    | (with_reducible refine AWp.ret ?_)
    | (with_reducible refine seqQ_n ?_)
    | (with_reducible refine seqQ_ret ?_)
    | (with_reducible refine blkQ_ret ?_)
    | (with_reducible refine blkQ_n ?_)
    | (with_reducible refine seqQ_exit ?_)
    | (with_reducible refine blkQ_exit ?_)
    | (with_reducible refine blkQ_other (by decide) ?_)
    | (with_reducible refine AWp.block ?_)
    | (with_reducible refine AWp.exit ?_)
    | (with_reducible refine AWp.skip ?_)
    | ((with_reducible refine loop_id ?_); refine AWp.loopAt 3 rfl ?_; refine AWp.sub (Sub.nilSlot 9 300009 3 .int rfl rfl) ?_; refine AWp.sub (Sub.nilSlot 10 300010 3 .int rfl rfl) ?_; refine AWp.loopO [9, 10, 11, 12, 15, 16, 17, 18, 19, 20, 21, 22, 23, 24, 25, 26, 27, 28, 29, 30, 31, 32, 33, 34, 35, 36, 37, 38, 39, 40, 41] (fun k => [(15, .lit (.int .i64 (k : Nat))), (9, .own 300009 (gdP p q g cs u l k).1.length), (10, .own 300010 (gdP p q g cs u l k).2.length)]) (fun k => [(300009, .row 3 .int (gdP p q g cs u l k).1), (300010, .row 3 .int (gdP p q g cs u l k).2)]) (fun k => k ≤ l.length) (fun k => l.length - k) 0 (by omega) (by refine Sub.auto (by first | exact frok0 | assumption) rfl rfl ?_ ?_ <;> (try simp only [subE, AS.over2, without, keys, look, List.cons_append, List.nil_append, List.append_nil, List.mem_cons, List.not_mem_nil, or_false, or_true, true_or, false_or, Nat.reduceEqDiff, ↓reduceIte, Option.some.injEq, AV.lit.injEq, Value.int.injEq, Value.bool.injEq, AV.own.injEq, AO.row.injEq, AO.box.injEq, List.cons.injEq, AV.agg.injEq, AV.sl.injEq, true_and, and_true, and_self, heq_eq_eq, List.length_nil, List.length_cons, List.map_nil, List.take_zero, Int.natCast_add, Int.cast_ofNat_Int, Int.natCast_zero, List.length_append, List.length_map, List.length_take, Nat.zero_add]) <;> ((repeat' apply And.intro) <;> first | rfl | (simp [gdP, gd]; done))) (fun k hk_3 L3 hLoop3 => ?_); have hgl := gd_len (F := ipF p q g cs u) (l := l) k; obtain ⟨hgl1, hgl2⟩ := hgl; replace hgl1 : (gdP p q g cs u l k).1.length ≤ k := hgl1; replace hgl2 : (gdP p q g cs u l k).2.length ≤ k := hgl2)
    | ((with_reducible refine seqQ_f ?_); refine hLoop3 (k + 1) _ (by omega) (by omega) ?_; (refine Sub.auto (by first | exact frok0 | assumption) rfl rfl ?_ ?_ <;> (try simp only [subE, AS.over2, without, keys, look, List.cons_append, List.nil_append, List.append_nil, List.mem_cons, List.not_mem_nil, or_false, or_true, true_or, false_or, Nat.reduceEqDiff, ↓reduceIte, Option.some.injEq, AV.lit.injEq, Value.int.injEq, Value.bool.injEq, AV.own.injEq, AO.row.injEq, AO.box.injEq, List.cons.injEq, AV.agg.injEq, AV.sl.injEq, true_and, and_true, and_self, heq_eq_eq, List.length_nil, List.length_cons, List.map_nil, List.take_zero, Int.natCast_add, Int.cast_ofNat_Int, Int.natCast_zero, List.length_append, List.length_map, List.length_take, Nat.zero_add]) <;> (first | (rw [hg1]; (repeat' apply And.intro) <;> first | rfl | omega) | ((repeat' apply And.intro) <;> first | rfl | omega | exact hy1 | exact hy3))))
    | ((with_reducible refine EndsAt_id ?_); (try subst_vars); (try simp only [id_eq, hL, List.length_cons, List.length_nil, Nat.zero_add, Nat.reduceAdd, Bool.and_true, Bool.and_false, Bool.true_and, Bool.false_and, Bool.and_self, ↓reduceIte, Bool.false_eq_true, Bool.not_true, Bool.not_false, bne]); refine EndsAt.done [_] (by first | exact .inr rfl | exact .inl rfl) rfl rfl ?_ ?_ <;> first | decide | (repeat' (first | rfl | apply And.intro | trivial)))
    | (with_reducible refine AWp.seq ?_)⟩
noncomputable def c_GoodPartialsI : Con0 := conF [(.pair .int (.pair .int .int)), (.list .int), (.pair .int .int), (.list (.pair .int (.pair .int (.pair (.list .int) (.pair (.list .int) (.list .int))))))] fun (⟨⟨p, q, g⟩, cs, ⟨u, v⟩, l, _⟩ : (Int × Int × Int) × (List Int) × (Int × Int) × (List (Int × Int × (List Int) × (List Int) × (List Int))) × Unit) => (l.length ≤ 9223372036854775806, .tup [.own 0 (PGp p q g cs u v l).length, .lit (.bool (okGp p q g cs u v l))], [.row 3 .int (PGp p q g cs u v l)])
noncomputable def G_GoodPartialsI : List (FuncId × Con) := [(36, mk c_isDecryption), (105, mk c_good_)]
theorem G_GoodPartialsI_ok : ∀ f C, (f, C) ∈ G_GoodPartialsI → C.ok Tryz.prog f := by
  intro f C h
  simp only [G_GoodPartialsI, List.mem_cons, Prod.mk.injEq, List.not_mem_nil, or_false] at h
  rcases h with ⟨rfl, rfl⟩ | ⟨rfl, rfl⟩
  · exact ok_isDecryption
  · exact ok_good_
set_option maxRecDepth 100000 in
set_option maxHeartbeats 4000000 in
theorem ok_GoodPartialsI : (mk c_GoodPartialsI).ok Tryz.prog 67 := okF (Θ := Th) (N := 25) (rs := [.tmp 8, .tmp 9]) Th_ok Tryz.func67 (by kernel_rfl) rfl Tryz.results67 (by decide) (by kernel_rfl) fun (⟨⟨p, q, g⟩, cs, ⟨u, v⟩, l, _⟩ : (Int × Int × Int) × (List Int) × (Int × Int) × (List (Int × Int × (List Int) × (List Int) × (List Int))) × Unit) => ⟨rfl, rfl, Nat.le_of_ble_eq_true rfl, fun hc w0 => by
  have hL := dmy_eq
  try dsimp only at hc
  try dsimp only
  have hbl := hc
  refine AWp.body rfl ?_
  repeat' first
    | ((with_reducible refine hK _ _ ?_); clear hK K)
    | ((with_reducible refine hK _ _ (by kernel_rfl) ?_); clear hK K)
    | ((with_reducible refine AWp.pS Th_ok G_GoodPartialsI_ok [0, 1, 2, 3, 4, 6, 8, 9, 19] (by decide) ?_); intro K hK)
    | ((with_reducible refine AWp.dS (by kernel_rfl) Th_ok G_GoodPartialsI_ok [0, 1, 2, 3, 4, 6, 8, 9, 19] ?_); intro K hK)
    | ((with_reducible refine AWp.pE Th_ok G_GoodPartialsI_ok [0, 1, 2, 3, 4, 6, 8, 9, 19] (by decide) ?_); intro K hK)
    | ((with_reducible refine AWp.dE (by kernel_rfl) Th_ok G_GoodPartialsI_ok [0, 1, 2, 3, 4, 6, 8, 9, 19] ?_); intro K hK)
    | ((first | with_reducible refine runF_id ?_ | with_reducible refine stepF_id ?_); simp (maxSteps := 2000000) only [runF, stepF, forkOf, gdOf, List.toList_toArray, stepOp, look, opAV, pureOp, callOp, memOp, AS.ev, AS.get, AS.obj, initS, initFrom, AV.cells, AS.upd, Option.bind_some, Option.bind_none, Option.map_some, Option.map_none, Option.getD_none, Option.getD_some, ↓reduceIte, Nat.reduceEqDiff, Nat.reduceAdd, Nat.reduceMul, Nat.reduceSub, List.nil_append, List.append_nil, List.cons_append, List.map_cons, List.map_nil, true_and, and_true, AS.fin, pick, dedup, List.mem_cons, List.not_mem_nil, or_false, false_or, List.size_toArray, List.length_cons, List.length_nil, loadAV, List.drop_zero, List.drop_succ_cons, List.take_zero, List.take_succ_cons, List.getElem?_cons_zero, List.getElem?_cons_succ, List.head?_cons, List.mapM_cons, List.mapM_nil, Option.bind_eq_bind, Option.pure_def, deeps3, deep3, deep2, deep1, deeps, deeps2, mixInts, AV.plain, mk, mkD, DCon.lift, DCon.runC, ren3, ren2, ren1, numb, List.zipIdx_nil, List.zipIdx_cons, List.all_nil, List.all_cons, Nat.reduceLeDiff, List.range, List.range.loop, Ty.sz, beq_self_eq_true, Bool.and_self, and_self, Ty.ofC, AO.isDead, Nat.reduceLT, if_true, Nat.zero_add, Nat.add_zero, ite_true, Nat.le_refl, Bool.false_eq_true, reduceCtorEq, if_false, ite_false, binAV, AO.ren, AV.isCell, fillAV, List.set_cons_zero, List.set_cons_succ, Ty.cells, Ty.flat, Ty.dflt, List.getD_cons_zero, List.getD_cons_succ, Int.reduceToNat, Int.reduceSub, Int.reduceAdd, Int.reduceMul, Int.reduceNeg, forall_eq_or_imp, forall_eq, gdL, id_eq, Nat.lt_irrefl, srcOf, List.replicate_succ, List.replicate_zero, dite_true, List.isEmpty_cons, Option.isSome_some, List.length_append, List.length_singleton, bne_self_eq_false, Bool.not_true, Bool.not_false, conF, asArgs, asArg, asTy, asI1, asB1, asS1, asL1, canons, canon, Fork.true_, Fork.false_, bne, Bool.not_not, List.length_map, pickO, AS.over, TI.bl, bne_iff_ne, AS.over2, without, keys, List.mem_singleton, memOp2, memOp3, absorb, abInt, abBool, abStr, abList, gones, Int.toNat_natCast, List.take_length, subE, List.nodup_cons, List.nodup_nil, not_false_eq_true, Nat.sub_self, conR, asG, asI, asBo, asStr, asIs, asBs, asE4, asI2, asI3, asLL, asLLL, Th_int, Th_Sint, Th_bool, Th_implCipher, Th_implGroup, Th_implSPartial, Th_lawsGroup, G_GoodPartialsI, c_isDecryption, c_good_, hL])
    | ((with_reducible refine ens_step ?_ (fun hE => ?_)); · ((repeat' with_reducible apply And.intro) <;> first | with_reducible assumption | omega | exact True.intro | with_reducible rfl | (show ByteArray.size _ ≤ _; decide) | (simp; done) | (simp; omega) | rfl))
    | ((with_reducible refine And.intro ?_ ?_); · ((repeat' with_reducible apply And.intro) <;> first | with_reducible assumption | omega | exact True.intro | with_reducible rfl | (show ByteArray.size _ ≤ _; decide) | (simp; done) | (simp; omega) | rfl))
    | ((with_reducible refine Fork.intro (fun h' => ?_) (fun h' => ?_)) <;> (try simp only [Bool.not_eq_true', Bool.not_eq_false', bne] at h') <;> (replace hL := And.intro h' hL) <;> (try simp only [decide_eq_true_eq, decide_eq_false_iff_not, beq_iff_eq, beq_eq_false_iff_ne, ne_eq] at h') <;> (try (have hdc := okDc_use h'; obtain ⟨hd1, hd2, hd3, hd4⟩ := hdc; have hsh := shB_of hd1; obtain ⟨hgd, hq7⟩ := hsh; have hG := M.goodB_of hgd; have hcm := comB_use hd2; obtain ⟨hcl, hcb⟩ := hcm; have hu := elemB_bd hd3)) <;> (try (have hgp : okDc p q g cs u v = true ∧ l.length ≤ 14 := gp_use h'; obtain ⟨hgp1, hl14⟩ := hgp; have hdc := okDc_use hgp1; obtain ⟨hd1, hd2, hd3, hd4⟩ := hdc; have hsh := shB_of hd1; obtain ⟨hgd, hq7⟩ := hsh; have hG := M.goodB_of hgd; have hcm := comB_use hd2; obtain ⟨hcl, hcb⟩ := hcm; have hu := elemB_bd hd3)))
    | (with_reducible refine AWp.skipS ?_)
    | ((with_reducible refine AWp.condT rfl ?_))
    | ((with_reducible refine AWp.condF rfl ?_))
    | (with_reducible refine AWp.condB rfl ?_)
    | ((with_reducible refine AWp.ret_id ?_); refine AWp.sub (Sub.nilSlot 8 200008 3 .int rfl rfl) ?_)
    | (with_reducible refine AWp.ret ?_)
    | (with_reducible refine seqQ_n ?_)
    | (with_reducible refine seqQ_ret ?_)
    | (with_reducible refine blkQ_ret ?_)
    | (with_reducible refine blkQ_n ?_)
    | (with_reducible refine seqQ_exit ?_)
    | (with_reducible refine blkQ_exit ?_)
    | (with_reducible refine blkQ_other (by decide) ?_)
    | (with_reducible refine AWp.block ?_)
    | (with_reducible refine AWp.exit ?_)
    | (with_reducible refine AWp.skip ?_)
    | ((with_reducible refine EndsAt_id ?_); (try subst_vars); (try simp only [PGp, okGp, hL, List.length_cons, List.length_nil, Nat.zero_add, Nat.reduceAdd, Bool.and_true, Bool.and_false, Bool.true_and, Bool.false_and, Bool.and_self, ↓reduceIte, Bool.false_eq_true, Bool.not_true, Bool.not_false, bne]); refine EndsAt.done [_] (by first | exact .inr rfl | exact .inl rfl) rfl rfl ?_ ?_ <;> first | decide | (repeat' (first | rfl | apply And.intro | trivial)))
    | (with_reducible refine AWp.seq ?_)⟩
end Go.Proofs.YtgnnmifpfgpllaaGreat
