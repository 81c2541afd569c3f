import Derived.Test.YtlggpehioflbdaaZAJ
import Derived.Test.YtlggpehioflbdaaZB10
import Derived.Test.YtlggpehioflbdaaZB4
/- Dealings: values of polynomials, shares that are wrong. -/
set_option linter.all false
set_option linter.unusedVariables false
set_option linter.unusedSimpArgs false
namespace Go.Proofs.Ytlggpehioflbdaa
open Go.RowKit
theorem expsB_all12' {q : Int} {xs : List Int} (h : expsB q xs = true) : ∀ x ∈ xs, 0 ≤ x ∧ x < q := fun x hx => expsB_mem h hx
theorem comB_use {p q : Int} {cs : List Int} (h : comB p q cs = true) : (1 ≤ cs.length ∧ cs.length ≤ 7) ∧ ∀ x ∈ cs, 0 ≤ x ∧ x < p := by
  obtain ⟨h1, h2⟩ := comB_of h
  exact ⟨h1, fun x hx => elem_bd (elemsB_mem h2 hx)⟩
theorem dlB_use {p q : Int} {cs ss : List Int} (h : dlB p q cs ss = true) : (1 ≤ cs.length ∧ cs.length ≤ 7) ∧ (∀ x ∈ cs, 0 ≤ x ∧ x < p) ∧ (cs.length ≤ ss.length ∧ ss.length ≤ 7) ∧ ∀ x ∈ ss, 0 ≤ x ∧ x < q := by
  obtain ⟨h1, h2, h3⟩ := dlB_of h
  obtain ⟨h4, h5⟩ := comB_use h1
  exact ⟨h4, h5, h2, expsB_all12' h3⟩
theorem getD_bd' {p : Int} {xs : List Int} (h : ∀ x ∈ xs, 0 ≤ x ∧ x < p) {k : Nat} (hk : k < xs.length) : 0 ≤ xs.getD k 0 ∧ xs.getD k 0 < p := h _ (getD_in 0 hk)
theorem drop_at {α : Type} {xs : List α} (d : α) {k : Nat} (hk : k < xs.length) : xs.drop k = xs.getD k d :: xs.drop (k + 1) := by
  rw [List.drop_eq_getElem_cons hk]
  simp [List.getD_eq_getElem?_getD, List.getElem?_eq_getElem hk]
theorem take_at {α : Type} {xs : List α} (d : α) {k : Nat} (hk : k < xs.length) : xs.take (k + 1) = xs.take k ++ [xs.getD k d] := by
  rw [List.take_succ_eq_append_getElem hk]
  simp [List.getD_eq_getElem?_getD, List.getElem?_eq_getElem hk]
/-- a polynomial's value -/
def evL (q x : Int) : List Int → Int
  | [] => 0
  | a :: l => (evL q x l * x + a) % q
theorem evL_bd {q x : Int} (hq : 2 ≤ q) : ∀ l : List Int, 0 ≤ evL q x l ∧ evL q x l < q
  | [] => by simp [evL]; omega
  | a :: l => emod_bd (by omega)
theorem evL_s {q x : Int} {f : List Int} {j : Nat} (h : j < f.length) : (evL q x (f.drop (j + 1)) * x + f.getD j 0) % q = evL q x (f.drop j) := by
  rw [drop_at 0 h]; rfl
theorem evL_i {q x : Int} {f : List Int} {j : Nat} (h : j < f.length) : (evL q x (f.drop (j + 1)) * x % q + f.getD j 0) % q = evL q x (f.drop j) := by
  rw [Int.emod_add_emod]; exact evL_s h
noncomputable def c_evalPoly : Con0 := conF [.int, (.list .int), .int] fun (⟨q, xs, x, _⟩ : Int × (List Int) × Int × Unit) => ((2 ≤ q ∧ q ≤ 2000000000) ∧ (0 ≤ x ∧ x ≤ 2000000000) ∧ (∀ a ∈ xs, 0 ≤ a ∧ a < q) ∧ xs.length ≤ 1000000, .lit (.int .i64 (evL q x xs)), [])
noncomputable def G_evalPoly : List (FuncId × Con) := []
theorem G_evalPoly_ok : ∀ f C, (f, C) ∈ G_evalPoly → C.ok Try.prog f := by
  intro f C h
  simp only [G_evalPoly, List.mem_cons, Prod.mk.injEq, List.not_mem_nil, or_false] at h
set_option maxRecDepth 100000 in
set_option maxHeartbeats 4000000 in
theorem ok_evalPoly : (mk c_evalPoly).ok Try.prog 101 := okF (Θ := Th) (N := 29) (rs := [.tmp 6]) Th_ok Try.func101 (by kernel_rfl) rfl Try.results101 (by decide) (by kernel_rfl) fun (⟨q, xs, x, _⟩ : Int × (List Int) × Int × Unit) => ⟨rfl, rfl, Nat.le_of_ble_eq_true rfl, fun hc w0 => by
  have hL := dmy_eq
  try dsimp only at hc
  try dsimp only
  obtain ⟨⟨hq2, hqM⟩, hx, hxs, hxl⟩ := hc
  refine AWp.body rfl ?_
  repeat' first
    | ((with_reducible refine hK _ _ ?_); clear hK K)
    | ((with_reducible refine hK _ _ (by kernel_rfl) ?_); clear hK K)
    | ((with_reducible refine AWp.pS Th_ok G_evalPoly_ok [0, 1, 2, 6, 7, 8, 13] (by decide) ?_); intro K hK)
    | ((with_reducible refine AWp.dS (by kernel_rfl) Th_ok G_evalPoly_ok [0, 1, 2, 6, 7, 8, 13] ?_); intro K hK)
    | ((with_reducible refine AWp.pE Th_ok G_evalPoly_ok [0, 1, 2, 6, 7, 8, 13] (by decide) ?_); intro K hK)
    | ((with_reducible refine AWp.dE (by kernel_rfl) Th_ok G_evalPoly_ok [0, 1, 2, 6, 7, 8, 13] ?_); intro K hK)
    | ((first | with_reducible refine runF_id ?_ | with_reducible refine stepF_id ?_); simp (maxSteps := 2000000) only [runF, stepF, forkOf, gdOf, List.toList_toArray, stepOp, look, opAV, pureOp, callOp, memOp, AS.ev, AS.get, AS.obj, initS, initFrom, AV.cells, AS.upd, Option.bind_some, Option.bind_none, Option.map_some, Option.map_none, Option.getD_none, Option.getD_some, ↓reduceIte, Nat.reduceEqDiff, Nat.reduceAdd, Nat.reduceMul, Nat.reduceSub, List.nil_append, List.append_nil, List.cons_append, List.map_cons, List.map_nil, true_and, and_true, AS.fin, pick, dedup, List.mem_cons, List.not_mem_nil, or_false, false_or, List.size_toArray, List.length_cons, List.length_nil, loadAV, List.drop_zero, List.drop_succ_cons, List.take_zero, List.take_succ_cons, List.getElem?_cons_zero, List.getElem?_cons_succ, List.head?_cons, List.mapM_cons, List.mapM_nil, Option.bind_eq_bind, Option.pure_def, deeps3, deep3, deep2, deep1, deeps, deeps2, mixInts, AV.plain, mk, mkD, DCon.lift, DCon.runC, ren3, ren2, ren1, numb, List.zipIdx_nil, List.zipIdx_cons, List.all_nil, List.all_cons, Nat.reduceLeDiff, List.range, List.range.loop, Ty.sz, beq_self_eq_true, Bool.and_self, and_self, Ty.ofC, AO.isDead, Nat.reduceLT, if_true, Nat.zero_add, Nat.add_zero, ite_true, Nat.le_refl, Bool.false_eq_true, reduceCtorEq, if_false, ite_false, binAV, AO.ren, AV.isCell, fillAV, List.set_cons_zero, List.set_cons_succ, Ty.cells, Ty.flat, Ty.dflt, List.getD_cons_zero, List.getD_cons_succ, Int.reduceToNat, Int.reduceSub, Int.reduceAdd, Int.reduceMul, Int.reduceNeg, forall_eq_or_imp, forall_eq, gdL, id_eq, Nat.lt_irrefl, srcOf, List.replicate_succ, List.replicate_zero, dite_true, List.isEmpty_cons, Option.isSome_some, List.length_append, List.length_singleton, bne_self_eq_false, Bool.not_true, Bool.not_false, conF, asArgs, asArg, asTy, asI1, asB1, asS1, asL1, canons, canon, Fork.true_, Fork.false_, bne, Bool.not_not, List.length_map, pickO, AS.over, TI.bl, bne_iff_ne, AS.over2, without, keys, List.mem_singleton, memOp2, memOp3, absorb, abInt, abBool, abStr, abList, gones, Int.toNat_natCast, List.take_length, subE, List.nodup_cons, List.nodup_nil, not_false_eq_true, Nat.sub_self, conR, asG, asI, asBo, asStr, asIs, asBs, asE4, asI2, asI3, asLL, asLLL, Th_int, Th_Sint, Th_implGroup, Th_lawsGroup, Th_string, G_evalPoly, hL])
    | ((with_reducible refine ens_step ?_ (fun hE => ?_)); · ((repeat' with_reducible apply And.intro) <;> first | with_reducible assumption | omega | exact True.intro | with_reducible rfl | (show ByteArray.size _ ≤ _; decide) | (simp; done) | (simp; omega) | rfl))
    | ((with_reducible refine And.intro ?_ ?_); · ((repeat' with_reducible apply And.intro) <;> first | with_reducible assumption | omega | exact True.intro | with_reducible rfl | (show ByteArray.size _ ≤ _; decide) | (simp; done) | (simp; omega) | rfl))
    | ((with_reducible refine Fork.intro (fun h' => ?_) (fun h' => ?_)) <;> (try simp only [Bool.not_eq_true', Bool.not_eq_false', bne] at h') <;> (replace hL := And.intro h' hL) <;> (try simp only [decide_eq_true_eq, decide_eq_false_iff_not, beq_iff_eq, beq_eq_false_iff_ne, ne_eq] at h') <;> (try (have hjj : ∃ j, k = j + 1 := ⟨k - 1, by omega⟩; obtain ⟨j, rfl⟩ := hjj; have hj1 : ((j + 1 : Nat) : Int) - 1 = j := (by omega); have heb := evL_bd (x := x) hq2 (xs.drop (j + 1)); have hab := getD_bd' hxs (k := j) (by omega); have hmb := mul_bd (a := evL q x (xs.drop (j + 1))) (b := x) (by omega) (by omega); have hrb := emod_bd (n := evL q x (xs.drop (j + 1)) * x) (q := q) (by omega); have hst := evL_i (q := q) (x := x) (f := xs) (j := j) (by omega); replace hL := And.intro hst (And.intro hj1 hL))) <;> (try (have hk0 : k = 0 := (by omega); subst hk0; replace hL := And.intro (List.drop_zero (l := xs)) hL)))
    | (with_reducible refine AWp.skipS ?_)
    | ((with_reducible refine AWp.condT rfl ?_))
    | ((with_reducible refine AWp.condF rfl ?_))
    | (with_reducible refine AWp.condB rfl ?_)
    | (with_reducible refine AWp.ret ?_)
    | (with_reducible refine seqQ_n ?_)
    | (with_reducible refine seqQ_ret ?_)
    | (with_reducible refine blkQ_ret ?_)
    | (with_reducible refine blkQ_n ?_)
    | (with_reducible refine seqQ_exit ?_)
    | (with_reducible refine blkQ_exit ?_)
    | (with_reducible refine blkQ_other (by decide) ?_)
    | (with_reducible refine AWp.block ?_)
    | (with_reducible refine AWp.exit ?_)
    | (with_reducible refine AWp.skip ?_)
    | ((with_reducible refine loop_id ?_); refine AWp.loopAt 3 rfl ?_; refine AWp.loopO [7, 8, 12, 13, 14, 15, 16, 17, 18, 19, 20, 21, 22, 23, 24, 25, 26, 27] (fun k => [(8, .lit (.int .i64 ((k : Nat) - 1))), (7, .lit (.int .i64 (evL q x (xs.drop k))))]) (fun k => []) (fun k => k ≤ xs.length) (fun k => k) xs.length (by omega) (by refine Sub.auto (by first | exact frok0 | assumption) rfl rfl ?_ ?_ <;> (try simp only [subE, AS.over2, without, keys, look, List.cons_append, List.nil_append, List.append_nil, List.mem_cons, List.not_mem_nil, or_false, or_true, true_or, false_or, Nat.reduceEqDiff, ↓reduceIte, Option.some.injEq, AV.lit.injEq, Value.int.injEq, Value.bool.injEq, AV.own.injEq, AO.row.injEq, AO.box.injEq, List.cons.injEq, AV.agg.injEq, AV.sl.injEq, true_and, and_true, and_self, heq_eq_eq, List.length_nil, List.length_cons, List.map_nil, List.take_zero, Int.natCast_add, Int.cast_ofNat_Int, Int.natCast_zero, List.length_append, List.length_map, List.length_take, Nat.zero_add]) <;> (simp [evL])) (fun k hk_3 L3 hLoop3 => ?_))
    | ((with_reducible refine seqQ_f ?_); refine hLoop3 (j) _ (by omega) (by omega) ?_; (refine Sub.auto (by first | exact frok0 | assumption) rfl rfl ?_ ?_ <;> (try simp only [subE, AS.over2, without, keys, look, List.cons_append, List.nil_append, List.append_nil, List.mem_cons, List.not_mem_nil, or_false, or_true, true_or, false_or, Nat.reduceEqDiff, ↓reduceIte, Option.some.injEq, AV.lit.injEq, Value.int.injEq, Value.bool.injEq, AV.own.injEq, AO.row.injEq, AO.box.injEq, List.cons.injEq, AV.agg.injEq, AV.sl.injEq, true_and, and_true, and_self, heq_eq_eq, List.length_nil, List.length_cons, List.map_nil, List.take_zero, Int.natCast_add, Int.cast_ofNat_Int, Int.natCast_zero, List.length_append, List.length_map, List.length_take, Nat.zero_add]) <;> ((repeat' apply And.intro) <;> first | rfl | omega | exact hst | exact hj1)))
    | ((with_reducible refine EndsAt_id ?_); (try subst_vars); refine EndsAt.done [] (by first | exact .inr rfl | exact .inl rfl) rfl rfl ?_ ?_ <;> first | decide | (repeat' (first | rfl | apply And.intro | trivial)))
    | (with_reducible refine AWp.seq ?_)⟩
noncomputable def c_yEval : Con0 := conF [.int, (.list .int), .int] fun (⟨q, xs, x, _⟩ : Int × (List Int) × Int × Unit) => ((2 ≤ q ∧ q ≤ 2000000000) ∧ (0 ≤ x ∧ x ≤ 2000000000) ∧ (∀ a ∈ xs, 0 ≤ a ∧ a < q) ∧ xs.length ≤ 1000000, .lit (.int .i64 (evL q x xs)), [])
noncomputable def G_yEval : List (FuncId × Con) := []
theorem G_yEval_ok : ∀ f C, (f, C) ∈ G_yEval → C.ok Try.prog f := by
  intro f C h
  simp only [G_yEval, List.mem_cons, Prod.mk.injEq, List.not_mem_nil, or_false] at h
set_option maxRecDepth 100000 in
set_option maxHeartbeats 4000000 in
theorem ok_yEval : (mk c_yEval).ok Try.prog 95 := okF (Θ := Th) (N := 27) (rs := [.tmp 6]) Th_ok Try.func95 (by kernel_rfl) rfl Try.results95 (by decide) (by kernel_rfl) fun (⟨q, xs, x, _⟩ : Int × (List Int) × Int × Unit) => ⟨rfl, rfl, Nat.le_of_ble_eq_true rfl, fun hc w0 => by
  have hL := dmy_eq
  try dsimp only at hc
  try dsimp only
  obtain ⟨⟨hq2, hqM⟩, hx, hxs, hxl⟩ := hc
  refine AWp.body rfl ?_
  repeat' first
    | ((with_reducible refine hK _ _ ?_); clear hK K)
    | ((with_reducible refine hK _ _ (by kernel_rfl) ?_); clear hK K)
    | ((with_reducible refine AWp.pS Th_ok G_yEval_ok [0, 1, 2, 6, 7, 8, 13] (by decide) ?_); intro K hK)
    | ((with_reducible refine AWp.dS (by kernel_rfl) Th_ok G_yEval_ok [0, 1, 2, 6, 7, 8, 13] ?_); intro K hK)
    | ((with_reducible refine AWp.pE Th_ok G_yEval_ok [0, 1, 2, 6, 7, 8, 13] (by decide) ?_); intro K hK)
    | ((with_reducible refine AWp.dE (by kernel_rfl) Th_ok G_yEval_ok [0, 1, 2, 6, 7, 8, 13] ?_); intro K hK)
    | ((first | with_reducible refine runF_id ?_ | with_reducible refine stepF_id ?_); simp (maxSteps := 2000000) only [runF, stepF, forkOf, gdOf, List.toList_toArray, stepOp, look, opAV, pureOp, callOp, memOp, AS.ev, AS.get, AS.obj, initS, initFrom, AV.cells, AS.upd, Option.bind_some, Option.bind_none, Option.map_some, Option.map_none, Option.getD_none, Option.getD_some, ↓reduceIte, Nat.reduceEqDiff, Nat.reduceAdd, Nat.reduceMul, Nat.reduceSub, List.nil_append, List.append_nil, List.cons_append, List.map_cons, List.map_nil, true_and, and_true, AS.fin, pick, dedup, List.mem_cons, List.not_mem_nil, or_false, false_or, List.size_toArray, List.length_cons, List.length_nil, loadAV, List.drop_zero, List.drop_succ_cons, List.take_zero, List.take_succ_cons, List.getElem?_cons_zero, List.getElem?_cons_succ, List.head?_cons, List.mapM_cons, List.mapM_nil, Option.bind_eq_bind, Option.pure_def, deeps3, deep3, deep2, deep1, deeps, deeps2, mixInts, AV.plain, mk, mkD, DCon.lift, DCon.runC, ren3, ren2, ren1, numb, List.zipIdx_nil, List.zipIdx_cons, List.all_nil, List.all_cons, Nat.reduceLeDiff, List.range, List.range.loop, Ty.sz, beq_self_eq_true, Bool.and_self, and_self, Ty.ofC, AO.isDead, Nat.reduceLT, if_true, Nat.zero_add, Nat.add_zero, ite_true, Nat.le_refl, Bool.false_eq_true, reduceCtorEq, if_false, ite_false, binAV, AO.ren, AV.isCell, fillAV, List.set_cons_zero, List.set_cons_succ, Ty.cells, Ty.flat, Ty.dflt, List.getD_cons_zero, List.getD_cons_succ, Int.reduceToNat, Int.reduceSub, Int.reduceAdd, Int.reduceMul, Int.reduceNeg, forall_eq_or_imp, forall_eq, gdL, id_eq, Nat.lt_irrefl, srcOf, List.replicate_succ, List.replicate_zero, dite_true, List.isEmpty_cons, Option.isSome_some, List.length_append, List.length_singleton, bne_self_eq_false, Bool.not_true, Bool.not_false, conF, asArgs, asArg, asTy, asI1, asB1, asS1, asL1, canons, canon, Fork.true_, Fork.false_, bne, Bool.not_not, List.length_map, pickO, AS.over, TI.bl, bne_iff_ne, AS.over2, without, keys, List.mem_singleton, memOp2, memOp3, absorb, abInt, abBool, abStr, abList, gones, Int.toNat_natCast, List.take_length, subE, List.nodup_cons, List.nodup_nil, not_false_eq_true, Nat.sub_self, conR, asG, asI, asBo, asStr, asIs, asBs, asE4, asI2, asI3, asLL, asLLL, Th_int, Th_Sint, Th_lawsGroup, Th_string, G_yEval, hL])
    | ((with_reducible refine ens_step ?_ (fun hE => ?_)); · ((repeat' with_reducible apply And.intro) <;> first | with_reducible assumption | omega | exact True.intro | with_reducible rfl | (show ByteArray.size _ ≤ _; decide) | (simp; done) | (simp; omega) | rfl))
    | ((with_reducible refine And.intro ?_ ?_); · ((repeat' with_reducible apply And.intro) <;> first | with_reducible assumption | omega | exact True.intro | with_reducible rfl | (show ByteArray.size _ ≤ _; decide) | (simp; done) | (simp; omega) | rfl))
    | ((with_reducible refine Fork.intro (fun h' => ?_) (fun h' => ?_)) <;> (try simp only [Bool.not_eq_true', Bool.not_eq_false', bne] at h') <;> (replace hL := And.intro h' hL) <;> (try simp only [decide_eq_true_eq, decide_eq_false_iff_not, beq_iff_eq, beq_eq_false_iff_ne, ne_eq] at h') <;> (try (have hjj : ∃ j, k = j + 1 := ⟨k - 1, by omega⟩; obtain ⟨j, rfl⟩ := hjj; have hj1 : ((j + 1 : Nat) : Int) - 1 = j := (by omega); have heb := evL_bd (x := x) hq2 (xs.drop (j + 1)); have hab := getD_bd' hxs (k := j) (by omega); have hmb := mul_bd (a := evL q x (xs.drop (j + 1))) (b := x) (by omega) (by omega); have hrb := emod_bd (n := evL q x (xs.drop (j + 1)) * x) (q := q) (by omega); have hst := evL_s (q := q) (x := x) (f := xs) (j := j) (by omega); replace hL := And.intro hst (And.intro hj1 hL))) <;> (try (have hk0 : k = 0 := (by omega); subst hk0; replace hL := And.intro (List.drop_zero (l := xs)) hL)))
    | (with_reducible refine AWp.skipS ?_)
    | ((with_reducible refine AWp.condT rfl ?_))
    | ((with_reducible refine AWp.condF rfl ?_))
    | (with_reducible refine AWp.condB rfl ?_)
    | (with_reducible refine AWp.ret ?_)
    | (with_reducible refine seqQ_n ?_)
    | (with_reducible refine seqQ_ret ?_)
    | (with_reducible refine blkQ_ret ?_)
    | (with_reducible refine blkQ_n ?_)
    | (with_reducible refine seqQ_exit ?_)
    | (with_reducible refine blkQ_exit ?_)
    | (with_reducible refine blkQ_other (by decide) ?_)
    | (with_reducible refine AWp.block ?_)
    | (with_reducible refine AWp.exit ?_)
    | (with_reducible refine AWp.skip ?_)
    | ((with_reducible refine loop_id ?_); refine AWp.loopAt 3 rfl ?_; refine AWp.loopO [7, 8, 12, 13, 14, 15, 16, 17, 18, 19, 20, 21, 22, 23, 24, 25] (fun k => [(8, .lit (.int .i64 ((k : Nat) - 1))), (7, .lit (.int .i64 (evL q x (xs.drop k))))]) (fun k => []) (fun k => k ≤ xs.length) (fun k => k) xs.length (by omega) (by refine Sub.auto (by first | exact frok0 | assumption) rfl rfl ?_ ?_ <;> (try simp only [subE, AS.over2, without, keys, look, List.cons_append, List.nil_append, List.append_nil, List.mem_cons, List.not_mem_nil, or_false, or_true, true_or, false_or, Nat.reduceEqDiff, ↓reduceIte, Option.some.injEq, AV.lit.injEq, Value.int.injEq, Value.bool.injEq, AV.own.injEq, AO.row.injEq, AO.box.injEq, List.cons.injEq, AV.agg.injEq, AV.sl.injEq, true_and, and_true, and_self, heq_eq_eq, List.length_nil, List.length_cons, List.map_nil, List.take_zero, Int.natCast_add, Int.cast_ofNat_Int, Int.natCast_zero, List.length_append, List.length_map, List.length_take, Nat.zero_add]) <;> (simp [evL])) (fun k hk_3 L3 hLoop3 => ?_))
    | ((with_reducible refine seqQ_f ?_); refine hLoop3 (j) _ (by omega) (by omega) ?_; (refine Sub.auto (by first | exact frok0 | assumption) rfl rfl ?_ ?_ <;> (try simp only [subE, AS.over2, without, keys, look, List.cons_append, List.nil_append, List.append_nil, List.mem_cons, List.not_mem_nil, or_false, or_true, true_or, false_or, Nat.reduceEqDiff, ↓reduceIte, Option.some.injEq, AV.lit.injEq, Value.int.injEq, Value.bool.injEq, AV.own.injEq, AO.row.injEq, AO.box.injEq, List.cons.injEq, AV.agg.injEq, AV.sl.injEq, true_and, and_true, and_self, heq_eq_eq, List.length_nil, List.length_cons, List.map_nil, List.take_zero, Int.natCast_add, Int.cast_ofNat_Int, Int.natCast_zero, List.length_append, List.length_map, List.length_take, Nat.zero_add]) <;> ((repeat' apply And.intro) <;> first | rfl | omega | exact hst | exact hj1)))
    | ((with_reducible refine EndsAt_id ?_); (try subst_vars); refine EndsAt.done [] (by first | exact .inr rfl | exact .inl rfl) rfl rfl ?_ ?_ <;> first | decide | (repeat' (first | rfl | apply And.intro | trivial)))
    | (with_reducible refine AWp.seq ?_)⟩
def dealC (p q g : Int) (cs : List Int) : List Int := cs.map fun a => M.gpw p q g a
def dealS (q : Int) (cs : List Int) (n : Nat) : List Int := (List.range n).map fun (i : Nat) => evL q ((i : Int) + 1) cs
theorem dealC_len {p q g : Int} {cs : List Int} : (dealC p q g cs).length = cs.length := List.length_map ..
theorem dealS_len {q : Int} {cs : List Int} {n : Nat} : (dealS q cs n).length = n := by simp [dealS]
theorem dealC_step {p q g : Int} {cs : List Int} {k : Nat} (h : k < cs.length) : dealC p q g (cs.take k) ++ [M.gpw p q g (cs.getD k 0)] = dealC p q g (cs.take (k + 1)) := by
  rw [take_at 0 h]; simp [dealC]
theorem dealS_step {q : Int} {cs : List Int} {k : Nat} : dealS q cs k ++ [evL q ((k : Int) + 1) cs] = dealS q cs (k + 1) := by simp [dealS, List.range_succ]
theorem dealC_tl {p q g : Int} {cs : List Int} {k : Nat} (h : k ≤ cs.length) : (dealC p q g (cs.take k)).length = k := by rw [dealC_len, List.length_take]; omega
theorem dealC_bd {p q g : Int} {cs : List Int} (hp : 3 ≤ p) : ∀ x ∈ dealC p q g cs, 0 ≤ x ∧ x < p := fun x hx => by
  obtain ⟨a, _, rfl⟩ := List.mem_map.1 hx
  exact gpw_bd hp
theorem dealS_bd {q : Int} {cs : List Int} {n : Nat} (hq : 2 ≤ q) : ∀ x ∈ dealS q cs n, 0 ≤ x ∧ x < q := fun x hx => by
  obtain ⟨a, _, rfl⟩ := List.mem_map.1 hx
  exact evL_bd hq _
noncomputable def c_deal : Con0 := conF [(.pair .int (.pair .int .int)), (.list .int), .int] fun (⟨⟨p, q, g⟩, cs, n, _⟩ : (Int × Int × Int) × (List Int) × Int × Unit) => (M.Grp p q g ∧ (∀ c ∈ cs, 0 ≤ c ∧ c < q) ∧ cs.length ≤ 1000 ∧ (0 ≤ n ∧ n ≤ 7), .agg [.own 0 cs.length, .own 1 n.toNat], [.row 3 .int (dealC p q g cs), .row 3 .int (dealS q cs n.toNat)])
noncomputable def G_deal : List (FuncId × Con) := [(153, mk c_pow), (101, mk c_evalPoly)]
theorem G_deal_ok : ∀ f C, (f, C) ∈ G_deal → C.ok Try.prog f := by
  intro f C h
  simp only [G_deal, List.mem_cons, Prod.mk.injEq, List.not_mem_nil, or_false] at h
  rcases h with ⟨rfl, rfl⟩ | ⟨rfl, rfl⟩
  · exact ok_pow
  · exact ok_evalPoly
set_option maxRecDepth 100000 in
set_option maxHeartbeats 4000000 in
theorem ok_deal : (mk c_deal).ok Try.prog 99 := okF (Θ := Th) (N := 45) (rs := [.cell 6 81]) Th_ok Try.func99 (by kernel_rfl) rfl Try.results99 (by decide) (by kernel_rfl) fun (⟨⟨p, q, g⟩, cs, n, _⟩ : (Int × Int × Int) × (List Int) × Int × Unit) => ⟨rfl, rfl, Nat.le_of_ble_eq_true rfl, fun hc w0 => by
  have hL := dmy_eq
  try dsimp only at hc
  try dsimp only
  obtain ⟨hG, hcs, hcl, hn⟩ := hc
  have hq2 := hG.q2
  have hqp := hG.qp
  have hp3 := hG.p3
  have hpM := hG.pM
  have hgb : 0 ≤ g ∧ g < p := ⟨by have := hG.g2; omega, hG.gp⟩
  refine AWp.body rfl ?_
  repeat' first
    | ((with_reducible refine hK _ _ ?_); clear hK K)
    | ((with_reducible refine hK _ _ (by kernel_rfl) ?_); clear hK K)
    | ((with_reducible refine AWp.pS Th_ok G_deal_ok [0, 1, 2, 3, 6, 7, 9, 10, 12, 13, 14, 15, 31] (by decide) ?_); intro K hK)
    | ((with_reducible refine AWp.dS (by kernel_rfl) Th_ok G_deal_ok [0, 1, 2, 3, 6, 7, 9, 10, 12, 13, 14, 15, 31] ?_); intro K hK)
    | ((with_reducible refine AWp.pE Th_ok G_deal_ok [0, 1, 2, 3, 6, 7, 9, 10, 12, 13, 14, 15, 31] (by decide) ?_); intro K hK)
    | ((with_reducible refine AWp.dE (by kernel_rfl) Th_ok G_deal_ok [0, 1, 2, 3, 6, 7, 9, 10, 12, 13, 14, 15, 31] ?_); intro K hK)
    | ((first | with_reducible refine runF_id ?_ | with_reducible refine stepF_id ?_); simp (maxSteps := 2000000) only [runF, stepF, forkOf, gdOf, List.toList_toArray, stepOp, look, opAV, pureOp, callOp, memOp, AS.ev, AS.get, AS.obj, initS, initFrom, AV.cells, AS.upd, Option.bind_some, Option.bind_none, Option.map_some, Option.map_none, Option.getD_none, Option.getD_some, ↓reduceIte, Nat.reduceEqDiff, Nat.reduceAdd, Nat.reduceMul, Nat.reduceSub, List.nil_append, List.append_nil, List.cons_append, List.map_cons, List.map_nil, true_and, and_true, AS.fin, pick, dedup, List.mem_cons, List.not_mem_nil, or_false, false_or, List.size_toArray, List.length_cons, List.length_nil, loadAV, List.drop_zero, List.drop_succ_cons, List.take_zero, List.take_succ_cons, List.getElem?_cons_zero, List.getElem?_cons_succ, List.head?_cons, List.mapM_cons, List.mapM_nil, Option.bind_eq_bind, Option.pure_def, deeps3, deep3, deep2, deep1, deeps, deeps2, mixInts, AV.plain, mk, mkD, DCon.lift, DCon.runC, ren3, ren2, ren1, numb, List.zipIdx_nil, List.zipIdx_cons, List.all_nil, List.all_cons, Nat.reduceLeDiff, List.range, List.range.loop, Ty.sz, beq_self_eq_true, Bool.and_self, and_self, Ty.ofC, AO.isDead, Nat.reduceLT, if_true, Nat.zero_add, Nat.add_zero, ite_true, Nat.le_refl, Bool.false_eq_true, reduceCtorEq, if_false, ite_false, binAV, AO.ren, AV.isCell, fillAV, List.set_cons_zero, List.set_cons_succ, Ty.cells, Ty.flat, Ty.dflt, List.getD_cons_zero, List.getD_cons_succ, Int.reduceToNat, Int.reduceSub, Int.reduceAdd, Int.reduceMul, Int.reduceNeg, forall_eq_or_imp, forall_eq, gdL, id_eq, Nat.lt_irrefl, srcOf, List.replicate_succ, List.replicate_zero, dite_true, List.isEmpty_cons, Option.isSome_some, List.length_append, List.length_singleton, bne_self_eq_false, Bool.not_true, Bool.not_false, conF, asArgs, asArg, asTy, asI1, asB1, asS1, asL1, canons, canon, Fork.true_, Fork.false_, bne, Bool.not_not, List.length_map, pickO, AS.over, TI.bl, bne_iff_ne, AS.over2, without, keys, List.mem_singleton, memOp2, memOp3, absorb, abInt, abBool, abStr, abList, gones, Int.toNat_natCast, List.take_length, subE, List.nodup_cons, List.nodup_nil, not_false_eq_true, Nat.sub_self, conR, asG, asI, asBo, asStr, asIs, asBs, asE4, asI2, asI3, asLL, asLLL, Th_int, Th_Sint, Th_implDealing, Th_implEqualLog, Th_implGroup, Th_lawsGroup, Th_string, G_deal, c_pow, c_evalPoly, List.length_append, hL])
    | ((with_reducible refine ens_step ?_ (fun hE => ?_)); · ((repeat' with_reducible apply And.intro) <;> first | with_reducible assumption | omega | exact True.intro | with_reducible rfl | (show ByteArray.size _ ≤ _; decide) | (simp; done) | (simp; omega) | rfl))
    | ((with_reducible refine And.intro ?_ ?_); · ((repeat' with_reducible apply And.intro) <;> first | with_reducible assumption | omega | exact True.intro | with_reducible rfl | (show ByteArray.size _ ≤ _; decide) | (simp; done) | (simp; omega) | rfl))
    | ((with_reducible refine Fork.intro (fun h' => ?_) (fun h' => ?_)) <;> (try simp only [Bool.not_eq_true', Bool.not_eq_false', bne] at h') <;> (replace hL := And.intro h' hL) <;> (try simp only [decide_eq_true_eq, decide_eq_false_iff_not, beq_iff_eq, beq_eq_false_iff_ne, ne_eq] at h') <;> (try (have hak := hab (by omega))) <;> (try (have hke : k = cs.length := (by omega); subst hke; rw [List.take_length] at hl1; clear hab)) <;> (try (have hkn : k = n.toNat := (by omega); subst hkn)))
    | (with_reducible refine AWp.skipS ?_)
    | ((with_reducible refine AWp.condT rfl ?_))
    | ((with_reducible refine AWp.condF rfl ?_))
    | (with_reducible refine AWp.condB rfl ?_)
    | (with_reducible refine AWp.ret ?_)
    | (with_reducible refine seqQ_n ?_)
    | (with_reducible refine seqQ_ret ?_)
    | (with_reducible refine blkQ_ret ?_)
    | (with_reducible refine blkQ_n ?_)
    | (with_reducible refine seqQ_exit ?_)
    | (with_reducible refine blkQ_exit ?_)
    | (with_reducible refine blkQ_other (by decide) ?_)
    | (with_reducible refine AWp.block ?_)
    | (with_reducible refine AWp.exit ?_)
    | (with_reducible refine AWp.skip ?_)
    | ((with_reducible refine loop_id ?_); refine AWp.loopAt 3 rfl ?_; refine AWp.sub (Sub.nilBox 24 0 300100 3 .int rfl rfl rfl) ?_; refine AWp.sub (Sub.nilBox 24 1 300101 3 .int rfl rfl rfl) ?_; refine AWp.loopO [9, 14, 15, 16, 17, 18, 19, 20, 21, 22, 23, 24, 25, 26, 27, 28] (fun k => [(14, .lit (.int .i64 (k : Nat)))]) (fun k => [(24, .box 81 [.own 300100 k, .own 300101 0]), (300100, .row 3 .int (dealC p q g (cs.take k)))]) (fun k => k ≤ cs.length) (fun k => cs.length - k) 0 (by omega) (by refine Sub.auto (by first | exact frok0 | assumption) rfl rfl ?_ ?_ <;> (try simp only [subE, AS.over2, without, keys, look, List.cons_append, List.nil_append, List.append_nil, List.mem_cons, List.not_mem_nil, or_false, or_true, true_or, false_or, Nat.reduceEqDiff, ↓reduceIte, Option.some.injEq, AV.lit.injEq, Value.int.injEq, Value.bool.injEq, AV.own.injEq, AO.row.injEq, AO.box.injEq, List.cons.injEq, AV.agg.injEq, AV.sl.injEq, true_and, and_true, and_self, heq_eq_eq, List.length_nil, List.length_cons, List.map_nil, List.take_zero, Int.natCast_add, Int.cast_ofNat_Int, Int.natCast_zero, List.length_append, List.length_map, List.length_take, Nat.zero_add]) <;> (simp [dealC])) (fun k hk_3 L3 hLoop3 => ?_); have hl1 := dealC_tl (p := p) (q := q) (g := g) (cs := cs) (k := k) hk_3; have hab := fun h : k < cs.length => getD_bd' hcs h)
    | ((with_reducible refine seqQ_f ?_); refine hLoop3 (k + 1) _ (by omega) (by omega) ?_; (refine Sub.auto (by first | exact frok0 | assumption) rfl rfl ?_ ?_ <;> (try simp only [subE, AS.over2, without, keys, look, List.cons_append, List.nil_append, List.append_nil, List.mem_cons, List.not_mem_nil, or_false, or_true, true_or, false_or, Nat.reduceEqDiff, ↓reduceIte, Option.some.injEq, AV.lit.injEq, Value.int.injEq, Value.bool.injEq, AV.own.injEq, AO.row.injEq, AO.box.injEq, List.cons.injEq, AV.agg.injEq, AV.sl.injEq, true_and, and_true, and_self, heq_eq_eq, List.length_nil, List.length_cons, List.map_nil, List.take_zero, Int.natCast_add, Int.cast_ofNat_Int, Int.natCast_zero, List.length_append, List.length_map, List.length_take, Nat.zero_add]) <;> ((repeat' apply And.intro) <;> first | omega | exact dealC_step (by omega) | (rw [dealC_len, List.length_take]; omega))))
    | ((with_reducible refine loop_id ?_); refine AWp.loopAt 8 rfl ?_; refine AWp.loopO [10, 29, 30, 31, 32, 33, 34, 35, 36, 37, 38, 39, 40, 41, 42, 43] (fun k => [(10, .lit (.int .i64 ((k : Nat) + 1)))]) (fun k => [(24, .box 81 [.own 300100 cs.length, .own 300101 k]), (300101, .row 3 .int (dealS q cs k))]) (fun k => k ≤ n.toNat) (fun k => n.toNat - k) 0 (by omega) (by refine Sub.auto (by first | exact frok0 | assumption) rfl rfl ?_ ?_ <;> (try simp only [subE, AS.over2, without, keys, look, List.cons_append, List.nil_append, List.append_nil, List.mem_cons, List.not_mem_nil, or_false, or_true, true_or, false_or, Nat.reduceEqDiff, ↓reduceIte, Option.some.injEq, AV.lit.injEq, Value.int.injEq, Value.bool.injEq, AV.own.injEq, AO.row.injEq, AO.box.injEq, List.cons.injEq, AV.agg.injEq, AV.sl.injEq, true_and, and_true, and_self, heq_eq_eq, List.length_nil, List.length_cons, List.map_nil, List.take_zero, Int.natCast_add, Int.cast_ofNat_Int, Int.natCast_zero, List.length_append, List.length_map, List.length_take, Nat.zero_add]) <;> (simp [dealS])) (fun k hk_8 L8 hLoop8 => ?_); have hl2 := dealS_len (q := q) (cs := cs) (n := k))
    | ((with_reducible refine seqQ_f ?_); refine hLoop8 (k + 1) _ (by omega) (by omega) ?_; (refine Sub.auto (by first | exact frok0 | assumption) rfl rfl ?_ ?_ <;> (try simp only [subE, AS.over2, without, keys, look, List.cons_append, List.nil_append, List.append_nil, List.mem_cons, List.not_mem_nil, or_false, or_true, true_or, false_or, Nat.reduceEqDiff, ↓reduceIte, Option.some.injEq, AV.lit.injEq, Value.int.injEq, Value.bool.injEq, AV.own.injEq, AO.row.injEq, AO.box.injEq, List.cons.injEq, AV.agg.injEq, AV.sl.injEq, true_and, and_true, and_self, heq_eq_eq, List.length_nil, List.length_cons, List.map_nil, List.take_zero, Int.natCast_add, Int.cast_ofNat_Int, Int.natCast_zero, List.length_append, List.length_map, List.length_take, Nat.zero_add]) <;> ((repeat' apply And.intro) <;> first | omega | exact dealS_step | (simp; done) | (simp; omega))))
    | ((with_reducible refine EndsAt_id ?_); (try subst_vars); refine EndsAt.done [_, _] (by first | exact .inr rfl | exact .inl rfl) rfl rfl ?_ ?_ <;> first | decide | (repeat' (first | rfl | apply And.intro | trivial)))
    | (with_reducible refine AWp.seq ?_)⟩
noncomputable def c_sDeal : Con0 := conF [(.pair .int (.pair .int .int)), (.list .int), .int] fun (⟨⟨p, q, g⟩, cs, n, _⟩ : (Int × Int × Int) × (List Int) × Int × Unit) => (M.Grp p q g ∧ (∀ c ∈ cs, 0 ≤ c ∧ c < q) ∧ cs.length ≤ 1000 ∧ (0 ≤ n ∧ n ≤ 7), .agg [.own 0 cs.length, .own 1 n.toNat], [.row 3 .int (dealC p q g cs), .row 3 .int (dealS q cs n.toNat)])
noncomputable def G_sDeal : List (FuncId × Con) := [(147, mk c_gExp), (95, mk c_yEval)]
theorem G_sDeal_ok : ∀ f C, (f, C) ∈ G_sDeal → C.ok Try.prog f := by
  intro f C h
  simp only [G_sDeal, List.mem_cons, Prod.mk.injEq, List.not_mem_nil, or_false] at h
  rcases h with ⟨rfl, rfl⟩ | ⟨rfl, rfl⟩
  · exact ok_gExp
  · exact ok_yEval
set_option maxRecDepth 100000 in
set_option maxHeartbeats 4000000 in
theorem ok_sDeal : (mk c_sDeal).ok Try.prog 94 := okF (Θ := Th) (N := 44) (rs := [.cell 6 81]) Th_ok Try.func94 (by kernel_rfl) rfl Try.results94 (by decide) (by kernel_rfl) fun (⟨⟨p, q, g⟩, cs, n, _⟩ : (Int × Int × Int) × (List Int) × Int × Unit) => ⟨rfl, rfl, Nat.le_of_ble_eq_true rfl, fun hc w0 => by
  have hL := dmy_eq
  try dsimp only at hc
  try dsimp only
  obtain ⟨hG, hcs, hcl, hn⟩ := hc
  have hq2 := hG.q2
  have hqp := hG.qp
  have hp3 := hG.p3
  have hpM := hG.pM
  have hgb : 0 ≤ g ∧ g < p := ⟨by have := hG.g2; omega, hG.gp⟩
  refine AWp.body rfl ?_
  repeat' first
    | ((with_reducible refine hK _ _ ?_); clear hK K)
    | ((with_reducible refine hK _ _ (by kernel_rfl) ?_); clear hK K)
    | ((with_reducible refine AWp.pS Th_ok G_sDeal_ok [0, 1, 2, 3, 6, 7, 9, 10, 11, 12, 13, 14, 30] (by decide) ?_); intro K hK)
    | ((with_reducible refine AWp.dS (by kernel_rfl) Th_ok G_sDeal_ok [0, 1, 2, 3, 6, 7, 9, 10, 11, 12, 13, 14, 30] ?_); intro K hK)
    | ((with_reducible refine AWp.pE Th_ok G_sDeal_ok [0, 1, 2, 3, 6, 7, 9, 10, 11, 12, 13, 14, 30] (by decide) ?_); intro K hK)
    | ((with_reducible refine AWp.dE (by kernel_rfl) Th_ok G_sDeal_ok [0, 1, 2, 3, 6, 7, 9, 10, 11, 12, 13, 14, 30] ?_); intro K hK)
    | ((first | with_reducible refine runF_id ?_ | with_reducible refine stepF_id ?_); simp (maxSteps := 2000000) only [runF, stepF, forkOf, gdOf, List.toList_toArray, stepOp, look, opAV, pureOp, callOp, memOp, AS.ev, AS.get, AS.obj, initS, initFrom, AV.cells, AS.upd, Option.bind_some, Option.bind_none, Option.map_some, Option.map_none, Option.getD_none, Option.getD_some, ↓reduceIte, Nat.reduceEqDiff, Nat.reduceAdd, Nat.reduceMul, Nat.reduceSub, List.nil_append, List.append_nil, List.cons_append, List.map_cons, List.map_nil, true_and, and_true, AS.fin, pick, dedup, List.mem_cons, List.not_mem_nil, or_false, false_or, List.size_toArray, List.length_cons, List.length_nil, loadAV, List.drop_zero, List.drop_succ_cons, List.take_zero, List.take_succ_cons, List.getElem?_cons_zero, List.getElem?_cons_succ, List.head?_cons, List.mapM_cons, List.mapM_nil, Option.bind_eq_bind, Option.pure_def, deeps3, deep3, deep2, deep1, deeps, deeps2, mixInts, AV.plain, mk, mkD, DCon.lift, DCon.runC, ren3, ren2, ren1, numb, List.zipIdx_nil, List.zipIdx_cons, List.all_nil, List.all_cons, Nat.reduceLeDiff, List.range, List.range.loop, Ty.sz, beq_self_eq_true, Bool.and_self, and_self, Ty.ofC, AO.isDead, Nat.reduceLT, if_true, Nat.zero_add, Nat.add_zero, ite_true, Nat.le_refl, Bool.false_eq_true, reduceCtorEq, if_false, ite_false, binAV, AO.ren, AV.isCell, fillAV, List.set_cons_zero, List.set_cons_succ, Ty.cells, Ty.flat, Ty.dflt, List.getD_cons_zero, List.getD_cons_succ, Int.reduceToNat, Int.reduceSub, Int.reduceAdd, Int.reduceMul, Int.reduceNeg, forall_eq_or_imp, forall_eq, gdL, id_eq, Nat.lt_irrefl, srcOf, List.replicate_succ, List.replicate_zero, dite_true, List.isEmpty_cons, Option.isSome_some, List.length_append, List.length_singleton, bne_self_eq_false, Bool.not_true, Bool.not_false, conF, asArgs, asArg, asTy, asI1, asB1, asS1, asL1, canons, canon, Fork.true_, Fork.false_, bne, Bool.not_not, List.length_map, pickO, AS.over, TI.bl, bne_iff_ne, AS.over2, without, keys, List.mem_singleton, memOp2, memOp3, absorb, abInt, abBool, abStr, abList, gones, Int.toNat_natCast, List.take_length, subE, List.nodup_cons, List.nodup_nil, not_false_eq_true, Nat.sub_self, conR, asG, asI, asBo, asStr, asIs, asBs, asE4, asI2, asI3, asLL, asLLL, Th_int, Th_Sint, Th_implDealing, Th_implGroup, Th_lawsGroup, Th_string, G_sDeal, c_gExp, c_yEval, List.length_append, hL])
    | ((with_reducible refine ens_step ?_ (fun hE => ?_)); · ((repeat' with_reducible apply And.intro) <;> first | with_reducible assumption | omega | exact True.intro | with_reducible rfl | (show ByteArray.size _ ≤ _; decide) | (simp; done) | (simp; omega) | rfl))
    | ((with_reducible refine And.intro ?_ ?_); · ((repeat' with_reducible apply And.intro) <;> first | with_reducible assumption | omega | exact True.intro | with_reducible rfl | (show ByteArray.size _ ≤ _; decide) | (simp; done) | (simp; omega) | rfl))
    | ((with_reducible refine Fork.intro (fun h' => ?_) (fun h' => ?_)) <;> (try simp only [Bool.not_eq_true', Bool.not_eq_false', bne] at h') <;> (replace hL := And.intro h' hL) <;> (try simp only [decide_eq_true_eq, decide_eq_false_iff_not, beq_iff_eq, beq_eq_false_iff_ne, ne_eq] at h') <;> (try (have hak := hab (by omega))) <;> (try (have hke : k = cs.length := (by omega); subst hke; rw [List.take_length] at hl1; clear hab)) <;> (try (have hkn : k = n.toNat := (by omega); subst hkn)))
    | (with_reducible refine AWp.skipS ?_)
    | ((with_reducible refine AWp.condT rfl ?_))
    | ((with_reducible refine AWp.condF rfl ?_))
    | (with_reducible refine AWp.condB rfl ?_)
    | (with_reducible refine AWp.ret ?_)
    | (with_reducible refine seqQ_n ?_)
    | (with_reducible refine seqQ_ret ?_)
    | (with_reducible refine blkQ_ret ?_)
    | (with_reducible refine blkQ_n ?_)
    | (with_reducible refine seqQ_exit ?_)
    | (with_reducible refine blkQ_exit ?_)
    | (with_reducible refine blkQ_other (by decide) ?_)
    | (with_reducible refine AWp.block ?_)
    | (with_reducible refine AWp.exit ?_)
    | (with_reducible refine AWp.skip ?_)
    | ((with_reducible refine loop_id ?_); refine AWp.loopAt 3 rfl ?_; refine AWp.sub (Sub.nilBox 16 0 300100 3 .int rfl rfl rfl) ?_; refine AWp.sub (Sub.nilBox 16 1 300101 3 .int rfl rfl rfl) ?_; refine AWp.loopO [9, 13, 14, 15, 16, 17, 18, 19, 20, 21, 22, 23, 24, 25, 26, 27] (fun k => [(13, .lit (.int .i64 (k : Nat)))]) (fun k => [(16, .box 81 [.own 300100 k, .own 300101 0]), (300100, .row 3 .int (dealC p q g (cs.take k)))]) (fun k => k ≤ cs.length) (fun k => cs.length - k) 0 (by omega) (by refine Sub.auto (by first | exact frok0 | assumption) rfl rfl ?_ ?_ <;> (try simp only [subE, AS.over2, without, keys, look, List.cons_append, List.nil_append, List.append_nil, List.mem_cons, List.not_mem_nil, or_false, or_true, true_or, false_or, Nat.reduceEqDiff, ↓reduceIte, Option.some.injEq, AV.lit.injEq, Value.int.injEq, Value.bool.injEq, AV.own.injEq, AO.row.injEq, AO.box.injEq, List.cons.injEq, AV.agg.injEq, AV.sl.injEq, true_and, and_true, and_self, heq_eq_eq, List.length_nil, List.length_cons, List.map_nil, List.take_zero, Int.natCast_add, Int.cast_ofNat_Int, Int.natCast_zero, List.length_append, List.length_map, List.length_take, Nat.zero_add]) <;> (simp [dealC])) (fun k hk_3 L3 hLoop3 => ?_); have hl1 := dealC_tl (p := p) (q := q) (g := g) (cs := cs) (k := k) hk_3; have hab := fun h : k < cs.length => getD_bd' hcs h)
    | ((with_reducible refine seqQ_f ?_); refine hLoop3 (k + 1) _ (by omega) (by omega) ?_; (refine Sub.auto (by first | exact frok0 | assumption) rfl rfl ?_ ?_ <;> (try simp only [subE, AS.over2, without, keys, look, List.cons_append, List.nil_append, List.append_nil, List.mem_cons, List.not_mem_nil, or_false, or_true, true_or, false_or, Nat.reduceEqDiff, ↓reduceIte, Option.some.injEq, AV.lit.injEq, Value.int.injEq, Value.bool.injEq, AV.own.injEq, AO.row.injEq, AO.box.injEq, List.cons.injEq, AV.agg.injEq, AV.sl.injEq, true_and, and_true, and_self, heq_eq_eq, List.length_nil, List.length_cons, List.map_nil, List.take_zero, Int.natCast_add, Int.cast_ofNat_Int, Int.natCast_zero, List.length_append, List.length_map, List.length_take, Nat.zero_add]) <;> ((repeat' apply And.intro) <;> first | omega | exact dealC_step (by omega) | (rw [dealC_len, List.length_take]; omega))))
    | ((with_reducible refine loop_id ?_); refine AWp.loopAt 8 rfl ?_; refine AWp.loopO [10, 28, 29, 30, 31, 32, 33, 34, 35, 36, 37, 38, 39, 40, 41, 42] (fun k => [(10, .lit (.int .i64 ((k : Nat) + 1)))]) (fun k => [(16, .box 81 [.own 300100 cs.length, .own 300101 k]), (300101, .row 3 .int (dealS q cs k))]) (fun k => k ≤ n.toNat) (fun k => n.toNat - k) 0 (by omega) (by refine Sub.auto (by first | exact frok0 | assumption) rfl rfl ?_ ?_ <;> (try simp only [subE, AS.over2, without, keys, look, List.cons_append, List.nil_append, List.append_nil, List.mem_cons, List.not_mem_nil, or_false, or_true, true_or, false_or, Nat.reduceEqDiff, ↓reduceIte, Option.some.injEq, AV.lit.injEq, Value.int.injEq, Value.bool.injEq, AV.own.injEq, AO.row.injEq, AO.box.injEq, List.cons.injEq, AV.agg.injEq, AV.sl.injEq, true_and, and_true, and_self, heq_eq_eq, List.length_nil, List.length_cons, List.map_nil, List.take_zero, Int.natCast_add, Int.cast_ofNat_Int, Int.natCast_zero, List.length_append, List.length_map, List.length_take, Nat.zero_add]) <;> (simp [dealS])) (fun k hk_8 L8 hLoop8 => ?_); have hl2 := dealS_len (q := q) (cs := cs) (n := k))
    | ((with_reducible refine seqQ_f ?_); refine hLoop8 (k + 1) _ (by omega) (by omega) ?_; (refine Sub.auto (by first | exact frok0 | assumption) rfl rfl ?_ ?_ <;> (try simp only [subE, AS.over2, without, keys, look, List.cons_append, List.nil_append, List.append_nil, List.mem_cons, List.not_mem_nil, or_false, or_true, true_or, false_or, Nat.reduceEqDiff, ↓reduceIte, Option.some.injEq, AV.lit.injEq, Value.int.injEq, Value.bool.injEq, AV.own.injEq, AO.row.injEq, AO.box.injEq, List.cons.injEq, AV.agg.injEq, AV.sl.injEq, true_and, and_true, and_self, heq_eq_eq, List.length_nil, List.length_cons, List.map_nil, List.take_zero, Int.natCast_add, Int.cast_ofNat_Int, Int.natCast_zero, List.length_append, List.length_map, List.length_take, Nat.zero_add]) <;> ((repeat' apply And.intro) <;> first | omega | exact dealS_step | (simp; done) | (simp; omega))))
    | ((with_reducible refine EndsAt_id ?_); (try subst_vars); refine EndsAt.done [_, _] (by first | exact .inr rfl | exact .inl rfl) rfl rfl ?_ ?_ <;> first | decide | (repeat' (first | rfl | apply And.intro | trivial)))
    | (with_reducible refine AWp.seq ?_)⟩
/-- numbers of the shares that are wrong -/
def badF (f : Int → Int → Bool) : List Int → Nat → List Int
  | [], _ => []
  | s :: l, k => if f ((k : Int) + 1) s = true then badF f l (k + 1) else ((k : Int) + 1) :: badF f l (k + 1)
def badL (p q g : Int) (cs ss : List Int) : List Int := badF (shrB p q g cs) ss 0
theorem badF_t {f : Int → Int → Bool} {ss : List Int} {k : Nat} (h : k < ss.length) (hf : f ((k : Int) + 1) (ss.getD k 0) = true) : badF f (ss.drop k) k = badF f (ss.drop (k + 1)) (k + 1) := by
  rw [drop_at 0 h]; simp only [badF, hf, if_true]
theorem badF_f {f : Int → Int → Bool} {ss : List Int} {k : Nat} (h : k < ss.length) (hf : f ((k : Int) + 1) (ss.getD k 0) = false) : badF f (ss.drop k) k = ((k : Int) + 1) :: badF f (ss.drop (k + 1)) (k + 1) := by
  rw [drop_at 0 h]; simp only [badF, hf, Bool.false_eq_true, if_false]
theorem badF_len {f : Int → Int → Bool} : ∀ (ss : List Int) (k : Nat), (badF f ss k).length ≤ ss.length
  | [], _ => Nat.le_refl _
  | s :: l, k => by
    have := badF_len (f := f) l (k + 1)
    simp only [badF]; split <;> simp only [List.length_cons] <;> omega
theorem badF_mem {f : Int → Int → Bool} : ∀ (ss : List Int) (k : Nat), ∀ x ∈ badF f ss k, (k : Int) + 1 ≤ x ∧ x ≤ (k : Int) + ss.length
  | [], _, x, h => by simp [badF] at h
  | s :: l, k, x, h => by
    simp only [badF] at h
    have ih := badF_mem (f := f) l (k + 1) x
    split at h
    · have := ih h; simp only [List.length_cons]; omega
    · rcases List.mem_cons.1 h with rfl | h
      · simp only [List.length_cons]; omega
      · have := ih h; simp only [List.length_cons]; omega
theorem badL_le (p q g : Int) (cs ss : List Int) : (badL p q g cs ss).length ≤ ss.length := badF_len ss 0
theorem badF_end {f : Int → Int → Bool} {ss : List Int} {k : Nat} : badF f (ss.drop ss.length) k = [] := by simp [badF]
noncomputable def c_bad : Con0 := conF [(.pair .int (.pair .int .int)), (.pair (.list .int) (.list .int))] fun (⟨⟨p, q, g⟩, ⟨cs, ss⟩, _⟩ : (Int × Int × Int) × (List Int × List Int) × Unit) => (M.Grp p q g ∧ (∀ c ∈ cs, 0 ≤ c ∧ c < p) ∧ (∀ s ∈ ss, 0 ≤ s ∧ s < q) ∧ ss.length ≤ 7 ∧ cs.length ≤ 7, .own 0 (badL p q g cs ss).length, [.row 3 .int (badL p q g cs ss)])
noncomputable def G_bad : List (FuncId × Con) := [(141, mk c_isShare)]
theorem G_bad_ok : ∀ f C, (f, C) ∈ G_bad → C.ok Try.prog f := by
  intro f C h
  simp only [G_bad, List.mem_cons, Prod.mk.injEq, List.not_mem_nil, or_false] at h
  obtain ⟨rfl, rfl⟩ := h
  exact ok_isShare
set_option maxRecDepth 100000 in
set_option maxHeartbeats 4000000 in
theorem ok_bad : (mk c_bad).ok Try.prog 85 := okF (Θ := Th) (N := 32) (rs := [.tmp 4]) Th_ok Try.func85 (by kernel_rfl) rfl Try.results85 (by decide) (by kernel_rfl) fun (⟨⟨p, q, g⟩, ⟨cs, ss⟩, _⟩ : (Int × Int × Int) × (List Int × List Int) × Unit) => ⟨rfl, rfl, Nat.le_of_ble_eq_true rfl, fun hc w0 => by
  have hL := dmy_eq
  try dsimp only at hc
  try dsimp only
  obtain ⟨hG, hcs, hss, hsl, hcl⟩ := hc
  have hq2 := hG.q2
  have hqp := hG.qp
  have hp3 := hG.p3
  have hpM := hG.pM
  have hgb : 0 ≤ g ∧ g < p := ⟨by have := hG.g2; omega, hG.gp⟩
  refine AWp.body rfl ?_
  repeat' first
    | ((with_reducible refine hK _ _ ?_); clear hK K)
    | ((with_reducible refine hK _ _ (by kernel_rfl) ?_); clear hK K)
    | ((with_reducible refine AWp.pS Th_ok G_bad_ok [0, 1, 2, 3, 4, 5, 6, 7, 10, 11, 12, 13, 24] (by decide) ?_); intro K hK)
    | ((with_reducible refine AWp.dS (by kernel_rfl) Th_ok G_bad_ok [0, 1, 2, 3, 4, 5, 6, 7, 10, 11, 12, 13, 24] ?_); intro K hK)
    | ((with_reducible refine AWp.pE Th_ok G_bad_ok [0, 1, 2, 3, 4, 5, 6, 7, 10, 11, 12, 13, 24] (by decide) ?_); intro K hK)
    | ((with_reducible refine AWp.dE (by kernel_rfl) Th_ok G_bad_ok [0, 1, 2, 3, 4, 5, 6, 7, 10, 11, 12, 13, 24] ?_); intro K hK)
    | ((first | with_reducible refine runF_id ?_ | with_reducible refine stepF_id ?_); simp (maxSteps := 2000000) only [runF, stepF, forkOf, gdOf, List.toList_toArray, stepOp, look, opAV, pureOp, callOp, memOp, AS.ev, AS.get, AS.obj, initS, initFrom, AV.cells, AS.upd, Option.bind_some, Option.bind_none, Option.map_some, Option.map_none, Option.getD_none, Option.getD_some, ↓reduceIte, Nat.reduceEqDiff, Nat.reduceAdd, Nat.reduceMul, Nat.reduceSub, List.nil_append, List.append_nil, List.cons_append, List.map_cons, List.map_nil, true_and, and_true, AS.fin, pick, dedup, List.mem_cons, List.not_mem_nil, or_false, false_or, List.size_toArray, List.length_cons, List.length_nil, loadAV, List.drop_zero, List.drop_succ_cons, List.take_zero, List.take_succ_cons, List.getElem?_cons_zero, List.getElem?_cons_succ, List.head?_cons, List.mapM_cons, List.mapM_nil, Option.bind_eq_bind, Option.pure_def, deeps3, deep3, deep2, deep1, deeps, deeps2, mixInts, AV.plain, mk, mkD, DCon.lift, DCon.runC, ren3, ren2, ren1, numb, List.zipIdx_nil, List.zipIdx_cons, List.all_nil, List.all_cons, Nat.reduceLeDiff, List.range, List.range.loop, Ty.sz, beq_self_eq_true, Bool.and_self, and_self, Ty.ofC, AO.isDead, Nat.reduceLT, if_true, Nat.zero_add, Nat.add_zero, ite_true, Nat.le_refl, Bool.false_eq_true, reduceCtorEq, if_false, ite_false, binAV, AO.ren, AV.isCell, fillAV, List.set_cons_zero, List.set_cons_succ, Ty.cells, Ty.flat, Ty.dflt, List.getD_cons_zero, List.getD_cons_succ, Int.reduceToNat, Int.reduceSub, Int.reduceAdd, Int.reduceMul, Int.reduceNeg, forall_eq_or_imp, forall_eq, gdL, id_eq, Nat.lt_irrefl, srcOf, List.replicate_succ, List.replicate_zero, dite_true, List.isEmpty_cons, Option.isSome_some, List.length_append, List.length_singleton, bne_self_eq_false, Bool.not_true, Bool.not_false, conF, asArgs, asArg, asTy, asI1, asB1, asS1, asL1, canons, canon, Fork.true_, Fork.false_, bne, Bool.not_not, List.length_map, pickO, AS.over, TI.bl, bne_iff_ne, AS.over2, without, keys, List.mem_singleton, memOp2, memOp3, absorb, abInt, abBool, abStr, abList, gones, Int.toNat_natCast, List.take_length, subE, List.nodup_cons, List.nodup_nil, not_false_eq_true, Nat.sub_self, conR, asG, asI, asBo, asStr, asIs, asBs, asE4, asI2, asI3, asLL, asLLL, Th_int, Th_Sint, Th_bool, Th_implDealing, Th_implEqualLog, Th_implGroup, Th_lawsGroup, Th_string, G_bad, c_isShare, hL])
    | ((with_reducible refine ens_step ?_ (fun hE => ?_)); · ((repeat' with_reducible apply And.intro) <;> first | with_reducible assumption | omega | exact True.intro | with_reducible rfl | (show ByteArray.size _ ≤ _; decide) | (simp; done) | (simp; omega) | rfl))
    | ((with_reducible refine And.intro ?_ ?_); · ((repeat' with_reducible apply And.intro) <;> first | with_reducible assumption | omega | exact True.intro | with_reducible rfl | (show ByteArray.size _ ≤ _; decide) | (simp; done) | (simp; omega) | rfl))
    | ((with_reducible refine Fork.intro (fun h' => ?_) (fun h' => ?_)) <;> (try simp only [Bool.not_eq_true', Bool.not_eq_false', bne] at h') <;> (replace hL := And.intro h' hL) <;> (try simp only [decide_eq_true_eq, decide_eq_false_iff_not, beq_iff_eq, beq_eq_false_iff_ne, ne_eq] at h') <;> (try (have hbt := badF_t (f := shrB p q g cs) (ss := ss) (k := k) (by omega) hL.1; rw [hbt] at hz2)) <;> (try (have hbf := badF_f (f := shrB p q g cs) (ss := ss) (k := k) (by omega) hL.1; rw [hbf] at hz2)) <;> (try (have hke : k = ss.length := (by omega); subst hke; rw [badF_end, List.append_nil] at hz2; replace hz2 : out = badL p q g cs ss := hz2; subst hz2)) <;> (try (have hsk := getD_bd' hss (k := k) (by omega))))
    | (with_reducible refine AWp.skipS ?_)
    | ((with_reducible refine AWp.condT rfl ?_))
    | ((with_reducible refine AWp.condF rfl ?_))
    | (with_reducible refine AWp.condB rfl ?_)
    | (with_reducible refine AWp.ret ?_)
    | (with_reducible refine seqQ_n ?_)
    | (with_reducible refine seqQ_ret ?_)
    | (with_reducible refine blkQ_ret ?_)
    | (with_reducible refine blkQ_n ?_)
    | (with_reducible refine seqQ_exit ?_)
    | (with_reducible refine blkQ_exit ?_)
    | (with_reducible refine blkQ_other (by decide) ?_)
    | (with_reducible refine AWp.block ?_)
    | (with_reducible refine AWp.exit ?_)
    | (with_reducible refine AWp.skip ?_)
    | ((with_reducible refine loop_id ?_); refine AWp.loopAt 3 rfl ?_; refine AWp.loopO [5, 6, 7, 12, 13, 14, 15, 16, 17, 18, 19, 20, 21, 22, 23, 24, 25, 26, 27, 28, 29, 30] (fun z : Nat × List Int => [(12, .lit (.int .i64 (z.1 : Nat))), (5, .own 24 z.2.length)]) (fun z => [(24, .row 3 .int z.2)]) (fun z => z.1 ≤ ss.length ∧ z.2 ++ badF (shrB p q g cs) (ss.drop z.1) z.1 = badF (shrB p q g cs) ss 0 ∧ z.2.length ≤ z.1) (fun z => ss.length - z.1) (0, []) (by (try dsimp only); exact ⟨by omega, by simp, by simp⟩) (by (refine Sub.auto (by first | exact frok0 | assumption) rfl rfl ?_ ?_ <;> (try simp only [subE, AS.over2, without, keys, look, List.cons_append, List.nil_append, List.append_nil, List.mem_cons, List.not_mem_nil, or_false, or_true, true_or, false_or, Nat.reduceEqDiff, ↓reduceIte, Option.some.injEq, AV.lit.injEq, Value.int.injEq, Value.bool.injEq, AV.own.injEq, AO.row.injEq, AO.box.injEq, List.cons.injEq, AV.agg.injEq, AV.sl.injEq, true_and, and_true, and_self, heq_eq_eq, List.length_nil, List.length_cons, List.map_nil, List.take_zero, Int.natCast_add, Int.cast_ofNat_Int, Int.natCast_zero, List.length_append, List.length_map, List.length_take, Nat.zero_add]) <;> (simp))) (fun z hz3 L3 hLoop3 => ?_); obtain ⟨k, out⟩ := z; (try dsimp only at hz3); obtain ⟨hz1, hz2, hz3⟩ := hz3)
    | ((with_reducible refine seqQ_f ?_); refine hLoop3 (k + 1, _) _ (by (try dsimp only); first | exact ⟨by omega, hz2, by omega⟩ | (refine ⟨by omega, (List.append_assoc out [(k : Int) + 1] _).trans hz2, by simp; omega⟩)) (by (try dsimp only); omega) ?_; ((refine Sub.auto (by first | exact frok0 | assumption) rfl rfl ?_ ?_ <;> (try simp only [subE, AS.over2, without, keys, look, List.cons_append, List.nil_append, List.append_nil, List.mem_cons, List.not_mem_nil, or_false, or_true, true_or, false_or, Nat.reduceEqDiff, ↓reduceIte, Option.some.injEq, AV.lit.injEq, Value.int.injEq, Value.bool.injEq, AV.own.injEq, AO.row.injEq, AO.box.injEq, List.cons.injEq, AV.agg.injEq, AV.sl.injEq, true_and, and_true, and_self, heq_eq_eq, List.length_nil, List.length_cons, List.map_nil, List.take_zero, Int.natCast_add, Int.cast_ofNat_Int, Int.natCast_zero, List.length_append, List.length_map, List.length_take, Nat.zero_add]) <;> ((repeat' apply And.intro) <;> first | rfl | omega | (simp; done) | (simp; omega)))))
    | ((with_reducible refine EndsAt_id ?_); (try subst_vars); refine EndsAt.done [_] (by first | exact .inr rfl | exact .inl rfl) rfl rfl ?_ ?_ <;> first | decide | (repeat' (first | rfl | apply And.intro | trivial)))
    | (with_reducible refine AWp.seq ?_)⟩
noncomputable def c_sBad : Con0 := conF [(.pair .int (.pair .int .int)), (.pair (.list .int) (.list .int))] fun (⟨⟨p, q, g⟩, ⟨cs, ss⟩, _⟩ : (Int × Int × Int) × (List Int × List Int) × Unit) => (M.Grp p q g ∧ (∀ c ∈ cs, 0 ≤ c ∧ c < p) ∧ (∀ s ∈ ss, 0 ≤ s ∧ s < q) ∧ ss.length ≤ 7 ∧ cs.length ≤ 7, .own 0 (badL p q g cs ss).length, [.row 3 .int (badL p q g cs ss)])
noncomputable def G_sBad : List (FuncId × Con) := [(136, mk c_sFits)]
theorem G_sBad_ok : ∀ f C, (f, C) ∈ G_sBad → C.ok Try.prog f := by
  intro f C h
  simp only [G_sBad, List.mem_cons, Prod.mk.injEq, List.not_mem_nil, or_false] at h
  obtain ⟨rfl, rfl⟩ := h
  exact ok_sFits
set_option maxRecDepth 100000 in
set_option maxHeartbeats 4000000 in
theorem ok_sBad : (mk c_sBad).ok Try.prog 83 := okF (Θ := Th) (N := 31) (rs := [.tmp 4]) Th_ok Try.func83 (by kernel_rfl) rfl Try.results83 (by decide) (by kernel_rfl) fun (⟨⟨p, q, g⟩, ⟨cs, ss⟩, _⟩ : (Int × Int × Int) × (List Int × List Int) × Unit) => ⟨rfl, rfl, Nat.le_of_ble_eq_true rfl, fun hc w0 => by
  have hL := dmy_eq
  try dsimp only at hc
  try dsimp only
  obtain ⟨hG, hcs, hss, hsl, hcl⟩ := hc
  have hq2 := hG.q2
  have hqp := hG.qp
  have hp3 := hG.p3
  have hpM := hG.pM
  have hgb : 0 ≤ g ∧ g < p := ⟨by have := hG.g2; omega, hG.gp⟩
  refine AWp.body rfl ?_
  repeat' first
    | ((with_reducible refine hK _ _ ?_); clear hK K)
    | ((with_reducible refine hK _ _ (by kernel_rfl) ?_); clear hK K)
    | ((with_reducible refine AWp.pS Th_ok G_sBad_ok [0, 1, 2, 3, 4, 5, 6, 7, 9, 10, 11, 12, 23] (by decide) ?_); intro K hK)
    | ((with_reducible refine AWp.dS (by kernel_rfl) Th_ok G_sBad_ok [0, 1, 2, 3, 4, 5, 6, 7, 9, 10, 11, 12, 23] ?_); intro K hK)
    | ((with_reducible refine AWp.pE Th_ok G_sBad_ok [0, 1, 2, 3, 4, 5, 6, 7, 9, 10, 11, 12, 23] (by decide) ?_); intro K hK)
    | ((with_reducible refine AWp.dE (by kernel_rfl) Th_ok G_sBad_ok [0, 1, 2, 3, 4, 5, 6, 7, 9, 10, 11, 12, 23] ?_); intro K hK)
    | ((first | with_reducible refine runF_id ?_ | with_reducible refine stepF_id ?_); simp (maxSteps := 2000000) only [runF, stepF, forkOf, gdOf, List.toList_toArray, stepOp, look, opAV, pureOp, callOp, memOp, AS.ev, AS.get, AS.obj, initS, initFrom, AV.cells, AS.upd, Option.bind_some, Option.bind_none, Option.map_some, Option.map_none, Option.getD_none, Option.getD_some, ↓reduceIte, Nat.reduceEqDiff, Nat.reduceAdd, Nat.reduceMul, Nat.reduceSub, List.nil_append, List.append_nil, List.cons_append, List.map_cons, List.map_nil, true_and, and_true, AS.fin, pick, dedup, List.mem_cons, List.not_mem_nil, or_false, false_or, List.size_toArray, List.length_cons, List.length_nil, loadAV, List.drop_zero, List.drop_succ_cons, List.take_zero, List.take_succ_cons, List.getElem?_cons_zero, List.getElem?_cons_succ, List.head?_cons, List.mapM_cons, List.mapM_nil, Option.bind_eq_bind, Option.pure_def, deeps3, deep3, deep2, deep1, deeps, deeps2, mixInts, AV.plain, mk, mkD, DCon.lift, DCon.runC, ren3, ren2, ren1, numb, List.zipIdx_nil, List.zipIdx_cons, List.all_nil, List.all_cons, Nat.reduceLeDiff, List.range, List.range.loop, Ty.sz, beq_self_eq_true, Bool.and_self, and_self, Ty.ofC, AO.isDead, Nat.reduceLT, if_true, Nat.zero_add, Nat.add_zero, ite_true, Nat.le_refl, Bool.false_eq_true, reduceCtorEq, if_false, ite_false, binAV, AO.ren, AV.isCell, fillAV, List.set_cons_zero, List.set_cons_succ, Ty.cells, Ty.flat, Ty.dflt, List.getD_cons_zero, List.getD_cons_succ, Int.reduceToNat, Int.reduceSub, Int.reduceAdd, Int.reduceMul, Int.reduceNeg, forall_eq_or_imp, forall_eq, gdL, id_eq, Nat.lt_irrefl, srcOf, List.replicate_succ, List.replicate_zero, dite_true, List.isEmpty_cons, Option.isSome_some, List.length_append, List.length_singleton, bne_self_eq_false, Bool.not_true, Bool.not_false, conF, asArgs, asArg, asTy, asI1, asB1, asS1, asL1, canons, canon, Fork.true_, Fork.false_, bne, Bool.not_not, List.length_map, pickO, AS.over, TI.bl, bne_iff_ne, AS.over2, without, keys, List.mem_singleton, memOp2, memOp3, absorb, abInt, abBool, abStr, abList, gones, Int.toNat_natCast, List.take_length, subE, List.nodup_cons, List.nodup_nil, not_false_eq_true, Nat.sub_self, conR, asG, asI, asBo, asStr, asIs, asBs, asE4, asI2, asI3, asLL, asLLL, Th_int, Th_Sint, Th_bool, Th_implDealing, Th_implEqualLog, Th_implGroup, Th_string, G_sBad, c_sFits, hL])
    | ((with_reducible refine ens_step ?_ (fun hE => ?_)); · ((repeat' with_reducible apply And.intro) <;> first | with_reducible assumption | omega | exact True.intro | with_reducible rfl | (show ByteArray.size _ ≤ _; decide) | (simp; done) | (simp; omega) | rfl))
    | ((with_reducible refine And.intro ?_ ?_); · ((repeat' with_reducible apply And.intro) <;> first | with_reducible assumption | omega | exact True.intro | with_reducible rfl | (show ByteArray.size _ ≤ _; decide) | (simp; done) | (simp; omega) | rfl))
    | ((with_reducible refine Fork.intro (fun h' => ?_) (fun h' => ?_)) <;> (try simp only [Bool.not_eq_true', Bool.not_eq_false', bne] at h') <;> (replace hL := And.intro h' hL) <;> (try simp only [decide_eq_true_eq, decide_eq_false_iff_not, beq_iff_eq, beq_eq_false_iff_ne, ne_eq] at h') <;> (try (have hbt := badF_t (f := shrB p q g cs) (ss := ss) (k := k) (by omega) hL.1; rw [hbt] at hz2)) <;> (try (have hbf := badF_f (f := shrB p q g cs) (ss := ss) (k := k) (by omega) hL.1; rw [hbf] at hz2)) <;> (try (have hke : k = ss.length := (by omega); subst hke; rw [badF_end, List.append_nil] at hz2; replace hz2 : out = badL p q g cs ss := hz2; subst hz2)) <;> (try (have hsk := getD_bd' hss (k := k) (by omega))))
    | (with_reducible refine AWp.skipS ?_)
    | ((with_reducible refine AWp.condT rfl ?_))
    | ((with_reducible refine AWp.condF rfl ?_))
    | (with_reducible refine AWp.condB rfl ?_)
    | (with_reducible refine AWp.ret ?_)
    | (with_reducible refine seqQ_n ?_)
    | (with_reducible refine seqQ_ret ?_)
    | (with_reducible refine blkQ_ret ?_)
    | (with_reducible refine blkQ_n ?_)
    | (with_reducible refine seqQ_exit ?_)
    | (with_reducible refine blkQ_exit ?_)
    | (with_reducible refine blkQ_other (by decide) ?_)
    | (with_reducible refine AWp.block ?_)
    | (with_reducible refine AWp.exit ?_)
    | (with_reducible refine AWp.skip ?_)
    | ((with_reducible refine loop_id ?_); refine AWp.loopAt 3 rfl ?_; refine AWp.sub (Sub.nilSlot 5 300005 3 .int rfl rfl) ?_; refine AWp.loopO [5, 6, 7, 11, 12, 13, 14, 15, 16, 17, 18, 19, 20, 21, 22, 23, 24, 25, 26, 27, 28, 29] (fun z : Nat × List Int => [(11, .lit (.int .i64 (z.1 : Nat))), (5, .own 300005 z.2.length)]) (fun z => [(300005, .row 3 .int z.2)]) (fun z => z.1 ≤ ss.length ∧ z.2 ++ badF (shrB p q g cs) (ss.drop z.1) z.1 = badF (shrB p q g cs) ss 0 ∧ z.2.length ≤ z.1) (fun z => ss.length - z.1) (0, []) (by (try dsimp only); exact ⟨by omega, by simp, by simp⟩) (by (refine Sub.auto (by first | exact frok0 | assumption) rfl rfl ?_ ?_ <;> (try simp only [subE, AS.over2, without, keys, look, List.cons_append, List.nil_append, List.append_nil, List.mem_cons, List.not_mem_nil, or_false, or_true, true_or, false_or, Nat.reduceEqDiff, ↓reduceIte, Option.some.injEq, AV.lit.injEq, Value.int.injEq, Value.bool.injEq, AV.own.injEq, AO.row.injEq, AO.box.injEq, List.cons.injEq, AV.agg.injEq, AV.sl.injEq, true_and, and_true, and_self, heq_eq_eq, List.length_nil, List.length_cons, List.map_nil, List.take_zero, Int.natCast_add, Int.cast_ofNat_Int, Int.natCast_zero, List.length_append, List.length_map, List.length_take, Nat.zero_add]) <;> (simp))) (fun z hz3 L3 hLoop3 => ?_); obtain ⟨k, out⟩ := z; (try dsimp only at hz3); obtain ⟨hz1, hz2, hz3⟩ := hz3)
    | ((with_reducible refine seqQ_f ?_); refine hLoop3 (k + 1, _) _ (by (try dsimp only); first | exact ⟨by omega, hz2, by omega⟩ | (refine ⟨by omega, (List.append_assoc out [(k : Int) + 1] _).trans hz2, by simp; omega⟩)) (by (try dsimp only); omega) ?_; ((refine Sub.auto (by first | exact frok0 | assumption) rfl rfl ?_ ?_ <;> (try simp only [subE, AS.over2, without, keys, look, List.cons_append, List.nil_append, List.append_nil, List.mem_cons, List.not_mem_nil, or_false, or_true, true_or, false_or, Nat.reduceEqDiff, ↓reduceIte, Option.some.injEq, AV.lit.injEq, Value.int.injEq, Value.bool.injEq, AV.own.injEq, AO.row.injEq, AO.box.injEq, List.cons.injEq, AV.agg.injEq, AV.sl.injEq, true_and, and_true, and_self, heq_eq_eq, List.length_nil, List.length_cons, List.map_nil, List.take_zero, Int.natCast_add, Int.cast_ofNat_Int, Int.natCast_zero, List.length_append, List.length_map, List.length_take, Nat.zero_add]) <;> ((repeat' apply And.intro) <;> first | rfl | omega | (simp; done) | (simp; omega)))))
    | ((with_reducible refine EndsAt_id ?_); (try subst_vars); refine EndsAt.done [_] (by first | exact .inr rfl | exact .inl rfl) rfl rfl ?_ ?_ <;> first | decide | (repeat' (first | rfl | apply And.intro | trivial)))
    | (with_reducible refine AWp.seq ?_)⟩
end Go.Proofs.Ytlggpehioflbdaa
