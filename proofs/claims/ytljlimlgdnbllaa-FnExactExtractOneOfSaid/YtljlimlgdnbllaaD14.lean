import Derived.Test.YtljlimlgdnbllaaD12
import Derived.Test.YtljlimlgdnbllaaB9
/- ExtractOneOf on both sides. -/
set_option linter.all false
set_option linter.unusedVariables false
set_option linter.unusedSimpArgs false
namespace Go.Proofs.Ytljlimlgdnbllaa
open Go.RowKit
def sameB (xs ys : List Int) : Bool := ((xs.length : Int) == ys.length) && (List.range xs.length).all fun k => xs.getD k 0 == ys.getD k 0
def fstD (a b : List Int) : Nat → Nat → Option Nat
  | _, 0 => none
  | k, n + 1 => if (a.getD k 0 == b.getD k 0) = true then fstD a b (k + 1) n else some k
theorem fstD_hit {a b : List Int} {k n : Nat} (hk : k < n) (h : (a.getD k 0 == b.getD k 0) = false) : fstD a b k (n - k) = some k := by
  rw [show n - k = (n - (k + 1)) + 1 by omega, fstD, h]; rfl
theorem fstD_next {a b : List Int} {k n : Nat} (hk : k < n) (h : (a.getD k 0 == b.getD k 0) = true) : fstD a b k (n - k) = fstD a b (k + 1) (n - (k + 1)) := by
  rw [show n - k = (n - (k + 1)) + 1 by omega, fstD, h]; rfl
theorem fstD_end {a b : List Int} {n : Nat} : fstD a b n (n - n) = none := by rw [Nat.sub_self]; rfl
noncomputable def okEx (p q g : Int) (xs : List (Int × Int × Int × Int)) (pa pc pr qa qc qr : List Int) : Bool := M.goodB p q g && okSt p q xs && (oneForm p q xs pa pc pr && allEq p q xs pa pc pr) && (oneForm p q xs qa qc qr && allEq p q xs qa qc qr) && sameB pa qa
noncomputable def exN (p q g : Int) (xs : List (Int × Int × Int × Int)) (pa pc pr qa qc qr : List Int) : Option Nat := if okEx p q g xs pa pc pr qa qc qr = true then fstD pc qc 0 xs.length else none
noncomputable def exI (o : Option Nat) : Int := (o.map fun k => ((k : Nat) : Int)).getD 0
noncomputable def exV (q : Int) (pc pr qc qr : List Int) (o : Option Nat) : Int := (o.map fun k => slopeV q (pr.getD k 0) (qr.getD k 0) (pc.getD k 0) (qc.getD k 0)).getD 0
theorem oneForm_q {p q : Int} {xs : List (Int × Int × Int × Int)} {pa pc pr : List Int} {b : Bool} (h : (oneForm p q xs pa pc pr && b) = true) : (∀ x ∈ pc, 0 ≤ x ∧ x < q) ∧ (∀ x ∈ pr, 0 ≤ x ∧ x < q) ∧ (pc.length : Int) = xs.length ∧ (pr.length : Int) = xs.length ∧ (pa.length : Int) = 2 * xs.length := by
  simp only [oneForm, Bool.and_eq_true, beq_iff_eq] at h
  exact ⟨expsB_all12 h.1.1.2, expsB_all12 h.1.2, h.1.1.1.1.1.2, h.1.1.1.1.2, h.1.1.1.1.1.1⟩
noncomputable def c_sliceEqual : Con0 := conF [(.list .int), (.list .int)] fun (⟨xs, ys, _⟩ : (List Int) × (List Int) × Unit) => (xs.length ≤ 9223372036854775806, .lit (.bool (sameB xs ys)), [])
noncomputable def G_sliceEqual : List (FuncId × Con) := []
theorem G_sliceEqual_ok : ∀ f C, (f, C) ∈ G_sliceEqual → C.ok Try.prog f := by
  intro f C h
  simp only [G_sliceEqual, List.mem_cons, Prod.mk.injEq, List.not_mem_nil, or_false] at h
set_option maxRecDepth 100000 in
set_option maxHeartbeats 4000000 in
theorem ok_sliceEqual : (mk c_sliceEqual).ok Try.prog 121 := okF (Θ := Th) (N := 26) (rs := [.tmp 4]) Th_ok Try.func121 (by kernel_rfl) rfl Try.results121 (by decide) (by kernel_rfl) fun (⟨xs, ys, _⟩ : (List Int) × (List Int) × Unit) => ⟨rfl, rfl, Nat.le_of_ble_eq_true rfl, fun hc w0 => by
  have hL := dmy_eq
  try dsimp only at hc
  try dsimp only
  have hxl0 := hc
  refine AWp.body rfl ?_
  repeat' first
    | ((with_reducible refine hK _ _ ?_); clear hK K)
    | ((with_reducible refine hK _ _ (by kernel_rfl) ?_); clear hK K)
    | ((with_reducible refine AWp.pS Th_ok G_sliceEqual_ok [0, 1, 4, 5, 10, 12, 13, 14, 24] (by decide) ?_); intro K hK)
    | ((with_reducible refine AWp.dS (by kernel_rfl) Th_ok G_sliceEqual_ok [0, 1, 4, 5, 10, 12, 13, 14, 24] ?_); intro K hK)
    | ((with_reducible refine AWp.pE Th_ok G_sliceEqual_ok [0, 1, 4, 5, 10, 12, 13, 14, 24] (by decide) ?_); intro K hK)
    | ((with_reducible refine AWp.dE (by kernel_rfl) Th_ok G_sliceEqual_ok [0, 1, 4, 5, 10, 12, 13, 14, 24] ?_); intro K hK)
    | ((first | with_reducible refine runF_id ?_ | with_reducible refine stepF_id ?_); simp (maxSteps := 2000000) only [runF, stepF, forkOf, gdOf, List.toList_toArray, stepOp, look, opAV, pureOp, callOp, memOp, AS.ev, AS.get, AS.obj, initS, initFrom, AV.cells, AS.upd, Option.bind_some, Option.bind_none, Option.map_some, Option.map_none, Option.getD_none, Option.getD_some, ↓reduceIte, Nat.reduceEqDiff, Nat.reduceAdd, Nat.reduceMul, Nat.reduceSub, List.nil_append, List.append_nil, List.cons_append, List.map_cons, List.map_nil, true_and, and_true, AS.fin, pick, dedup, List.mem_cons, List.not_mem_nil, or_false, false_or, List.size_toArray, List.length_cons, List.length_nil, loadAV, List.drop_zero, List.drop_succ_cons, List.take_zero, List.take_succ_cons, List.getElem?_cons_zero, List.getElem?_cons_succ, List.head?_cons, List.mapM_cons, List.mapM_nil, Option.bind_eq_bind, Option.pure_def, deeps3, deep3, deep2, deep1, deeps, deeps2, mixInts, AV.plain, mk, mkD, DCon.lift, DCon.runC, ren3, ren2, ren1, numb, List.zipIdx_nil, List.zipIdx_cons, List.all_nil, List.all_cons, Nat.reduceLeDiff, List.range, List.range.loop, Ty.sz, beq_self_eq_true, Bool.and_self, and_self, Ty.ofC, AO.isDead, Nat.reduceLT, if_true, Nat.zero_add, Nat.add_zero, ite_true, Nat.le_refl, Bool.false_eq_true, reduceCtorEq, if_false, ite_false, binAV, AO.ren, AV.isCell, fillAV, List.set_cons_zero, List.set_cons_succ, Ty.cells, Ty.flat, Ty.dflt, List.getD_cons_zero, List.getD_cons_succ, Int.reduceToNat, Int.reduceSub, Int.reduceAdd, Int.reduceMul, Int.reduceNeg, forall_eq_or_imp, forall_eq, gdL, id_eq, Nat.lt_irrefl, srcOf, List.replicate_succ, List.replicate_zero, dite_true, List.isEmpty_cons, Option.isSome_some, List.length_append, List.length_singleton, bne_self_eq_false, Bool.not_true, Bool.not_false, conF, asArgs, asArg, asTy, asI1, asB1, asS1, asL1, canons, canon, Fork.true_, Fork.false_, bne, Bool.not_not, List.length_map, pickO, AS.over, TI.bl, bne_iff_ne, AS.over2, without, keys, List.mem_singleton, memOp2, memOp3, absorb, abInt, abBool, abStr, abList, gones, Int.toNat_natCast, List.take_length, subE, List.nodup_cons, List.nodup_nil, not_false_eq_true, Nat.sub_self, conR, asG, asI, asBo, asStr, asIs, asBs, asE4, asI2, asI3, asLL, asLLL, Th_int, Th_bool, Th_string, Th_Sint, G_sliceEqual, hL])
    | ((with_reducible refine ens_step ?_ (fun hE => ?_)); · ((repeat' with_reducible apply And.intro) <;> first | with_reducible assumption | omega | exact True.intro | with_reducible rfl | (show ByteArray.size _ ≤ _; decide) | (simp; done) | (simp; omega) | rfl))
    | ((with_reducible refine And.intro ?_ ?_); · ((repeat' with_reducible apply And.intro) <;> first | with_reducible assumption | omega | exact True.intro | with_reducible rfl | (show ByteArray.size _ ≤ _; decide) | (simp; done) | (simp; omega) | rfl))
    | ((with_reducible refine Fork.intro (fun h' => ?_) (fun h' => ?_)) <;> (try simp only [Bool.not_eq_true', Bool.not_eq_false', bne] at h') <;> (replace hL := And.intro h' hL) <;> (try simp only [decide_eq_true_eq, decide_eq_false_iff_not, beq_iff_eq, beq_eq_false_iff_ne, ne_eq] at h') <;> (try (have hlf := all_false (f := (fun k => xs.getD k 0 == ys.getD k 0)) (k := k) (n := xs.length) (by omega) hL.1; replace hL := And.intro hlf hL)) <;> (try (have hke : k = xs.length := (by omega); subst hke; replace hL := And.intro hk2 hL)))
    | (with_reducible refine AWp.skipS ?_)
    | ((with_reducible refine AWp.condT rfl ?_))
    | ((with_reducible refine AWp.condF rfl ?_))
    | (with_reducible refine AWp.condB rfl ?_)
    | (with_reducible refine AWp.ret ?_)
    | (with_reducible refine seqQ_n ?_)
    | (with_reducible refine seqQ_ret ?_)
    | (with_reducible refine blkQ_ret ?_)
    | (with_reducible refine blkQ_n ?_)
    | (with_reducible refine seqQ_exit ?_)
    | (with_reducible refine blkQ_exit ?_)
    | (with_reducible refine blkQ_other (by decide) ?_)
    | (with_reducible refine AWp.block ?_)
    | (with_reducible refine AWp.exit ?_)
    | (with_reducible refine AWp.skip ?_)
    | ((with_reducible refine loop_id ?_); refine AWp.loopAt 4 rfl ?_; refine AWp.loopO [4, 5, 13, 14, 15, 16, 17, 18, 19, 20, 21, 22, 23, 24, 25] (fun k => [(13, .lit (.int .i64 (k : Nat)))]) (fun k => []) (fun k => k ≤ xs.length ∧ (List.range k).all (fun k => xs.getD k 0 == ys.getD k 0) = true) (fun k => xs.length - k) 0 (by exact ⟨by omega, rfl⟩) (by refine Sub.auto (by first | exact frok0 | assumption) rfl rfl ?_ ?_ <;> (try simp only [subE, AS.over2, without, keys, look, List.cons_append, List.nil_append, List.append_nil, List.mem_cons, List.not_mem_nil, or_false, or_true, true_or, false_or, Nat.reduceEqDiff, ↓reduceIte, Option.some.injEq, AV.lit.injEq, Value.int.injEq, Value.bool.injEq, AV.own.injEq, AO.row.injEq, AO.box.injEq, List.cons.injEq, AV.agg.injEq, AV.sl.injEq, true_and, and_true, and_self, heq_eq_eq, List.length_nil, List.length_cons, List.map_nil, List.take_zero, Int.natCast_add, Int.cast_ofNat_Int, Int.natCast_zero, List.length_append, List.length_map, List.length_take, Nat.zero_add]) <;> (simp)) (fun k hk_4 L4 hLoop4 => ?_); obtain ⟨hk1, hk2⟩ := hk_4)
    | ((with_reducible refine seqQ_f ?_); refine hLoop4 (k + 1) _ (by exact ⟨by omega, all_step hk2 hL.1⟩) (by omega) ?_; (refine Sub.auto (by first | exact frok0 | assumption) rfl rfl ?_ ?_ <;> (try simp only [subE, AS.over2, without, keys, look, List.cons_append, List.nil_append, List.append_nil, List.mem_cons, List.not_mem_nil, or_false, or_true, true_or, false_or, Nat.reduceEqDiff, ↓reduceIte, Option.some.injEq, AV.lit.injEq, Value.int.injEq, Value.bool.injEq, AV.own.injEq, AO.row.injEq, AO.box.injEq, List.cons.injEq, AV.agg.injEq, AV.sl.injEq, true_and, and_true, and_self, heq_eq_eq, List.length_nil, List.length_cons, List.map_nil, List.take_zero, Int.natCast_add, Int.cast_ofNat_Int, Int.natCast_zero, List.length_append, List.length_map, List.length_take, Nat.zero_add]) <;> (omega)))
    | ((with_reducible refine EndsAt_id ?_); (try subst_vars); (try simp only [sameB, hL, List.length_cons, List.length_nil, Nat.zero_add, Nat.reduceAdd, Bool.and_true, Bool.and_false, Bool.true_and, Bool.false_and, Bool.and_self, ↓reduceIte, Bool.false_eq_true, Bool.not_true, Bool.not_false, bne]); refine EndsAt.done [] (by first | exact .inr rfl | exact .inl rfl) rfl rfl ?_ ?_ <;> first | decide | (repeat' (first | rfl | apply And.intro | trivial)))
    | (with_reducible refine AWp.seq ?_)⟩
noncomputable def c_l1Same : Con0 := conF [(.list .int), (.list .int)] fun (⟨xs, ys, _⟩ : (List Int) × (List Int) × Unit) => (xs.length ≤ 9223372036854775806, .lit (.bool (sameB xs ys)), [])
noncomputable def G_l1Same : List (FuncId × Con) := []
theorem G_l1Same_ok : ∀ f C, (f, C) ∈ G_l1Same → C.ok Try.prog f := by
  intro f C h
  simp only [G_l1Same, List.mem_cons, Prod.mk.injEq, List.not_mem_nil, or_false] at h
set_option maxRecDepth 100000 in
set_option maxHeartbeats 4000000 in
theorem ok_l1Same : (mk c_l1Same).ok Try.prog 118 := okF (Θ := Th) (N := 26) (rs := [.tmp 4]) Th_ok Try.func118 (by kernel_rfl) rfl Try.results118 (by decide) (by kernel_rfl) fun (⟨xs, ys, _⟩ : (List Int) × (List Int) × Unit) => ⟨rfl, rfl, Nat.le_of_ble_eq_true rfl, fun hc w0 => by
  have hL := dmy_eq
  try dsimp only at hc
  try dsimp only
  have hxl0 := hc
  refine AWp.body rfl ?_
  repeat' first
    | ((with_reducible refine hK _ _ ?_); clear hK K)
    | ((with_reducible refine hK _ _ (by kernel_rfl) ?_); clear hK K)
    | ((with_reducible refine AWp.pS Th_ok G_l1Same_ok [0, 1, 4, 5, 10, 12, 13, 14, 24] (by decide) ?_); intro K hK)
    | ((with_reducible refine AWp.dS (by kernel_rfl) Th_ok G_l1Same_ok [0, 1, 4, 5, 10, 12, 13, 14, 24] ?_); intro K hK)
    | ((with_reducible refine AWp.pE Th_ok G_l1Same_ok [0, 1, 4, 5, 10, 12, 13, 14, 24] (by decide) ?_); intro K hK)
    | ((with_reducible refine AWp.dE (by kernel_rfl) Th_ok G_l1Same_ok [0, 1, 4, 5, 10, 12, 13, 14, 24] ?_); intro K hK)
    | ((first | with_reducible refine runF_id ?_ | with_reducible refine stepF_id ?_); simp (maxSteps := 2000000) only [runF, stepF, forkOf, gdOf, List.toList_toArray, stepOp, look, opAV, pureOp, callOp, memOp, AS.ev, AS.get, AS.obj, initS, initFrom, AV.cells, AS.upd, Option.bind_some, Option.bind_none, Option.map_some, Option.map_none, Option.getD_none, Option.getD_some, ↓reduceIte, Nat.reduceEqDiff, Nat.reduceAdd, Nat.reduceMul, Nat.reduceSub, List.nil_append, List.append_nil, List.cons_append, List.map_cons, List.map_nil, true_and, and_true, AS.fin, pick, dedup, List.mem_cons, List.not_mem_nil, or_false, false_or, List.size_toArray, List.length_cons, List.length_nil, loadAV, List.drop_zero, List.drop_succ_cons, List.take_zero, List.take_succ_cons, List.getElem?_cons_zero, List.getElem?_cons_succ, List.head?_cons, List.mapM_cons, List.mapM_nil, Option.bind_eq_bind, Option.pure_def, deeps3, deep3, deep2, deep1, deeps, deeps2, mixInts, AV.plain, mk, mkD, DCon.lift, DCon.runC, ren3, ren2, ren1, numb, List.zipIdx_nil, List.zipIdx_cons, List.all_nil, List.all_cons, Nat.reduceLeDiff, List.range, List.range.loop, Ty.sz, beq_self_eq_true, Bool.and_self, and_self, Ty.ofC, AO.isDead, Nat.reduceLT, if_true, Nat.zero_add, Nat.add_zero, ite_true, Nat.le_refl, Bool.false_eq_true, reduceCtorEq, if_false, ite_false, binAV, AO.ren, AV.isCell, fillAV, List.set_cons_zero, List.set_cons_succ, Ty.cells, Ty.flat, Ty.dflt, List.getD_cons_zero, List.getD_cons_succ, Int.reduceToNat, Int.reduceSub, Int.reduceAdd, Int.reduceMul, Int.reduceNeg, forall_eq_or_imp, forall_eq, gdL, id_eq, Nat.lt_irrefl, srcOf, List.replicate_succ, List.replicate_zero, dite_true, List.isEmpty_cons, Option.isSome_some, List.length_append, List.length_singleton, bne_self_eq_false, Bool.not_true, Bool.not_false, conF, asArgs, asArg, asTy, asI1, asB1, asS1, asL1, canons, canon, Fork.true_, Fork.false_, bne, Bool.not_not, List.length_map, pickO, AS.over, TI.bl, bne_iff_ne, AS.over2, without, keys, List.mem_singleton, memOp2, memOp3, absorb, abInt, abBool, abStr, abList, gones, Int.toNat_natCast, List.take_length, subE, List.nodup_cons, List.nodup_nil, not_false_eq_true, Nat.sub_self, conR, asG, asI, asBo, asStr, asIs, asBs, asE4, asI2, asI3, asLL, asLLL, Th_int, Th_bool, Th_string, Th_Sint, G_l1Same, hL])
    | ((with_reducible refine ens_step ?_ (fun hE => ?_)); · ((repeat' with_reducible apply And.intro) <;> first | with_reducible assumption | omega | exact True.intro | with_reducible rfl | (show ByteArray.size _ ≤ _; decide) | (simp; done) | (simp; omega) | rfl))
    | ((with_reducible refine And.intro ?_ ?_); · ((repeat' with_reducible apply And.intro) <;> first | with_reducible assumption | omega | exact True.intro | with_reducible rfl | (show ByteArray.size _ ≤ _; decide) | (simp; done) | (simp; omega) | rfl))
    | ((with_reducible refine Fork.intro (fun h' => ?_) (fun h' => ?_)) <;> (try simp only [Bool.not_eq_true', Bool.not_eq_false', bne] at h') <;> (replace hL := And.intro h' hL) <;> (try simp only [decide_eq_true_eq, decide_eq_false_iff_not, beq_iff_eq, beq_eq_false_iff_ne, ne_eq] at h') <;> (try (have hlf := all_false (f := (fun k => xs.getD k 0 == ys.getD k 0)) (k := k) (n := xs.length) (by omega) hL.1; replace hL := And.intro hlf hL)) <;> (try (have hke : k = xs.length := (by omega); subst hke; replace hL := And.intro hk2 hL)))
    | (with_reducible refine AWp.skipS ?_)
    | ((with_reducible refine AWp.condT rfl ?_))
    | ((with_reducible refine AWp.condF rfl ?_))
    | (with_reducible refine AWp.condB rfl ?_)
    | (with_reducible refine AWp.ret ?_)
    | (with_reducible refine seqQ_n ?_)
    | (with_reducible refine seqQ_ret ?_)
    | (with_reducible refine blkQ_ret ?_)
    | (with_reducible refine blkQ_n ?_)
    | (with_reducible refine seqQ_exit ?_)
    | (with_reducible refine blkQ_exit ?_)
    | (with_reducible refine blkQ_other (by decide) ?_)
    | (with_reducible refine AWp.block ?_)
    | (with_reducible refine AWp.exit ?_)
    | (with_reducible refine AWp.skip ?_)
    | ((with_reducible refine loop_id ?_); refine AWp.loopAt 4 rfl ?_; refine AWp.loopO [4, 5, 13, 14, 15, 16, 17, 18, 19, 20, 21, 22, 23, 24, 25] (fun k => [(13, .lit (.int .i64 (k : Nat)))]) (fun k => []) (fun k => k ≤ xs.length ∧ (List.range k).all (fun k => xs.getD k 0 == ys.getD k 0) = true) (fun k => xs.length - k) 0 (by exact ⟨by omega, rfl⟩) (by refine Sub.auto (by first | exact frok0 | assumption) rfl rfl ?_ ?_ <;> (try simp only [subE, AS.over2, without, keys, look, List.cons_append, List.nil_append, List.append_nil, List.mem_cons, List.not_mem_nil, or_false, or_true, true_or, false_or, Nat.reduceEqDiff, ↓reduceIte, Option.some.injEq, AV.lit.injEq, Value.int.injEq, Value.bool.injEq, AV.own.injEq, AO.row.injEq, AO.box.injEq, List.cons.injEq, AV.agg.injEq, AV.sl.injEq, true_and, and_true, and_self, heq_eq_eq, List.length_nil, List.length_cons, List.map_nil, List.take_zero, Int.natCast_add, Int.cast_ofNat_Int, Int.natCast_zero, List.length_append, List.length_map, List.length_take, Nat.zero_add]) <;> (simp)) (fun k hk_4 L4 hLoop4 => ?_); obtain ⟨hk1, hk2⟩ := hk_4)
    | ((with_reducible refine seqQ_f ?_); refine hLoop4 (k + 1) _ (by exact ⟨by omega, all_step hk2 hL.1⟩) (by omega) ?_; (refine Sub.auto (by first | exact frok0 | assumption) rfl rfl ?_ ?_ <;> (try simp only [subE, AS.over2, without, keys, look, List.cons_append, List.nil_append, List.append_nil, List.mem_cons, List.not_mem_nil, or_false, or_true, true_or, false_or, Nat.reduceEqDiff, ↓reduceIte, Option.some.injEq, AV.lit.injEq, Value.int.injEq, Value.bool.injEq, AV.own.injEq, AO.row.injEq, AO.box.injEq, List.cons.injEq, AV.agg.injEq, AV.sl.injEq, true_and, and_true, and_self, heq_eq_eq, List.length_nil, List.length_cons, List.map_nil, List.take_zero, Int.natCast_add, Int.cast_ofNat_Int, Int.natCast_zero, List.length_append, List.length_map, List.length_take, Nat.zero_add]) <;> (omega)))
    | ((with_reducible refine EndsAt_id ?_); (try subst_vars); (try simp only [sameB, hL, List.length_cons, List.length_nil, Nat.zero_add, Nat.reduceAdd, Bool.and_true, Bool.and_false, Bool.true_and, Bool.false_and, Bool.and_self, ↓reduceIte, Bool.false_eq_true, Bool.not_true, Bool.not_false, bne]); refine EndsAt.done [] (by first | exact .inr rfl | exact .inl rfl) rfl rfl ?_ ?_ <;> first | decide | (repeat' (first | rfl | apply And.intro | trivial)))
    | (with_reducible refine AWp.seq ?_)⟩
noncomputable def c_xEquations : Con0 := conF [(.pair .int (.pair .int .int)), (.list (.pair .int (.pair .int (.pair .int .int)))), (.pair (.list .int) (.pair (.list .int) (.list .int)))] fun (⟨⟨p, q, g⟩, xs, ⟨pa, pc, pr⟩, _⟩ : (Int × Int × Int) × (List (Int × Int × Int × Int)) × (List Int × List Int × List Int) × Unit) => (M.Grp p q g ∧ StsOK p q xs, .lit (.bool (oneForm p q xs pa pc pr && allEq p q xs pa pc pr)), [])
noncomputable def G_xEquations : List (FuncId × Con) := [(64, mk c_gIs), (65, mk c_gExps), (149, mk c_xSimulate)]
theorem G_xEquations_ok : ∀ f C, (f, C) ∈ G_xEquations → C.ok Try.prog f := by
  intro f C h
  simp only [G_xEquations, List.mem_cons, Prod.mk.injEq, List.not_mem_nil, or_false] at h
  rcases h with ⟨rfl, rfl⟩ | ⟨rfl, rfl⟩ | ⟨rfl, rfl⟩
  · exact ok_gIs
  · exact ok_gExps
  · exact ok_xSimulate
set_option maxRecDepth 100000 in
set_option maxHeartbeats 4000000 in
theorem ok_xEquations : (mk c_xEquations).ok Try.prog 117 := okF (Θ := Th) (N := 108) (rs := [.tmp 6]) Th_ok Try.func117 (by kernel_rfl) rfl Try.results117 (by decide) (by kernel_rfl) fun (⟨⟨p, q, g⟩, xs, ⟨pa, pc, pr⟩, _⟩ : (Int × Int × Int) × (List (Int × Int × Int × Int)) × (List Int × List Int × List Int) × Unit) => ⟨rfl, rfl, Nat.le_of_ble_eq_true rfl, fun hc w0 => by
  have hL := dmy_eq
  try dsimp only at hc
  try dsimp only
  obtain ⟨hG, hS⟩ := hc
  have hq2 := hG.q2
  have hqp := hG.qp
  have hp3 := hG.p3
  have hpM := hG.pM
  have hgb : 0 ≤ g ∧ g < p := ⟨by have := hG.g2; omega, hG.gp⟩
  have hxl := hS.len
  refine AWp.body rfl ?_
  repeat' first
    | ((with_reducible refine hK _ _ ?_); clear hK K)
    | ((with_reducible refine hK _ _ (by kernel_rfl) ?_); clear hK K)
    | ((with_reducible refine AWp.pS Th_ok G_xEquations_ok [0, 1, 2, 3, 5, 6, 7, 8, 9, 10, 54, 55, 56, 57, 58, 106] (by decide) ?_); intro K hK)
    | ((with_reducible refine AWp.dS (by kernel_rfl) Th_ok G_xEquations_ok [0, 1, 2, 3, 5, 6, 7, 8, 9, 10, 54, 55, 56, 57, 58, 106] ?_); intro K hK)
    | ((with_reducible refine AWp.pE Th_ok G_xEquations_ok [0, 1, 2, 3, 5, 6, 7, 8, 9, 10, 54, 55, 56, 57, 58, 106] (by decide) ?_); intro K hK)
    | ((with_reducible refine AWp.dE (by kernel_rfl) Th_ok G_xEquations_ok [0, 1, 2, 3, 5, 6, 7, 8, 9, 10, 54, 55, 56, 57, 58, 106] ?_); intro K hK)
    | ((first | with_reducible refine runF_id ?_ | with_reducible refine stepF_id ?_); simp (maxSteps := 2000000) only [runF, stepF, forkOf, gdOf, List.toList_toArray, stepOp, look, opAV, pureOp, callOp, memOp, AS.ev, AS.get, AS.obj, initS, initFrom, AV.cells, AS.upd, Option.bind_some, Option.bind_none, Option.map_some, Option.map_none, Option.getD_none, Option.getD_some, ↓reduceIte, Nat.reduceEqDiff, Nat.reduceAdd, Nat.reduceMul, Nat.reduceSub, List.nil_append, List.append_nil, List.cons_append, List.map_cons, List.map_nil, true_and, and_true, AS.fin, pick, dedup, List.mem_cons, List.not_mem_nil, or_false, false_or, List.size_toArray, List.length_cons, List.length_nil, loadAV, List.drop_zero, List.drop_succ_cons, List.take_zero, List.take_succ_cons, List.getElem?_cons_zero, List.getElem?_cons_succ, List.head?_cons, List.mapM_cons, List.mapM_nil, Option.bind_eq_bind, Option.pure_def, deeps3, deep3, deep2, deep1, deeps, deeps2, mixInts, AV.plain, mk, mkD, DCon.lift, DCon.runC, ren3, ren2, ren1, numb, List.zipIdx_nil, List.zipIdx_cons, List.all_nil, List.all_cons, Nat.reduceLeDiff, List.range, List.range.loop, Ty.sz, beq_self_eq_true, Bool.and_self, and_self, Ty.ofC, AO.isDead, Nat.reduceLT, if_true, Nat.zero_add, Nat.add_zero, ite_true, Nat.le_refl, Bool.false_eq_true, reduceCtorEq, if_false, ite_false, binAV, AO.ren, AV.isCell, fillAV, List.set_cons_zero, List.set_cons_succ, Ty.cells, Ty.flat, Ty.dflt, List.getD_cons_zero, List.getD_cons_succ, Int.reduceToNat, Int.reduceSub, Int.reduceAdd, Int.reduceMul, Int.reduceNeg, forall_eq_or_imp, forall_eq, gdL, id_eq, Nat.lt_irrefl, srcOf, List.replicate_succ, List.replicate_zero, dite_true, List.isEmpty_cons, Option.isSome_some, List.length_append, List.length_singleton, bne_self_eq_false, Bool.not_true, Bool.not_false, conF, asArgs, asArg, asTy, asI1, asB1, asS1, asL1, canons, canon, Fork.true_, Fork.false_, bne, Bool.not_not, List.length_map, pickO, AS.over, TI.bl, bne_iff_ne, AS.over2, without, keys, List.mem_singleton, memOp2, memOp3, absorb, abInt, abBool, abStr, abList, gones, Int.toNat_natCast, List.take_length, subE, List.nodup_cons, List.nodup_nil, not_false_eq_true, Nat.sub_self, conR, asG, asI, asBo, asStr, asIs, asBs, asE4, asI2, asI3, asLL, asLLL, Th_int, Th_bool, Th_string, Th_Sint, Th_implGroup, Th_implProof, Th_implEqualLog, Th_implSEqualLog, Th_implTranscript, G_xEquations, c_gIs, c_gExps, c_xSimulate, hL])
    | ((with_reducible refine ens_step ?_ (fun hE => ?_)); · ((repeat' with_reducible apply And.intro) <;> first | with_reducible assumption | omega | exact True.intro | with_reducible rfl | (show ByteArray.size _ ≤ _; decide) | (simp; done) | (simp; omega) | rfl))
    | ((with_reducible refine And.intro ?_ ?_); · ((repeat' with_reducible apply And.intro) <;> first | with_reducible assumption | omega | exact True.intro | with_reducible rfl | (show ByteArray.size _ ≤ _; decide) | (simp; done) | (simp; omega) | rfl))
    | ((with_reducible refine Fork.intro (fun h' => ?_) (fun h' => ?_)) <;> (try simp only [Bool.not_eq_true', Bool.not_eq_false', bne] at h') <;> (replace hL := And.intro h' hL) <;> (try simp only [decide_eq_true_eq, decide_eq_false_iff_not, beq_iff_eq, beq_eq_false_iff_ne, ne_eq] at h') <;> (try (have hpa := elemsB_all h')) <;> (try (have hpc := expsB_all12 (xs := pc) h')) <;> (try (have hpr := expsB_all12 (xs := pr) h')) <;> (try (have hb1 := getD_bd hpc (k := k) (by omega); have hb2 := getD_bd hpr (k := k) (by omega); have hst := hS.at (k := k) (by omega); obtain ⟨hst1, hst2, hst3, hst4⟩ := hst; have hp1 := getD_bd hpa (k := (2 * (k : Int)).toNat) (by omega); have hp2 := getD_bd hpa (k := (2 * (k : Int) + 1).toNat) (by omega); have hos := one_sim (pc := pc) (pr := pr) hp3 hq2 hS hpa (k := k) (by omega) (by omega))) <;> (try (have hlf : oneEq p q xs pa pc pr k = false := hos.trans (and_f1 hL.1); have haf := all_false (n := xs.length) (by omega) hlf; replace hL := And.intro haf hL)) <;> (try (have hlf : oneEq p q xs pa pc pr k = false := hos.trans (and_f2 hL.1); have haf := all_false (n := xs.length) (by omega) hlf; replace hL := And.intro haf hL)) <;> (try (have hke : k = xs.length := (by omega); subst hke; replace hL := And.intro hk2 hL)))
    | (with_reducible refine AWp.skipS ?_)
    | ((with_reducible refine AWp.condT rfl ?_))
    | ((with_reducible refine AWp.condF rfl ?_))
    | (with_reducible refine AWp.condB rfl ?_)
    | (with_reducible refine AWp.ret ?_)
    | (with_reducible refine seqQ_n ?_)
    | (with_reducible refine seqQ_ret ?_)
    | (with_reducible refine blkQ_ret ?_)
    | (with_reducible refine blkQ_n ?_)
    | (with_reducible refine seqQ_exit ?_)
    | (with_reducible refine blkQ_exit ?_)
    | (with_reducible refine blkQ_other (by decide) ?_)
    | (with_reducible refine AWp.block ?_)
    | (with_reducible refine AWp.exit ?_)
    | (with_reducible refine AWp.skip ?_)
    | ((with_reducible refine loop_id ?_); refine AWp.loopAt 4 rfl ?_; refine AWp.loopO [6, 7, 8, 9, 10, 57, 58, 59, 60, 61, 62, 63, 64, 65, 66, 67, 68, 69, 70, 71, 72, 73, 74, 75, 76, 77, 78, 79, 80, 81, 82, 83, 84, 85, 86, 87, 88, 89, 90, 91, 92, 93, 94, 95, 96, 97, 98, 99, 100, 101, 102, 103, 104, 105, 106, 107] (fun k => [(57, .lit (.int .i64 (k : Nat)))]) (fun k => []) (fun k => k ≤ xs.length ∧ (List.range k).all (oneEq p q xs pa pc pr) = true) (fun k => xs.length - k) 0 (by exact ⟨by omega, rfl⟩) (by refine Sub.auto (by first | exact frok0 | assumption) rfl rfl ?_ ?_ <;> (try simp only [subE, AS.over2, without, keys, look, List.cons_append, List.nil_append, List.append_nil, List.mem_cons, List.not_mem_nil, or_false, or_true, true_or, false_or, Nat.reduceEqDiff, ↓reduceIte, Option.some.injEq, AV.lit.injEq, Value.int.injEq, Value.bool.injEq, AV.own.injEq, AO.row.injEq, AO.box.injEq, List.cons.injEq, AV.agg.injEq, AV.sl.injEq, true_and, and_true, and_self, heq_eq_eq, List.length_nil, List.length_cons, List.map_nil, List.take_zero, Int.natCast_add, Int.cast_ofNat_Int, Int.natCast_zero, List.length_append, List.length_map, List.length_take, Nat.zero_add]) <;> (simp)) (fun k hk_4 L4 hLoop4 => ?_); obtain ⟨hk1, hk2⟩ := hk_4)
    | ((with_reducible refine seqQ_f ?_); refine hLoop4 (k + 1) _ (by exact ⟨by omega, all_step hk2 (hos.trans (and_t hL.2.1 hL.1))⟩) (by omega) ?_; (refine Sub.auto (by first | exact frok0 | assumption) rfl rfl ?_ ?_ <;> (try simp only [subE, AS.over2, without, keys, look, List.cons_append, List.nil_append, List.append_nil, List.mem_cons, List.not_mem_nil, or_false, or_true, true_or, false_or, Nat.reduceEqDiff, ↓reduceIte, Option.some.injEq, AV.lit.injEq, Value.int.injEq, Value.bool.injEq, AV.own.injEq, AO.row.injEq, AO.box.injEq, List.cons.injEq, AV.agg.injEq, AV.sl.injEq, true_and, and_true, and_self, heq_eq_eq, List.length_nil, List.length_cons, List.map_nil, List.take_zero, Int.natCast_add, Int.cast_ofNat_Int, Int.natCast_zero, List.length_append, List.length_map, List.length_take, Nat.zero_add]) <;> (omega)))
    | ((with_reducible refine EndsAt_id ?_); (try subst_vars); (try simp only [oneForm, allEq, hL, List.length_cons, List.length_nil, Nat.zero_add, Nat.reduceAdd, Bool.and_true, Bool.and_false, Bool.true_and, Bool.false_and, Bool.and_self, ↓reduceIte, Bool.false_eq_true, Bool.not_true, Bool.not_false, bne]); refine EndsAt.done [] (by first | exact .inr rfl | exact .inl rfl) rfl rfl ?_ ?_ <;> first | decide | (repeat' (first | rfl | apply And.intro | trivial)))
    | (with_reducible refine AWp.seq ?_)⟩
noncomputable def c_ExtractOneOfI : Con0 := conF [(.pair .int (.pair .int .int)), (.list (.pair .int (.pair .int (.pair .int .int)))), (.pair (.list .int) (.pair (.list .int) (.list .int))), (.pair (.list .int) (.pair (.list .int) (.list .int)))] fun (⟨⟨p, q, g⟩, xs, ⟨pa, pc, pr⟩, ⟨qa, qc, qr⟩, _⟩ : (Int × Int × Int) × (List (Int × Int × Int × Int)) × (List Int × List Int × List Int) × (List Int × List Int × List Int) × Unit) => (xs.length ≤ 9223372036854775806, .tup [.lit (.int .i64 (exI (exN p q g xs pa pc pr qa qc qr))), .lit (.int .i64 (exV q pc pr qc qr (exN p q g xs pa pc pr qa qc qr))), .lit (.bool ((exN p q g xs pa pc pr qa qc qr).isSome))], [])
noncomputable def G_ExtractOneOfI : List (FuncId × Con) := [(101, mk c_isValidGroup), (103, mk c_areStatements), (120, mk c_fulfils), (121, mk c_sliceEqual), (122, mk c_extracted)]
theorem G_ExtractOneOfI_ok : ∀ f C, (f, C) ∈ G_ExtractOneOfI → C.ok Try.prog f := by
  intro f C h
  simp only [G_ExtractOneOfI, List.mem_cons, Prod.mk.injEq, List.not_mem_nil, or_false] at h
  rcases h with ⟨rfl, rfl⟩ | ⟨rfl, rfl⟩ | ⟨rfl, rfl⟩ | ⟨rfl, rfl⟩ | ⟨rfl, rfl⟩
  · exact ok_isValidGroup
  · exact ok_areStatements
  · exact ok_fulfils
  · exact ok_sliceEqual
  · exact ok_extracted
set_option maxRecDepth 100000 in
set_option maxHeartbeats 4000000 in
theorem ok_ExtractOneOfI : (mk c_ExtractOneOfI).ok Try.prog 60 := okF (Θ := Th) (N := 83) (rs := [.tmp 8, .tmp 9, .tmp 10]) Th_ok Try.func60 (by kernel_rfl) rfl Try.results60 (by decide) (by kernel_rfl) fun (⟨⟨p, q, g⟩, xs, ⟨pa, pc, pr⟩, ⟨qa, qc, qr⟩, _⟩ : (Int × Int × Int) × (List (Int × Int × Int × Int)) × (List Int × List Int × List Int) × (List Int × List Int × List Int) × Unit) => ⟨rfl, rfl, Nat.le_of_ble_eq_true rfl, fun hc w0 => by
  have hL := dmy_eq
  try dsimp only at hc
  try dsimp only
  have hrl0 := hc
  refine AWp.body rfl ?_
  repeat' first
    | ((with_reducible refine hK _ _ ?_); clear hK K)
    | ((with_reducible refine hK _ _ (by kernel_rfl) ?_); clear hK K)
    | ((with_reducible refine AWp.pS Th_ok G_ExtractOneOfI_ok [0, 1, 2, 3, 4, 6, 7, 8, 9, 10, 11, 42, 44, 45, 46, 58] (by decide) ?_); intro K hK)
    | ((with_reducible refine AWp.dS (by kernel_rfl) Th_ok G_ExtractOneOfI_ok [0, 1, 2, 3, 4, 6, 7, 8, 9, 10, 11, 42, 44, 45, 46, 58] ?_); intro K hK)
    | ((with_reducible refine AWp.pE Th_ok G_ExtractOneOfI_ok [0, 1, 2, 3, 4, 6, 7, 8, 9, 10, 11, 42, 44, 45, 46, 58] (by decide) ?_); intro K hK)
    | ((with_reducible refine AWp.dE (by kernel_rfl) Th_ok G_ExtractOneOfI_ok [0, 1, 2, 3, 4, 6, 7, 8, 9, 10, 11, 42, 44, 45, 46, 58] ?_); intro K hK)
    | ((first | with_reducible refine runF_id ?_ | with_reducible refine stepF_id ?_); simp (maxSteps := 2000000) only [runF, stepF, forkOf, gdOf, List.toList_toArray, stepOp, look, opAV, pureOp, callOp, memOp, AS.ev, AS.get, AS.obj, initS, initFrom, AV.cells, AS.upd, Option.bind_some, Option.bind_none, Option.map_some, Option.map_none, Option.getD_none, Option.getD_some, ↓reduceIte, Nat.reduceEqDiff, Nat.reduceAdd, Nat.reduceMul, Nat.reduceSub, List.nil_append, List.append_nil, List.cons_append, List.map_cons, List.map_nil, true_and, and_true, AS.fin, pick, dedup, List.mem_cons, List.not_mem_nil, or_false, false_or, List.size_toArray, List.length_cons, List.length_nil, loadAV, List.drop_zero, List.drop_succ_cons, List.take_zero, List.take_succ_cons, List.getElem?_cons_zero, List.getElem?_cons_succ, List.head?_cons, List.mapM_cons, List.mapM_nil, Option.bind_eq_bind, Option.pure_def, deeps3, deep3, deep2, deep1, deeps, deeps2, mixInts, AV.plain, mk, mkD, DCon.lift, DCon.runC, ren3, ren2, ren1, numb, List.zipIdx_nil, List.zipIdx_cons, List.all_nil, List.all_cons, Nat.reduceLeDiff, List.range, List.range.loop, Ty.sz, beq_self_eq_true, Bool.and_self, and_self, Ty.ofC, AO.isDead, Nat.reduceLT, if_true, Nat.zero_add, Nat.add_zero, ite_true, Nat.le_refl, Bool.false_eq_true, reduceCtorEq, if_false, ite_false, binAV, AO.ren, AV.isCell, fillAV, List.set_cons_zero, List.set_cons_succ, Ty.cells, Ty.flat, Ty.dflt, List.getD_cons_zero, List.getD_cons_succ, Int.reduceToNat, Int.reduceSub, Int.reduceAdd, Int.reduceMul, Int.reduceNeg, forall_eq_or_imp, forall_eq, gdL, id_eq, Nat.lt_irrefl, srcOf, List.replicate_succ, List.replicate_zero, dite_true, List.isEmpty_cons, Option.isSome_some, List.length_append, List.length_singleton, bne_self_eq_false, Bool.not_true, Bool.not_false, conF, asArgs, asArg, asTy, asI1, asB1, asS1, asL1, canons, canon, Fork.true_, Fork.false_, bne, Bool.not_not, List.length_map, pickO, AS.over, TI.bl, bne_iff_ne, AS.over2, without, keys, List.mem_singleton, memOp2, memOp3, absorb, abInt, abBool, abStr, abList, gones, Int.toNat_natCast, List.take_length, subE, List.nodup_cons, List.nodup_nil, not_false_eq_true, Nat.sub_self, conR, asG, asI, asBo, asStr, asIs, asBs, asE4, asI2, asI3, asLL, asLLL, Th_int, Th_bool, Th_string, Th_Sint, Th_implGroup, Th_implProof, Th_implEqualLog, Th_implSEqualLog, G_ExtractOneOfI, c_isValidGroup, c_areStatements, c_fulfils, c_sliceEqual, c_extracted, hL])
    | ((with_reducible refine ens_step ?_ (fun hE => ?_)); · ((repeat' with_reducible apply And.intro) <;> first | with_reducible assumption | omega | exact True.intro | with_reducible rfl | (show ByteArray.size _ ≤ _; decide) | (simp; done) | (simp; omega) | rfl))
    | ((with_reducible refine And.intro ?_ ?_); · ((repeat' with_reducible apply And.intro) <;> first | with_reducible assumption | omega | exact True.intro | with_reducible rfl | (show ByteArray.size _ ≤ _; decide) | (simp; done) | (simp; omega) | rfl))
    | ((with_reducible refine Fork.intro (fun h' => ?_) (fun h' => ?_)) <;> (try simp only [Bool.not_eq_true', Bool.not_eq_false', bne] at h') <;> (replace hL := And.intro h' hL) <;> (try simp only [decide_eq_true_eq, decide_eq_false_iff_not, beq_iff_eq, beq_eq_false_iff_ne, ne_eq] at h') <;> (try (have hG := M.goodB_of h'; have hq2 := hG.q2; have hqp := hG.qp; have hp3 := hG.p3; have hpM := hG.pM)) <;> (try (have hS := okSt_use h'; have hxl := hS.len)) <;> (try (have hof := oneForm_q (xs := xs) (pa := pa) (pc := pc) (pr := pr) h'; obtain ⟨hpc, hpr, hpcl, hprl, hpal⟩ := hof)) <;> (try (have hof := oneForm_q (xs := xs) (pa := qa) (pc := qc) (pr := qr) h'; obtain ⟨hqc, hqr, hqcl, hqrl, hqal⟩ := hof)) <;> (try (have hft := hk2.trans (fstD_hit (a := pc) (b := qc) (n := xs.length) (by omega) hL.1); replace hL := And.intro hft hL; have hb1 := getD_bd hpc (k := k) (by omega); have hb2 := getD_bd hpr (k := k) (by omega); have hb3 := getD_bd hqc (k := k) (by omega); have hb4 := getD_bd hqr (k := k) (by omega))) <;> (try (have hnx := hk2.trans (fstD_next (a := pc) (b := qc) (n := xs.length) (by omega) hL.1))) <;> (try (have hke : k = xs.length := (by omega); subst hke; have hft := hk2.trans fstD_end; replace hL := And.intro hft hL)))
    | (with_reducible refine AWp.skipS ?_)
    | ((with_reducible refine AWp.condT rfl ?_))
    | ((with_reducible refine AWp.condF rfl ?_))
    | (with_reducible refine AWp.condB rfl ?_)
    | (with_reducible refine AWp.ret ?_)
    | (with_reducible refine seqQ_n ?_)
    | (with_reducible refine seqQ_ret ?_)
    | (with_reducible refine blkQ_ret ?_)
    | (with_reducible refine blkQ_n ?_)
    | (with_reducible refine seqQ_exit ?_)
    | (with_reducible refine blkQ_exit ?_)
    | (with_reducible refine blkQ_other (by decide) ?_)
    | (with_reducible refine AWp.block ?_)
    | (with_reducible refine AWp.exit ?_)
    | (with_reducible refine AWp.skip ?_)
    | ((with_reducible refine loop_id ?_); refine AWp.loopAt 4 rfl ?_; refine AWp.loopO [8, 9, 10, 11, 45, 46, 47, 48, 49, 50, 51, 52, 53, 54, 55, 56, 57, 58, 59, 60, 61, 62, 63, 64, 65, 66, 67, 68, 69, 70, 71, 72, 73, 74, 75, 76, 77, 78, 79, 80, 81, 82] (fun k => [(45, .lit (.int .i64 (k : Nat)))]) (fun k => []) (fun k => k ≤ xs.length ∧ fstD pc qc 0 xs.length = fstD pc qc k (xs.length - k)) (fun k => xs.length - k) 0 (by exact ⟨by omega, rfl⟩) (by refine Sub.auto (by first | exact frok0 | assumption) rfl rfl ?_ ?_ <;> (try simp only [subE, AS.over2, without, keys, look, List.cons_append, List.nil_append, List.append_nil, List.mem_cons, List.not_mem_nil, or_false, or_true, true_or, false_or, Nat.reduceEqDiff, ↓reduceIte, Option.some.injEq, AV.lit.injEq, Value.int.injEq, Value.bool.injEq, AV.own.injEq, AO.row.injEq, AO.box.injEq, List.cons.injEq, AV.agg.injEq, AV.sl.injEq, true_and, and_true, and_self, heq_eq_eq, List.length_nil, List.length_cons, List.map_nil, List.take_zero, Int.natCast_add, Int.cast_ofNat_Int, Int.natCast_zero, List.length_append, List.length_map, List.length_take, Nat.zero_add]) <;> (simp)) (fun k hk_4 L4 hLoop4 => ?_); obtain ⟨hk1, hk2⟩ := hk_4)
    | ((with_reducible refine seqQ_f ?_); refine hLoop4 (k + 1) _ (by exact ⟨by omega, hnx⟩) (by omega) ?_; (refine Sub.auto (by first | exact frok0 | assumption) rfl rfl ?_ ?_ <;> (try simp only [subE, AS.over2, without, keys, look, List.cons_append, List.nil_append, List.append_nil, List.mem_cons, List.not_mem_nil, or_false, or_true, true_or, false_or, Nat.reduceEqDiff, ↓reduceIte, Option.some.injEq, AV.lit.injEq, Value.int.injEq, Value.bool.injEq, AV.own.injEq, AO.row.injEq, AO.box.injEq, List.cons.injEq, AV.agg.injEq, AV.sl.injEq, true_and, and_true, and_self, heq_eq_eq, List.length_nil, List.length_cons, List.map_nil, List.take_zero, Int.natCast_add, Int.cast_ofNat_Int, Int.natCast_zero, List.length_append, List.length_map, List.length_take, Nat.zero_add]) <;> (omega)))
    | ((with_reducible refine EndsAt_id ?_); (try subst_vars); (try simp only [exI, exV, exN, okEx, Option.map_some, Option.map_none, Option.getD_some, Option.getD_none, Option.isSome_some, Option.isSome_none, hL, List.length_cons, List.length_nil, Nat.zero_add, Nat.reduceAdd, Bool.and_true, Bool.and_false, Bool.true_and, Bool.false_and, Bool.and_self, ↓reduceIte, Bool.false_eq_true, Bool.not_true, Bool.not_false, bne]); refine EndsAt.done [] (by first | exact .inr rfl | exact .inl rfl) rfl rfl ?_ ?_ <;> first | decide | (repeat' (first | rfl | apply And.intro | trivial)))
    | (with_reducible refine AWp.seq ?_)⟩
noncomputable def c_ExtractOneOfS : Con0 := conF [(.pair .int (.pair .int .int)), (.list (.pair .int (.pair .int (.pair .int .int)))), (.pair (.list .int) (.pair (.list .int) (.list .int))), (.pair (.list .int) (.pair (.list .int) (.list .int)))] fun (⟨⟨p, q, g⟩, xs, ⟨pa, pc, pr⟩, ⟨qa, qc, qr⟩, _⟩ : (Int × Int × Int) × (List (Int × Int × Int × Int)) × (List Int × List Int × List Int) × (List Int × List Int × List Int) × Unit) => (xs.length ≤ 9223372036854775806, .tup [.lit (.int .i64 (exI (exN p q g xs pa pc pr qa qc qr))), .lit (.int .i64 (exV q pc pr qc qr (exN p q g xs pa pc pr qa qc qr))), .lit (.bool ((exN p q g xs pa pc pr qa qc qr).isSome))], [])
noncomputable def G_ExtractOneOfS : List (FuncId × Con) := [(116, mk c_l2Good), (99, mk c_sAll), (117, mk c_xEquations), (118, mk c_l1Same), (119, mk c_xSlope)]
theorem G_ExtractOneOfS_ok : ∀ f C, (f, C) ∈ G_ExtractOneOfS → C.ok Try.prog f := by
  intro f C h
  simp only [G_ExtractOneOfS, List.mem_cons, Prod.mk.injEq, List.not_mem_nil, or_false] at h
  rcases h with ⟨rfl, rfl⟩ | ⟨rfl, rfl⟩ | ⟨rfl, rfl⟩ | ⟨rfl, rfl⟩ | ⟨rfl, rfl⟩
  · exact ok_l2Good
  · exact ok_sAll
  · exact ok_xEquations
  · exact ok_l1Same
  · exact ok_xSlope
set_option maxRecDepth 100000 in
set_option maxHeartbeats 4000000 in
theorem ok_ExtractOneOfS : (mk c_ExtractOneOfS).ok Try.prog 59 := okF (Θ := Th) (N := 83) (rs := [.tmp 8, .tmp 9, .tmp 10]) Th_ok Try.func59 (by kernel_rfl) rfl Try.results59 (by decide) (by kernel_rfl) fun (⟨⟨p, q, g⟩, xs, ⟨pa, pc, pr⟩, ⟨qa, qc, qr⟩, _⟩ : (Int × Int × Int) × (List (Int × Int × Int × Int)) × (List Int × List Int × List Int) × (List Int × List Int × List Int) × Unit) => ⟨rfl, rfl, Nat.le_of_ble_eq_true rfl, fun hc w0 => by
  have hL := dmy_eq
  try dsimp only at hc
  try dsimp only
  have hrl0 := hc
  refine AWp.body rfl ?_
  repeat' first
    | ((with_reducible refine hK _ _ ?_); clear hK K)
    | ((with_reducible refine hK _ _ (by kernel_rfl) ?_); clear hK K)
    | ((with_reducible refine AWp.pS Th_ok G_ExtractOneOfS_ok [0, 1, 2, 3, 4, 6, 7, 8, 9, 10, 11, 42, 44, 45, 46, 58] (by decide) ?_); intro K hK)
    | ((with_reducible refine AWp.dS (by kernel_rfl) Th_ok G_ExtractOneOfS_ok [0, 1, 2, 3, 4, 6, 7, 8, 9, 10, 11, 42, 44, 45, 46, 58] ?_); intro K hK)
    | ((with_reducible refine AWp.pE Th_ok G_ExtractOneOfS_ok [0, 1, 2, 3, 4, 6, 7, 8, 9, 10, 11, 42, 44, 45, 46, 58] (by decide) ?_); intro K hK)
    | ((with_reducible refine AWp.dE (by kernel_rfl) Th_ok G_ExtractOneOfS_ok [0, 1, 2, 3, 4, 6, 7, 8, 9, 10, 11, 42, 44, 45, 46, 58] ?_); intro K hK)
    | ((first | with_reducible refine runF_id ?_ | with_reducible refine stepF_id ?_); simp (maxSteps := 2000000) only [runF, stepF, forkOf, gdOf, List.toList_toArray, stepOp, look, opAV, pureOp, callOp, memOp, AS.ev, AS.get, AS.obj, initS, initFrom, AV.cells, AS.upd, Option.bind_some, Option.bind_none, Option.map_some, Option.map_none, Option.getD_none, Option.getD_some, ↓reduceIte, Nat.reduceEqDiff, Nat.reduceAdd, Nat.reduceMul, Nat.reduceSub, List.nil_append, List.append_nil, List.cons_append, List.map_cons, List.map_nil, true_and, and_true, AS.fin, pick, dedup, List.mem_cons, List.not_mem_nil, or_false, false_or, List.size_toArray, List.length_cons, List.length_nil, loadAV, List.drop_zero, List.drop_succ_cons, List.take_zero, List.take_succ_cons, List.getElem?_cons_zero, List.getElem?_cons_succ, List.head?_cons, List.mapM_cons, List.mapM_nil, Option.bind_eq_bind, Option.pure_def, deeps3, deep3, deep2, deep1, deeps, deeps2, mixInts, AV.plain, mk, mkD, DCon.lift, DCon.runC, ren3, ren2, ren1, numb, List.zipIdx_nil, List.zipIdx_cons, List.all_nil, List.all_cons, Nat.reduceLeDiff, List.range, List.range.loop, Ty.sz, beq_self_eq_true, Bool.and_self, and_self, Ty.ofC, AO.isDead, Nat.reduceLT, if_true, Nat.zero_add, Nat.add_zero, ite_true, Nat.le_refl, Bool.false_eq_true, reduceCtorEq, if_false, ite_false, binAV, AO.ren, AV.isCell, fillAV, List.set_cons_zero, List.set_cons_succ, Ty.cells, Ty.flat, Ty.dflt, List.getD_cons_zero, List.getD_cons_succ, Int.reduceToNat, Int.reduceSub, Int.reduceAdd, Int.reduceMul, Int.reduceNeg, forall_eq_or_imp, forall_eq, gdL, id_eq, Nat.lt_irrefl, srcOf, List.replicate_succ, List.replicate_zero, dite_true, List.isEmpty_cons, Option.isSome_some, List.length_append, List.length_singleton, bne_self_eq_false, Bool.not_true, Bool.not_false, conF, asArgs, asArg, asTy, asI1, asB1, asS1, asL1, canons, canon, Fork.true_, Fork.false_, bne, Bool.not_not, List.length_map, pickO, AS.over, TI.bl, bne_iff_ne, AS.over2, without, keys, List.mem_singleton, memOp2, memOp3, absorb, abInt, abBool, abStr, abList, gones, Int.toNat_natCast, List.take_length, subE, List.nodup_cons, List.nodup_nil, not_false_eq_true, Nat.sub_self, conR, asG, asI, asBo, asStr, asIs, asBs, asE4, asI2, asI3, asLL, asLLL, Th_int, Th_bool, Th_string, Th_Sint, Th_implGroup, Th_implProof, Th_implEqualLog, Th_implSEqualLog, G_ExtractOneOfS, c_l2Good, c_sAll, c_xEquations, c_l1Same, c_xSlope, hL])
    | ((with_reducible refine ens_step ?_ (fun hE => ?_)); · ((repeat' with_reducible apply And.intro) <;> first | with_reducible assumption | omega | exact True.intro | with_reducible rfl | (show ByteArray.size _ ≤ _; decide) | (simp; done) | (simp; omega) | rfl))
    | ((with_reducible refine And.intro ?_ ?_); · ((repeat' with_reducible apply And.intro) <;> first | with_reducible assumption | omega | exact True.intro | with_reducible rfl | (show ByteArray.size _ ≤ _; decide) | (simp; done) | (simp; omega) | rfl))
    | ((with_reducible refine Fork.intro (fun h' => ?_) (fun h' => ?_)) <;> (try simp only [Bool.not_eq_true', Bool.not_eq_false', bne] at h') <;> (replace hL := And.intro h' hL) <;> (try simp only [decide_eq_true_eq, decide_eq_false_iff_not, beq_iff_eq, beq_eq_false_iff_ne, ne_eq] at h') <;> (try (have hG := M.goodB_of h'; have hq2 := hG.q2; have hqp := hG.qp; have hp3 := hG.p3; have hpM := hG.pM)) <;> (try (have hS := okSt_use h'; have hxl := hS.len)) <;> (try (have hof := oneForm_q (xs := xs) (pa := pa) (pc := pc) (pr := pr) h'; obtain ⟨hpc, hpr, hpcl, hprl, hpal⟩ := hof)) <;> (try (have hof := oneForm_q (xs := xs) (pa := qa) (pc := qc) (pr := qr) h'; obtain ⟨hqc, hqr, hqcl, hqrl, hqal⟩ := hof)) <;> (try (have hft := hk2.trans (fstD_hit (a := pc) (b := qc) (n := xs.length) (by omega) hL.1); replace hL := And.intro hft hL; have hb1 := getD_bd hpc (k := k) (by omega); have hb2 := getD_bd hpr (k := k) (by omega); have hb3 := getD_bd hqc (k := k) (by omega); have hb4 := getD_bd hqr (k := k) (by omega))) <;> (try (have hnx := hk2.trans (fstD_next (a := pc) (b := qc) (n := xs.length) (by omega) hL.1))) <;> (try (have hke : k = xs.length := (by omega); subst hke; have hft := hk2.trans fstD_end; replace hL := And.intro hft hL)))
    | (with_reducible refine AWp.skipS ?_)
    | ((with_reducible refine AWp.condT rfl ?_))
    | ((with_reducible refine AWp.condF rfl ?_))
    | (with_reducible refine AWp.condB rfl ?_)
    | (with_reducible refine AWp.ret ?_)
    | (with_reducible refine seqQ_n ?_)
    | (with_reducible refine seqQ_ret ?_)
    | (with_reducible refine blkQ_ret ?_)
    | (with_reducible refine blkQ_n ?_)
    | (with_reducible refine seqQ_exit ?_)
    | (with_reducible refine blkQ_exit ?_)
    | (with_reducible refine blkQ_other (by decide) ?_)
    | (with_reducible refine AWp.block ?_)
    | (with_reducible refine AWp.exit ?_)
    | (with_reducible refine AWp.skip ?_)
    | ((with_reducible refine loop_id ?_); refine AWp.loopAt 4 rfl ?_; refine AWp.loopO [8, 9, 10, 11, 45, 46, 47, 48, 49, 50, 51, 52, 53, 54, 55, 56, 57, 58, 59, 60, 61, 62, 63, 64, 65, 66, 67, 68, 69, 70, 71, 72, 73, 74, 75, 76, 77, 78, 79, 80, 81, 82] (fun k => [(45, .lit (.int .i64 (k : Nat)))]) (fun k => []) (fun k => k ≤ xs.length ∧ fstD pc qc 0 xs.length = fstD pc qc k (xs.length - k)) (fun k => xs.length - k) 0 (by exact ⟨by omega, rfl⟩) (by refine Sub.auto (by first | exact frok0 | assumption) rfl rfl ?_ ?_ <;> (try simp only [subE, AS.over2, without, keys, look, List.cons_append, List.nil_append, List.append_nil, List.mem_cons, List.not_mem_nil, or_false, or_true, true_or, false_or, Nat.reduceEqDiff, ↓reduceIte, Option.some.injEq, AV.lit.injEq, Value.int.injEq, Value.bool.injEq, AV.own.injEq, AO.row.injEq, AO.box.injEq, List.cons.injEq, AV.agg.injEq, AV.sl.injEq, true_and, and_true, and_self, heq_eq_eq, List.length_nil, List.length_cons, List.map_nil, List.take_zero, Int.natCast_add, Int.cast_ofNat_Int, Int.natCast_zero, List.length_append, List.length_map, List.length_take, Nat.zero_add]) <;> (simp)) (fun k hk_4 L4 hLoop4 => ?_); obtain ⟨hk1, hk2⟩ := hk_4)
    | ((with_reducible refine seqQ_f ?_); refine hLoop4 (k + 1) _ (by exact ⟨by omega, hnx⟩) (by omega) ?_; (refine Sub.auto (by first | exact frok0 | assumption) rfl rfl ?_ ?_ <;> (try simp only [subE, AS.over2, without, keys, look, List.cons_append, List.nil_append, List.append_nil, List.mem_cons, List.not_mem_nil, or_false, or_true, true_or, false_or, Nat.reduceEqDiff, ↓reduceIte, Option.some.injEq, AV.lit.injEq, Value.int.injEq, Value.bool.injEq, AV.own.injEq, AO.row.injEq, AO.box.injEq, List.cons.injEq, AV.agg.injEq, AV.sl.injEq, true_and, and_true, and_self, heq_eq_eq, List.length_nil, List.length_cons, List.map_nil, List.take_zero, Int.natCast_add, Int.cast_ofNat_Int, Int.natCast_zero, List.length_append, List.length_map, List.length_take, Nat.zero_add]) <;> (omega)))
    | ((with_reducible refine EndsAt_id ?_); (try subst_vars); (try simp only [exI, exV, exN, okEx, Option.map_some, Option.map_none, Option.getD_some, Option.getD_none, Option.isSome_some, Option.isSome_none, hL, List.length_cons, List.length_nil, Nat.zero_add, Nat.reduceAdd, Bool.and_true, Bool.and_false, Bool.true_and, Bool.false_and, Bool.and_self, ↓reduceIte, Bool.false_eq_true, Bool.not_true, Bool.not_false, bne]); refine EndsAt.done [] (by first | exact .inr rfl | exact .inl rfl) rfl rfl ?_ ?_ <;> first | decide | (repeat' (first | rfl | apply And.intro | trivial)))
    | (with_reducible refine AWp.seq ?_)⟩
end Go.Proofs.Ytljlimlgdnbllaa
