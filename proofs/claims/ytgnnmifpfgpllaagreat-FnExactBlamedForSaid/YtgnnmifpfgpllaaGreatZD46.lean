import Derived.Test.YtgnnmifpfgpllaaGreatZD34
import Derived.Test.YtgnnmifpfgpllaaGreatZAK
import Derived.Test.YtgnnmifpfgpllaaGreatZAL
import Derived.Test.YtgnnmifpfgpllaaGreatZB4
import Derived.Shelf.SlicesE.Delete
import Derived.Lib.OwnBridge
import Derived.Test.YtgnnmifpfgpllaaGreatZD23
import Derived.Test.YtgnnmifpfgpllaaGreatZG2
/- Putting a number in; Compact. -/
set_option linter.all false
set_option linter.unusedVariables false
set_option linter.unusedSimpArgs false
namespace Go.Proofs.YtgnnmifpfgpllaaGreat
open Go.RowKit
/-- a number stands where it would be put -/
def stL (v : Int) : List Int → Bool
  | [] => false
  | x :: l => if x < v then stL v l else x == v
section
variable {v : Int} {xs : List Int} {k : Nat}
theorem stL_put : ∀ xs : List Int, stL v xs = true → M.putL v xs = xs
  | [], h => by cases h
  | x :: l, h => by
    unfold stL at h
    unfold M.putL
    split at h
    · rename_i hx; rw [if_pos hx, stL_put l h]
    · rename_i hx; rw [if_neg hx, if_pos (beq_iff_eq.1 h)]
theorem stL_lt (hk : k < xs.length) (h : xs.getD k 0 < v) (h2 : stL v xs = stL v (xs.drop k)) : stL v xs = stL v (xs.drop (k + 1)) := by
  rw [h2, drop_at 0 hk]; simp only [stL, if_pos h]
theorem stL_ge (hk : k < xs.length) (h : ¬ xs.getD k 0 < v) (h2 : stL v xs = stL v (xs.drop k)) : stL v xs = (xs.getD k 0 == v) := by
  rw [h2, drop_at 0 hk]; simp only [stL, if_neg h]
theorem stL_end (h2 : stL v xs = stL v (xs.drop xs.length)) : stL v xs = false := by
  rw [h2, List.drop_length]; rfl
theorem putL_lt (hk : k < xs.length) (h : xs.getD k 0 < v) (h2 : M.putL v xs = xs.take k ++ M.putL v (xs.drop k)) : M.putL v xs = xs.take (k + 1) ++ M.putL v (xs.drop (k + 1)) := by
  rw [h2, drop_at 0 hk, take_at 0 hk]; simp only [M.putL, if_pos h, List.append_assoc, List.cons_append, List.nil_append]
theorem putL_ge (hk : k < xs.length) (h : ¬ xs.getD k 0 < v) (hn : ¬ xs.getD k 0 = v) (h2 : M.putL v xs = xs.take k ++ M.putL v (xs.drop k)) : M.putL v xs = xs.take k ++ [v] ++ xs.drop k := by
  rw [h2, drop_at 0 hk]; simp only [M.putL, if_neg h, if_neg hn, List.append_assoc, List.cons_append, List.nil_append]
theorem putL_l1 {ys : List Int} (h : ys = xs.take k ++ [v] ++ xs.drop k) : ys.length = (xs.take k).length + 1 + (xs.drop k).length := by
  rw [h, List.length_append, List.length_append]; rfl
theorem putL_l2 {ys : List Int} (h : ys = xs ++ [v]) : ys.length = xs.length + 1 := by
  rw [h, List.length_append]; rfl
theorem putL_end (h2 : M.putL v xs = xs.take xs.length ++ M.putL v (xs.drop xs.length)) : M.putL v xs = xs ++ [v] := by
  rw [h2, List.drop_length, List.take_length]; rfl
end
noncomputable def G_put : List (FuncId × Con) := []
theorem G_put_ok : ∀ f C, (f, C) ∈ G_put → C.ok Tryz.prog f := by
  intro f C h
  simp only [G_put, List.mem_cons, Prod.mk.injEq, List.not_mem_nil, or_false] at h
set_option maxRecDepth 100000 in
set_option maxHeartbeats 4000000 in
theorem hand_put (v : Int) (xs : List Int) (hl : xs.length ≤ 1000000) (hs : stL v xs = true) : ∀ {w0 : World} {get : Nat → Option AV} {obj : Nat → AO} {a : Act} {W : World} {ρ : Nat → Value} {β : Nat → List Nat}, RelW w0 get obj a W ρ β → ∀ {o : Nat}, obj o = .row 3 .int xs → Calls Tryz.prog 34 (ρ o :: [.int .i64 v]).toArray W fun en w' => ∃ ρ' β', en = .returned (ρ o) ∧ Rep (cxOf obj w' ρ' β') (.own o xs.length) (ρ o) ∧ RelW w0 get obj a w' ρ' β' := fun hR _ hob => okHand (Θ := Th) (N := 48) (rs := [.tmp 4]) Th_ok Tryz.func34 (by kernel_rfl) rfl Tryz.results34 (by decide) (t := .int) (xs := xs) (rest := [.int .i64 v]) (Nat.le_of_ble_eq_true rfl) (fun w0 pin hfr => by
  have hL := dmy_eq
  refine AWp.body rfl ?_
  repeat' first
    | ((with_reducible refine hK _ _ ?_); clear hK K)
    | ((with_reducible refine hK _ _ (by kernel_rfl) ?_); clear hK K)
    | ((with_reducible refine AWp.pS Th_ok G_put_ok [0, 1, 4, 5, 6, 18, 32] (by decide) ?_); intro K hK)
    | ((with_reducible refine AWp.dS (by kernel_rfl) Th_ok G_put_ok [0, 1, 4, 5, 6, 18, 32] ?_); intro K hK)
    | ((with_reducible refine AWp.pE Th_ok G_put_ok [0, 1, 4, 5, 6, 18, 32] (by decide) ?_); intro K hK)
    | ((with_reducible refine AWp.dE (by kernel_rfl) Th_ok G_put_ok [0, 1, 4, 5, 6, 18, 32] ?_); intro K hK)
    | ((first | with_reducible refine runF_id ?_ | with_reducible refine stepF_id ?_); simp (maxSteps := 2000000) only [runF, stepF, forkOf, gdOf, List.toList_toArray, stepOp, look, opAV, pureOp, callOp, memOp, AS.ev, AS.get, AS.obj, initS, initFrom, AV.cells, AS.upd, Option.bind_some, Option.bind_none, Option.map_some, Option.map_none, Option.getD_none, Option.getD_some, ↓reduceIte, Nat.reduceEqDiff, Nat.reduceAdd, Nat.reduceMul, Nat.reduceSub, List.nil_append, List.append_nil, List.cons_append, List.map_cons, List.map_nil, true_and, and_true, AS.fin, pick, dedup, List.mem_cons, List.not_mem_nil, or_false, false_or, List.size_toArray, List.length_cons, List.length_nil, loadAV, List.drop_zero, List.drop_succ_cons, List.take_zero, List.take_succ_cons, List.getElem?_cons_zero, List.getElem?_cons_succ, List.head?_cons, List.mapM_cons, List.mapM_nil, Option.bind_eq_bind, Option.pure_def, deeps3, deep3, deep2, deep1, deeps, deeps2, mixInts, AV.plain, mk, mkD, DCon.lift, DCon.runC, ren3, ren2, ren1, numb, List.zipIdx_nil, List.zipIdx_cons, List.all_nil, List.all_cons, Nat.reduceLeDiff, List.range, List.range.loop, Ty.sz, beq_self_eq_true, Bool.and_self, and_self, Ty.ofC, AO.isDead, Nat.reduceLT, if_true, Nat.zero_add, Nat.add_zero, ite_true, Nat.le_refl, Bool.false_eq_true, reduceCtorEq, if_false, ite_false, binAV, AO.ren, AV.isCell, fillAV, List.set_cons_zero, List.set_cons_succ, Ty.cells, Ty.flat, Ty.dflt, List.getD_cons_zero, List.getD_cons_succ, Int.reduceToNat, Int.reduceSub, Int.reduceAdd, Int.reduceMul, Int.reduceNeg, forall_eq_or_imp, forall_eq, gdL, id_eq, Nat.lt_irrefl, srcOf, List.replicate_succ, List.replicate_zero, dite_true, List.isEmpty_cons, Option.isSome_some, List.length_append, List.length_singleton, bne_self_eq_false, Bool.not_true, Bool.not_false, conF, asArgs, asArg, asTy, asI1, asB1, asS1, asL1, canons, canon, Fork.true_, Fork.false_, bne, Bool.not_not, List.length_map, pickO, AS.over, TI.bl, bne_iff_ne, AS.over2, without, keys, List.mem_singleton, memOp2, memOp3, absorb, abInt, abBool, abStr, abList, gones, Int.toNat_natCast, List.take_length, subE, List.nodup_cons, List.nodup_nil, not_false_eq_true, Nat.sub_self, conR, asG, asI, asBo, asStr, asIs, asBs, asE4, asI2, asI3, asLL, asLLL, Th_int, Th_Sint, Th_implCipher, Th_implGroup, Th_implSPartial, Th_lawsCipher, Th_lawsGroup, Th_lawsSCipher, Th_lawsSPartial, Th_lawsSSPartial, Th_string, G_put, initW, wnum, rowsAO, ren2, ren1, List.map_cons, List.map_nil, hL])
    | ((with_reducible refine ens_step ?_ (fun hE => ?_)); · ((repeat' with_reducible apply And.intro) <;> first | with_reducible assumption | omega | exact True.intro | with_reducible rfl | (show ByteArray.size _ ≤ _; decide) | (simp; done) | (simp; omega) | rfl))
    | ((with_reducible refine And.intro ?_ ?_); · ((repeat' with_reducible apply And.intro) <;> first | with_reducible assumption | omega | exact True.intro | with_reducible rfl | (show ByteArray.size _ ≤ _; decide) | (simp; done) | (simp; omega) | rfl))
    | ((with_reducible refine Fork.intro (fun h' => ?_) (fun h' => ?_)) <;> (try simp only [Bool.not_eq_true', Bool.not_eq_false', bne] at h') <;> (replace hL := And.intro h' hL) <;> (try simp only [decide_eq_true_eq, decide_eq_false_iff_not, beq_iff_eq, beq_eq_false_iff_ne, ne_eq] at h') <;> (try (have hsl := stL_lt (k := k) (by omega) h' hz2)) <;> (try (have hsg := stL_ge (k := k) (by omega) h' hz2)) <;> (try (exfalso; have hke : k = xs.length := (by omega); subst hke; have hxx := stL_end hz2; exact Bool.false_ne_true (hxx.symm.trans hs))) <;> (try (exfalso; exact Bool.false_ne_true (hL.1.symm.trans (hsg.symm.trans hs)))))
    | (with_reducible refine AWp.skipS ?_)
    | ((with_reducible refine AWp.condT rfl ?_))
    | ((with_reducible refine AWp.condF rfl ?_))
    | (with_reducible refine AWp.condB rfl ?_)
    | (with_reducible refine AWp.ret ?_)
    | (with_reducible refine seqQ_n ?_)
    | (with_reducible refine seqQ_ret ?_)
    | (with_reducible refine blkQ_ret ?_)
    | (with_reducible refine blkQ_n ?_)
    | (with_reducible refine seqQ_exit ?_)
    | (with_reducible refine blkQ_exit ?_)
    | (with_reducible refine blkQ_other (by decide) ?_)
    | (with_reducible refine AWp.block ?_)
    | (with_reducible refine AWp.exit ?_)
    | (with_reducible refine AWp.skip ?_)
    | ((with_reducible refine loop_id ?_); refine AWp.loopAt 2 rfl ?_; refine AWp.loopO [5, 7, 8, 9, 10, 11, 12, 13, 14, 15, 16, 17, 18, 19, 20] (fun k => [(5, .lit (.int .i64 (k : Nat)))]) (fun k => []) (fun k => k ≤ xs.length ∧ stL v xs = stL v (xs.drop k)) (fun k => xs.length - k) 0 (by exact ⟨by omega, by simp⟩) (by refine Sub.auto (by first | exact frok0 | assumption) rfl rfl ?_ ?_ <;> (try simp only [subE, AS.over2, without, keys, look, List.cons_append, List.nil_append, List.append_nil, List.mem_cons, List.not_mem_nil, or_false, or_true, true_or, false_or, Nat.reduceEqDiff, ↓reduceIte, Option.some.injEq, AV.lit.injEq, Value.int.injEq, Value.bool.injEq, AV.own.injEq, AO.row.injEq, AO.box.injEq, List.cons.injEq, AV.agg.injEq, AV.sl.injEq, true_and, and_true, and_self, heq_eq_eq, List.length_nil, List.length_cons, List.map_nil, List.take_zero, Int.natCast_add, Int.cast_ofNat_Int, Int.natCast_zero, List.length_append, List.length_map, List.length_take, Nat.zero_add]) <;> (simp)) (fun k hk_2 L2 hLoop2 => ?_); obtain ⟨hz1, hz2⟩ := hk_2)
    | ((with_reducible refine seqQ_f ?_); refine hLoop2 (k + 1) _ (by exact ⟨by omega, hsl⟩) (by omega) ?_; (refine Sub.auto (by first | exact frok0 | assumption) rfl rfl ?_ ?_ <;> (try simp only [subE, AS.over2, without, keys, look, List.cons_append, List.nil_append, List.append_nil, List.mem_cons, List.not_mem_nil, or_false, or_true, true_or, false_or, Nat.reduceEqDiff, ↓reduceIte, Option.some.injEq, AV.lit.injEq, Value.int.injEq, Value.bool.injEq, AV.own.injEq, AO.row.injEq, AO.box.injEq, List.cons.injEq, AV.agg.injEq, AV.sl.injEq, true_and, and_true, and_self, heq_eq_eq, List.length_nil, List.length_cons, List.map_nil, List.take_zero, Int.natCast_add, Int.cast_ofNat_Int, Int.natCast_zero, List.length_append, List.length_map, List.length_take, Nat.zero_add]) <;> (omega)))
    | (with_reducible refine AWp.seq ?_)
    | ((with_reducible refine EndsO_id ?_); exact ⟨by first | exact .inr rfl | exact .inl rfl, rfl, rfl, rfl⟩)) hR hob
noncomputable def c_putN : Con0 := conF [(.list .int), .int] fun (⟨xs, v, _⟩ : (List Int) × Int × Unit) => (xs.length ≤ 1000000 ∧ stL v xs = false, .own 0 (M.putL v xs).length, [.row 3 .int (M.putL v xs)])
noncomputable def G_putN : List (FuncId × Con) := []
theorem G_putN_ok : ∀ f C, (f, C) ∈ G_putN → C.ok Tryz.prog f := by
  intro f C h
  simp only [G_putN, List.mem_cons, Prod.mk.injEq, List.not_mem_nil, or_false] at h
set_option maxRecDepth 100000 in
set_option maxHeartbeats 4000000 in
theorem ok_putN : (mk c_putN).ok Tryz.prog 34 := okF (Θ := Th) (N := 48) (rs := [.tmp 4]) Th_ok Tryz.func34 (by kernel_rfl) rfl Tryz.results34 (by decide) (by kernel_rfl) fun (⟨xs, v, _⟩ : (List Int) × Int × Unit) => ⟨rfl, rfl, Nat.le_of_ble_eq_true rfl, fun hc w0 => by
  have hL := dmy_eq
  try dsimp only at hc
  try dsimp only
  obtain ⟨hl, hs⟩ := hc
  refine AWp.body rfl ?_
  repeat' first
    | ((with_reducible refine hK _ _ ?_); clear hK K)
    | ((with_reducible refine hK _ _ (by kernel_rfl) ?_); clear hK K)
    | ((with_reducible refine AWp.pS Th_ok G_putN_ok [0, 1, 4, 5, 6, 18, 32] (by decide) ?_); intro K hK)
    | ((with_reducible refine AWp.dS (by kernel_rfl) Th_ok G_putN_ok [0, 1, 4, 5, 6, 18, 32] ?_); intro K hK)
    | ((with_reducible refine AWp.pE Th_ok G_putN_ok [0, 1, 4, 5, 6, 18, 32] (by decide) ?_); intro K hK)
    | ((with_reducible refine AWp.dE (by kernel_rfl) Th_ok G_putN_ok [0, 1, 4, 5, 6, 18, 32] ?_); intro K hK)
    | ((first | with_reducible refine runF_id ?_ | with_reducible refine stepF_id ?_); simp (maxSteps := 2000000) only [runF, stepF, forkOf, gdOf, List.toList_toArray, stepOp, look, opAV, pureOp, callOp, memOp, AS.ev, AS.get, AS.obj, initS, initFrom, AV.cells, AS.upd, Option.bind_some, Option.bind_none, Option.map_some, Option.map_none, Option.getD_none, Option.getD_some, ↓reduceIte, Nat.reduceEqDiff, Nat.reduceAdd, Nat.reduceMul, Nat.reduceSub, List.nil_append, List.append_nil, List.cons_append, List.map_cons, List.map_nil, true_and, and_true, AS.fin, pick, dedup, List.mem_cons, List.not_mem_nil, or_false, false_or, List.size_toArray, List.length_cons, List.length_nil, loadAV, List.drop_zero, List.drop_succ_cons, List.take_zero, List.take_succ_cons, List.getElem?_cons_zero, List.getElem?_cons_succ, List.head?_cons, List.mapM_cons, List.mapM_nil, Option.bind_eq_bind, Option.pure_def, deeps3, deep3, deep2, deep1, deeps, deeps2, mixInts, AV.plain, mk, mkD, DCon.lift, DCon.runC, ren3, ren2, ren1, numb, List.zipIdx_nil, List.zipIdx_cons, List.all_nil, List.all_cons, Nat.reduceLeDiff, List.range, List.range.loop, Ty.sz, beq_self_eq_true, Bool.and_self, and_self, Ty.ofC, AO.isDead, Nat.reduceLT, if_true, Nat.zero_add, Nat.add_zero, ite_true, Nat.le_refl, Bool.false_eq_true, reduceCtorEq, if_false, ite_false, binAV, AO.ren, AV.isCell, fillAV, List.set_cons_zero, List.set_cons_succ, Ty.cells, Ty.flat, Ty.dflt, List.getD_cons_zero, List.getD_cons_succ, Int.reduceToNat, Int.reduceSub, Int.reduceAdd, Int.reduceMul, Int.reduceNeg, forall_eq_or_imp, forall_eq, gdL, id_eq, Nat.lt_irrefl, srcOf, List.replicate_succ, List.replicate_zero, dite_true, List.isEmpty_cons, Option.isSome_some, List.length_append, List.length_singleton, bne_self_eq_false, Bool.not_true, Bool.not_false, conF, asArgs, asArg, asTy, asI1, asB1, asS1, asL1, canons, canon, Fork.true_, Fork.false_, bne, Bool.not_not, List.length_map, pickO, AS.over, TI.bl, bne_iff_ne, AS.over2, without, keys, List.mem_singleton, memOp2, memOp3, absorb, abInt, abBool, abStr, abList, gones, Int.toNat_natCast, List.take_length, subE, List.nodup_cons, List.nodup_nil, not_false_eq_true, Nat.sub_self, conR, asG, asI, asBo, asStr, asIs, asBs, asE4, asI2, asI3, asLL, asLLL, Th_int, Th_Sint, Th_implCipher, Th_implGroup, Th_implSPartial, Th_lawsCipher, Th_lawsGroup, Th_lawsSCipher, Th_lawsSPartial, Th_lawsSSPartial, Th_string, G_putN, List.drop_length, List.append_nil, hL])
    | ((with_reducible refine ens_step ?_ (fun hE => ?_)); · ((repeat' with_reducible apply And.intro) <;> first | with_reducible assumption | omega | exact True.intro | with_reducible rfl | (show ByteArray.size _ ≤ _; decide) | (simp; done) | (simp; omega) | rfl))
    | ((with_reducible refine And.intro ?_ ?_); · ((repeat' with_reducible apply And.intro) <;> first | with_reducible assumption | omega | exact True.intro | with_reducible rfl | (show ByteArray.size _ ≤ _; decide) | (simp; done) | (simp; omega) | rfl))
    | ((with_reducible refine Fork.intro (fun h' => ?_) (fun h' => ?_)) <;> (try simp only [Bool.not_eq_true', Bool.not_eq_false', bne] at h') <;> (replace hL := And.intro h' hL) <;> (try simp only [decide_eq_true_eq, decide_eq_false_iff_not, beq_iff_eq, beq_eq_false_iff_ne, ne_eq] at h') <;> (try (have hpl := putL_lt (k := k) (by omega) h' hz2; have hsl := stL_lt (k := k) (by omega) h' hz3)) <;> (try (have hsg := stL_ge (k := k) (by omega) h' hz3)) <;> (try (exfalso; exact Bool.false_ne_true (hs.symm.trans (hsg.trans hL.1)))) <;> (try (have hpe := putL_ge (k := k) (by omega) (by omega) h' hz2; have hle := putL_l1 hpe; replace hL := And.intro hpe hL)) <;> (try (have hke : k = xs.length := (by omega); subst hke; have hpe := putL_end hz2; have hle := putL_l2 hpe; rw [List.take_length] at hz2; replace hL := And.intro hpe hL)))
    | (with_reducible refine AWp.skipS ?_)
    | ((with_reducible refine AWp.condT rfl ?_))
    | ((with_reducible refine AWp.condF rfl ?_))
    | (with_reducible refine AWp.condB rfl ?_)
    | (with_reducible refine AWp.ret ?_)
    | (with_reducible refine seqQ_n ?_)
    | (with_reducible refine seqQ_ret ?_)
    | (with_reducible refine blkQ_ret ?_)
    | (with_reducible refine blkQ_n ?_)
    | (with_reducible refine seqQ_exit ?_)
    | (with_reducible refine blkQ_exit ?_)
    | (with_reducible refine blkQ_other (by decide) ?_)
    | (with_reducible refine AWp.block ?_)
    | (with_reducible refine AWp.exit ?_)
    | (with_reducible refine AWp.skip ?_)
    | ((with_reducible refine loop_id ?_); refine AWp.loopAt 2 rfl ?_; refine AWp.loopO [5, 7, 8, 9, 10, 11, 12, 13, 14, 15, 16, 17, 18, 19, 20] (fun k => [(5, .lit (.int .i64 (k : Nat)))]) (fun k => []) (fun k => k ≤ xs.length ∧ M.putL v xs = xs.take k ++ M.putL v (xs.drop k) ∧ stL v xs = stL v (xs.drop k)) (fun k => xs.length - k) 0 (by exact ⟨by omega, by simp, by simp⟩) (by refine Sub.auto (by first | exact frok0 | assumption) rfl rfl ?_ ?_ <;> (try simp only [subE, AS.over2, without, keys, look, List.cons_append, List.nil_append, List.append_nil, List.mem_cons, List.not_mem_nil, or_false, or_true, true_or, false_or, Nat.reduceEqDiff, ↓reduceIte, Option.some.injEq, AV.lit.injEq, Value.int.injEq, Value.bool.injEq, AV.own.injEq, AO.row.injEq, AO.box.injEq, List.cons.injEq, AV.agg.injEq, AV.sl.injEq, true_and, and_true, and_self, heq_eq_eq, List.length_nil, List.length_cons, List.map_nil, List.take_zero, Int.natCast_add, Int.cast_ofNat_Int, Int.natCast_zero, List.length_append, List.length_map, List.length_take, Nat.zero_add]) <;> (simp)) (fun k hk_2 L2 hLoop2 => ?_); obtain ⟨hz1, hz2, hz3⟩ := hk_2)
    | ((with_reducible refine seqQ_f ?_); refine hLoop2 (k + 1) _ (by exact ⟨by omega, hpl, hsl⟩) (by omega) ?_; (refine Sub.auto (by first | exact frok0 | assumption) rfl rfl ?_ ?_ <;> (try simp only [subE, AS.over2, without, keys, look, List.cons_append, List.nil_append, List.append_nil, List.mem_cons, List.not_mem_nil, or_false, or_true, true_or, false_or, Nat.reduceEqDiff, ↓reduceIte, Option.some.injEq, AV.lit.injEq, Value.int.injEq, Value.bool.injEq, AV.own.injEq, AO.row.injEq, AO.box.injEq, List.cons.injEq, AV.agg.injEq, AV.sl.injEq, true_and, and_true, and_self, heq_eq_eq, List.length_nil, List.length_cons, List.map_nil, List.take_zero, Int.natCast_add, Int.cast_ofNat_Int, Int.natCast_zero, List.length_append, List.length_map, List.length_take, Nat.zero_add]) <;> (omega)))
    | ((with_reducible refine EndsAt_id ?_); (try subst_vars); rw [hle, hpe]; refine EndsAt.done [_] (by first | exact .inr rfl | exact .inl rfl) rfl rfl ?_ ?_ <;> first | decide | (repeat' (first | rfl | apply And.intro | trivial)))
    | (with_reducible refine AWp.seq ?_)⟩
def c_w_put : Con := Con.ins 3 M.putL
def sel_w_put : Nat := 0
theorem ok_w_put : c_w_put.ok Tryz.prog 34 := okIns stL (fun v xs h => stL_put xs h) ok_putN (fun v xs hl hs => hand_put v xs hl hs)
noncomputable def G_cpt : List (FuncId × Con) := []
theorem G_cpt_ok : ∀ f C, (f, C) ∈ G_cpt → C.ok Tryz.prog f := by
  intro f C h
  simp only [G_cpt, List.mem_cons, Prod.mk.injEq, List.not_mem_nil, or_false] at h
set_option maxRecDepth 100000 in
set_option maxHeartbeats 4000000 in
theorem hand_cpt (xs : List Int) (hl : xs.length < 2) : ∀ {w0 : World} {get : Nat → Option AV} {obj : Nat → AO} {a : Act} {W : World} {ρ : Nat → Value} {β : Nat → List Nat}, RelW w0 get obj a W ρ β → ∀ {o : Nat}, obj o = .row 3 .int xs → Calls Tryz.prog 40 (ρ o :: []).toArray W fun en w' => ∃ ρ' β', en = .returned (ρ o) ∧ Rep (cxOf obj w' ρ' β') (.own o xs.length) (ρ o) ∧ RelW w0 get obj a w' ρ' β' := fun hR _ hob => okHand (Θ := Th) (N := 61) (rs := [.tmp 2]) Th_ok Tryz.func40 (by kernel_rfl) rfl Tryz.results40 (by decide) (t := .int) (xs := xs) (rest := []) (Nat.le_of_ble_eq_true rfl) (fun w0 pin hfr => by
  have hL := dmy_eq
  refine AWp.body rfl ?_
  repeat' first
    | ((with_reducible refine hK _ _ ?_); clear hK K)
    | ((with_reducible refine hK _ _ (by kernel_rfl) ?_); clear hK K)
    | ((with_reducible refine AWp.pS Th_ok G_cpt_ok [0, 2, 3, 4, 5, 8, 13, 25, 32, 44] (by decide) ?_); intro K hK)
    | ((with_reducible refine AWp.dS (by kernel_rfl) Th_ok G_cpt_ok [0, 2, 3, 4, 5, 8, 13, 25, 32, 44] ?_); intro K hK)
    | ((with_reducible refine AWp.pE Th_ok G_cpt_ok [0, 2, 3, 4, 5, 8, 13, 25, 32, 44] (by decide) ?_); intro K hK)
    | ((with_reducible refine AWp.dE (by kernel_rfl) Th_ok G_cpt_ok [0, 2, 3, 4, 5, 8, 13, 25, 32, 44] ?_); intro K hK)
    | ((first | with_reducible refine runF_id ?_ | with_reducible refine stepF_id ?_); simp (maxSteps := 2000000) only [runF, stepF, forkOf, gdOf, List.toList_toArray, stepOp, look, opAV, pureOp, callOp, memOp, AS.ev, AS.get, AS.obj, initS, initFrom, AV.cells, AS.upd, Option.bind_some, Option.bind_none, Option.map_some, Option.map_none, Option.getD_none, Option.getD_some, ↓reduceIte, Nat.reduceEqDiff, Nat.reduceAdd, Nat.reduceMul, Nat.reduceSub, List.nil_append, List.append_nil, List.cons_append, List.map_cons, List.map_nil, true_and, and_true, AS.fin, pick, dedup, List.mem_cons, List.not_mem_nil, or_false, false_or, List.size_toArray, List.length_cons, List.length_nil, loadAV, List.drop_zero, List.drop_succ_cons, List.take_zero, List.take_succ_cons, List.getElem?_cons_zero, List.getElem?_cons_succ, List.head?_cons, List.mapM_cons, List.mapM_nil, Option.bind_eq_bind, Option.pure_def, deeps3, deep3, deep2, deep1, deeps, deeps2, mixInts, AV.plain, mk, mkD, DCon.lift, DCon.runC, ren3, ren2, ren1, numb, List.zipIdx_nil, List.zipIdx_cons, List.all_nil, List.all_cons, Nat.reduceLeDiff, List.range, List.range.loop, Ty.sz, beq_self_eq_true, Bool.and_self, and_self, Ty.ofC, AO.isDead, Nat.reduceLT, if_true, Nat.zero_add, Nat.add_zero, ite_true, Nat.le_refl, Bool.false_eq_true, reduceCtorEq, if_false, ite_false, binAV, AO.ren, AV.isCell, fillAV, List.set_cons_zero, List.set_cons_succ, Ty.cells, Ty.flat, Ty.dflt, List.getD_cons_zero, List.getD_cons_succ, Int.reduceToNat, Int.reduceSub, Int.reduceAdd, Int.reduceMul, Int.reduceNeg, forall_eq_or_imp, forall_eq, gdL, id_eq, Nat.lt_irrefl, srcOf, List.replicate_succ, List.replicate_zero, dite_true, List.isEmpty_cons, Option.isSome_some, List.length_append, List.length_singleton, bne_self_eq_false, Bool.not_true, Bool.not_false, conF, asArgs, asArg, asTy, asI1, asB1, asS1, asL1, canons, canon, Fork.true_, Fork.false_, bne, Bool.not_not, List.length_map, pickO, AS.over, TI.bl, bne_iff_ne, AS.over2, without, keys, List.mem_singleton, memOp2, memOp3, absorb, abInt, abBool, abStr, abList, gones, Int.toNat_natCast, List.take_length, subE, List.nodup_cons, List.nodup_nil, not_false_eq_true, Nat.sub_self, conR, asG, asI, asBo, asStr, asIs, asBs, asE4, asI2, asI3, asLL, asLLL, Th_int, Th_Sint, Th_bool, Th_implCipher, Th_implGroup, Th_implSCipher, Th_implSPartial, Th_implSSPartial, Th_lawsCipher, Th_lawsGroup, Th_lawsSCipher, Th_lawsSPartial, Th_lawsSSPartial, Th_string, G_cpt, initW, wnum, rowsAO, ren2, ren1, List.map_cons, List.map_nil, hL])
    | ((with_reducible refine ens_step ?_ (fun hE => ?_)); · ((repeat' with_reducible apply And.intro) <;> first | with_reducible assumption | omega | exact True.intro | with_reducible rfl | (show ByteArray.size _ ≤ _; decide) | (simp; done) | (simp; omega) | rfl))
    | ((with_reducible refine And.intro ?_ ?_); · ((repeat' with_reducible apply And.intro) <;> first | with_reducible assumption | omega | exact True.intro | with_reducible rfl | (show ByteArray.size _ ≤ _; decide) | (simp; done) | (simp; omega) | rfl))
    | ((with_reducible refine Fork.intro (fun h' => ?_) (fun h' => ?_)) <;> (try simp only [Bool.not_eq_true', Bool.not_eq_false', bne] at h') <;> (replace hL := And.intro h' hL) <;> (try simp only [decide_eq_true_eq, decide_eq_false_iff_not, beq_iff_eq, beq_eq_false_iff_ne, ne_eq] at h') <;> (try (exfalso; omega)))
    | (with_reducible refine AWp.skipS ?_)
    | ((with_reducible refine AWp.condT rfl ?_))
    | ((with_reducible refine AWp.condF rfl ?_))
    | (with_reducible refine AWp.condB rfl ?_)
    | (with_reducible refine AWp.ret ?_)
    | (with_reducible refine seqQ_n ?_)
    | (with_reducible refine seqQ_ret ?_)
    | (with_reducible refine blkQ_ret ?_)
    | (with_reducible refine blkQ_n ?_)
    | (with_reducible refine seqQ_exit ?_)
    | (with_reducible refine blkQ_exit ?_)
    | (with_reducible refine blkQ_other (by decide) ?_)
    | (with_reducible refine AWp.block ?_)
    | (with_reducible refine AWp.exit ?_)
    | (with_reducible refine AWp.skip ?_)
    | (with_reducible refine AWp.seq ?_)
    | ((with_reducible refine EndsO_id ?_); exact ⟨by first | exact .inr rfl | exact .inl rfl, rfl, rfl, rfl⟩)) hR hob
def c_w_Compact : Con := Con.cpt 3
def sel_w_Compact : Nat := 0
theorem ok_w_Compact : c_w_Compact.ok Tryz.prog 40 := okCpt (ρ := ρCpt) lays_Cpt Tryz.zeroValue3 (enter_of Tryz.func40 (by kernel_rfl) (by kernel_rfl)) fun xs h => hand_cpt xs h
end Go.Proofs.YtgnnmifpfgpllaaGreat
