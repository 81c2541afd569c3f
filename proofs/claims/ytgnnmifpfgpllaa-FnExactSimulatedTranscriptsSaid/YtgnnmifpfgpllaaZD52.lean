import Derived.Test.YtgnnmifpfgpllaaZD51
import Derived.Test.YtgnnmifpfgpllaaZAP
/- A transcript put into a list of the caller's. -/
set_option linter.all false
set_option linter.unusedVariables false
set_option linter.unusedSimpArgs false
namespace Go.Proofs.Ytgnnmifpfgpllaa
open Go.RowKit
/-- the row behind: the places from k on moved up by one -/
def shT (t : (Int × Int × Int)) (xs : List (Int × Int × Int)) (k : Nat) : List (Int × Int × Int) := (xs ++ [t]).take (k + 1) ++ xs.drop k
section
variable {t : (Int × Int × Int)} {xs : List (Int × Int × Int)} {k : Nat}
theorem shT_n : shT t xs xs.length = xs ++ [t] := by rw [shT, List.drop_length, List.append_nil, List.take_of_length_le (by simp)]
theorem shT_len (h : k ≤ xs.length) : (shT t xs k).length = xs.length + 1 := by simp [shT]; omega
theorem shT_at (h0 : 0 < k) (h : k ≤ xs.length) : (shT t xs k).getD (k - 1) (0, 0, 0) = xs.getD (k - 1) (0, 0, 0) := by
  have h1 : k - 1 < xs.length := by omega
  unfold shT
  rw [List.getD_eq_getElem?_getD, List.getD_eq_getElem?_getD, List.getElem?_append_left (by simp; omega), List.getElem?_take_of_lt (by omega), List.getElem?_append_left h1]
theorem shT_cut (h : k ≤ xs.length) : (xs ++ [t]).take (k + 1) = xs.take k ++ [(xs ++ [t]).getD k (0, 0, 0)] := by
  have h1 : k < (xs ++ [t]).length := by simp; omega
  rw [take_at (0, 0, 0) h1, List.take_append_of_le_length h]
theorem shT_set (h : k ≤ xs.length) (v : (Int × Int × Int)) : (shT t xs k).set k v = xs.take k ++ v :: xs.drop k := by
  unfold shT
  rw [shT_cut h, List.append_assoc, List.set_append, if_neg (by rw [List.length_take]; omega), List.length_take, Nat.min_eq_left h, Nat.sub_self]
  rfl
theorem ins_y (h0 : 0 < k) (h : k ≤ xs.length) (h1 : lexL t ((shT t xs k).getD (k - 1) (0, 0, 0)) = true) (h2 : insT t xs = insT t (xs.take k) ++ xs.drop k) : insT t xs = insT t (xs.take (k - 1)) ++ xs.drop (k - 1) := by
  rw [shT_at h0 h] at h1
  obtain ⟨m, rfl⟩ : ∃ m, k = m + 1 := ⟨k - 1, by omega⟩
  have hm : m < xs.length := by omega
  simp only [Nat.add_sub_cancel] at *
  rw [h2, take_at (0, 0, 0) hm, insT_y h1, drop_at (0, 0, 0) hm, List.append_assoc]; rfl
theorem ins_s (h0 : 0 < k) (h : k ≤ xs.length) : (shT t xs k).set k ((shT t xs k).getD (k - 1) (0, 0, 0)) = shT t xs (k - 1) := by
  rw [shT_at h0 h, shT_set h]
  obtain ⟨m, rfl⟩ : ∃ m, k = m + 1 := ⟨k - 1, by omega⟩
  have hm : m < xs.length := by omega
  simp only [Nat.add_sub_cancel]
  unfold shT
  rw [drop_at (0, 0, 0) hm, List.take_append_of_le_length (by omega)]
theorem ins_n (h0 : 0 < k) (h : k ≤ xs.length) (h1 : lexL t ((shT t xs k).getD (k - 1) (0, 0, 0)) = false) (h2 : insT t xs = insT t (xs.take k) ++ xs.drop k) : (shT t xs k).set k t = insT t xs := by
  rw [shT_at h0 h] at h1
  rw [shT_set h]
  obtain ⟨m, rfl⟩ : ∃ m, k = m + 1 := ⟨k - 1, by omega⟩
  have hm : m < xs.length := by omega
  simp only [Nat.add_sub_cancel] at *
  rw [h2, take_at (0, 0, 0) hm, insT_n h1]; simp
theorem ins_z (h0 : k = 0) (h2 : insT t xs = insT t (xs.take k) ++ xs.drop k) : (shT t xs k).set k t = insT t xs := by
  subst h0
  rw [shT_set (by omega), h2]; rfl
theorem ins_0 : insT t xs = insT t (xs.take xs.length) ++ xs.drop xs.length := by simp
end
theorem subN {k : Nat} (h : 0 < k) : ((k : Int) - 1).toNat = k - 1 := by omega
noncomputable def G_xPut : List (FuncId × Con) := [(95, mk c_xBefore)]
theorem G_xPut_ok : ∀ f C, (f, C) ∈ G_xPut → C.ok Try.prog f := by
  intro f C h
  simp only [G_xPut, List.mem_cons, Prod.mk.injEq, List.not_mem_nil, or_false] at h
  obtain ⟨rfl, rfl⟩ := h
  exact ok_xBefore
def c_w_xPut : Con := Con.putT 88
def sel_w_xPut : Nat := 0
set_option maxRecDepth 100000 in
set_option maxHeartbeats 4000000 in
theorem ok_w_xPut : c_w_xPut.ok Try.prog 68 := okPutT (enter_of Try.func68 (by kernel_rfl) (by kernel_rfl)) fun a b c xs hC {_ _ _ _ _ _ _} hR {_ _} hob hd {_} hvs => okTake (Θ := Th) (N := 38) (rs := [.tmp 4]) Th_ok Try.func68 (by kernel_rfl) rfl Try.results68 (by decide) (t := (.pair .int (.pair .int .int))) (xs := xs) (ys := insT (a, b, c) xs) (rest := [.agg [.lit (.int .i64 a), .lit (.int .i64 b), .lit (.int .i64 c)]]) (Nat.le_of_ble_eq_true rfl) rfl (fun _ => rfl) (fun w0 pin hfr => by
  have hL := dmy_eq
  refine AWp.body rfl ?_
  repeat' first
    | ((with_reducible refine hK _ _ ?_); clear hK K)
    | ((with_reducible refine hK _ _ (by kernel_rfl) ?_); clear hK K)
    | ((with_reducible refine AWp.pS Th_ok G_xPut_ok [0, 1, 3, 4, 5, 22] (by decide) ?_); intro K hK)
    | ((with_reducible refine AWp.dS (by kernel_rfl) Th_ok G_xPut_ok [0, 1, 3, 4, 5, 22] ?_); intro K hK)
    | ((with_reducible refine AWp.pE Th_ok G_xPut_ok [0, 1, 3, 4, 5, 22] (by decide) ?_); intro K hK)
    | ((with_reducible refine AWp.dE (by kernel_rfl) Th_ok G_xPut_ok [0, 1, 3, 4, 5, 22] ?_); intro K hK)
    | ((first | with_reducible refine runF_id ?_ | with_reducible refine stepF_id ?_); simp (maxSteps := 2000000) only [runF, stepF, forkOf, gdOf, List.toList_toArray, stepOp, look, opAV, pureOp, callOp, memOp, AS.ev, AS.get, AS.obj, initS, initFrom, AV.cells, AS.upd, Option.bind_some, Option.bind_none, Option.map_some, Option.map_none, Option.getD_none, Option.getD_some, ↓reduceIte, Nat.reduceEqDiff, Nat.reduceAdd, Nat.reduceMul, Nat.reduceSub, List.nil_append, List.append_nil, List.cons_append, List.map_cons, List.map_nil, true_and, and_true, AS.fin, pick, dedup, List.mem_cons, List.not_mem_nil, or_false, false_or, List.size_toArray, List.length_cons, List.length_nil, loadAV, List.drop_zero, List.drop_succ_cons, List.take_zero, List.take_succ_cons, List.getElem?_cons_zero, List.getElem?_cons_succ, List.head?_cons, List.mapM_cons, List.mapM_nil, Option.bind_eq_bind, Option.pure_def, deeps3, deep3, deep2, deep1, deeps, deeps2, mixInts, AV.plain, mk, mkD, DCon.lift, DCon.runC, ren3, ren2, ren1, numb, List.zipIdx_nil, List.zipIdx_cons, List.all_nil, List.all_cons, Nat.reduceLeDiff, List.range, List.range.loop, Ty.sz, beq_self_eq_true, Bool.and_self, and_self, Ty.ofC, AO.isDead, Nat.reduceLT, if_true, Nat.zero_add, Nat.add_zero, ite_true, Nat.le_refl, Bool.false_eq_true, reduceCtorEq, if_false, ite_false, binAV, AO.ren, AV.isCell, fillAV, List.set_cons_zero, List.set_cons_succ, Ty.cells, Ty.flat, Ty.dflt, List.getD_cons_zero, List.getD_cons_succ, Int.reduceToNat, Int.reduceSub, Int.reduceAdd, Int.reduceMul, Int.reduceNeg, forall_eq_or_imp, forall_eq, gdL, id_eq, Nat.lt_irrefl, srcOf, List.replicate_succ, List.replicate_zero, dite_true, List.isEmpty_cons, Option.isSome_some, List.length_append, List.length_singleton, bne_self_eq_false, Bool.not_true, Bool.not_false, conF, asArgs, asArg, asTy, asI1, asB1, asS1, asL1, canons, canon, Fork.true_, Fork.false_, bne, Bool.not_not, List.length_map, pickO, AS.over, TI.bl, bne_iff_ne, AS.over2, without, keys, List.mem_singleton, memOp2, memOp3, absorb, abInt, abBool, abStr, abList, gones, Int.toNat_natCast, List.take_length, subE, List.nodup_cons, List.nodup_nil, not_false_eq_true, Nat.sub_self, conR, asG, asI, asBo, asStr, asIs, asBs, asE4, asI2, asI3, asLL, asLLL, Th_int, Th_Sint, Th_implBases, Th_implGroup, Th_implSTranscript, Th_implTranscript, Th_lawsBases, Th_lawsGroup, Th_lawsRangeProof, Th_lawsSProof, Th_string, G_xPut, c_xBefore, initW, wnum, rowsAO, ren2, ren1, List.map_cons, List.map_nil, hL])
    | ((with_reducible refine ens_step ?_ (fun hE => ?_)); · ((repeat' with_reducible apply And.intro) <;> first | with_reducible assumption | omega | exact True.intro | with_reducible rfl | (show ByteArray.size _ ≤ _; decide) | (simp; done) | (simp; omega) | rfl))
    | ((with_reducible refine And.intro ?_ ?_); · ((repeat' with_reducible apply And.intro) <;> first | with_reducible assumption | omega | exact True.intro | with_reducible rfl | (show ByteArray.size _ ≤ _; decide) | (simp; done) | (simp; omega) | rfl))
    | ((with_reducible refine Fork.intro (fun h' => ?_) (fun h' => ?_)) <;> (try simp only [Bool.not_eq_true', Bool.not_eq_false', bne] at h') <;> (replace hL := And.intro h' hL) <;> (try simp only [decide_eq_true_eq, decide_eq_false_iff_not, beq_iff_eq, beq_eq_false_iff_ne, ne_eq] at h') <;> (try (have hk0 : 0 < k := (by omega); have hsn := subN hk0; replace hL := And.intro hsn hL)) <;> (try (have hin := ins_z (t := (a, b, c)) (xs := xs) (k := k) (by omega) hz2)) <;> (try (have hiy := ins_y (t := (a, b, c)) (xs := xs) (k := k) (by omega) hz1 h' hz2; have his := ins_s (t := (a, b, c)) (xs := xs) (k := k) (by omega) hz1)) <;> (try (have hin := ins_n (t := (a, b, c)) (xs := xs) (k := k) (by omega) hz1 h' hz2)))
    | (with_reducible refine AWp.skipS ?_)
    | ((with_reducible refine AWp.condT rfl ?_))
    | ((with_reducible refine AWp.condF rfl ?_))
    | (with_reducible refine AWp.condB rfl ?_)
    | (with_reducible refine AWp.ret ?_)
    | (with_reducible refine seqQ_n ?_)
    | (with_reducible refine seqQ_ret ?_)
    | (with_reducible refine blkQ_ret ?_)
    | (with_reducible refine blkQ_n ?_)
    | (with_reducible refine seqQ_exit ?_)
    | (with_reducible refine blkQ_exit ?_)
    | (with_reducible refine blkQ_other (by decide) ?_)
    | (with_reducible refine AWp.block ?_)
    | (with_reducible refine AWp.exit ?_)
    | (with_reducible refine AWp.skip ?_)
    | ((with_reducible refine loop_id ?_); refine AWp.loopAt 3 rfl ?_; refine AWp.loopO [5, 12, 13, 14, 15, 16, 17, 18, 19, 20, 21, 22, 23, 24, 25, 26, 27, 28, 29, 30, 31, 32] (fun k => [(5, .lit (.int .i64 (k : Nat)))]) (fun k => [(1000001, .row 88 (.pair .int (.pair .int .int)) (shT (a, b, c) xs k))]) (fun k => k ≤ xs.length ∧ insT (a, b, c) xs = insT (a, b, c) (xs.take k) ++ xs.drop k) (fun k => k) xs.length (by exact ⟨by omega, ins_0⟩) (by refine Sub.auto (by first | exact frok0 | assumption) rfl rfl ?_ ?_ <;> (try simp only [subE, AS.over2, without, keys, look, List.cons_append, List.nil_append, List.append_nil, List.mem_cons, List.not_mem_nil, or_false, or_true, true_or, false_or, Nat.reduceEqDiff, ↓reduceIte, Option.some.injEq, AV.lit.injEq, Value.int.injEq, Value.bool.injEq, AV.own.injEq, AO.row.injEq, AO.box.injEq, List.cons.injEq, AV.agg.injEq, AV.sl.injEq, true_and, and_true, and_self, heq_eq_eq, List.length_nil, List.length_cons, List.map_nil, List.take_zero, Int.natCast_add, Int.cast_ofNat_Int, Int.natCast_zero, List.length_append, List.length_map, List.length_take, Nat.zero_add]) <;> ((repeat' apply And.intro) <;> first | rfl | omega | exact shT_n.symm | (simp [shT_n]; done))) (fun k hk_3 L3 hLoop3 => ?_); obtain ⟨hz1, hz2⟩ := hk_3; have hsl := shT_len (t := (a, b, c)) (xs := xs) (k := k) hz1)
    | ((with_reducible refine seqQ_f ?_); refine hLoop3 (k - 1) _ (by exact ⟨by omega, hiy⟩) (by omega) ?_; (refine Sub.auto (by first | exact frok0 | assumption) rfl rfl ?_ ?_ <;> (try simp only [subE, AS.over2, without, keys, look, List.cons_append, List.nil_append, List.append_nil, List.mem_cons, List.not_mem_nil, or_false, or_true, true_or, false_or, Nat.reduceEqDiff, ↓reduceIte, Option.some.injEq, AV.lit.injEq, Value.int.injEq, Value.bool.injEq, AV.own.injEq, AO.row.injEq, AO.box.injEq, List.cons.injEq, AV.agg.injEq, AV.sl.injEq, true_and, and_true, and_self, heq_eq_eq, List.length_nil, List.length_cons, List.map_nil, List.take_zero, Int.natCast_add, Int.cast_ofNat_Int, Int.natCast_zero, List.length_append, List.length_map, List.length_take, Nat.zero_add]) <;> ((repeat' apply And.intro) <;> first | rfl | omega | exact his | exact his.symm | (simp; done))))
    | (with_reducible refine AWp.seq ?_)
    | ((with_reducible refine EndsK_id ?_); refine ⟨by first | exact .inr rfl | exact .inl rfl, 1000001, by rw [insT_len]; rfl, ?_, rfl⟩; first | exact congrArg (AO.row 88 (.pair .int (.pair .int .int))) hin | skip)) hR hob hd hvs
end Go.Proofs.Ytgnnmifpfgpllaa
