import Derived.Test.YtlggpehioflbdaaZB7
import Derived.Test.YtlggpehioflbdaaZD2
/- Rows of bases. -/
set_option linter.all false
set_option linter.unusedVariables false
set_option linter.unusedSimpArgs false
namespace Go.Proofs.Ytlggpehioflbdaa
open Go.RowKit
def idxF {α : Type} (p : α → Bool) : List α → Nat → Int
  | [], _ => -1
  | x :: l, n => if p x = true then n else idxF p l (n + 1)
theorem ixf_hit {α : Type} {p : α → Bool} {xs : List α} {d : α} {k : Nat} (hk : k < xs.length) (h : p (xs.getD k d) = true) : idxF p (xs.drop k) k = k := by
  rw [List.drop_eq_getElem_cons hk]
  have e : xs.getD k d = xs[k] := by rw [List.getD_eq_getElem?_getD, List.getElem?_eq_getElem hk]; rfl
  rw [e] at h
  simp [idxF, h]
theorem ixf_next {α : Type} {p : α → Bool} {xs : List α} {d : α} {k : Nat} (hk : k < xs.length) (h : p (xs.getD k d) = false) : idxF p (xs.drop k) k = idxF p (xs.drop (k + 1)) (k + 1) := by
  rw [List.drop_eq_getElem_cons hk]
  have e : xs.getD k d = xs[k] := by rw [List.getD_eq_getElem?_getD, List.getElem?_eq_getElem hk]; rfl
  rw [e] at h
  simp [idxF, h]
theorem ixf_end {α : Type} {p : α → Bool} {xs : List α} : idxF p (xs.drop xs.length) xs.length = -1 := by simp [idxF]
theorem ixf_iff {α : Type} (p : α → Bool) : ∀ (xs : List α) (n : Nat), 0 ≤ idxF p xs n ↔ xs.any p = true
  | [], n => by simp [idxF]
  | x :: l, n => by
    have ih := ixf_iff p l (n + 1)
    simp only [idxF, List.any_cons, Bool.or_eq_true]
    split
    · rename_i h; exact ⟨fun _ => .inl h, fun _ => by omega⟩
    · rename_i h; exact ⟨fun hh => .inr (ih.1 hh), fun hh => by rcases hh with hh | hh; exact absurd hh h; exact ih.2 hh⟩
theorem ixf_any {α : Type} (p : α → Bool) (xs : List α) (n : Nat) : decide (0 ≤ idxF p xs n) = xs.any p := by
  rw [Bool.eq_iff_iff, decide_eq_true_iff]; exact ixf_iff p xs n
/-- what a row of bases must not be -/
noncomputable def badRow (p q : Int) (bases : List (List Int)) (row : List Int) : Bool := !((row.length : Int) == (bases.getD 0 []).length) || !elemsB p q row
noncomputable def rowsB (p q : Int) (bases : List (List Int)) : Bool := inr bases.length 1 8 && inr (bases.getD 0 []).length 1 8 && !(bases.any (badRow p q bases))
def m_badRowP : List AV → Option (List Int × List (List Int) × Int × Int × Int)
  | [.sl .int row, .rp [.sl (.list .int) bases], .rp [.lit (.int .i64 p), .lit (.int .i64 q), .lit (.int .i64 g)]] => some (row, bases, p, q, g)
  | _ => none
noncomputable def c_badRowP : Con0 := conR m_badRowP fun ((row, bases, p, q, g) : List Int × List (List Int) × Int × Int × Int) => (M.Grp p q g ∧ 0 < bases.length, .lit (.bool (badRow p q bases row)), [])
noncomputable def G_badRowP : List (FuncId × Con) := [(197, mk c_hasAll)]
theorem G_badRowP_ok : ∀ f C, (f, C) ∈ G_badRowP → C.ok Try.prog f := by
  intro f C h
  simp only [G_badRowP, List.mem_cons, Prod.mk.injEq, List.not_mem_nil, or_false] at h
  obtain ⟨rfl, rfl⟩ := h
  exact ok_hasAll
set_option maxRecDepth 100000 in
set_option maxHeartbeats 4000000 in
theorem ok_badRowP : (mk c_badRowP).ok Try.prog 212 := okR (Θ := Th) (N := 18) (rs := [.tmp 4]) Th_ok Try.func212 (by kernel_rfl) rfl Try.results212 (by decide) (by kernel_rfl) (fun ((row, bases, p, q, g) : List Int × List (List Int) × Int × Int × Int) => [.sl .int row, .rp [.sl (.list .int) bases], .rp [.lit (.int .i64 p), .lit (.int .i64 q), .lit (.int .i64 g)]]) (fun args d h => by unfold m_badRowP at h; split at h <;> cases h; rfl) fun ((row, bases, p, q, g) : List Int × List (List Int) × Int × Int × Int) => ⟨rfl, rfl, Nat.le_of_ble_eq_true rfl, fun hc w0 => by
  have hL := dmy_eq
  try dsimp only at hc
  try dsimp only
  obtain ⟨hG, hbl⟩ := hc
  refine AWp.body rfl ?_
  repeat' first
    | ((with_reducible refine hK _ _ ?_); clear hK K)
    | ((with_reducible refine hK _ _ (by kernel_rfl) ?_); clear hK K)
    | ((with_reducible refine AWp.pS Th_ok G_badRowP_ok [0, 1, 2, 4] (by decide) ?_); intro K hK)
    | ((with_reducible refine AWp.dS (by kernel_rfl) Th_ok G_badRowP_ok [0, 1, 2, 4] ?_); intro K hK)
    | ((with_reducible refine AWp.pE Th_ok G_badRowP_ok [0, 1, 2, 4] (by decide) ?_); intro K hK)
    | ((with_reducible refine AWp.dE (by kernel_rfl) Th_ok G_badRowP_ok [0, 1, 2, 4] ?_); intro K hK)
    | ((first | with_reducible refine runF_id ?_ | with_reducible refine stepF_id ?_); simp (maxSteps := 2000000) only [runF, stepF, forkOf, gdOf, List.toList_toArray, stepOp, look, opAV, pureOp, callOp, memOp, AS.ev, AS.get, AS.obj, initS, initFrom, AV.cells, AS.upd, Option.bind_some, Option.bind_none, Option.map_some, Option.map_none, Option.getD_none, Option.getD_some, ↓reduceIte, Nat.reduceEqDiff, Nat.reduceAdd, Nat.reduceMul, Nat.reduceSub, List.nil_append, List.append_nil, List.cons_append, List.map_cons, List.map_nil, true_and, and_true, AS.fin, pick, dedup, List.mem_cons, List.not_mem_nil, or_false, false_or, List.size_toArray, List.length_cons, List.length_nil, loadAV, List.drop_zero, List.drop_succ_cons, List.take_zero, List.take_succ_cons, List.getElem?_cons_zero, List.getElem?_cons_succ, List.head?_cons, List.mapM_cons, List.mapM_nil, Option.bind_eq_bind, Option.pure_def, deeps3, deep3, deep2, deep1, deeps, deeps2, mixInts, AV.plain, mk, mkD, DCon.lift, DCon.runC, ren3, ren2, ren1, numb, List.zipIdx_nil, List.zipIdx_cons, List.all_nil, List.all_cons, Nat.reduceLeDiff, List.range, List.range.loop, Ty.sz, beq_self_eq_true, Bool.and_self, and_self, Ty.ofC, AO.isDead, Nat.reduceLT, if_true, Nat.zero_add, Nat.add_zero, ite_true, Nat.le_refl, Bool.false_eq_true, reduceCtorEq, if_false, ite_false, binAV, AO.ren, AV.isCell, fillAV, List.set_cons_zero, List.set_cons_succ, Ty.cells, Ty.flat, Ty.dflt, List.getD_cons_zero, List.getD_cons_succ, Int.reduceToNat, Int.reduceSub, Int.reduceAdd, Int.reduceMul, Int.reduceNeg, forall_eq_or_imp, forall_eq, gdL, id_eq, Nat.lt_irrefl, srcOf, List.replicate_succ, List.replicate_zero, dite_true, List.isEmpty_cons, Option.isSome_some, List.length_append, List.length_singleton, bne_self_eq_false, Bool.not_true, Bool.not_false, conF, asArgs, asArg, asTy, asI1, asB1, asS1, asL1, canons, canon, Fork.true_, Fork.false_, bne, Bool.not_not, List.length_map, pickO, AS.over, TI.bl, bne_iff_ne, AS.over2, without, keys, List.mem_singleton, memOp2, memOp3, absorb, abInt, abBool, abStr, abList, gones, Int.toNat_natCast, List.take_length, subE, List.nodup_cons, List.nodup_nil, not_false_eq_true, Nat.sub_self, conR, asG, asI, asBo, asStr, asIs, asBs, asE4, asI2, asI3, asLL, asLLL, Th_int, Th_bool, Th_string, Th_Sint, Th_SSint, Th_implGroup, G_badRowP, c_hasAll, hL])
    | ((with_reducible refine ens_step ?_ (fun hE => ?_)); · ((repeat' with_reducible apply And.intro) <;> first | with_reducible assumption | omega | exact True.intro | with_reducible rfl | (show ByteArray.size _ ≤ _; decide) | (simp; done) | (simp; omega) | rfl))
    | ((with_reducible refine And.intro ?_ ?_); · ((repeat' with_reducible apply And.intro) <;> first | with_reducible assumption | omega | exact True.intro | with_reducible rfl | (show ByteArray.size _ ≤ _; decide) | (simp; done) | (simp; omega) | rfl))
    | ((with_reducible refine Fork.intro (fun h' => ?_) (fun h' => ?_)) <;> (try simp only [Bool.not_eq_true', Bool.not_eq_false', bne] at h') <;> (replace hL := And.intro h' hL) <;> (try simp only [decide_eq_true_eq, decide_eq_false_iff_not, beq_iff_eq, beq_eq_false_iff_ne, ne_eq] at h'))
    | (with_reducible refine AWp.skipS ?_)
    | ((with_reducible refine AWp.condT rfl ?_))
    | ((with_reducible refine AWp.condF rfl ?_))
    | (with_reducible refine AWp.condB rfl ?_)
    | (with_reducible refine AWp.ret ?_)
    | (with_reducible refine seqQ_n ?_)
    | (with_reducible refine seqQ_ret ?_)
    | (with_reducible refine blkQ_ret ?_)
    | (with_reducible refine blkQ_n ?_)
    | (with_reducible refine seqQ_exit ?_)
    | (with_reducible refine blkQ_exit ?_)
    | (with_reducible refine blkQ_other (by decide) ?_)
    | (with_reducible refine AWp.block ?_)
    | (with_reducible refine AWp.exit ?_)
    | (with_reducible refine AWp.skip ?_)
    | ((with_reducible refine EndsAt_id ?_); (try subst_vars); (try simp only [badRow, hL, List.length_cons, List.length_nil, Nat.zero_add, Nat.reduceAdd, Bool.and_true, Bool.and_false, Bool.true_and, Bool.false_and, Bool.and_self, ↓reduceIte, Bool.false_eq_true, Bool.not_true, Bool.not_false, bne]); refine EndsAt.done [] (by first | exact .inr rfl | exact .inl rfl) rfl rfl ?_ ?_ <;> first | decide | (repeat' (first | rfl | apply And.intro | trivial)))
    | (with_reducible refine AWp.seq ?_)⟩
def m_anyRowI : List AV → Option (List (List Int) × List (List Int) × Int × Int × Int)
  | [.sl (.list .int) xs, .fn (.func 212) [.rp [.sl (.list .int) bases], .rp [.lit (.int .i64 p), .lit (.int .i64 q), .lit (.int .i64 g)]]] => some (xs, bases, p, q, g)
  | _ => none
noncomputable def c_anyRowI : Con0 := conR m_anyRowI fun ((xs, bases, p, q, g) : List (List Int) × List (List Int) × Int × Int × Int) => (xs.length ≤ 9223372036854775806 ∧ (M.Grp p q g ∧ 0 < bases.length), .lit (.int .i64 (idxF (badRow p q bases) xs 0)), [])
noncomputable def G_anyRowI : List (FuncId × Con) := [(212, mk c_badRowP)]
theorem G_anyRowI_ok : ∀ f C, (f, C) ∈ G_anyRowI → C.ok Try.prog f := by
  intro f C h
  simp only [G_anyRowI, List.mem_cons, Prod.mk.injEq, List.not_mem_nil, or_false] at h
  obtain ⟨rfl, rfl⟩ := h
  exact ok_badRowP
set_option maxRecDepth 100000 in
set_option maxHeartbeats 4000000 in
theorem ok_anyRowI : (mk c_anyRowI).ok Try.prog 183 := okR (Θ := Th) (N := 19) (rs := [.tmp 4]) Th_ok Try.func183 (by kernel_rfl) rfl Try.results183 (by decide) (by kernel_rfl) (fun ((xs, bases, p, q, g) : List (List Int) × List (List Int) × Int × Int × Int) => [.sl (.list .int) xs, .fn (.func 212) [.rp [.sl (.list .int) bases], .rp [.lit (.int .i64 p), .lit (.int .i64 q), .lit (.int .i64 g)]]]) (fun args d h => by unfold m_anyRowI at h; split at h <;> cases h; rfl) fun ((xs, bases, p, q, g) : List (List Int) × List (List Int) × Int × Int × Int) => ⟨rfl, rfl, Nat.le_of_ble_eq_true rfl, fun hc w0 => by
  have hL := dmy_eq
  try dsimp only at hc
  try dsimp only
  obtain ⟨hxl, hcc⟩ := hc
  obtain ⟨hG, hbl⟩ := hcc
  refine AWp.body rfl ?_
  repeat' first
    | ((with_reducible refine hK _ _ ?_); clear hK K)
    | ((with_reducible refine hK _ _ (by kernel_rfl) ?_); clear hK K)
    | ((with_reducible refine AWp.pS Th_ok G_anyRowI_ok [0, 1, 4, 5, 7, 8, 9, 16] (by decide) ?_); intro K hK)
    | ((with_reducible refine AWp.dS (by kernel_rfl) Th_ok G_anyRowI_ok [0, 1, 4, 5, 7, 8, 9, 16] ?_); intro K hK)
    | ((with_reducible refine AWp.pE Th_ok G_anyRowI_ok [0, 1, 4, 5, 7, 8, 9, 16] (by decide) ?_); intro K hK)
    | ((with_reducible refine AWp.dE (by kernel_rfl) Th_ok G_anyRowI_ok [0, 1, 4, 5, 7, 8, 9, 16] ?_); intro K hK)
    | ((first | with_reducible refine runF_id ?_ | with_reducible refine stepF_id ?_); simp (maxSteps := 2000000) only [runF, stepF, forkOf, gdOf, List.toList_toArray, stepOp, look, opAV, pureOp, callOp, memOp, AS.ev, AS.get, AS.obj, initS, initFrom, AV.cells, AS.upd, Option.bind_some, Option.bind_none, Option.map_some, Option.map_none, Option.getD_none, Option.getD_some, ↓reduceIte, Nat.reduceEqDiff, Nat.reduceAdd, Nat.reduceMul, Nat.reduceSub, List.nil_append, List.append_nil, List.cons_append, List.map_cons, List.map_nil, true_and, and_true, AS.fin, pick, dedup, List.mem_cons, List.not_mem_nil, or_false, false_or, List.size_toArray, List.length_cons, List.length_nil, loadAV, List.drop_zero, List.drop_succ_cons, List.take_zero, List.take_succ_cons, List.getElem?_cons_zero, List.getElem?_cons_succ, List.head?_cons, List.mapM_cons, List.mapM_nil, Option.bind_eq_bind, Option.pure_def, deeps3, deep3, deep2, deep1, deeps, deeps2, mixInts, AV.plain, mk, mkD, DCon.lift, DCon.runC, ren3, ren2, ren1, numb, List.zipIdx_nil, List.zipIdx_cons, List.all_nil, List.all_cons, Nat.reduceLeDiff, List.range, List.range.loop, Ty.sz, beq_self_eq_true, Bool.and_self, and_self, Ty.ofC, AO.isDead, Nat.reduceLT, if_true, Nat.zero_add, Nat.add_zero, ite_true, Nat.le_refl, Bool.false_eq_true, reduceCtorEq, if_false, ite_false, binAV, AO.ren, AV.isCell, fillAV, List.set_cons_zero, List.set_cons_succ, Ty.cells, Ty.flat, Ty.dflt, List.getD_cons_zero, List.getD_cons_succ, Int.reduceToNat, Int.reduceSub, Int.reduceAdd, Int.reduceMul, Int.reduceNeg, forall_eq_or_imp, forall_eq, gdL, id_eq, Nat.lt_irrefl, srcOf, List.replicate_succ, List.replicate_zero, dite_true, List.isEmpty_cons, Option.isSome_some, List.length_append, List.length_singleton, bne_self_eq_false, Bool.not_true, Bool.not_false, conF, asArgs, asArg, asTy, asI1, asB1, asS1, asL1, canons, canon, Fork.true_, Fork.false_, bne, Bool.not_not, List.length_map, pickO, AS.over, TI.bl, bne_iff_ne, AS.over2, without, keys, List.mem_singleton, memOp2, memOp3, absorb, abInt, abBool, abStr, abList, gones, Int.toNat_natCast, List.take_length, subE, List.nodup_cons, List.nodup_nil, not_false_eq_true, Nat.sub_self, conR, asG, asI, asBo, asStr, asIs, asBs, asE4, asI2, asI3, asLL, asLLL, Th_int, Th_bool, Th_string, Th_Sint, Th_SSint, Th_implGroup, G_anyRowI, c_badRowP, m_badRowP, hL])
    | ((with_reducible refine ens_step ?_ (fun hE => ?_)); · ((repeat' with_reducible apply And.intro) <;> first | with_reducible assumption | omega | exact True.intro | with_reducible rfl | (show ByteArray.size _ ≤ _; decide) | (simp; done) | (simp; omega) | rfl))
    | ((with_reducible refine And.intro ?_ ?_); · ((repeat' with_reducible apply And.intro) <;> first | with_reducible assumption | omega | exact True.intro | with_reducible rfl | (show ByteArray.size _ ≤ _; decide) | (simp; done) | (simp; omega) | rfl))
    | ((with_reducible refine Fork.intro (fun h' => ?_) (fun h' => ?_)) <;> (try simp only [Bool.not_eq_true', Bool.not_eq_false', bne] at h') <;> (replace hL := And.intro h' hL) <;> (try simp only [decide_eq_true_eq, decide_eq_false_iff_not, beq_iff_eq, beq_eq_false_iff_ne, ne_eq] at h') <;> (try (have hnx := ixf_next (p := badRow p q bases) (d := []) (xs := xs) (k := k) (by omega) h'; rw [hnx] at hk2)) <;> (try (have hke : k = xs.length := (by omega); subst hke)))
    | (with_reducible refine AWp.skipS ?_)
    | ((with_reducible refine AWp.condT rfl ?_))
    | ((with_reducible refine AWp.condF rfl ?_))
    | (with_reducible refine AWp.condB rfl ?_)
    | (with_reducible refine AWp.ret ?_)
    | (with_reducible refine seqQ_n ?_)
    | (with_reducible refine seqQ_ret ?_)
    | (with_reducible refine blkQ_ret ?_)
    | (with_reducible refine blkQ_n ?_)
    | (with_reducible refine seqQ_exit ?_)
    | (with_reducible refine blkQ_exit ?_)
    | (with_reducible refine blkQ_other (by decide) ?_)
    | (with_reducible refine AWp.block ?_)
    | (with_reducible refine AWp.exit ?_)
    | (with_reducible refine AWp.skip ?_)
    | ((with_reducible refine loop_id ?_); refine AWp.loopAt 2 rfl ?_; refine AWp.loopO [4, 5, 8, 9, 10, 11, 12, 13, 14, 15, 16, 17, 18] (fun k => [(8, .lit (.int .i64 (k : Nat)))]) (fun k => []) (fun k => k ≤ xs.length ∧ idxF (badRow p q bases) xs 0 = idxF (badRow p q bases) (xs.drop k) k) (fun k => xs.length - k) 0 (by exact ⟨by omega, by simp⟩) (by refine Sub.auto (by first | exact frok0 | assumption) rfl rfl ?_ ?_ <;> (try simp only [subE, AS.over2, without, keys, look, List.cons_append, List.nil_append, List.append_nil, List.mem_cons, List.not_mem_nil, or_false, or_true, true_or, false_or, Nat.reduceEqDiff, ↓reduceIte, Option.some.injEq, AV.lit.injEq, Value.int.injEq, Value.bool.injEq, AV.own.injEq, AO.row.injEq, AO.box.injEq, List.cons.injEq, AV.agg.injEq, AV.sl.injEq, true_and, and_true, and_self, heq_eq_eq, List.length_nil, List.length_cons, List.map_nil, List.take_zero, Int.natCast_add, Int.cast_ofNat_Int, Int.natCast_zero, List.length_append, List.length_map, List.length_take, Nat.zero_add]) <;> (simp)) (fun k hk_2 L2 hLoop2 => ?_); obtain ⟨hk1, hk2⟩ := hk_2)
    | ((with_reducible refine seqQ_f ?_); refine hLoop2 (k + 1) _ (by exact ⟨by omega, hk2⟩) (by omega) ?_; (refine Sub.auto (by first | exact frok0 | assumption) rfl rfl ?_ ?_ <;> (try simp only [subE, AS.over2, without, keys, look, List.cons_append, List.nil_append, List.append_nil, List.mem_cons, List.not_mem_nil, or_false, or_true, true_or, false_or, Nat.reduceEqDiff, ↓reduceIte, Option.some.injEq, AV.lit.injEq, Value.int.injEq, Value.bool.injEq, AV.own.injEq, AO.row.injEq, AO.box.injEq, List.cons.injEq, AV.agg.injEq, AV.sl.injEq, true_and, and_true, and_self, heq_eq_eq, List.length_nil, List.length_cons, List.map_nil, List.take_zero, Int.natCast_add, Int.cast_ofNat_Int, Int.natCast_zero, List.length_append, List.length_map, List.length_take, Nat.zero_add]) <;> (omega)))
    | ((with_reducible refine EndsAt_id ?_); (try subst_vars); first | (rw [hk2, ixf_hit (p := badRow p q bases) (d := []) (by omega) h']; refine EndsAt.done [] (by first | exact .inr rfl | exact .inl rfl) rfl rfl (by decide) trivial) | (rw [hk2, ixf_end]; refine EndsAt.done [] (by first | exact .inr rfl | exact .inl rfl) rfl rfl (by decide) trivial))
    | (with_reducible refine AWp.seq ?_)⟩
def m_anyRow : List AV → Option (List (List Int) × List (List Int) × Int × Int × Int)
  | [.sl (.list .int) xs, .fn (.func 212) [.rp [.sl (.list .int) bases], .rp [.lit (.int .i64 p), .lit (.int .i64 q), .lit (.int .i64 g)]]] => some (xs, bases, p, q, g)
  | _ => none
noncomputable def c_anyRow : Con0 := conR m_anyRow fun ((xs, bases, p, q, g) : List (List Int) × List (List Int) × Int × Int × Int) => (xs.length ≤ 9223372036854775806 ∧ (M.Grp p q g ∧ 0 < bases.length), .lit (.bool (xs.any (badRow p q bases))), [])
noncomputable def G_anyRow : List (FuncId × Con) := [(183, mk c_anyRowI)]
theorem G_anyRow_ok : ∀ f C, (f, C) ∈ G_anyRow → C.ok Try.prog f := by
  intro f C h
  simp only [G_anyRow, List.mem_cons, Prod.mk.injEq, List.not_mem_nil, or_false] at h
  obtain ⟨rfl, rfl⟩ := h
  exact ok_anyRowI
set_option maxRecDepth 100000 in
set_option maxHeartbeats 4000000 in
theorem ok_anyRow : (mk c_anyRow).ok Try.prog 143 := okR (Θ := Th) (N := 9) (rs := [.tmp 4]) Th_ok Try.func143 (by kernel_rfl) rfl Try.results143 (by decide) (by kernel_rfl) (fun ((xs, bases, p, q, g) : List (List Int) × List (List Int) × Int × Int × Int) => [.sl (.list .int) xs, .fn (.func 212) [.rp [.sl (.list .int) bases], .rp [.lit (.int .i64 p), .lit (.int .i64 q), .lit (.int .i64 g)]]]) (fun args d h => by unfold m_anyRow at h; split at h <;> cases h; rfl) fun ((xs, bases, p, q, g) : List (List Int) × List (List Int) × Int × Int × Int) => ⟨rfl, rfl, Nat.le_of_ble_eq_true rfl, fun hc w0 => by
  have hL := dmy_eq
  try dsimp only at hc
  try dsimp only
  obtain ⟨hxl, hcc⟩ := hc
  obtain ⟨hG, hbl⟩ := hcc
  refine AWp.body rfl ?_
  repeat' first
    | ((with_reducible refine hK _ _ ?_); clear hK K)
    | ((with_reducible refine hK _ _ (by kernel_rfl) ?_); clear hK K)
    | ((with_reducible refine AWp.pS Th_ok G_anyRow_ok [0, 1, 4] (by decide) ?_); intro K hK)
    | ((with_reducible refine AWp.dS (by kernel_rfl) Th_ok G_anyRow_ok [0, 1, 4] ?_); intro K hK)
    | ((with_reducible refine AWp.pE Th_ok G_anyRow_ok [0, 1, 4] (by decide) ?_); intro K hK)
    | ((with_reducible refine AWp.dE (by kernel_rfl) Th_ok G_anyRow_ok [0, 1, 4] ?_); intro K hK)
    | ((first | with_reducible refine runF_id ?_ | with_reducible refine stepF_id ?_); simp (maxSteps := 2000000) only [runF, stepF, forkOf, gdOf, List.toList_toArray, stepOp, look, opAV, pureOp, callOp, memOp, AS.ev, AS.get, AS.obj, initS, initFrom, AV.cells, AS.upd, Option.bind_some, Option.bind_none, Option.map_some, Option.map_none, Option.getD_none, Option.getD_some, ↓reduceIte, Nat.reduceEqDiff, Nat.reduceAdd, Nat.reduceMul, Nat.reduceSub, List.nil_append, List.append_nil, List.cons_append, List.map_cons, List.map_nil, true_and, and_true, AS.fin, pick, dedup, List.mem_cons, List.not_mem_nil, or_false, false_or, List.size_toArray, List.length_cons, List.length_nil, loadAV, List.drop_zero, List.drop_succ_cons, List.take_zero, List.take_succ_cons, List.getElem?_cons_zero, List.getElem?_cons_succ, List.head?_cons, List.mapM_cons, List.mapM_nil, Option.bind_eq_bind, Option.pure_def, deeps3, deep3, deep2, deep1, deeps, deeps2, mixInts, AV.plain, mk, mkD, DCon.lift, DCon.runC, ren3, ren2, ren1, numb, List.zipIdx_nil, List.zipIdx_cons, List.all_nil, List.all_cons, Nat.reduceLeDiff, List.range, List.range.loop, Ty.sz, beq_self_eq_true, Bool.and_self, and_self, Ty.ofC, AO.isDead, Nat.reduceLT, if_true, Nat.zero_add, Nat.add_zero, ite_true, Nat.le_refl, Bool.false_eq_true, reduceCtorEq, if_false, ite_false, binAV, AO.ren, AV.isCell, fillAV, List.set_cons_zero, List.set_cons_succ, Ty.cells, Ty.flat, Ty.dflt, List.getD_cons_zero, List.getD_cons_succ, Int.reduceToNat, Int.reduceSub, Int.reduceAdd, Int.reduceMul, Int.reduceNeg, forall_eq_or_imp, forall_eq, gdL, id_eq, Nat.lt_irrefl, srcOf, List.replicate_succ, List.replicate_zero, dite_true, List.isEmpty_cons, Option.isSome_some, List.length_append, List.length_singleton, bne_self_eq_false, Bool.not_true, Bool.not_false, conF, asArgs, asArg, asTy, asI1, asB1, asS1, asL1, canons, canon, Fork.true_, Fork.false_, bne, Bool.not_not, List.length_map, pickO, AS.over, TI.bl, bne_iff_ne, AS.over2, without, keys, List.mem_singleton, memOp2, memOp3, absorb, abInt, abBool, abStr, abList, gones, Int.toNat_natCast, List.take_length, subE, List.nodup_cons, List.nodup_nil, not_false_eq_true, Nat.sub_self, conR, asG, asI, asBo, asStr, asIs, asBs, asE4, asI2, asI3, asLL, asLLL, Th_int, Th_bool, Th_string, Th_Sint, Th_SSint, Th_implGroup, G_anyRow, c_anyRowI, m_anyRowI, hL])
    | ((with_reducible refine ens_step ?_ (fun hE => ?_)); · ((repeat' with_reducible apply And.intro) <;> first | with_reducible assumption | omega | exact True.intro | with_reducible rfl | (show ByteArray.size _ ≤ _; decide) | (simp; done) | (simp; omega) | rfl))
    | ((with_reducible refine And.intro ?_ ?_); · ((repeat' with_reducible apply And.intro) <;> first | with_reducible assumption | omega | exact True.intro | with_reducible rfl | (show ByteArray.size _ ≤ _; decide) | (simp; done) | (simp; omega) | rfl))
    | ((with_reducible refine Fork.intro (fun h' => ?_) (fun h' => ?_)) <;> (try simp only [Bool.not_eq_true', Bool.not_eq_false', bne] at h') <;> (replace hL := And.intro h' hL) <;> (try simp only [decide_eq_true_eq, decide_eq_false_iff_not, beq_iff_eq, beq_eq_false_iff_ne, ne_eq] at h'))
    | (with_reducible refine AWp.skipS ?_)
    | ((with_reducible refine AWp.condT rfl ?_))
    | ((with_reducible refine AWp.condF rfl ?_))
    | (with_reducible refine AWp.condB rfl ?_)
    | (with_reducible refine AWp.ret ?_)
    | (with_reducible refine seqQ_n ?_)
    | (with_reducible refine seqQ_ret ?_)
    | (with_reducible refine blkQ_ret ?_)
    | (with_reducible refine blkQ_n ?_)
    | (with_reducible refine seqQ_exit ?_)
    | (with_reducible refine blkQ_exit ?_)
    | (with_reducible refine blkQ_other (by decide) ?_)
    | (with_reducible refine AWp.block ?_)
    | (with_reducible refine AWp.exit ?_)
    | (with_reducible refine AWp.skip ?_)
    | ((with_reducible refine EndsAt_id ?_); (try subst_vars); rw [← ixf_any _ xs 0]; refine EndsAt.done [] (by first | exact .inr rfl | exact .inl rfl) rfl rfl (by decide) trivial)
    | (with_reducible refine AWp.seq ?_)⟩
noncomputable def c_areRows : Con0 := conF [(.pair .int (.pair .int .int)), (.list (.list .int))] fun (⟨⟨p, q, g⟩, bases, _⟩ : (Int × Int × Int) × (List (List Int)) × Unit) => (M.Grp p q g ∧ bases.length ≤ 9223372036854775806, .lit (.bool (rowsB p q bases)), [])
noncomputable def G_areRows : List (FuncId × Con) := [(109, mk c_within), (143, mk c_anyRow)]
theorem G_areRows_ok : ∀ f C, (f, C) ∈ G_areRows → C.ok Try.prog f := by
  intro f C h
  simp only [G_areRows, List.mem_cons, Prod.mk.injEq, List.not_mem_nil, or_false] at h
  rcases h with ⟨rfl, rfl⟩ | ⟨rfl, rfl⟩
  · exact ok_within
  · exact ok_anyRow
set_option maxRecDepth 100000 in
set_option maxHeartbeats 4000000 in
theorem ok_areRows : (mk c_areRows).ok Try.prog 195 := okF (Θ := Th) (N := 21) (rs := [.tmp 4]) Th_ok Try.func195 (by kernel_rfl) rfl Try.results195 (by decide) (by kernel_rfl) fun (⟨⟨p, q, g⟩, bases, _⟩ : (Int × Int × Int) × (List (List Int)) × Unit) => ⟨rfl, rfl, Nat.le_of_ble_eq_true rfl, fun hc w0 => by
  have hL := dmy_eq
  try dsimp only at hc
  try dsimp only
  obtain ⟨hG, hbl⟩ := hc
  refine AWp.body rfl ?_
  repeat' first
    | ((with_reducible refine hK _ _ ?_); clear hK K)
    | ((with_reducible refine hK _ _ (by kernel_rfl) ?_); clear hK K)
    | ((with_reducible refine AWp.pS Th_ok G_areRows_ok [0, 1, 2, 3, 4, 16] (by decide) ?_); intro K hK)
    | ((with_reducible refine AWp.dS (by kernel_rfl) Th_ok G_areRows_ok [0, 1, 2, 3, 4, 16] ?_); intro K hK)
    | ((with_reducible refine AWp.pE Th_ok G_areRows_ok [0, 1, 2, 3, 4, 16] (by decide) ?_); intro K hK)
    | ((with_reducible refine AWp.dE (by kernel_rfl) Th_ok G_areRows_ok [0, 1, 2, 3, 4, 16] ?_); intro K hK)
    | ((first | with_reducible refine runF_id ?_ | with_reducible refine stepF_id ?_); simp (maxSteps := 2000000) only [runF, stepF, forkOf, gdOf, List.toList_toArray, stepOp, look, opAV, pureOp, callOp, memOp, AS.ev, AS.get, AS.obj, initS, initFrom, AV.cells, AS.upd, Option.bind_some, Option.bind_none, Option.map_some, Option.map_none, Option.getD_none, Option.getD_some, ↓reduceIte, Nat.reduceEqDiff, Nat.reduceAdd, Nat.reduceMul, Nat.reduceSub, List.nil_append, List.append_nil, List.cons_append, List.map_cons, List.map_nil, true_and, and_true, AS.fin, pick, dedup, List.mem_cons, List.not_mem_nil, or_false, false_or, List.size_toArray, List.length_cons, List.length_nil, loadAV, List.drop_zero, List.drop_succ_cons, List.take_zero, List.take_succ_cons, List.getElem?_cons_zero, List.getElem?_cons_succ, List.head?_cons, List.mapM_cons, List.mapM_nil, Option.bind_eq_bind, Option.pure_def, deeps3, deep3, deep2, deep1, deeps, deeps2, mixInts, AV.plain, mk, mkD, DCon.lift, DCon.runC, ren3, ren2, ren1, numb, List.zipIdx_nil, List.zipIdx_cons, List.all_nil, List.all_cons, Nat.reduceLeDiff, List.range, List.range.loop, Ty.sz, beq_self_eq_true, Bool.and_self, and_self, Ty.ofC, AO.isDead, Nat.reduceLT, if_true, Nat.zero_add, Nat.add_zero, ite_true, Nat.le_refl, Bool.false_eq_true, reduceCtorEq, if_false, ite_false, binAV, AO.ren, AV.isCell, fillAV, List.set_cons_zero, List.set_cons_succ, Ty.cells, Ty.flat, Ty.dflt, List.getD_cons_zero, List.getD_cons_succ, Int.reduceToNat, Int.reduceSub, Int.reduceAdd, Int.reduceMul, Int.reduceNeg, forall_eq_or_imp, forall_eq, gdL, id_eq, Nat.lt_irrefl, srcOf, List.replicate_succ, List.replicate_zero, dite_true, List.isEmpty_cons, Option.isSome_some, List.length_append, List.length_singleton, bne_self_eq_false, Bool.not_true, Bool.not_false, conF, asArgs, asArg, asTy, asI1, asB1, asS1, asL1, canons, canon, Fork.true_, Fork.false_, bne, Bool.not_not, List.length_map, pickO, AS.over, TI.bl, bne_iff_ne, AS.over2, without, keys, List.mem_singleton, memOp2, memOp3, absorb, abInt, abBool, abStr, abList, gones, Int.toNat_natCast, List.take_length, subE, List.nodup_cons, List.nodup_nil, not_false_eq_true, Nat.sub_self, conR, asG, asI, asBo, asStr, asIs, asBs, asE4, asI2, asI3, asLL, asLLL, Th_int, Th_bool, Th_string, Th_Sint, Th_SSint, Th_implGroup, G_areRows, c_within, c_anyRow, m_anyRow, hL])
    | ((with_reducible refine and_id ?_); (generalize hv : M.chal p q g _ _ = v); have bv : 0 ≤ v ∧ v < q := by rw [← hv]; exact chal_bd (by omega) _ _)
    | ((with_reducible refine and_id ?_); (generalize hv : cmt p q g _ _ _ = v); have bv : 0 ≤ v ∧ v < p := by rw [← hv]; exact cmt_bd (by omega))
    | ((with_reducible refine and_id ?_); (generalize hv : M.gpw p q _ _ = v); have bv : 0 ≤ v ∧ v < p := by rw [← hv]; exact gpw_bd (by omega))
    | ((with_reducible refine and_id ?_); (generalize hv : M.mulL p _ = v); have bv : 0 ≤ v ∧ v < p := by rw [← hv]; exact mulL_bd' (by omega))
    | ((with_reducible refine ens_step ?_ (fun hE => ?_)); · ((repeat' with_reducible apply And.intro) <;> first | with_reducible assumption | omega | exact True.intro | with_reducible rfl | (show ByteArray.size _ ≤ _; decide) | (simp; done) | (simp; omega) | rfl))
    | ((with_reducible refine And.intro ?_ ?_); · ((repeat' with_reducible apply And.intro) <;> first | with_reducible assumption | omega | exact True.intro | with_reducible rfl | (show ByteArray.size _ ≤ _; decide) | (simp; done) | (simp; omega) | rfl))
    | ((with_reducible refine Fork.intro (fun h' => ?_) (fun h' => ?_)) <;> (try simp only [Bool.not_eq_true', Bool.not_eq_false', bne] at h') <;> (replace hL := And.intro h' hL) <;> (try simp only [decide_eq_true_eq, decide_eq_false_iff_not, beq_iff_eq, beq_eq_false_iff_ne, ne_eq] at h') <;> (try (have hin := inr_t h')))
    | (with_reducible refine AWp.skipS ?_)
    | ((with_reducible refine AWp.condT rfl ?_))
    | ((with_reducible refine AWp.condF rfl ?_))
    | (with_reducible refine AWp.condB rfl ?_)
    | (with_reducible refine AWp.ret ?_)
    | (with_reducible refine seqQ_n ?_)
    | (with_reducible refine seqQ_ret ?_)
    | (with_reducible refine blkQ_ret ?_)
    | (with_reducible refine blkQ_n ?_)
    | (with_reducible refine seqQ_exit ?_)
    | (with_reducible refine blkQ_exit ?_)
    | (with_reducible refine blkQ_other (by decide) ?_)
    | (with_reducible refine AWp.block ?_)
    | (with_reducible refine AWp.exit ?_)
    | (with_reducible refine AWp.skip ?_)
    | ((with_reducible refine EndsAt_id ?_); (try subst_vars); (try simp only [rowsB, hL, List.length_cons, List.length_nil, Nat.zero_add, Nat.reduceAdd, Bool.and_true, Bool.and_false, Bool.true_and, Bool.false_and, Bool.and_self, ↓reduceIte, Bool.false_eq_true, Bool.not_true, Bool.not_false, bne]); refine EndsAt.done [] (by first | exact .inr rfl | exact .inl rfl) rfl rfl ?_ ?_ <;> first | decide | (repeat' (first | rfl | apply And.intro | trivial)))
    | (with_reducible refine AWp.seq ?_)⟩
end Go.Proofs.Ytlggpehioflbdaa
