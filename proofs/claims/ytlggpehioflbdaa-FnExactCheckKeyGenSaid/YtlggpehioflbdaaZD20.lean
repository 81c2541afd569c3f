import Derived.Test.YtlggpehioflbdaaZAJ
import Derived.Test.YtlggpehioflbdaaZB10
import Derived.Test.YtlggpehioflbdaaZB4
/- Dealings: values of polynomials, shares that are wrong. -/
set_option linter.all false
set_option linter.unusedVariables false
set_option linter.unusedSimpArgs false
namespace Go.Proofs.Ytlggpehioflbdaa
open Go.RowKit
theorem expsB_all12' {q : Int} {xs : List Int} (h : expsB q xs = true) : ∀ x ∈ xs, 0 ≤ x ∧ x < q := fun x hx => expsB_mem h hx
theorem comB_use {p q : Int} {cs : List Int} (h : comB p q cs = true) : (1 ≤ cs.length ∧ cs.length ≤ 7) ∧ ∀ x ∈ cs, 0 ≤ x ∧ x < p := by
  obtain ⟨h1, h2⟩ := comB_of h
  exact ⟨h1, fun x hx => elem_bd (elemsB_mem h2 hx)⟩
theorem dlB_use {p q : Int} {cs ss : List Int} (h : dlB p q cs ss = true) : (1 ≤ cs.length ∧ cs.length ≤ 7) ∧ (∀ x ∈ cs, 0 ≤ x ∧ x < p) ∧ (cs.length ≤ ss.length ∧ ss.length ≤ 7) ∧ ∀ x ∈ ss, 0 ≤ x ∧ x < q := by
  obtain ⟨h1, h2, h3⟩ := dlB_of h
  obtain ⟨h4, h5⟩ := comB_use h1
  exact ⟨h4, h5, h2, expsB_all12' h3⟩
theorem getD_bd' {p : Int} {xs : List Int} (h : ∀ x ∈ xs, 0 ≤ x ∧ x < p) {k : Nat} (hk : k < xs.length) : 0 ≤ xs.getD k 0 ∧ xs.getD k 0 < p := h _ (getD_in 0 hk)
theorem drop_at {α : Type} {xs : List α} (d : α) {k : Nat} (hk : k < xs.length) : xs.drop k = xs.getD k d :: xs.drop (k + 1) := by
  rw [List.drop_eq_getElem_cons hk]
  simp [List.getD_eq_getElem?_getD, List.getElem?_eq_getElem hk]
theorem take_at {α : Type} {xs : List α} (d : α) {k : Nat} (hk : k < xs.length) : xs.take (k + 1) = xs.take k ++ [xs.getD k d] := by
  rw [List.take_succ_eq_append_getElem hk]
  simp [List.getD_eq_getElem?_getD, List.getElem?_eq_getElem hk]
/-- numbers of the shares that are wrong -/
def badF (f : Int → Int → Bool) : List Int → Nat → List Int
  | [], _ => []
  | s :: l, k => if f ((k : Int) + 1) s = true then badF f l (k + 1) else ((k : Int) + 1) :: badF f l (k + 1)
def badL (p q g : Int) (cs ss : List Int) : List Int := badF (shrB p q g cs) ss 0
theorem badF_t {f : Int → Int → Bool} {ss : List Int} {k : Nat} (h : k < ss.length) (hf : f ((k : Int) + 1) (ss.getD k 0) = true) : badF f (ss.drop k) k = badF f (ss.drop (k + 1)) (k + 1) := by
  rw [drop_at 0 h]; simp only [badF, hf, if_true]
theorem badF_f {f : Int → Int → Bool} {ss : List Int} {k : Nat} (h : k < ss.length) (hf : f ((k : Int) + 1) (ss.getD k 0) = false) : badF f (ss.drop k) k = ((k : Int) + 1) :: badF f (ss.drop (k + 1)) (k + 1) := by
  rw [drop_at 0 h]; simp only [badF, hf, Bool.false_eq_true, if_false]
theorem badF_len {f : Int → Int → Bool} : ∀ (ss : List Int) (k : Nat), (badF f ss k).length ≤ ss.length
  | [], _ => Nat.le_refl _
  | s :: l, k => by
    have := badF_len (f := f) l (k + 1)
    simp only [badF]; split <;> simp only [List.length_cons] <;> omega
theorem badF_mem {f : Int → Int → Bool} : ∀ (ss : List Int) (k : Nat), ∀ x ∈ badF f ss k, (k : Int) + 1 ≤ x ∧ x ≤ (k : Int) + ss.length
  | [], _, x, h => by simp [badF] at h
  | s :: l, k, x, h => by
    simp only [badF] at h
    have ih := badF_mem (f := f) l (k + 1) x
    split at h
    · have := ih h; simp only [List.length_cons]; omega
    · rcases List.mem_cons.1 h with rfl | h
      · simp only [List.length_cons]; omega
      · have := ih h; simp only [List.length_cons]; omega
theorem badL_le (p q g : Int) (cs ss : List Int) : (badL p q g cs ss).length ≤ ss.length := badF_len ss 0
theorem badF_end {f : Int → Int → Bool} {ss : List Int} {k : Nat} : badF f (ss.drop ss.length) k = [] := by simp [badF]
noncomputable def c_bad : Con0 := conF [(.pair .int (.pair .int .int)), (.pair (.list .int) (.list .int))] fun (⟨⟨p, q, g⟩, ⟨cs, ss⟩, _⟩ : (Int × Int × Int) × (List Int × List Int) × Unit) => (M.Grp p q g ∧ (∀ c ∈ cs, 0 ≤ c ∧ c < p) ∧ (∀ s ∈ ss, 0 ≤ s ∧ s < q) ∧ ss.length ≤ 7 ∧ cs.length ≤ 7, .own 0 (badL p q g cs ss).length, [.row 3 .int (badL p q g cs ss)])
noncomputable def G_bad : List (FuncId × Con) := [(141, mk c_isShare)]
theorem G_bad_ok : ∀ f C, (f, C) ∈ G_bad → C.ok Try.prog f := by
  intro f C h
  simp only [G_bad, List.mem_cons, Prod.mk.injEq, List.not_mem_nil, or_false] at h
  obtain ⟨rfl, rfl⟩ := h
  exact ok_isShare
set_option maxRecDepth 100000 in
set_option maxHeartbeats 4000000 in
theorem ok_bad : (mk c_bad).ok Try.prog 85 := okF (Θ := Th) (N := 32) (rs := [.tmp 4]) Th_ok Try.func85 (by kernel_rfl) rfl Try.results85 (by decide) (by kernel_rfl) fun (⟨⟨p, q, g⟩, ⟨cs, ss⟩, _⟩ : (Int × Int × Int) × (List Int × List Int) × Unit) => ⟨rfl, rfl, Nat.le_of_ble_eq_true rfl, fun hc w0 => by
  have hL := dmy_eq
  try dsimp only at hc
  try dsimp only
  obtain ⟨hG, hcs, hss, hsl, hcl⟩ := hc
  have hq2 := hG.q2
  have hqp := hG.qp
  have hp3 := hG.p3
  have hpM := hG.pM
  have hgb : 0 ≤ g ∧ g < p := ⟨by have := hG.g2; omega, hG.gp⟩
  refine AWp.body rfl ?_
  repeat' first
    | ((with_reducible refine hK _ _ ?_); clear hK K)
    | ((with_reducible refine hK _ _ (by kernel_rfl) ?_); clear hK K)
    | ((with_reducible refine AWp.pS Th_ok G_bad_ok [0, 1, 2, 3, 4, 5, 6, 7, 10, 11, 12, 13, 24] (by decide) ?_); intro K hK)
    | ((with_reducible refine AWp.dS (by kernel_rfl) Th_ok G_bad_ok [0, 1, 2, 3, 4, 5, 6, 7, 10, 11, 12, 13, 24] ?_); intro K hK)
    | ((with_reducible refine AWp.pE Th_ok G_bad_ok [0, 1, 2, 3, 4, 5, 6, 7, 10, 11, 12, 13, 24] (by decide) ?_); intro K hK)
    | ((with_reducible refine AWp.dE (by kernel_rfl) Th_ok G_bad_ok [0, 1, 2, 3, 4, 5, 6, 7, 10, 11, 12, 13, 24] ?_); intro K hK)
    | ((first | with_reducible refine runF_id ?_ | with_reducible refine stepF_id ?_); simp (maxSteps := 2000000) only [runF, stepF, forkOf, gdOf, List.toList_toArray, stepOp, look, opAV, pureOp, callOp, memOp, AS.ev, AS.get, AS.obj, initS, initFrom, AV.cells, AS.upd, Option.bind_some, Option.bind_none, Option.map_some, Option.map_none, Option.getD_none, Option.getD_some, ↓reduceIte, Nat.reduceEqDiff, Nat.reduceAdd, Nat.reduceMul, Nat.reduceSub, List.nil_append, List.append_nil, List.cons_append, List.map_cons, List.map_nil, true_and, and_true, AS.fin, pick, dedup, List.mem_cons, List.not_mem_nil, or_false, false_or, List.size_toArray, List.length_cons, List.length_nil, loadAV, List.drop_zero, List.drop_succ_cons, List.take_zero, List.take_succ_cons, List.getElem?_cons_zero, List.getElem?_cons_succ, List.head?_cons, List.mapM_cons, List.mapM_nil, Option.bind_eq_bind, Option.pure_def, deeps3, deep3, deep2, deep1, deeps, deeps2, mixInts, AV.plain, mk, mkD, DCon.lift, DCon.runC, ren3, ren2, ren1, numb, List.zipIdx_nil, List.zipIdx_cons, List.all_nil, List.all_cons, Nat.reduceLeDiff, List.range, List.range.loop, Ty.sz, beq_self_eq_true, Bool.and_self, and_self, Ty.ofC, AO.isDead, Nat.reduceLT, if_true, Nat.zero_add, Nat.add_zero, ite_true, Nat.le_refl, Bool.false_eq_true, reduceCtorEq, if_false, ite_false, binAV, AO.ren, AV.isCell, fillAV, List.set_cons_zero, List.set_cons_succ, Ty.cells, Ty.flat, Ty.dflt, List.getD_cons_zero, List.getD_cons_succ, Int.reduceToNat, Int.reduceSub, Int.reduceAdd, Int.reduceMul, Int.reduceNeg, forall_eq_or_imp, forall_eq, gdL, id_eq, Nat.lt_irrefl, srcOf, List.replicate_succ, List.replicate_zero, dite_true, List.isEmpty_cons, Option.isSome_some, List.length_append, List.length_singleton, bne_self_eq_false, Bool.not_true, Bool.not_false, conF, asArgs, asArg, asTy, asI1, asB1, asS1, asL1, canons, canon, Fork.true_, Fork.false_, bne, Bool.not_not, List.length_map, pickO, AS.over, TI.bl, bne_iff_ne, AS.over2, without, keys, List.mem_singleton, memOp2, memOp3, absorb, abInt, abBool, abStr, abList, gones, Int.toNat_natCast, List.take_length, subE, List.nodup_cons, List.nodup_nil, not_false_eq_true, Nat.sub_self, conR, asG, asI, asBo, asStr, asIs, asBs, asE4, asI2, asI3, asLL, asLLL, Th_int, Th_Sint, Th_bool, Th_implDealing, Th_implEqualLog, Th_implGroup, Th_lawsGroup, Th_string, G_bad, c_isShare, hL])
    | ((with_reducible refine ens_step ?_ (fun hE => ?_)); · ((repeat' with_reducible apply And.intro) <;> first | with_reducible assumption | omega | exact True.intro | with_reducible rfl | (show ByteArray.size _ ≤ _; decide) | (simp; done) | (simp; omega) | rfl))
    | ((with_reducible refine And.intro ?_ ?_); · ((repeat' with_reducible apply And.intro) <;> first | with_reducible assumption | omega | exact True.intro | with_reducible rfl | (show ByteArray.size _ ≤ _; decide) | (simp; done) | (simp; omega) | rfl))
    | ((with_reducible refine Fork.intro (fun h' => ?_) (fun h' => ?_)) <;> (try simp only [Bool.not_eq_true', Bool.not_eq_false', bne] at h') <;> (replace hL := And.intro h' hL) <;> (try simp only [decide_eq_true_eq, decide_eq_false_iff_not, beq_iff_eq, beq_eq_false_iff_ne, ne_eq] at h') <;> (try (have hbt := badF_t (f := shrB p q g cs) (ss := ss) (k := k) (by omega) hL.1; rw [hbt] at hz2)) <;> (try (have hbf := badF_f (f := shrB p q g cs) (ss := ss) (k := k) (by omega) hL.1; rw [hbf] at hz2)) <;> (try (have hke : k = ss.length := (by omega); subst hke; rw [badF_end, List.append_nil] at hz2; replace hz2 : out = badL p q g cs ss := hz2; subst hz2)) <;> (try (have hsk := getD_bd' hss (k := k) (by omega))))
    | (with_reducible refine AWp.skipS ?_)
    | ((with_reducible refine AWp.condT rfl ?_))
    | ((with_reducible refine AWp.condF rfl ?_))
    | (with_reducible refine AWp.condB rfl ?_)
    | (with_reducible refine AWp.ret ?_)
    | (with_reducible refine seqQ_n ?_)
    | (with_reducible refine seqQ_ret ?_)
    | (with_reducible refine blkQ_ret ?_)
    | (with_reducible refine blkQ_n ?_)
    | (with_reducible refine seqQ_exit ?_)
    | (with_reducible refine blkQ_exit ?_)
    | (with_reducible refine blkQ_other (by decide) ?_)
    | (with_reducible refine AWp.block ?_)
    | (with_reducible refine AWp.exit ?_)
    | (with_reducible refine AWp.skip ?_)
    | ((with_reducible refine loop_id ?_); refine AWp.loopAt 3 rfl ?_; refine AWp.loopO [5, 6, 7, 12, 13, 14, 15, 16, 17, 18, 19, 20, 21, 22, 23, 24, 25, 26, 27, 28, 29, 30] (fun z : Nat × List Int => [(12, .lit (.int .i64 (z.1 : Nat))), (5, .own 24 z.2.length)]) (fun z => [(24, .row 3 .int z.2)]) (fun z => z.1 ≤ ss.length ∧ z.2 ++ badF (shrB p q g cs) (ss.drop z.1) z.1 = badF (shrB p q g cs) ss 0 ∧ z.2.length ≤ z.1) (fun z => ss.length - z.1) (0, []) (by (try dsimp only); exact ⟨by omega, by simp, by simp⟩) (by (refine Sub.auto (by first | exact frok0 | assumption) rfl rfl ?_ ?_ <;> (try simp only [subE, AS.over2, without, keys, look, List.cons_append, List.nil_append, List.append_nil, List.mem_cons, List.not_mem_nil, or_false, or_true, true_or, false_or, Nat.reduceEqDiff, ↓reduceIte, Option.some.injEq, AV.lit.injEq, Value.int.injEq, Value.bool.injEq, AV.own.injEq, AO.row.injEq, AO.box.injEq, List.cons.injEq, AV.agg.injEq, AV.sl.injEq, true_and, and_true, and_self, heq_eq_eq, List.length_nil, List.length_cons, List.map_nil, List.take_zero, Int.natCast_add, Int.cast_ofNat_Int, Int.natCast_zero, List.length_append, List.length_map, List.length_take, Nat.zero_add]) <;> (simp))) (fun z hz3 L3 hLoop3 => ?_); obtain ⟨k, out⟩ := z; (try dsimp only at hz3); obtain ⟨hz1, hz2, hz3⟩ := hz3)
    | ((with_reducible refine seqQ_f ?_); refine hLoop3 (k + 1, _) _ (by (try dsimp only); first | exact ⟨by omega, hz2, by omega⟩ | (refine ⟨by omega, (List.append_assoc out [(k : Int) + 1] _).trans hz2, by simp; omega⟩)) (by (try dsimp only); omega) ?_; ((refine Sub.auto (by first | exact frok0 | assumption) rfl rfl ?_ ?_ <;> (try simp only [subE, AS.over2, without, keys, look, List.cons_append, List.nil_append, List.append_nil, List.mem_cons, List.not_mem_nil, or_false, or_true, true_or, false_or, Nat.reduceEqDiff, ↓reduceIte, Option.some.injEq, AV.lit.injEq, Value.int.injEq, Value.bool.injEq, AV.own.injEq, AO.row.injEq, AO.box.injEq, List.cons.injEq, AV.agg.injEq, AV.sl.injEq, true_and, and_true, and_self, heq_eq_eq, List.length_nil, List.length_cons, List.map_nil, List.take_zero, Int.natCast_add, Int.cast_ofNat_Int, Int.natCast_zero, List.length_append, List.length_map, List.length_take, Nat.zero_add]) <;> ((repeat' apply And.intro) <;> first | rfl | omega | (simp; done) | (simp; omega)))))
    | ((with_reducible refine EndsAt_id ?_); (try subst_vars); refine EndsAt.done [_] (by first | exact .inr rfl | exact .inl rfl) rfl rfl ?_ ?_ <;> first | decide | (repeat' (first | rfl | apply And.intro | trivial)))
    | (with_reducible refine AWp.seq ?_)⟩
noncomputable def c_sBad : Con0 := conF [(.pair .int (.pair .int .int)), (.pair (.list .int) (.list .int))] fun (⟨⟨p, q, g⟩, ⟨cs, ss⟩, _⟩ : (Int × Int × Int) × (List Int × List Int) × Unit) => (M.Grp p q g ∧ (∀ c ∈ cs, 0 ≤ c ∧ c < p) ∧ (∀ s ∈ ss, 0 ≤ s ∧ s < q) ∧ ss.length ≤ 7 ∧ cs.length ≤ 7, .own 0 (badL p q g cs ss).length, [.row 3 .int (badL p q g cs ss)])
noncomputable def G_sBad : List (FuncId × Con) := [(136, mk c_sFits)]
theorem G_sBad_ok : ∀ f C, (f, C) ∈ G_sBad → C.ok Try.prog f := by
  intro f C h
  simp only [G_sBad, List.mem_cons, Prod.mk.injEq, List.not_mem_nil, or_false] at h
  obtain ⟨rfl, rfl⟩ := h
  exact ok_sFits
set_option maxRecDepth 100000 in
set_option maxHeartbeats 4000000 in
theorem ok_sBad : (mk c_sBad).ok Try.prog 83 := okF (Θ := Th) (N := 31) (rs := [.tmp 4]) Th_ok Try.func83 (by kernel_rfl) rfl Try.results83 (by decide) (by kernel_rfl) fun (⟨⟨p, q, g⟩, ⟨cs, ss⟩, _⟩ : (Int × Int × Int) × (List Int × List Int) × Unit) => ⟨rfl, rfl, Nat.le_of_ble_eq_true rfl, fun hc w0 => by
  have hL := dmy_eq
  try dsimp only at hc
  try dsimp only
  obtain ⟨hG, hcs, hss, hsl, hcl⟩ := hc
  have hq2 := hG.q2
  have hqp := hG.qp
  have hp3 := hG.p3
  have hpM := hG.pM
  have hgb : 0 ≤ g ∧ g < p := ⟨by have := hG.g2; omega, hG.gp⟩
  refine AWp.body rfl ?_
  repeat' first
    | ((with_reducible refine hK _ _ ?_); clear hK K)
    | ((with_reducible refine hK _ _ (by kernel_rfl) ?_); clear hK K)
    | ((with_reducible refine AWp.pS Th_ok G_sBad_ok [0, 1, 2, 3, 4, 5, 6, 7, 9, 10, 11, 12, 23] (by decide) ?_); intro K hK)
    | ((with_reducible refine AWp.dS (by kernel_rfl) Th_ok G_sBad_ok [0, 1, 2, 3, 4, 5, 6, 7, 9, 10, 11, 12, 23] ?_); intro K hK)
    | ((with_reducible refine AWp.pE Th_ok G_sBad_ok [0, 1, 2, 3, 4, 5, 6, 7, 9, 10, 11, 12, 23] (by decide) ?_); intro K hK)
    | ((with_reducible refine AWp.dE (by kernel_rfl) Th_ok G_sBad_ok [0, 1, 2, 3, 4, 5, 6, 7, 9, 10, 11, 12, 23] ?_); intro K hK)
    | ((first | with_reducible refine runF_id ?_ | with_reducible refine stepF_id ?_); simp (maxSteps := 2000000) only [runF, stepF, forkOf, gdOf, List.toList_toArray, stepOp, look, opAV, pureOp, callOp, memOp, AS.ev, AS.get, AS.obj, initS, initFrom, AV.cells, AS.upd, Option.bind_some, Option.bind_none, Option.map_some, Option.map_none, Option.getD_none, Option.getD_some, ↓reduceIte, Nat.reduceEqDiff, Nat.reduceAdd, Nat.reduceMul, Nat.reduceSub, List.nil_append, List.append_nil, List.cons_append, List.map_cons, List.map_nil, true_and, and_true, AS.fin, pick, dedup, List.mem_cons, List.not_mem_nil, or_false, false_or, List.size_toArray, List.length_cons, List.length_nil, loadAV, List.drop_zero, List.drop_succ_cons, List.take_zero, List.take_succ_cons, List.getElem?_cons_zero, List.getElem?_cons_succ, List.head?_cons, List.mapM_cons, List.mapM_nil, Option.bind_eq_bind, Option.pure_def, deeps3, deep3, deep2, deep1, deeps, deeps2, mixInts, AV.plain, mk, mkD, DCon.lift, DCon.runC, ren3, ren2, ren1, numb, List.zipIdx_nil, List.zipIdx_cons, List.all_nil, List.all_cons, Nat.reduceLeDiff, List.range, List.range.loop, Ty.sz, beq_self_eq_true, Bool.and_self, and_self, Ty.ofC, AO.isDead, Nat.reduceLT, if_true, Nat.zero_add, Nat.add_zero, ite_true, Nat.le_refl, Bool.false_eq_true, reduceCtorEq, if_false, ite_false, binAV, AO.ren, AV.isCell, fillAV, List.set_cons_zero, List.set_cons_succ, Ty.cells, Ty.flat, Ty.dflt, List.getD_cons_zero, List.getD_cons_succ, Int.reduceToNat, Int.reduceSub, Int.reduceAdd, Int.reduceMul, Int.reduceNeg, forall_eq_or_imp, forall_eq, gdL, id_eq, Nat.lt_irrefl, srcOf, List.replicate_succ, List.replicate_zero, dite_true, List.isEmpty_cons, Option.isSome_some, List.length_append, List.length_singleton, bne_self_eq_false, Bool.not_true, Bool.not_false, conF, asArgs, asArg, asTy, asI1, asB1, asS1, asL1, canons, canon, Fork.true_, Fork.false_, bne, Bool.not_not, List.length_map, pickO, AS.over, TI.bl, bne_iff_ne, AS.over2, without, keys, List.mem_singleton, memOp2, memOp3, absorb, abInt, abBool, abStr, abList, gones, Int.toNat_natCast, List.take_length, subE, List.nodup_cons, List.nodup_nil, not_false_eq_true, Nat.sub_self, conR, asG, asI, asBo, asStr, asIs, asBs, asE4, asI2, asI3, asLL, asLLL, Th_int, Th_Sint, Th_bool, Th_implDealing, Th_implEqualLog, Th_implGroup, Th_string, G_sBad, c_sFits, hL])
    | ((with_reducible refine ens_step ?_ (fun hE => ?_)); · ((repeat' with_reducible apply And.intro) <;> first | with_reducible assumption | omega | exact True.intro | with_reducible rfl | (show ByteArray.size _ ≤ _; decide) | (simp; done) | (simp; omega) | rfl))
    | ((with_reducible refine And.intro ?_ ?_); · ((repeat' with_reducible apply And.intro) <;> first | with_reducible assumption | omega | exact True.intro | with_reducible rfl | (show ByteArray.size _ ≤ _; decide) | (simp; done) | (simp; omega) | rfl))
    | ((with_reducible refine Fork.intro (fun h' => ?_) (fun h' => ?_)) <;> (try simp only [Bool.not_eq_true', Bool.not_eq_false', bne] at h') <;> (replace hL := And.intro h' hL) <;> (try simp only [decide_eq_true_eq, decide_eq_false_iff_not, beq_iff_eq, beq_eq_false_iff_ne, ne_eq] at h') <;> (try (have hbt := badF_t (f := shrB p q g cs) (ss := ss) (k := k) (by omega) hL.1; rw [hbt] at hz2)) <;> (try (have hbf := badF_f (f := shrB p q g cs) (ss := ss) (k := k) (by omega) hL.1; rw [hbf] at hz2)) <;> (try (have hke : k = ss.length := (by omega); subst hke; rw [badF_end, List.append_nil] at hz2; replace hz2 : out = badL p q g cs ss := hz2; subst hz2)) <;> (try (have hsk := getD_bd' hss (k := k) (by omega))))
    | (with_reducible refine AWp.skipS ?_)
    | ((with_reducible refine AWp.condT rfl ?_))
    | ((with_reducible refine AWp.condF rfl ?_))
    | (with_reducible refine AWp.condB rfl ?_)
    | (with_reducible refine AWp.ret ?_)
    | (with_reducible refine seqQ_n ?_)
    | (with_reducible refine seqQ_ret ?_)
    | (with_reducible refine blkQ_ret ?_)
    | (with_reducible refine blkQ_n ?_)
    | (with_reducible refine seqQ_exit ?_)
    | (with_reducible refine blkQ_exit ?_)
    | (with_reducible refine blkQ_other (by decide) ?_)
    | (with_reducible refine AWp.block ?_)
    | (with_reducible refine AWp.exit ?_)
    | (with_reducible refine AWp.skip ?_)
    | ((with_reducible refine loop_id ?_); refine AWp.loopAt 3 rfl ?_; refine AWp.sub (Sub.nilSlot 5 300005 3 .int rfl rfl) ?_; refine AWp.loopO [5, 6, 7, 11, 12, 13, 14, 15, 16, 17, 18, 19, 20, 21, 22, 23, 24, 25, 26, 27, 28, 29] (fun z : Nat × List Int => [(11, .lit (.int .i64 (z.1 : Nat))), (5, .own 300005 z.2.length)]) (fun z => [(300005, .row 3 .int z.2)]) (fun z => z.1 ≤ ss.length ∧ z.2 ++ badF (shrB p q g cs) (ss.drop z.1) z.1 = badF (shrB p q g cs) ss 0 ∧ z.2.length ≤ z.1) (fun z => ss.length - z.1) (0, []) (by (try dsimp only); exact ⟨by omega, by simp, by simp⟩) (by (refine Sub.auto (by first | exact frok0 | assumption) rfl rfl ?_ ?_ <;> (try simp only [subE, AS.over2, without, keys, look, List.cons_append, List.nil_append, List.append_nil, List.mem_cons, List.not_mem_nil, or_false, or_true, true_or, false_or, Nat.reduceEqDiff, ↓reduceIte, Option.some.injEq, AV.lit.injEq, Value.int.injEq, Value.bool.injEq, AV.own.injEq, AO.row.injEq, AO.box.injEq, List.cons.injEq, AV.agg.injEq, AV.sl.injEq, true_and, and_true, and_self, heq_eq_eq, List.length_nil, List.length_cons, List.map_nil, List.take_zero, Int.natCast_add, Int.cast_ofNat_Int, Int.natCast_zero, List.length_append, List.length_map, List.length_take, Nat.zero_add]) <;> (simp))) (fun z hz3 L3 hLoop3 => ?_); obtain ⟨k, out⟩ := z; (try dsimp only at hz3); obtain ⟨hz1, hz2, hz3⟩ := hz3)
    | ((with_reducible refine seqQ_f ?_); refine hLoop3 (k + 1, _) _ (by (try dsimp only); first | exact ⟨by omega, hz2, by omega⟩ | (refine ⟨by omega, (List.append_assoc out [(k : Int) + 1] _).trans hz2, by simp; omega⟩)) (by (try dsimp only); omega) ?_; ((refine Sub.auto (by first | exact frok0 | assumption) rfl rfl ?_ ?_ <;> (try simp only [subE, AS.over2, without, keys, look, List.cons_append, List.nil_append, List.append_nil, List.mem_cons, List.not_mem_nil, or_false, or_true, true_or, false_or, Nat.reduceEqDiff, ↓reduceIte, Option.some.injEq, AV.lit.injEq, Value.int.injEq, Value.bool.injEq, AV.own.injEq, AO.row.injEq, AO.box.injEq, List.cons.injEq, AV.agg.injEq, AV.sl.injEq, true_and, and_true, and_self, heq_eq_eq, List.length_nil, List.length_cons, List.map_nil, List.take_zero, Int.natCast_add, Int.cast_ofNat_Int, Int.natCast_zero, List.length_append, List.length_map, List.length_take, Nat.zero_add]) <;> ((repeat' apply And.intro) <;> first | rfl | omega | (simp; done) | (simp; omega)))))
    | ((with_reducible refine EndsAt_id ?_); (try subst_vars); refine EndsAt.done [_] (by first | exact .inr rfl | exact .inl rfl) rfl rfl ?_ ?_ <;> first | decide | (repeat' (first | rfl | apply And.intro | trivial)))
    | (with_reducible refine AWp.seq ?_)⟩
end Go.Proofs.Ytlggpehioflbdaa
