import Derived.Test.YtlggpehioflbdaaZD40
import Derived.Test.YtlggpehioflbdaaZDEq
/- The outcome of a key generation on both sides. -/
set_option linter.all false
set_option linter.unusedVariables false
set_option linter.unusedSimpArgs false
namespace Go.Proofs.Ytlggpehioflbdaa
open Go.RowKit
section
variable {p q g : Int} {l : List (List Int × List Int)} {an : List (List Int)} {k : Nat}
theorem qIx_mem {x : Int} (h : x ∈ qIx p q g l an l.length) : (1 ≤ x ∧ x ≤ l.length) ∧ qlB p q g (l.getD (x - 1).toNat ([], [])).1 (l.getD (x - 1).toNat ([], [])).2 (an.getD (x - 1).toNat []) = true := by
  obtain ⟨j, hj, rfl⟩ := List.mem_map.1 h
  obtain ⟨h1, h2⟩ := List.mem_filter.1 hj
  have := List.mem_range.1 h1
  have e : ((j : Int) + 1 - 1).toNat = j := by omega
  refine ⟨by omega, ?_⟩
  rw [e]; exact h2
theorem qMd_at (hk : k < (qIx p q g l an l.length).length) : (qMd p q g l an l.length).getD k ([], []) = mdJ p q g l an ((qIx p q g l an l.length).getD k 0 - 1).toNat := by
  unfold qMd qIx at *
  rw [List.length_map] at hk
  rw [List.getD_eq_getElem?_getD, List.getD_eq_getElem?_getD, List.getElem?_map, List.getElem?_map, List.getElem?_eq_getElem hk]
  simp only [Option.map_some, Option.getD_some]
  congr 1; omega
/-- the first mended dealings -/
def qMt (p q g : Int) (l : List (List Int × List Int)) (an : List (List Int)) (k : Nat) : List (List Int × List Int) := (qMd p q g l an l.length).take k
theorem qMt_len (hk : k ≤ (qIx p q g l an l.length).length) : (qMt p q g l an k).length = k := by
  have := qMd_len (p := p) (q := q) (g := g) (l := l) (an := an) (k := l.length)
  unfold qMt; rw [List.length_take]; omega
theorem qMt_step (hk : k < (qIx p q g l an l.length).length) : qMt p q g l an k ++ [((l.getD ((qIx p q g l an l.length).getD k 0 - 1).toNat ([], [])).1, mndL p q g (l.getD ((qIx p q g l an l.length).getD k 0 - 1).toNat ([], [])).1 (l.getD ((qIx p q g l an l.length).getD k 0 - 1).toNat ([], [])).2 (an.getD ((qIx p q g l an l.length).getD k 0 - 1).toNat []))] = qMt p q g l an (k + 1) := by
  have h := qMd_at hk
  have := qMd_len (p := p) (q := q) (g := g) (l := l) (an := an) (k := l.length)
  unfold qMt
  rw [take_at ([], []) (by omega), h]; rfl
theorem qMt_end : qMt p q g l an (qIx p q g l an l.length).length = qMd p q g l an l.length := by
  unfold qMt; rw [← qMd_len]; exact List.take_length
theorem expsB_of {q : Int} {xs : List Int} (h : ∀ x ∈ xs, 0 ≤ x ∧ x < q) : expsB q xs = true := List.all_eq_true.2 fun x hx => by
  have := h x hx
  unfold inr; exact decide_eq_true (by omega)
theorem mdJ_ok (hQ : QIn p q l an) {j : Nat} (hj : j < l.length) : dlB p q (mdJ p q g l an j).1 (mdJ p q g l an j).2 = true ∧ (mdJ p q g l an j).1.length = (l.getD 0 ([], [])).1.length ∧ (mdJ p q g l an j).2.length = (l.getD 0 ([], [])).2.length := by
  obtain ⟨h1, h2, h3⟩ := hQ.ds.each _ (getD_in ([], []) hj)
  obtain ⟨h4, h5, h6⟩ := dlB_of h1
  obtain ⟨_, hn⟩ := naB_at hQ.no (k := j) (by have := hQ.len; omega)
  have hm := mndF_ok (q := q) (badL p q g (l.getD j ([], [])).1 (l.getD j ([], [])).2) (an.getD j []) _ hn (expsB_all12' h6)
  refine ⟨?_, h2, ?_⟩
  · simp only [dlB, mdJ, mndL, Bool.and_eq_true]
    refine ⟨⟨h4, ?_⟩, expsB_of hm.2⟩
    rw [hm.1]; unfold inr; exact decide_eq_true (by omega)
  · show (mndL _ _ _ _ _ _).length = _
    unfold mndL; rw [hm.1]; exact h3
theorem qMd_ok (hQ : QIn p q l an) (h0 : 0 < (qIx p q g l an l.length).length) : DsOK p q (qMd p q g l an l.length) := by
  have hl := qMd_len (p := p) (q := q) (g := g) (l := l) (an := an) (k := l.length)
  have hle := qIx_le (p := p) (q := q) (g := g) (l := l) (an := an) (k := l.length)
  have hll := hQ.ds.len
  have key : ∀ d ∈ qMd p q g l an l.length, dlB p q d.1 d.2 = true ∧ d.1.length = (l.getD 0 ([], [])).1.length ∧ d.2.length = (l.getD 0 ([], [])).2.length := by
    intro d hd
    obtain ⟨j, hj, rfl⟩ := List.mem_map.1 hd
    exact mdJ_ok hQ (List.mem_range.1 (List.mem_filter.1 hj).1)
  have k0 := key _ (getD_in ([], []) (by omega : 0 < (qMd p q g l an l.length).length))
  refine ⟨by omega, fun d hd => ?_⟩
  obtain ⟨a, b, c⟩ := key d hd
  exact ⟨a, by omega, by omega⟩
end
noncomputable def okC (p q g : Int) (l : List (List Int × List Int)) (an : List (List Int)) : Bool := okQ p q g l an && !(((qIx p q g l an l.length).length : Int) == 0)
noncomputable def ckW (p q g : Int) (l : List (List Int × List Int)) (an : List (List Int)) : List Int × Int × List Int × List Int := if (((qIx p q g l an l.length).length : Int) == 0) = true then ([], 0, [], []) else (qIx p q g l an l.length, (sumD p q (qMd p q g l an l.length)).1.getD 0 0, (sumD p q (qMd p q g l an l.length)).1, (sumD p q (qMd p q g l an l.length)).2)
noncomputable def PCk (p q g : Int) (l : List (List Int × List Int)) (an : List (List Int)) : List Int × Int × List Int × List Int := if okQ p q g l an = true then ckW p q g l an else ([], 0, [], [])
theorem PQi_t {p q g : Int} {l : List (List Int × List Int)} {an : List (List Int)} (h : okQ p q g l an = true) : PQi p q g l an = qIx p q g l an l.length := if_pos h
theorem ckW_le {p q g : Int} {l : List (List Int × List Int)} {an : List (List Int)} (hp : 3 ≤ p) (hq : 2 ≤ q) (hQ : QIn p q l an) : (ckW p q g l an).1.length ≤ 7 ∧ (ckW p q g l an).2.2.1.length ≤ 7 ∧ (ckW p q g l an).2.2.2.length ≤ 7 := by
  unfold ckW; split
  · simp
  · rename_i h
    have h0 : 0 < (qIx p q g l an l.length).length := by
      simp only [beq_iff_eq] at h; omega
    have hD := qMd_ok hQ h0
    have h1 := (sumD_ok hp hq hD).1
    have h2 := hD.dim
    have hle := qIx_le (p := p) (q := q) (g := g) (l := l) (an := an) (k := l.length)
    have hll := hQ.ds.len
    simp only; omega
theorem PCk_le (p q g : Int) (l : List (List Int × List Int)) (an : List (List Int)) : (PCk p q g l an).1.length ≤ 7 ∧ (PCk p q g l an).2.2.1.length ≤ 7 ∧ (PCk p q g l an).2.2.2.length ≤ 7 := by
  unfold PCk; split
  · rename_i h
    obtain ⟨h1, h2⟩ := okQ_use h
    obtain ⟨h3, _, _⟩ := kg_use h1
    obtain ⟨h4, _⟩ := shB_of h3
    have hG := M.goodB_of h4
    exact ckW_le hG.p3 hG.q2 h2
  · simp
noncomputable def c_kgCombine : Con0 := conF [(.pair .int (.pair .int .int)), (.list (.pair (.list .int) (.list .int))), (.list (.list .int))] fun (⟨⟨p, q, g⟩, l, an, _⟩ : (Int × Int × Int) × (List (List Int × List Int)) × (List (List Int)) × Unit) => (M.Grp p q g ∧ QIn p q l an, .tup [.agg [.own 0 (ckW p q g l an).1.length, .lit (.int .i64 (ckW p q g l an).2.1), .own 1 (ckW p q g l an).2.2.1.length, .own 2 (ckW p q g l an).2.2.2.length], .lit (.bool (!(((qIx p q g l an l.length).length : Int) == 0)))], [.row 3 .int (ckW p q g l an).1, .row 3 .int (ckW p q g l an).2.2.1, .row 3 .int (ckW p q g l an).2.2.2])
noncomputable def G_kgCombine : List (FuncId × Con) := [(88, mk c_kgQualified), (155, mk c_sSum)]
theorem G_kgCombine_ok : ∀ f C, (f, C) ∈ G_kgCombine → C.ok Try.prog f := by
  intro f C h
  simp only [G_kgCombine, List.mem_cons, Prod.mk.injEq, List.not_mem_nil, or_false] at h
  rcases h with ⟨rfl, rfl⟩ | ⟨rfl, rfl⟩
  · exact ok_kgQualified
  · exact ok_sSum
set_option maxRecDepth 100000 in
set_option maxHeartbeats 4000000 in
theorem ok_kgCombine : (mk c_kgCombine).ok Try.prog 103 := okF (Θ := Th) (N := 35) (rs := [.cell 6 55, .tmp 7]) Th_ok Try.func103 (by kernel_rfl) rfl Try.results103 (by decide) (by kernel_rfl) fun (⟨⟨p, q, g⟩, l, an, _⟩ : (Int × Int × Int) × (List (List Int × List Int)) × (List (List Int)) × Unit) => ⟨rfl, rfl, Nat.le_of_ble_eq_true rfl, fun hc w0 => by
  have hL := dmy_eq
  try dsimp only at hc
  try dsimp only
  obtain ⟨hG, hQ⟩ := hc
  have hq2 := hG.q2
  have hqp := hG.qp
  have hp3 := hG.p3
  have hpM := hG.pM
  have hgb : 0 ≤ g ∧ g < p := ⟨by have := hG.g2; omega, hG.gp⟩
  have hll := hQ.ds.len
  have hdm := hQ.ds.dim
  have hal := hQ.len
  have hxle := qIx_le (p := p) (q := q) (g := g) (l := l) (an := an) (k := l.length)
  refine AWp.body rfl ?_
  repeat' first
    | ((with_reducible refine hK _ _ ?_); clear hK K)
    | ((with_reducible refine hK _ _ (by kernel_rfl) ?_); clear hK K)
    | ((with_reducible refine AWp.pS Th_ok G_kgCombine_ok [0, 1, 2, 3, 6, 7, 8, 9, 10, 20] (by decide) ?_); intro K hK)
    | ((with_reducible refine AWp.dS (by kernel_rfl) Th_ok G_kgCombine_ok [0, 1, 2, 3, 6, 7, 8, 9, 10, 20] ?_); intro K hK)
    | ((with_reducible refine AWp.pE Th_ok G_kgCombine_ok [0, 1, 2, 3, 6, 7, 8, 9, 10, 20] (by decide) ?_); intro K hK)
    | ((with_reducible refine AWp.dE (by kernel_rfl) Th_ok G_kgCombine_ok [0, 1, 2, 3, 6, 7, 8, 9, 10, 20] ?_); intro K hK)
    | ((first | with_reducible refine runF_id ?_ | with_reducible refine stepF_id ?_); simp (maxSteps := 2000000) only [runF, stepF, forkOf, gdOf, List.toList_toArray, stepOp, look, opAV, pureOp, callOp, memOp, AS.ev, AS.get, AS.obj, initS, initFrom, AV.cells, AS.upd, Option.bind_some, Option.bind_none, Option.map_some, Option.map_none, Option.getD_none, Option.getD_some, ↓reduceIte, Nat.reduceEqDiff, Nat.reduceAdd, Nat.reduceMul, Nat.reduceSub, List.nil_append, List.append_nil, List.cons_append, List.map_cons, List.map_nil, true_and, and_true, AS.fin, pick, dedup, List.mem_cons, List.not_mem_nil, or_false, false_or, List.size_toArray, List.length_cons, List.length_nil, loadAV, List.drop_zero, List.drop_succ_cons, List.take_zero, List.take_succ_cons, List.getElem?_cons_zero, List.getElem?_cons_succ, List.head?_cons, List.mapM_cons, List.mapM_nil, Option.bind_eq_bind, Option.pure_def, deeps3, deep3, deep2, deep1, deeps, deeps2, mixInts, AV.plain, mk, mkD, DCon.lift, DCon.runC, ren3, ren2, ren1, numb, List.zipIdx_nil, List.zipIdx_cons, List.all_nil, List.all_cons, Nat.reduceLeDiff, List.range, List.range.loop, Ty.sz, beq_self_eq_true, Bool.and_self, and_self, Ty.ofC, AO.isDead, Nat.reduceLT, if_true, Nat.zero_add, Nat.add_zero, ite_true, Nat.le_refl, Bool.false_eq_true, reduceCtorEq, if_false, ite_false, binAV, AO.ren, AV.isCell, fillAV, List.set_cons_zero, List.set_cons_succ, Ty.cells, Ty.flat, Ty.dflt, List.getD_cons_zero, List.getD_cons_succ, Int.reduceToNat, Int.reduceSub, Int.reduceAdd, Int.reduceMul, Int.reduceNeg, forall_eq_or_imp, forall_eq, gdL, id_eq, Nat.lt_irrefl, srcOf, List.replicate_succ, List.replicate_zero, dite_true, List.isEmpty_cons, Option.isSome_some, List.length_append, List.length_singleton, bne_self_eq_false, Bool.not_true, Bool.not_false, conF, asArgs, asArg, asTy, asI1, asB1, asS1, asL1, canons, canon, Fork.true_, Fork.false_, bne, Bool.not_not, List.length_map, pickO, AS.over, TI.bl, bne_iff_ne, AS.over2, without, keys, List.mem_singleton, memOp2, memOp3, absorb, abInt, abBool, abStr, abList, gones, Int.toNat_natCast, List.take_length, subE, List.nodup_cons, List.nodup_nil, not_false_eq_true, Nat.sub_self, conR, asG, asI, asBo, asStr, asIs, asBs, asE4, asI2, asI3, asLL, asLLL, Th_int, Th_SSint, Th_Sint, Th_implDealing, Th_implGroup, Th_implKeyGen, Th_implSDealing, Th_lawsGroup, Th_lawsSDealing, Th_string, G_kgCombine, c_kgQualified, c_sSum, hL])
    | ((with_reducible refine ens_step ?_ (fun hE => ?_)); · ((repeat' with_reducible apply And.intro) <;> first | with_reducible assumption | omega | exact True.intro | with_reducible rfl | (show ByteArray.size _ ≤ _; decide) | (simp; done) | (simp; omega) | rfl))
    | ((with_reducible refine And.intro ?_ ?_); · ((repeat' with_reducible apply And.intro) <;> first | with_reducible assumption | omega | exact True.intro | with_reducible rfl | (show ByteArray.size _ ≤ _; decide) | (simp; done) | (simp; omega) | rfl))
    | ((with_reducible refine Fork.intro (fun h' => ?_) (fun h' => ?_)) <;> (try simp only [Bool.not_eq_true', Bool.not_eq_false', bne] at h') <;> (replace hL := And.intro h' hL) <;> (try simp only [decide_eq_true_eq, decide_eq_false_iff_not, beq_iff_eq, beq_eq_false_iff_ne, ne_eq] at h') <;> (try (have hx0 : 0 < (qIx p q g l an l.length).length := (by omega); have hD := qMd_ok (g := g) hQ hx0; have hsd := sumD_ok hp3 hq2 hD; obtain ⟨⟨hsd1, hsd2⟩, _⟩ := hsd; have hdm2 := hD.dim; have hml := qMd_len (p := p) (q := q) (g := g) (l := l) (an := an) (k := l.length))))
    | (with_reducible refine AWp.skipS ?_)
    | ((with_reducible refine AWp.condT rfl ?_))
    | ((with_reducible refine AWp.condF rfl ?_))
    | (with_reducible refine AWp.condB rfl ?_)
    | ((with_reducible refine AWp.ret_id ?_); refine AWp.sub (Sub.nilBox 8 0 100000 3 .int rfl rfl rfl) ?_)
    | ((with_reducible refine AWp.ret_id ?_); refine AWp.sub (Sub.nilBox 8 2 100002 3 .int rfl rfl rfl) ?_)
    | ((with_reducible refine AWp.ret_id ?_); refine AWp.sub (Sub.nilBox 8 3 100003 3 .int rfl rfl rfl) ?_)
    | (with_reducible refine AWp.ret ?_)
    | (with_reducible refine seqQ_n ?_)
    | (with_reducible refine seqQ_ret ?_)
    | (with_reducible refine blkQ_ret ?_)
    | (with_reducible refine blkQ_n ?_)
    | (with_reducible refine seqQ_exit ?_)
    | (with_reducible refine blkQ_exit ?_)
    | (with_reducible refine blkQ_other (by decide) ?_)
    | (with_reducible refine AWp.block ?_)
    | (with_reducible refine AWp.exit ?_)
    | (with_reducible refine AWp.skip ?_)
    | ((with_reducible refine EndsAt_id ?_); (try subst_vars); (try simp only [ckW, hL, List.length_cons, List.length_nil, Nat.zero_add, Nat.reduceAdd, Bool.and_true, Bool.and_false, Bool.true_and, Bool.false_and, Bool.and_self, ↓reduceIte, Bool.false_eq_true, Bool.not_true, Bool.not_false, bne]); refine EndsAt.done [_, _, _] (by first | exact .inr rfl | exact .inl rfl) rfl rfl ?_ ?_ <;> first | decide | (repeat' (first | rfl | apply And.intro | trivial)))
    | (with_reducible refine AWp.seq ?_)⟩
noncomputable def c_CombineKeyS : Con0 := conF [(.pair .int (.pair .int .int)), (.list (.pair (.list .int) (.list .int))), (.list (.list .int))] fun (⟨⟨p, q, g⟩, l, an, _⟩ : (Int × Int × Int) × (List (List Int × List Int)) × (List (List Int)) × Unit) => (l.length ≤ 9223372036854775806 ∧ an.length ≤ 9223372036854775806, .tup [.agg [.own 0 (PCk p q g l an).1.length, .lit (.int .i64 (PCk p q g l an).2.1), .own 1 (PCk p q g l an).2.2.1.length, .own 2 (PCk p q g l an).2.2.2.length], .lit (.bool (okC p q g l an))], [.row 3 .int (PCk p q g l an).1, .row 3 .int (PCk p q g l an).2.2.1, .row 3 .int (PCk p q g l an).2.2.2])
noncomputable def G_CombineKeyS : List (FuncId × Con) := [(87, mk c_kgAnswers), (103, mk c_kgCombine)]
theorem G_CombineKeyS_ok : ∀ f C, (f, C) ∈ G_CombineKeyS → C.ok Try.prog f := by
  intro f C h
  simp only [G_CombineKeyS, List.mem_cons, Prod.mk.injEq, List.not_mem_nil, or_false] at h
  rcases h with ⟨rfl, rfl⟩ | ⟨rfl, rfl⟩
  · exact ok_kgAnswers
  · exact ok_kgCombine
set_option maxRecDepth 100000 in
set_option maxHeartbeats 4000000 in
theorem ok_CombineKeyS : (mk c_CombineKeyS).ok Try.prog 39 := okF (Θ := Th) (N := 20) (rs := [.cell 6 55, .tmp 7]) Th_ok Try.func39 (by kernel_rfl) rfl Try.results39 (by decide) (by kernel_rfl) fun (⟨⟨p, q, g⟩, l, an, _⟩ : (Int × Int × Int) × (List (List Int × List Int)) × (List (List Int)) × Unit) => ⟨rfl, rfl, Nat.le_of_ble_eq_true rfl, fun hc w0 => by
  have hL := dmy_eq
  try dsimp only at hc
  try dsimp only
  obtain ⟨hbl, hba⟩ := hc
  refine AWp.body rfl ?_
  repeat' first
    | ((with_reducible refine hK _ _ ?_); clear hK K)
    | ((with_reducible refine hK _ _ (by kernel_rfl) ?_); clear hK K)
    | ((with_reducible refine AWp.pS Th_ok G_CombineKeyS_ok [0, 1, 2, 3, 6, 7, 12] (by decide) ?_); intro K hK)
    | ((with_reducible refine AWp.dS (by kernel_rfl) Th_ok G_CombineKeyS_ok [0, 1, 2, 3, 6, 7, 12] ?_); intro K hK)
    | ((with_reducible refine AWp.pE Th_ok G_CombineKeyS_ok [0, 1, 2, 3, 6, 7, 12] (by decide) ?_); intro K hK)
    | ((with_reducible refine AWp.dE (by kernel_rfl) Th_ok G_CombineKeyS_ok [0, 1, 2, 3, 6, 7, 12] ?_); intro K hK)
    | ((first | with_reducible refine runF_id ?_ | with_reducible refine stepF_id ?_); simp (maxSteps := 2000000) only [runF, stepF, forkOf, gdOf, List.toList_toArray, stepOp, look, opAV, pureOp, callOp, memOp, AS.ev, AS.get, AS.obj, initS, initFrom, AV.cells, AS.upd, Option.bind_some, Option.bind_none, Option.map_some, Option.map_none, Option.getD_none, Option.getD_some, ↓reduceIte, Nat.reduceEqDiff, Nat.reduceAdd, Nat.reduceMul, Nat.reduceSub, List.nil_append, List.append_nil, List.cons_append, List.map_cons, List.map_nil, true_and, and_true, AS.fin, pick, dedup, List.mem_cons, List.not_mem_nil, or_false, false_or, List.size_toArray, List.length_cons, List.length_nil, loadAV, List.drop_zero, List.drop_succ_cons, List.take_zero, List.take_succ_cons, List.getElem?_cons_zero, List.getElem?_cons_succ, List.head?_cons, List.mapM_cons, List.mapM_nil, Option.bind_eq_bind, Option.pure_def, deeps3, deep3, deep2, deep1, deeps, deeps2, mixInts, AV.plain, mk, mkD, DCon.lift, DCon.runC, ren3, ren2, ren1, numb, List.zipIdx_nil, List.zipIdx_cons, List.all_nil, List.all_cons, Nat.reduceLeDiff, List.range, List.range.loop, Ty.sz, beq_self_eq_true, Bool.and_self, and_self, Ty.ofC, AO.isDead, Nat.reduceLT, if_true, Nat.zero_add, Nat.add_zero, ite_true, Nat.le_refl, Bool.false_eq_true, reduceCtorEq, if_false, ite_false, binAV, AO.ren, AV.isCell, fillAV, List.set_cons_zero, List.set_cons_succ, Ty.cells, Ty.flat, Ty.dflt, List.getD_cons_zero, List.getD_cons_succ, Int.reduceToNat, Int.reduceSub, Int.reduceAdd, Int.reduceMul, Int.reduceNeg, forall_eq_or_imp, forall_eq, gdL, id_eq, Nat.lt_irrefl, srcOf, List.replicate_succ, List.replicate_zero, dite_true, List.isEmpty_cons, Option.isSome_some, List.length_append, List.length_singleton, bne_self_eq_false, Bool.not_true, Bool.not_false, conF, asArgs, asArg, asTy, asI1, asB1, asS1, asL1, canons, canon, Fork.true_, Fork.false_, bne, Bool.not_not, List.length_map, pickO, AS.over, TI.bl, bne_iff_ne, AS.over2, without, keys, List.mem_singleton, memOp2, memOp3, absorb, abInt, abBool, abStr, abList, gones, Int.toNat_natCast, List.take_length, subE, List.nodup_cons, List.nodup_nil, not_false_eq_true, Nat.sub_self, conR, asG, asI, asBo, asStr, asIs, asBs, asE4, asI2, asI3, asLL, asLLL, Th_int, Th_SSint, Th_bool, Th_implGroup, Th_implKeyGen, Th_implSDealing, Th_implSPartial, Th_lawsCipher, Th_string, G_CombineKeyS, c_kgAnswers, c_kgCombine, hL])
    | ((with_reducible refine ens_step ?_ (fun hE => ?_)); · ((repeat' with_reducible apply And.intro) <;> first | with_reducible assumption | omega | exact True.intro | with_reducible rfl | (show ByteArray.size _ ≤ _; decide) | (simp; done) | (simp; omega) | rfl))
    | ((with_reducible refine And.intro ?_ ?_); · ((repeat' with_reducible apply And.intro) <;> first | with_reducible assumption | omega | exact True.intro | with_reducible rfl | (show ByteArray.size _ ≤ _; decide) | (simp; done) | (simp; omega) | rfl))
    | ((with_reducible refine Fork.intro (fun h' => ?_) (fun h' => ?_)) <;> (try simp only [Bool.not_eq_true', Bool.not_eq_false', bne] at h') <;> (replace hL := And.intro h' hL) <;> (try simp only [decide_eq_true_eq, decide_eq_false_iff_not, beq_iff_eq, beq_eq_false_iff_ne, ne_eq] at h') <;> (try (have hoq : okQ p q g l an = true := h'; have hkq := okQ_use hoq; obtain ⟨hkg, hQ⟩ := hkq; have hku := kg_use hkg; obtain ⟨hsB, hds, hdn⟩ := hku; have hsh := shB_of hsB; obtain ⟨hgd, hq7⟩ := hsh; have hG := M.goodB_of hgd; have hwl := ckW_le (g := g) hG.p3 hG.q2 hQ)))
    | (with_reducible refine AWp.skipS ?_)
    | ((with_reducible refine AWp.condT rfl ?_))
    | ((with_reducible refine AWp.condF rfl ?_))
    | (with_reducible refine AWp.condB rfl ?_)
    | ((with_reducible refine AWp.ret_id ?_); refine AWp.sub (Sub.nilBox 8 0 100000 3 .int rfl rfl rfl) ?_)
    | ((with_reducible refine AWp.ret_id ?_); refine AWp.sub (Sub.nilBox 8 2 100002 3 .int rfl rfl rfl) ?_)
    | ((with_reducible refine AWp.ret_id ?_); refine AWp.sub (Sub.nilBox 8 3 100003 3 .int rfl rfl rfl) ?_)
    | (with_reducible refine AWp.ret ?_)
    | (with_reducible refine seqQ_n ?_)
    | (with_reducible refine seqQ_ret ?_)
    | (with_reducible refine blkQ_ret ?_)
    | (with_reducible refine blkQ_n ?_)
    | (with_reducible refine seqQ_exit ?_)
    | (with_reducible refine blkQ_exit ?_)
    | (with_reducible refine blkQ_other (by decide) ?_)
    | (with_reducible refine AWp.block ?_)
    | (with_reducible refine AWp.exit ?_)
    | (with_reducible refine AWp.skip ?_)
    | ((with_reducible refine EndsAt_id ?_); (try subst_vars); (try simp only [PCk, okC, hL, List.length_cons, List.length_nil, Nat.zero_add, Nat.reduceAdd, Bool.and_true, Bool.and_false, Bool.true_and, Bool.false_and, Bool.and_self, ↓reduceIte, Bool.false_eq_true, Bool.not_true, Bool.not_false, bne]); refine EndsAt.done [_, _, _] (by first | exact .inr rfl | exact .inl rfl) rfl rfl ?_ ?_ <;> first | decide | (repeat' (first | rfl | apply And.intro | trivial)))
    | (with_reducible refine AWp.seq ?_)⟩
theorem readT_DD {a b : List Int} : readT (.pair (.list .int) (.list .int)) [.sl .int a, .sl .int b] = some ((a, b) : List Int × List Int) := rfl
noncomputable def c_CombineKeyI : Con0 := conF [(.pair .int (.pair .int .int)), (.list (.pair (.list .int) (.list .int))), (.list (.list .int))] fun (⟨⟨p, q, g⟩, l, an, _⟩ : (Int × Int × Int) × (List (List Int × List Int)) × (List (List Int)) × Unit) => (l.length ≤ 9223372036854775806 ∧ an.length ≤ 9223372036854775806, .tup [.agg [.own 0 (PCk p q g l an).1.length, .lit (.int .i64 (PCk p q g l an).2.1), .own 1 (PCk p q g l an).2.2.1.length, .own 2 (PCk p q g l an).2.2.2.length], .lit (.bool (okC p q g l an))], [.row 3 .int (PCk p q g l an).1, .row 3 .int (PCk p q g l an).2.2.1, .row 3 .int (PCk p q g l an).2.2.2])
noncomputable def G_CombineKeyI : List (FuncId × Con) := [(28, mk c_QualifiedInI), (104, mk c_Clone), (85, mk c_bad), (105, mk c_sumOf)]
theorem G_CombineKeyI_ok : ∀ f C, (f, C) ∈ G_CombineKeyI → C.ok Try.prog f := by
  intro f C h
  simp only [G_CombineKeyI, List.mem_cons, Prod.mk.injEq, List.not_mem_nil, or_false] at h
  rcases h with ⟨rfl, rfl⟩ | ⟨rfl, rfl⟩ | ⟨rfl, rfl⟩ | ⟨rfl, rfl⟩
  · exact ok_QualifiedInI
  · exact ok_Clone
  · exact ok_bad
  · exact ok_sumOf
set_option maxRecDepth 100000 in
set_option maxHeartbeats 4000000 in
theorem ok_CombineKeyI : (mk c_CombineKeyI).ok Try.prog 40 := okF (Θ := Th) (N := 91) (rs := [.cell 6 55, .tmp 7]) Th_ok Try.func40 (by kernel_rfl) rfl Try.results40 (by decide) (by kernel_rfl) fun (⟨⟨p, q, g⟩, l, an, _⟩ : (Int × Int × Int) × (List (List Int × List Int)) × (List (List Int)) × Unit) => ⟨rfl, rfl, Nat.le_of_ble_eq_true rfl, fun hc w0 => by
  have hL := dmy_eq
  try dsimp only at hc
  try dsimp only
  obtain ⟨hbl, hba⟩ := hc
  refine AWp.body rfl ?_
  repeat' first
    | ((with_reducible refine AWp.codeAt 15 rfl ?_); refine AWp.sub (Sub.freeze 14 296 _ rfl rfl (by omega)) ?_)
    | ((with_reducible refine hK _ _ ?_); clear hK K)
    | ((with_reducible refine hK _ _ (by kernel_rfl) ?_); clear hK K)
    | ((with_reducible refine AWp.pS Th_ok G_CombineKeyI_ok [0, 1, 2, 3, 6, 7, 8, 9, 10, 12, 13, 14, 15, 16, 17, 31, 34, 35, 36, 37, 50, 51, 52, 53] (by decide) ?_); intro K hK)
    | ((with_reducible refine AWp.dS (by kernel_rfl) Th_ok G_CombineKeyI_ok [0, 1, 2, 3, 6, 7, 8, 9, 10, 12, 13, 14, 15, 16, 17, 31, 34, 35, 36, 37, 50, 51, 52, 53] ?_); intro K hK)
    | ((with_reducible refine AWp.pE Th_ok G_CombineKeyI_ok [0, 1, 2, 3, 6, 7, 8, 9, 10, 12, 13, 14, 15, 16, 17, 31, 34, 35, 36, 37, 50, 51, 52, 53] (by decide) ?_); intro K hK)
    | ((with_reducible refine AWp.dE (by kernel_rfl) Th_ok G_CombineKeyI_ok [0, 1, 2, 3, 6, 7, 8, 9, 10, 12, 13, 14, 15, 16, 17, 31, 34, 35, 36, 37, 50, 51, 52, 53] ?_); intro K hK)
    | ((first | with_reducible refine runF_id ?_ | with_reducible refine stepF_id ?_); simp (maxSteps := 2000000) only [runF, stepF, forkOf, gdOf, List.toList_toArray, stepOp, look, opAV, pureOp, callOp, memOp, AS.ev, AS.get, AS.obj, initS, initFrom, AV.cells, AS.upd, Option.bind_some, Option.bind_none, Option.map_some, Option.map_none, Option.getD_none, Option.getD_some, ↓reduceIte, Nat.reduceEqDiff, Nat.reduceAdd, Nat.reduceMul, Nat.reduceSub, List.nil_append, List.append_nil, List.cons_append, List.map_cons, List.map_nil, true_and, and_true, AS.fin, pick, dedup, List.mem_cons, List.not_mem_nil, or_false, false_or, List.size_toArray, List.length_cons, List.length_nil, loadAV, List.drop_zero, List.drop_succ_cons, List.take_zero, List.take_succ_cons, List.getElem?_cons_zero, List.getElem?_cons_succ, List.head?_cons, List.mapM_cons, List.mapM_nil, Option.bind_eq_bind, Option.pure_def, deeps3, deep3, deep2, deep1, deeps, deeps2, mixInts, AV.plain, mk, mkD, DCon.lift, DCon.runC, ren3, ren2, ren1, numb, List.zipIdx_nil, List.zipIdx_cons, List.all_nil, List.all_cons, Nat.reduceLeDiff, List.range, List.range.loop, Ty.sz, beq_self_eq_true, Bool.and_self, and_self, Ty.ofC, AO.isDead, Nat.reduceLT, if_true, Nat.zero_add, Nat.add_zero, ite_true, Nat.le_refl, Bool.false_eq_true, reduceCtorEq, if_false, ite_false, binAV, AO.ren, AV.isCell, fillAV, List.set_cons_zero, List.set_cons_succ, Ty.cells, Ty.flat, Ty.dflt, List.getD_cons_zero, List.getD_cons_succ, Int.reduceToNat, Int.reduceSub, Int.reduceAdd, Int.reduceMul, Int.reduceNeg, forall_eq_or_imp, forall_eq, gdL, id_eq, Nat.lt_irrefl, srcOf, List.replicate_succ, List.replicate_zero, dite_true, List.isEmpty_cons, Option.isSome_some, List.length_append, List.length_singleton, bne_self_eq_false, Bool.not_true, Bool.not_false, conF, asArgs, asArg, asTy, asI1, asB1, asS1, asL1, canons, canon, Fork.true_, Fork.false_, bne, Bool.not_not, List.length_map, pickO, AS.over, TI.bl, bne_iff_ne, AS.over2, without, keys, List.mem_singleton, memOp2, memOp3, absorb, abInt, abBool, abStr, abList, gones, Int.toNat_natCast, List.take_length, subE, List.nodup_cons, List.nodup_nil, not_false_eq_true, Nat.sub_self, conR, asG, asI, asBo, asStr, asIs, asBs, asE4, asI2, asI3, asLL, asLLL, Th_int, Th_SSint, Th_Sint, Th_bool, Th_implDealing, Th_implGroup, Th_implKeyGen, Th_implPartial, Th_implProof, Th_implSDealing, Th_implSFault, Th_lawsCipher, Th_lawsDealing, Th_lawsGroup, Th_lawsKeyGen, Th_lawsProof, Th_lawsSDealing, Th_lawsSFault, Th_string, G_CombineKeyI, c_QualifiedInI, c_Clone, c_bad, c_sumOf, readT_DD, hL])
    | ((with_reducible refine ens_step ?_ (fun hE => ?_)); · ((repeat' with_reducible apply And.intro) <;> first | with_reducible assumption | omega | exact True.intro | with_reducible rfl | (show ByteArray.size _ ≤ _; decide) | (simp; done) | (simp; omega) | rfl))
    | ((with_reducible refine And.intro ?_ ?_); · ((repeat' with_reducible apply And.intro) <;> first | with_reducible assumption | omega | exact True.intro | with_reducible rfl | (show ByteArray.size _ ≤ _; decide) | (simp; done) | (simp; omega) | rfl))
    | ((with_reducible refine Fork.intro (fun h' => ?_) (fun h' => ?_)) <;> (try simp only [Bool.not_eq_true', Bool.not_eq_false', bne] at h') <;> (replace hL := And.intro h' hL) <;> (try simp only [decide_eq_true_eq, decide_eq_false_iff_not, beq_iff_eq, beq_eq_false_iff_ne, ne_eq] at h') <;> (try (have hoq : okQ p q g l an = true := h'; have hkq := okQ_use hoq; obtain ⟨hkg, hQ⟩ := hkq; have hku := kg_use hkg; obtain ⟨hsB, hds, hdn⟩ := hku; have hsh := shB_of hsB; obtain ⟨hgd, hq7⟩ := hsh; have hG := M.goodB_of hgd; have hpq := PQi_t hoq; have hxle := qIx_le (p := p) (q := q) (g := g) (l := l) (an := an) (k := l.length); have hq2 := hG.q2; have hqp := hG.qp; have hp3 := hG.p3; have hpM := hG.pM; have hdm := hQ.ds.dim; have hll := hQ.ds.len; have hal := hQ.len; replace hL := And.intro hpq hL)) <;> (try (have hx0 : 0 < (qIx p q g l an l.length).length := (by omega); have hD := qMd_ok (g := g) hQ hx0; have hsd := sumD_ok hp3 hq2 hD; obtain ⟨⟨hsd1, hsd2⟩, _⟩ := hsd; have hdm2 := hD.dim; have hml := qMd_len (p := p) (q := q) (g := g) (l := l) (an := an) (k := l.length))) <;> (try (have hxm := qIx_mem (getD_in 0 (xs := (qIx p q g l an l.length)) (k := k) (by omega)); obtain ⟨hxb, hxq⟩ := hxm; obtain ⟨⟨hxq1, hxq2⟩, hxq3⟩ := qlB_use hxq; have hdk := hQ.ds.at (k := ((qIx p q g l an l.length).getD k 0 - 1).toNat) (by omega); obtain ⟨hk3, hk4, hk5, hk6⟩ := hdk; have hna := naB_at hQ.no (k := ((qIx p q g l an l.length).getD k 0 - 1).toNat) (by omega); obtain ⟨hn1, hn2⟩ := hna; have hmt := qMt_step (p := p) (q := q) (g := g) (l := l) (an := an) (k := k) (by omega); have hblj := badL_le p q g (l.getD ((qIx p q g l an l.length).getD k 0 - 1).toNat ([], [])).1 (l.getD ((qIx p q g l an l.length).getD k 0 - 1).toNat ([], [])).2)) <;> (try (have hbk := badL_at (p := p) (q := q) (g := g) (cs := (l.getD ((qIx p q g l an l.length).getD k 0 - 1).toNat ([], [])).1) (ss := (l.getD ((qIx p q g l an l.length).getD k 0 - 1).toNat ([], [])).2) (k := j) (by omega); have hoj := getD_bd' hn2 (k := j) (by omega); rw [mndF_at (by omega) (by omega)] at hy2)) <;> (try (have hje : j = (badL p q g (l.getD ((qIx p q g l an l.length).getD k 0 - 1).toNat ([], [])).1 (l.getD ((qIx p q g l an l.length).getD k 0 - 1).toNat ([], [])).2).length := (by omega); subst hje; rw [mndF_end] at hy2; subst hy2)) <;> (try (have hke : k = (qIx p q g l an l.length).length := (by omega); subst hke; have hmte := qMt_end (p := p) (q := q) (g := g) (l := l) (an := an); replace hL := And.intro hmte hL)))
    | (with_reducible refine AWp.skipS ?_)
    | ((with_reducible refine AWp.condT rfl ?_))
    | ((with_reducible refine AWp.condF rfl ?_))
    | (with_reducible refine AWp.condB rfl ?_)
    | ((with_reducible refine AWp.ret_id ?_); refine AWp.sub (Sub.nilBox 8 0 100000 3 .int rfl rfl rfl) ?_)
    | ((with_reducible refine AWp.ret_id ?_); refine AWp.sub (Sub.nilBox 8 2 100002 3 .int rfl rfl rfl) ?_)
    | ((with_reducible refine AWp.ret_id ?_); refine AWp.sub (Sub.nilBox 8 3 100003 3 .int rfl rfl rfl) ?_)
    | (with_reducible refine AWp.ret ?_)
    | (with_reducible refine seqQ_n ?_)
    | (with_reducible refine seqQ_ret ?_)
    | (with_reducible refine blkQ_ret ?_)
    | (with_reducible refine blkQ_n ?_)
    | (with_reducible refine seqQ_exit ?_)
    | (with_reducible refine blkQ_exit ?_)
    | (with_reducible refine blkQ_other (by decide) ?_)
    | (with_reducible refine AWp.block ?_)
    | (with_reducible refine AWp.exit ?_)
    | (with_reducible refine AWp.skip ?_)
    | ((with_reducible refine loop_id ?_); refine AWp.loopAt 6 rfl ?_; refine AWp.sub (Sub.toLst 152 rfl) ?_; refine AWp.loopO [10, 12, 13, 14, 15, 16, 36, 37, 38, 39, 40, 41, 42, 43, 44, 45, 46, 47, 48, 49, 50, 51, 52, 53, 54, 55, 56, 57, 58, 59, 60, 61, 62, 63, 64, 65, 66, 67, 68, 69, 70, 71, 72, 73, 74, 75, 76, 77] (fun k => [(36, .lit (.int .i64 (k : Nat))), (10, .own 152 k)]) (fun k => [(152, .lst 81 (.pair (.list .int) (.list .int)) (qMt p q g l an k))]) (fun k => k ≤ (qIx p q g l an l.length).length) (fun k => (qIx p q g l an l.length).length - k) 0 (by omega) (by refine Sub.auto (by first | exact frok0 | assumption) rfl rfl ?_ ?_ <;> (try simp only [subE, AS.over2, without, keys, look, List.cons_append, List.nil_append, List.append_nil, List.mem_cons, List.not_mem_nil, or_false, or_true, true_or, false_or, Nat.reduceEqDiff, ↓reduceIte, Option.some.injEq, AV.lit.injEq, Value.int.injEq, Value.bool.injEq, AV.own.injEq, AO.row.injEq, AO.box.injEq, List.cons.injEq, AV.agg.injEq, AV.sl.injEq, true_and, and_true, and_self, heq_eq_eq, List.length_nil, List.length_cons, List.map_nil, List.take_zero, Int.natCast_add, Int.cast_ofNat_Int, Int.natCast_zero, List.length_append, List.length_map, List.length_take, Nat.zero_add]) <;> ((repeat' apply And.intro) <;> first | rfl | (simp [qMt]; done))) (fun k hk_6 L6 hLoop6 => ?_); have htl := qMt_len (p := p) (q := q) (g := g) (l := l) (an := an) (k := k) (by omega))
    | ((with_reducible refine seqQ_f ?_); refine hLoop6 (k + 1) _ (by omega) (by omega) ?_; (refine Sub.auto (by first | exact frok0 | assumption) rfl rfl ?_ ?_ <;> (try simp only [subE, AS.over2, without, keys, look, List.cons_append, List.nil_append, List.append_nil, List.mem_cons, List.not_mem_nil, or_false, or_true, true_or, false_or, Nat.reduceEqDiff, ↓reduceIte, Option.some.injEq, AV.lit.injEq, Value.int.injEq, Value.bool.injEq, AV.own.injEq, AO.row.injEq, AO.box.injEq, List.cons.injEq, AV.agg.injEq, AV.sl.injEq, true_and, and_true, and_self, heq_eq_eq, List.length_nil, List.length_cons, List.map_nil, List.take_zero, Int.natCast_add, Int.cast_ofNat_Int, Int.natCast_zero, List.length_append, List.length_map, List.length_take, Nat.zero_add]) <;> ((repeat' apply And.intro) <;> first | rfl | omega | exact hmt | (rw [hmt]) | (simp; done))))
    | ((with_reducible refine loop_id ?_); refine AWp.loopAt 11 rfl ?_; refine AWp.loopO [15, 16, 52, 53, 54, 55, 56, 57, 58, 59, 60, 61, 62, 63, 64, 65, 66, 67, 68, 69] (fun z : Nat × List Int => [(52, .lit (.int .i64 (z.1 : Nat)))]) (fun z => [(296, .row 3 .int z.2)]) (fun z => z.1 ≤ (badL p q g (l.getD ((qIx p q g l an l.length).getD k 0 - 1).toNat ([], [])).1 (l.getD ((qIx p q g l an l.length).getD k 0 - 1).toNat ([], [])).2).length ∧ mndF ((badL p q g (l.getD ((qIx p q g l an l.length).getD k 0 - 1).toNat ([], [])).1 (l.getD ((qIx p q g l an l.length).getD k 0 - 1).toNat ([], [])).2).drop z.1) ((an.getD ((qIx p q g l an l.length).getD k 0 - 1).toNat []).drop z.1) z.2 = mndL p q g (l.getD ((qIx p q g l an l.length).getD k 0 - 1).toNat ([], [])).1 (l.getD ((qIx p q g l an l.length).getD k 0 - 1).toNat ([], [])).2 (an.getD ((qIx p q g l an l.length).getD k 0 - 1).toNat []) ∧ z.2.length = (l.getD ((qIx p q g l an l.length).getD k 0 - 1).toNat ([], [])).2.length) (fun z => (badL p q g (l.getD ((qIx p q g l an l.length).getD k 0 - 1).toNat ([], [])).1 (l.getD ((qIx p q g l an l.length).getD k 0 - 1).toNat ([], [])).2).length - z.1) (0, (l.getD ((qIx p q g l an l.length).getD k 0 - 1).toNat ([], [])).2) (by (try dsimp only); exact ⟨by omega, rfl, rfl⟩) (by (refine Sub.auto (by first | exact frok0 | assumption) rfl rfl ?_ ?_ <;> (try simp only [subE, AS.over2, without, keys, look, List.cons_append, List.nil_append, List.append_nil, List.mem_cons, List.not_mem_nil, or_false, or_true, true_or, false_or, Nat.reduceEqDiff, ↓reduceIte, Option.some.injEq, AV.lit.injEq, Value.int.injEq, Value.bool.injEq, AV.own.injEq, AO.row.injEq, AO.box.injEq, List.cons.injEq, AV.agg.injEq, AV.sl.injEq, true_and, and_true, and_self, heq_eq_eq, List.length_nil, List.length_cons, List.map_nil, List.take_zero, Int.natCast_add, Int.cast_ofNat_Int, Int.natCast_zero, List.length_append, List.length_map, List.length_take, Nat.zero_add]) <;> (simp))) (fun z hz11 L11 hLoop11 => ?_); obtain ⟨j, s⟩ := z; (try dsimp only at hz11); obtain ⟨hy1, hy2, hy3⟩ := hz11)
    | ((with_reducible refine seqQ_f ?_); refine hLoop11 (j + 1, s.set ((badL p q g (l.getD ((qIx p q g l an l.length).getD k 0 - 1).toNat ([], [])).1 (l.getD ((qIx p q g l an l.length).getD k 0 - 1).toNat ([], [])).2).getD j 0 - 1).toNat ((an.getD ((qIx p q g l an l.length).getD k 0 - 1).toNat []).getD j 0)) _ (by (try dsimp only); exact ⟨by omega, hy2, by rw [List.length_set]; exact hy3⟩) (by (try dsimp only); omega) ?_; ((refine Sub.auto (by first | exact frok0 | assumption) rfl rfl ?_ ?_ <;> (try simp only [subE, AS.over2, without, keys, look, List.cons_append, List.nil_append, List.append_nil, List.mem_cons, List.not_mem_nil, or_false, or_true, true_or, false_or, Nat.reduceEqDiff, ↓reduceIte, Option.some.injEq, AV.lit.injEq, Value.int.injEq, Value.bool.injEq, AV.own.injEq, AO.row.injEq, AO.box.injEq, List.cons.injEq, AV.agg.injEq, AV.sl.injEq, true_and, and_true, and_self, heq_eq_eq, List.length_nil, List.length_cons, List.map_nil, List.take_zero, Int.natCast_add, Int.cast_ofNat_Int, Int.natCast_zero, List.length_append, List.length_map, List.length_take, Nat.zero_add]) <;> ((repeat' apply And.intro) <;> first | rfl | omega | (simp; done)))))
    | ((with_reducible refine EndsAt_id ?_); (try subst_vars); (try simp only [PCk, okC, ckW, hL, List.length_cons, List.length_nil, Nat.zero_add, Nat.reduceAdd, Bool.and_true, Bool.and_false, Bool.true_and, Bool.false_and, Bool.and_self, ↓reduceIte, Bool.false_eq_true, Bool.not_true, Bool.not_false, bne]); refine EndsAt.done [_, _, _] (by first | exact .inr rfl | exact .inl rfl) rfl rfl ?_ ?_ <;> first | decide | (repeat' (first | rfl | apply And.intro | trivial)))
    | (with_reducible refine AWp.seq ?_)⟩
def ckD (X : List Int × Int × List Int × List Int) (kq : List Int) (kk : Int) (kc ks : List Int) : Int := if sameB X.1 kq = true then (if (X.2.1 == kk) = true then (if sameB X.2.2.1 kc = true then (if sameB X.2.2.2 ks = true then 0 else 4) else 3) else 2) else 1
noncomputable def ckV (p q g : Int) (l : List (List Int × List Int)) (an : List (List Int)) (kq : List Int) (kk : Int) (kc ks : List Int) : Int := if okC p q g l an = true then ckD (PCk p q g l an) kq kk kc ks else 0
noncomputable def c_CheckKeyGenI : Con0 := conF [(.pair .int (.pair .int .int)), (.list (.pair (.list .int) (.list .int))), (.list (.list .int)), (.pair (.list .int) (.pair .int (.pair (.list .int) (.list .int))))] fun (⟨⟨p, q, g⟩, l, an, ⟨kq, kk, kc, ks⟩, _⟩ : (Int × Int × Int) × (List (List Int × List Int)) × (List (List Int)) × ((List Int) × Int × (List Int) × (List Int)) × Unit) => (l.length ≤ 9223372036854775806 ∧ an.length ≤ 9223372036854775806 ∧ kq.length ≤ 9223372036854775806 ∧ kc.length ≤ 9223372036854775806 ∧ ks.length ≤ 9223372036854775806, .tup [.lit (.int .i64 (ckV p q g l an kq kk kc ks)), .lit (.bool (okC p q g l an))], [])
noncomputable def G_CheckKeyGenI : List (FuncId × Con) := [(40, mk c_CombineKeyI), (107, mk c_sliceEqual)]
theorem G_CheckKeyGenI_ok : ∀ f C, (f, C) ∈ G_CheckKeyGenI → C.ok Try.prog f := by
  intro f C h
  simp only [G_CheckKeyGenI, List.mem_cons, Prod.mk.injEq, List.not_mem_nil, or_false] at h
  rcases h with ⟨rfl, rfl⟩ | ⟨rfl, rfl⟩
  · exact ok_CombineKeyI
  · exact ok_sliceEqual
set_option maxRecDepth 100000 in
set_option maxHeartbeats 4000000 in
theorem ok_CheckKeyGenI : (mk c_CheckKeyGenI).ok Try.prog 47 := okF (Θ := Th) (N := 49) (rs := [.tmp 8, .tmp 9]) Th_ok Try.func47 (by kernel_rfl) rfl Try.results47 (by decide) (by kernel_rfl) fun (⟨⟨p, q, g⟩, l, an, ⟨kq, kk, kc, ks⟩, _⟩ : (Int × Int × Int) × (List (List Int × List Int)) × (List (List Int)) × ((List Int) × Int × (List Int) × (List Int)) × Unit) => ⟨rfl, rfl, Nat.le_of_ble_eq_true rfl, fun hc w0 => by
  have hL := dmy_eq
  try dsimp only at hc
  try dsimp only
  obtain ⟨hbl, hba, hb1, hb2, hb3⟩ := hc
  have hpl := PCk_le p q g l an
  obtain ⟨hpl1, hpl2, hpl3⟩ := hpl
  refine AWp.body rfl ?_
  repeat' first
    | ((with_reducible refine hK _ _ ?_); clear hK K)
    | ((with_reducible refine hK _ _ (by kernel_rfl) ?_); clear hK K)
    | ((with_reducible refine AWp.pS Th_ok G_CheckKeyGenI_ok [0, 1, 2, 3, 4, 7, 8, 9, 10, 11, 19, 22, 29, 35, 42] (by decide) ?_); intro K hK)
    | ((with_reducible refine AWp.dS (by kernel_rfl) Th_ok G_CheckKeyGenI_ok [0, 1, 2, 3, 4, 7, 8, 9, 10, 11, 19, 22, 29, 35, 42] ?_); intro K hK)
    | ((with_reducible refine AWp.pE Th_ok G_CheckKeyGenI_ok [0, 1, 2, 3, 4, 7, 8, 9, 10, 11, 19, 22, 29, 35, 42] (by decide) ?_); intro K hK)
    | ((with_reducible refine AWp.dE (by kernel_rfl) Th_ok G_CheckKeyGenI_ok [0, 1, 2, 3, 4, 7, 8, 9, 10, 11, 19, 22, 29, 35, 42] ?_); intro K hK)
    | ((first | with_reducible refine runF_id ?_ | with_reducible refine stepF_id ?_); simp (maxSteps := 2000000) only [runF, stepF, forkOf, gdOf, List.toList_toArray, stepOp, look, opAV, pureOp, callOp, memOp, AS.ev, AS.get, AS.obj, initS, initFrom, AV.cells, AS.upd, Option.bind_some, Option.bind_none, Option.map_some, Option.map_none, Option.getD_none, Option.getD_some, ↓reduceIte, Nat.reduceEqDiff, Nat.reduceAdd, Nat.reduceMul, Nat.reduceSub, List.nil_append, List.append_nil, List.cons_append, List.map_cons, List.map_nil, true_and, and_true, AS.fin, pick, dedup, List.mem_cons, List.not_mem_nil, or_false, false_or, List.size_toArray, List.length_cons, List.length_nil, loadAV, List.drop_zero, List.drop_succ_cons, List.take_zero, List.take_succ_cons, List.getElem?_cons_zero, List.getElem?_cons_succ, List.head?_cons, List.mapM_cons, List.mapM_nil, Option.bind_eq_bind, Option.pure_def, deeps3, deep3, deep2, deep1, deeps, deeps2, mixInts, AV.plain, mk, mkD, DCon.lift, DCon.runC, ren3, ren2, ren1, numb, List.zipIdx_nil, List.zipIdx_cons, List.all_nil, List.all_cons, Nat.reduceLeDiff, List.range, List.range.loop, Ty.sz, beq_self_eq_true, Bool.and_self, and_self, Ty.ofC, AO.isDead, Nat.reduceLT, if_true, Nat.zero_add, Nat.add_zero, ite_true, Nat.le_refl, Bool.false_eq_true, reduceCtorEq, if_false, ite_false, binAV, AO.ren, AV.isCell, fillAV, List.set_cons_zero, List.set_cons_succ, Ty.cells, Ty.flat, Ty.dflt, List.getD_cons_zero, List.getD_cons_succ, Int.reduceToNat, Int.reduceSub, Int.reduceAdd, Int.reduceMul, Int.reduceNeg, forall_eq_or_imp, forall_eq, gdL, id_eq, Nat.lt_irrefl, srcOf, List.replicate_succ, List.replicate_zero, dite_true, List.isEmpty_cons, Option.isSome_some, List.length_append, List.length_singleton, bne_self_eq_false, Bool.not_true, Bool.not_false, conF, asArgs, asArg, asTy, asI1, asB1, asS1, asL1, canons, canon, Fork.true_, Fork.false_, bne, Bool.not_not, List.length_map, pickO, AS.over, TI.bl, bne_iff_ne, AS.over2, without, keys, List.mem_singleton, memOp2, memOp3, absorb, abInt, abBool, abStr, abList, gones, Int.toNat_natCast, List.take_length, subE, List.nodup_cons, List.nodup_nil, not_false_eq_true, Nat.sub_self, conR, asG, asI, asBo, asStr, asIs, asBs, asE4, asI2, asI3, asLL, asLLL, Th_int, Th_SSint, Th_Sint, Th_bool, Th_implGroup, Th_implKeyGen, Th_implSDealing, Th_lawsGroup, Th_lawsSDealing, Th_lawsSFault, G_CheckKeyGenI, c_CombineKeyI, c_sliceEqual, hL])
    | ((with_reducible refine ens_step ?_ (fun hE => ?_)); · ((repeat' with_reducible apply And.intro) <;> first | with_reducible assumption | omega | exact True.intro | with_reducible rfl | (show ByteArray.size _ ≤ _; decide) | (simp; done) | (simp; omega) | rfl))
    | ((with_reducible refine And.intro ?_ ?_); · ((repeat' with_reducible apply And.intro) <;> first | with_reducible assumption | omega | exact True.intro | with_reducible rfl | (show ByteArray.size _ ≤ _; decide) | (simp; done) | (simp; omega) | rfl))
    | ((with_reducible refine Fork.intro (fun h' => ?_) (fun h' => ?_)) <;> (try simp only [Bool.not_eq_true', Bool.not_eq_false', bne] at h') <;> (replace hL := And.intro h' hL) <;> (try simp only [decide_eq_true_eq, decide_eq_false_iff_not, beq_iff_eq, beq_eq_false_iff_ne, ne_eq] at h'))
    | (with_reducible refine AWp.skipS ?_)
    | ((with_reducible refine AWp.condT rfl ?_))
    | ((with_reducible refine AWp.condF rfl ?_))
    | (with_reducible refine AWp.condB rfl ?_)
    | (with_reducible refine AWp.ret ?_)
    | (with_reducible refine seqQ_n ?_)
    | (with_reducible refine seqQ_ret ?_)
    | (with_reducible refine blkQ_ret ?_)
    | (with_reducible refine blkQ_n ?_)
    | (with_reducible refine seqQ_exit ?_)
    | (with_reducible refine blkQ_exit ?_)
    | (with_reducible refine blkQ_other (by decide) ?_)
    | (with_reducible refine AWp.block ?_)
    | (with_reducible refine AWp.exit ?_)
    | (with_reducible refine AWp.skip ?_)
    | ((with_reducible refine EndsAt_id ?_); (try subst_vars); (try simp only [ckV, ckD, hL, List.length_cons, List.length_nil, Nat.zero_add, Nat.reduceAdd, Bool.and_true, Bool.and_false, Bool.true_and, Bool.false_and, Bool.and_self, ↓reduceIte, Bool.false_eq_true, Bool.not_true, Bool.not_false, bne]); refine EndsAt.done [] (by first | exact .inr rfl | exact .inl rfl) rfl rfl ?_ ?_ <;> first | decide | (repeat' (first | rfl | apply And.intro | trivial)))
    | (with_reducible refine AWp.seq ?_)⟩
noncomputable def c_CheckKeyGenS : Con0 := conF [(.pair .int (.pair .int .int)), (.list (.pair (.list .int) (.list .int))), (.list (.list .int)), (.pair (.list .int) (.pair .int (.pair (.list .int) (.list .int))))] fun (⟨⟨p, q, g⟩, l, an, ⟨kq, kk, kc, ks⟩, _⟩ : (Int × Int × Int) × (List (List Int × List Int)) × (List (List Int)) × ((List Int) × Int × (List Int) × (List Int)) × Unit) => (l.length ≤ 9223372036854775806 ∧ an.length ≤ 9223372036854775806 ∧ kq.length ≤ 9223372036854775806 ∧ kc.length ≤ 9223372036854775806 ∧ ks.length ≤ 9223372036854775806, .tup [.lit (.int .i64 (ckV p q g l an kq kk kc ks)), .lit (.bool (okC p q g l an))], [])
noncomputable def G_CheckKeyGenS : List (FuncId × Con) := [(39, mk c_CombineKeyS), (106, mk c_l1Same)]
theorem G_CheckKeyGenS_ok : ∀ f C, (f, C) ∈ G_CheckKeyGenS → C.ok Try.prog f := by
  intro f C h
  simp only [G_CheckKeyGenS, List.mem_cons, Prod.mk.injEq, List.not_mem_nil, or_false] at h
  rcases h with ⟨rfl, rfl⟩ | ⟨rfl, rfl⟩
  · exact ok_CombineKeyS
  · exact ok_l1Same
set_option maxRecDepth 100000 in
set_option maxHeartbeats 4000000 in
theorem ok_CheckKeyGenS : (mk c_CheckKeyGenS).ok Try.prog 45 := okF (Θ := Th) (N := 49) (rs := [.tmp 8, .tmp 9]) Th_ok Try.func45 (by kernel_rfl) rfl Try.results45 (by decide) (by kernel_rfl) fun (⟨⟨p, q, g⟩, l, an, ⟨kq, kk, kc, ks⟩, _⟩ : (Int × Int × Int) × (List (List Int × List Int)) × (List (List Int)) × ((List Int) × Int × (List Int) × (List Int)) × Unit) => ⟨rfl, rfl, Nat.le_of_ble_eq_true rfl, fun hc w0 => by
  have hL := dmy_eq
  try dsimp only at hc
  try dsimp only
  obtain ⟨hbl, hba, hb1, hb2, hb3⟩ := hc
  have hpl := PCk_le p q g l an
  obtain ⟨hpl1, hpl2, hpl3⟩ := hpl
  have hs1 := sameB_sw (PCk p q g l an).1 kq
  have hs2 := eqI_sw (PCk p q g l an).2.1 kk
  have hs3 := sameB_sw (PCk p q g l an).2.2.1 kc
  have hs4 := sameB_sw (PCk p q g l an).2.2.2 ks
  replace hL := And.intro hs1 (And.intro hs2 (And.intro hs3 (And.intro hs4 hL)))
  refine AWp.body rfl ?_
  repeat' first
    | ((with_reducible refine hK _ _ ?_); clear hK K)
    | ((with_reducible refine hK _ _ (by kernel_rfl) ?_); clear hK K)
    | ((with_reducible refine AWp.pS Th_ok G_CheckKeyGenS_ok [0, 1, 2, 3, 4, 7, 8, 9, 10, 11, 19, 22, 29, 35, 42] (by decide) ?_); intro K hK)
    | ((with_reducible refine AWp.dS (by kernel_rfl) Th_ok G_CheckKeyGenS_ok [0, 1, 2, 3, 4, 7, 8, 9, 10, 11, 19, 22, 29, 35, 42] ?_); intro K hK)
    | ((with_reducible refine AWp.pE Th_ok G_CheckKeyGenS_ok [0, 1, 2, 3, 4, 7, 8, 9, 10, 11, 19, 22, 29, 35, 42] (by decide) ?_); intro K hK)
    | ((with_reducible refine AWp.dE (by kernel_rfl) Th_ok G_CheckKeyGenS_ok [0, 1, 2, 3, 4, 7, 8, 9, 10, 11, 19, 22, 29, 35, 42] ?_); intro K hK)
    | ((first | with_reducible refine runF_id ?_ | with_reducible refine stepF_id ?_); simp (maxSteps := 2000000) only [runF, stepF, forkOf, gdOf, List.toList_toArray, stepOp, look, opAV, pureOp, callOp, memOp, AS.ev, AS.get, AS.obj, initS, initFrom, AV.cells, AS.upd, Option.bind_some, Option.bind_none, Option.map_some, Option.map_none, Option.getD_none, Option.getD_some, ↓reduceIte, Nat.reduceEqDiff, Nat.reduceAdd, Nat.reduceMul, Nat.reduceSub, List.nil_append, List.append_nil, List.cons_append, List.map_cons, List.map_nil, true_and, and_true, AS.fin, pick, dedup, List.mem_cons, List.not_mem_nil, or_false, false_or, List.size_toArray, List.length_cons, List.length_nil, loadAV, List.drop_zero, List.drop_succ_cons, List.take_zero, List.take_succ_cons, List.getElem?_cons_zero, List.getElem?_cons_succ, List.head?_cons, List.mapM_cons, List.mapM_nil, Option.bind_eq_bind, Option.pure_def, deeps3, deep3, deep2, deep1, deeps, deeps2, mixInts, AV.plain, mk, mkD, DCon.lift, DCon.runC, ren3, ren2, ren1, numb, List.zipIdx_nil, List.zipIdx_cons, List.all_nil, List.all_cons, Nat.reduceLeDiff, List.range, List.range.loop, Ty.sz, beq_self_eq_true, Bool.and_self, and_self, Ty.ofC, AO.isDead, Nat.reduceLT, if_true, Nat.zero_add, Nat.add_zero, ite_true, Nat.le_refl, Bool.false_eq_true, reduceCtorEq, if_false, ite_false, binAV, AO.ren, AV.isCell, fillAV, List.set_cons_zero, List.set_cons_succ, Ty.cells, Ty.flat, Ty.dflt, List.getD_cons_zero, List.getD_cons_succ, Int.reduceToNat, Int.reduceSub, Int.reduceAdd, Int.reduceMul, Int.reduceNeg, forall_eq_or_imp, forall_eq, gdL, id_eq, Nat.lt_irrefl, srcOf, List.replicate_succ, List.replicate_zero, dite_true, List.isEmpty_cons, Option.isSome_some, List.length_append, List.length_singleton, bne_self_eq_false, Bool.not_true, Bool.not_false, conF, asArgs, asArg, asTy, asI1, asB1, asS1, asL1, canons, canon, Fork.true_, Fork.false_, bne, Bool.not_not, List.length_map, pickO, AS.over, TI.bl, bne_iff_ne, AS.over2, without, keys, List.mem_singleton, memOp2, memOp3, absorb, abInt, abBool, abStr, abList, gones, Int.toNat_natCast, List.take_length, subE, List.nodup_cons, List.nodup_nil, not_false_eq_true, Nat.sub_self, conR, asG, asI, asBo, asStr, asIs, asBs, asE4, asI2, asI3, asLL, asLLL, Th_int, Th_SSint, Th_Sint, Th_bool, Th_implGroup, Th_implKeyGen, Th_implSDealing, Th_lawsGroup, Th_lawsSDealing, Th_lawsSFault, G_CheckKeyGenS, c_CombineKeyS, c_l1Same, hL])
    | ((with_reducible refine ens_step ?_ (fun hE => ?_)); · ((repeat' with_reducible apply And.intro) <;> first | with_reducible assumption | omega | exact True.intro | with_reducible rfl | (show ByteArray.size _ ≤ _; decide) | (simp; done) | (simp; omega) | rfl))
    | ((with_reducible refine And.intro ?_ ?_); · ((repeat' with_reducible apply And.intro) <;> first | with_reducible assumption | omega | exact True.intro | with_reducible rfl | (show ByteArray.size _ ≤ _; decide) | (simp; done) | (simp; omega) | rfl))
    | ((with_reducible refine Fork.intro (fun h' => ?_) (fun h' => ?_)) <;> (try simp only [Bool.not_eq_true', Bool.not_eq_false', bne] at h') <;> (replace hL := And.intro h' hL) <;> (try simp only [decide_eq_true_eq, decide_eq_false_iff_not, beq_iff_eq, beq_eq_false_iff_ne, ne_eq] at h'))
    | (with_reducible refine AWp.skipS ?_)
    | ((with_reducible refine AWp.condT rfl ?_))
    | ((with_reducible refine AWp.condF rfl ?_))
    | (with_reducible refine AWp.condB rfl ?_)
    | (with_reducible refine AWp.ret ?_)
    | (with_reducible refine seqQ_n ?_)
    | (with_reducible refine seqQ_ret ?_)
    | (with_reducible refine blkQ_ret ?_)
    | (with_reducible refine blkQ_n ?_)
    | (with_reducible refine seqQ_exit ?_)
    | (with_reducible refine blkQ_exit ?_)
    | (with_reducible refine blkQ_other (by decide) ?_)
    | (with_reducible refine AWp.block ?_)
    | (with_reducible refine AWp.exit ?_)
    | (with_reducible refine AWp.skip ?_)
    | ((with_reducible refine EndsAt_id ?_); (try subst_vars); (try simp only [ckV, ckD, hL, List.length_cons, List.length_nil, Nat.zero_add, Nat.reduceAdd, Bool.and_true, Bool.and_false, Bool.true_and, Bool.false_and, Bool.and_self, ↓reduceIte, Bool.false_eq_true, Bool.not_true, Bool.not_false, bne]); refine EndsAt.done [] (by first | exact .inr rfl | exact .inl rfl) rfl rfl ?_ ?_ <;> first | decide | (repeat' (first | rfl | apply And.intro | trivial)))
    | (with_reducible refine AWp.seq ?_)⟩
end Go.Proofs.Ytlggpehioflbdaa
