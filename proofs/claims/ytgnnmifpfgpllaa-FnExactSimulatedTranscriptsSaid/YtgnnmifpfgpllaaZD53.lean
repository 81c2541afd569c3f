import Derived.Test.YtgnnmifpfgpllaaZD52
/- Transcripts of the implementation. -/
set_option linter.all false
set_option linter.unusedVariables false
set_option linter.unusedSimpArgs false
namespace Go.Proofs.Ytgnnmifpfgpllaa
open Go.RowKit
noncomputable def cntT (p q g : Int) : Bool := decide (q ≤ 23) && M.goodB p q g
theorem cntT_use {p q g : Int} (h : cntT p q g = true) : q ≤ 23 ∧ M.goodB p q g = true := by unfold cntT at h; simpa using h
theorem elemsB_1t {p q a : Int} : elemsB p q [a] = elemB p q a := by simp [elemsB]
noncomputable def rF (p q b s : Int) (i j : Nat) : (Int × Int × Int) := (M.gpw p q b i, (j : Int), ((i : Int) + j * s) % q)
noncomputable def sF (p q b y : Int) (i j : Nat) : (Int × Int × Int) := (simC p q b y i j, (i : Int), (j : Int))
noncomputable def sG (p q b y : Int) (i j : Nat) : (Int × Int × Int) := sF p q b y j i
noncomputable def tN (F : Nat → Nat → (Int × Int × Int)) (q : Int) : List (Int × Int × Int) := tL F q.toNat q.toNat 0
noncomputable def okRt (p q g u v : Int) : Bool := cntT p q g && elemB p q u && inr v 0 (q - 1)
noncomputable def okSt (p q g u v : Int) : Bool := cntT p q g && elemsB p q [u, v]
noncomputable def PRt (p q g u v : Int) : List (Int × Int × Int) := if okRt p q g u v = true then putsT (tN (rF p q u v) q) else []
noncomputable def PSt (p q g u v : Int) : List (Int × Int × Int) := if okSt p q g u v = true then putsT (tN (sF p q u v) q) else []
theorem srt_put {l : List (Int × Int × Int)} : srtT l = putsT l := srtT_puts (List.Perm.refl _)
theorem sG_put {p q u v : Int} : putsT (tN (sG p q u v) q) = putsT (tN (sF p q u v) q) := by
  have h : (tN (sG p q u v) q).Perm (tN (sF p q u v) q) := tL_swap
  rw [← srt_put, srtT_puts h]
theorem rF_step {p q u v : Int} {n a j : Nat} : insT (M.gpw p q u a, (j : Int), ((a : Int) + j * v) % q) (putsT (tL (rF p q u v) n a j)) = putsT (tL (rF p q u v) n a (j + 1)) := ps_step (F := rF p q u v)
theorem sG_step {p q u v : Int} {n a j : Nat} : insT (simC p q u v j a, (j : Int), (a : Int)) (putsT (tL (sG p q u v) n a j)) = putsT (tL (sG p q u v) n a (j + 1)) := ps_step (F := sG p q u v)
theorem tN_le {F : Nat → Nat → (Int × Int × Int)} {q : Int} (h : q ≤ 23) : (tN F q).length ≤ 600 := tL_le (by omega) (by omega) (by omega)
theorem PRt_le {p q g u v : Int} : (PRt p q g u v).length ≤ 600 := by
  unfold PRt; split
  · rename_i h
    simp only [okRt, Bool.and_eq_true] at h
    rw [putsT_len]
    exact tN_le (cntT_use h.1.1).1
  · simp
theorem PSt_le {p q g u v : Int} : (PSt p q g u v).length ≤ 600 := by
  unfold PSt; split
  · rename_i h
    simp only [okSt, Bool.and_eq_true] at h
    rw [putsT_len]
    exact tN_le (cntT_use h.1).1
  · simp
theorem two_b {p a b : Int} (h1 : 0 ≤ a ∧ a < p) (h2 : 0 ≤ b ∧ b < p) : ∀ x ∈ [a, b], 0 ≤ x ∧ x < p := by
  intro x hx; simp only [List.mem_cons, List.not_mem_nil, or_false] at hx; rcases hx with rfl | rfl <;> assumption
noncomputable def c_isCounted : Con0 := conF [(.pair .int (.pair .int .int))] fun (⟨⟨p, q, g⟩, _⟩ : (Int × Int × Int) × Unit) => (True, .lit (.bool (cntT p q g)), [])
noncomputable def G_isCounted : List (FuncId × Con) := [(82, mk c_isValidGroup)]
theorem G_isCounted_ok : ∀ f C, (f, C) ∈ G_isCounted → C.ok Try.prog f := by
  intro f C h
  simp only [G_isCounted, List.mem_cons, Prod.mk.injEq, List.not_mem_nil, or_false] at h
  obtain ⟨rfl, rfl⟩ := h
  exact ok_isValidGroup
set_option maxRecDepth 100000 in
set_option maxHeartbeats 4000000 in
theorem ok_isCounted : (mk c_isCounted).ok Try.prog 69 := okF (Θ := Th) (N := 10) (rs := [.tmp 2]) Th_ok Try.func69 (by kernel_rfl) rfl Try.results69 (by decide) (by kernel_rfl) fun (⟨⟨p, q, g⟩, _⟩ : (Int × Int × Int) × Unit) => ⟨rfl, rfl, Nat.le_of_ble_eq_true rfl, fun hc w0 => by
  have hL := dmy_eq
  try dsimp only at hc
  try dsimp only
  refine AWp.body rfl ?_
  repeat' first
    | ((with_reducible refine hK _ _ ?_); clear hK K)
    | ((with_reducible refine hK _ _ (by kernel_rfl) ?_); clear hK K)
    | ((with_reducible refine AWp.pS Th_ok G_isCounted_ok [0, 1, 2] (by decide) ?_); intro K hK)
    | ((with_reducible refine AWp.dS (by kernel_rfl) Th_ok G_isCounted_ok [0, 1, 2] ?_); intro K hK)
    | ((with_reducible refine AWp.pE Th_ok G_isCounted_ok [0, 1, 2] (by decide) ?_); intro K hK)
    | ((with_reducible refine AWp.dE (by kernel_rfl) Th_ok G_isCounted_ok [0, 1, 2] ?_); intro K hK)
    | ((first | with_reducible refine runF_id ?_ | with_reducible refine stepF_id ?_); simp (maxSteps := 2000000) only [runF, stepF, forkOf, gdOf, List.toList_toArray, stepOp, look, opAV, pureOp, callOp, memOp, AS.ev, AS.get, AS.obj, initS, initFrom, AV.cells, AS.upd, Option.bind_some, Option.bind_none, Option.map_some, Option.map_none, Option.getD_none, Option.getD_some, ↓reduceIte, Nat.reduceEqDiff, Nat.reduceAdd, Nat.reduceMul, Nat.reduceSub, List.nil_append, List.append_nil, List.cons_append, List.map_cons, List.map_nil, true_and, and_true, AS.fin, pick, dedup, List.mem_cons, List.not_mem_nil, or_false, false_or, List.size_toArray, List.length_cons, List.length_nil, loadAV, List.drop_zero, List.drop_succ_cons, List.take_zero, List.take_succ_cons, List.getElem?_cons_zero, List.getElem?_cons_succ, List.head?_cons, List.mapM_cons, List.mapM_nil, Option.bind_eq_bind, Option.pure_def, deeps3, deep3, deep2, deep1, deeps, deeps2, mixInts, AV.plain, mk, mkD, DCon.lift, DCon.runC, ren3, ren2, ren1, numb, List.zipIdx_nil, List.zipIdx_cons, List.all_nil, List.all_cons, Nat.reduceLeDiff, List.range, List.range.loop, Ty.sz, beq_self_eq_true, Bool.and_self, and_self, Ty.ofC, AO.isDead, Nat.reduceLT, if_true, Nat.zero_add, Nat.add_zero, ite_true, Nat.le_refl, Bool.false_eq_true, reduceCtorEq, if_false, ite_false, binAV, AO.ren, AV.isCell, fillAV, List.set_cons_zero, List.set_cons_succ, Ty.cells, Ty.flat, Ty.dflt, List.getD_cons_zero, List.getD_cons_succ, Int.reduceToNat, Int.reduceSub, Int.reduceAdd, Int.reduceMul, Int.reduceNeg, forall_eq_or_imp, forall_eq, gdL, id_eq, Nat.lt_irrefl, srcOf, List.replicate_succ, List.replicate_zero, dite_true, List.isEmpty_cons, Option.isSome_some, List.length_append, List.length_singleton, bne_self_eq_false, Bool.not_true, Bool.not_false, conF, asArgs, asArg, asTy, asI1, asB1, asS1, asL1, canons, canon, Fork.true_, Fork.false_, bne, Bool.not_not, List.length_map, pickO, AS.over, TI.bl, bne_iff_ne, AS.over2, without, keys, List.mem_singleton, memOp2, memOp3, absorb, abInt, abBool, abStr, abList, gones, Int.toNat_natCast, List.take_length, subE, List.nodup_cons, List.nodup_nil, not_false_eq_true, Nat.sub_self, conR, asG, asI, asBo, asStr, asIs, asBs, asE4, asI2, asI3, asLL, asLLL, Th_int, Th_bool, Th_implGroup, Th_lawsGroup, Th_string, G_isCounted, c_isValidGroup, hL])
    | ((with_reducible refine ens_step ?_ (fun hE => ?_)); · ((repeat' with_reducible apply And.intro) <;> first | with_reducible assumption | omega | exact True.intro | with_reducible rfl | (show ByteArray.size _ ≤ _; decide) | (simp; done) | (simp; omega) | rfl))
    | ((with_reducible refine And.intro ?_ ?_); · ((repeat' with_reducible apply And.intro) <;> first | with_reducible assumption | omega | exact True.intro | with_reducible rfl | (show ByteArray.size _ ≤ _; decide) | (simp; done) | (simp; omega) | rfl))
    | ((with_reducible refine Fork.intro (fun h' => ?_) (fun h' => ?_)) <;> (try simp only [Bool.not_eq_true', Bool.not_eq_false', bne] at h') <;> (replace hL := And.intro h' hL) <;> (try simp only [decide_eq_true_eq, decide_eq_false_iff_not, beq_iff_eq, beq_eq_false_iff_ne, ne_eq] at h'))
    | (with_reducible refine AWp.skipS ?_)
    | ((with_reducible refine AWp.condT rfl ?_))
    | ((with_reducible refine AWp.condF rfl ?_))
    | (with_reducible refine AWp.condB rfl ?_)
    | (with_reducible refine AWp.ret ?_)
    | (with_reducible refine seqQ_n ?_)
    | (with_reducible refine seqQ_ret ?_)
    | (with_reducible refine blkQ_ret ?_)
    | (with_reducible refine blkQ_n ?_)
    | (with_reducible refine seqQ_exit ?_)
    | (with_reducible refine blkQ_exit ?_)
    | (with_reducible refine blkQ_other (by decide) ?_)
    | (with_reducible refine AWp.block ?_)
    | (with_reducible refine AWp.exit ?_)
    | (with_reducible refine AWp.skip ?_)
    | ((with_reducible refine EndsAt_id ?_); (try subst_vars); (try simp only [cntT, hL, List.length_cons, List.length_nil, Nat.zero_add, Nat.reduceAdd, Bool.and_true, Bool.and_false, Bool.true_and, Bool.false_and, Bool.and_self, ↓reduceIte, Bool.false_eq_true, Bool.not_true, Bool.not_false, bne]); refine EndsAt.done [] (by first | exact .inr rfl | exact .inl rfl) rfl rfl ?_ ?_ <;> first | decide | (repeat' (first | rfl | apply And.intro | trivial)))
    | (with_reducible refine AWp.seq ?_)⟩
noncomputable def c_simM : Con0 := conF [(.pair .int (.pair .int .int)), .int, .int, .int, .int] fun (⟨⟨p, q, g⟩, b, y, e, z, _⟩ : (Int × Int × Int) × Int × Int × Int × Int × Unit) => (M.Grp p q g ∧ (0 ≤ b ∧ b < p) ∧ (0 ≤ y ∧ y < p) ∧ (-9000000000000000000 ≤ e ∧ e ≤ 9000000000000000000) ∧ (-9000000000000000000 ≤ z ∧ z ≤ 9000000000000000000), .agg [.lit (.int .i64 (simC p q b y e z)), .lit (.int .i64 (e)), .lit (.int .i64 (z))], [])
noncomputable def G_simM : List (FuncId × Con) := [(55, mk c_pow), (54, mk c_mul)]
theorem G_simM_ok : ∀ f C, (f, C) ∈ G_simM → C.ok Try.prog f := by
  intro f C h
  simp only [G_simM, List.mem_cons, Prod.mk.injEq, List.not_mem_nil, or_false] at h
  rcases h with ⟨rfl, rfl⟩ | ⟨rfl, rfl⟩
  · exact ok_pow
  · exact ok_mul
set_option maxRecDepth 100000 in
set_option maxHeartbeats 4000000 in
theorem ok_simM : (mk c_simM).ok Try.prog 76 := okF (Θ := Th) (N := 26) (rs := [.cell 10 88]) Th_ok Try.func76 (by kernel_rfl) rfl Try.results76 (by decide) (by kernel_rfl) fun (⟨⟨p, q, g⟩, b, y, e, z, _⟩ : (Int × Int × Int) × Int × Int × Int × Int × Unit) => ⟨rfl, rfl, Nat.le_of_ble_eq_true rfl, fun hc w0 => by
  have hL := dmy_eq
  try dsimp only at hc
  try dsimp only
  obtain ⟨hG, hb, hy, he, hz⟩ := hc
  have hq2 := hG.q2
  have hqp := hG.qp
  have hp3 := hG.p3
  have hpM := hG.pM
  have hgb : 0 ≤ g ∧ g < p := ⟨by have := hG.g2; omega, hG.gp⟩
  have hb1 := gpw_bd (p := p) (q := q) (x := b) (e := z) hp3
  have hb2 := gpw_bd (p := p) (q := q) (x := y) (e := -e) hp3
  have hm2 : M.mulL p [M.gpw p q b z, M.gpw p q y (-e)] = simC p q b y e z := M.mulL_two hb1
  replace hL := And.intro hm2 hL
  refine AWp.body rfl ?_
  repeat' first
    | ((with_reducible refine hK _ _ ?_); clear hK K)
    | ((with_reducible refine hK _ _ (by kernel_rfl) ?_); clear hK K)
    | ((with_reducible refine AWp.pS Th_ok G_simM_ok [0, 1, 2, 3, 4, 5, 10] (by decide) ?_); intro K hK)
    | ((with_reducible refine AWp.dS (by kernel_rfl) Th_ok G_simM_ok [0, 1, 2, 3, 4, 5, 10] ?_); intro K hK)
    | ((with_reducible refine AWp.pE Th_ok G_simM_ok [0, 1, 2, 3, 4, 5, 10] (by decide) ?_); intro K hK)
    | ((with_reducible refine AWp.dE (by kernel_rfl) Th_ok G_simM_ok [0, 1, 2, 3, 4, 5, 10] ?_); intro K hK)
    | ((first | with_reducible refine runF_id ?_ | with_reducible refine stepF_id ?_); simp (maxSteps := 2000000) only [runF, stepF, forkOf, gdOf, List.toList_toArray, stepOp, look, opAV, pureOp, callOp, memOp, AS.ev, AS.get, AS.obj, initS, initFrom, AV.cells, AS.upd, Option.bind_some, Option.bind_none, Option.map_some, Option.map_none, Option.getD_none, Option.getD_some, ↓reduceIte, Nat.reduceEqDiff, Nat.reduceAdd, Nat.reduceMul, Nat.reduceSub, List.nil_append, List.append_nil, List.cons_append, List.map_cons, List.map_nil, true_and, and_true, AS.fin, pick, dedup, List.mem_cons, List.not_mem_nil, or_false, false_or, List.size_toArray, List.length_cons, List.length_nil, loadAV, List.drop_zero, List.drop_succ_cons, List.take_zero, List.take_succ_cons, List.getElem?_cons_zero, List.getElem?_cons_succ, List.head?_cons, List.mapM_cons, List.mapM_nil, Option.bind_eq_bind, Option.pure_def, deeps3, deep3, deep2, deep1, deeps, deeps2, mixInts, AV.plain, mk, mkD, DCon.lift, DCon.runC, ren3, ren2, ren1, numb, List.zipIdx_nil, List.zipIdx_cons, List.all_nil, List.all_cons, Nat.reduceLeDiff, List.range, List.range.loop, Ty.sz, beq_self_eq_true, Bool.and_self, and_self, Ty.ofC, AO.isDead, Nat.reduceLT, if_true, Nat.zero_add, Nat.add_zero, ite_true, Nat.le_refl, Bool.false_eq_true, reduceCtorEq, if_false, ite_false, binAV, AO.ren, AV.isCell, fillAV, List.set_cons_zero, List.set_cons_succ, Ty.cells, Ty.flat, Ty.dflt, List.getD_cons_zero, List.getD_cons_succ, Int.reduceToNat, Int.reduceSub, Int.reduceAdd, Int.reduceMul, Int.reduceNeg, forall_eq_or_imp, forall_eq, gdL, id_eq, Nat.lt_irrefl, srcOf, List.replicate_succ, List.replicate_zero, dite_true, List.isEmpty_cons, Option.isSome_some, List.length_append, List.length_singleton, bne_self_eq_false, Bool.not_true, Bool.not_false, conF, asArgs, asArg, asTy, asI1, asB1, asS1, asL1, canons, canon, Fork.true_, Fork.false_, bne, Bool.not_not, List.length_map, pickO, AS.over, TI.bl, bne_iff_ne, AS.over2, without, keys, List.mem_singleton, memOp2, memOp3, absorb, abInt, abBool, abStr, abList, gones, Int.toNat_natCast, List.take_length, subE, List.nodup_cons, List.nodup_nil, not_false_eq_true, Nat.sub_self, conR, asG, asI, asBo, asStr, asIs, asBs, asE4, asI2, asI3, asLL, asLLL, Th_int, Th_Sint, Th_bool, Th_implGroup, Th_implTranscript, Th_lawsGroup, G_simM, c_pow, c_mul, hL])
    | ((with_reducible refine ens_step ?_ (fun hE => ?_)); · ((repeat' with_reducible apply And.intro) <;> first | with_reducible assumption | omega | exact True.intro | with_reducible rfl | exact two_b hb1 hb2 | (show ByteArray.size _ ≤ _; decide) | (simp; done) | (simp; omega) | rfl))
    | ((with_reducible refine And.intro ?_ ?_); · ((repeat' with_reducible apply And.intro) <;> first | with_reducible assumption | omega | exact True.intro | with_reducible rfl | exact two_b hb1 hb2 | (show ByteArray.size _ ≤ _; decide) | (simp; done) | (simp; omega) | rfl))
    | ((with_reducible refine Fork.intro (fun h' => ?_) (fun h' => ?_)) <;> (try simp only [Bool.not_eq_true', Bool.not_eq_false', bne] at h') <;> (replace hL := And.intro h' hL) <;> (try simp only [decide_eq_true_eq, decide_eq_false_iff_not, beq_iff_eq, beq_eq_false_iff_ne, ne_eq] at h'))
    | (with_reducible refine AWp.skipS ?_)
    | ((with_reducible refine AWp.condT rfl ?_))
    | ((with_reducible refine AWp.condF rfl ?_))
    | (with_reducible refine AWp.condB rfl ?_)
    | (with_reducible refine AWp.ret ?_)
    | (with_reducible refine seqQ_n ?_)
    | (with_reducible refine seqQ_ret ?_)
    | (with_reducible refine blkQ_ret ?_)
    | (with_reducible refine blkQ_n ?_)
    | (with_reducible refine seqQ_exit ?_)
    | (with_reducible refine blkQ_exit ?_)
    | (with_reducible refine blkQ_other (by decide) ?_)
    | (with_reducible refine AWp.block ?_)
    | (with_reducible refine AWp.exit ?_)
    | (with_reducible refine AWp.skip ?_)
    | ((with_reducible refine EndsAt_id ?_); (try subst_vars); refine EndsAt.done [] (by first | exact .inr rfl | exact .inl rfl) rfl rfl ?_ ?_ <;> first | decide | (repeat' (first | rfl | apply And.intro | trivial)))
    | (with_reducible refine AWp.seq ?_)⟩
def m_rtP : List AV → Option (Int × Int × Int × Int × Int × Int × Int)
  | [.lit (.int .i64 c), .lit (.int .i64 e), .rp [.lit (.int .i64 p), .lit (.int .i64 q), .lit (.int .i64 g)], .rp [.lit (.int .i64 u)], .rp [.lit (.int .i64 v)]] => some (c, e, p, q, g, u, v)
  | _ => none
noncomputable def c_rtP : Con0 := conR m_rtP fun ((c, e, p, q, g, u, v) : Int × Int × Int × Int × Int × Int × Int) => (M.Grp p q g ∧ (0 ≤ u ∧ u < p) ∧ (0 ≤ v ∧ v < q) ∧ (0 ≤ c ∧ c < q) ∧ (0 ≤ e ∧ e < q), .agg [.lit (.int .i64 (M.gpw p q u c)), .lit (.int .i64 (e)), .lit (.int .i64 ((c + e * v) % q))], [])
noncomputable def G_rtP : List (FuncId × Con) := [(55, mk c_pow), (66, mk c_exp)]
theorem G_rtP_ok : ∀ f C, (f, C) ∈ G_rtP → C.ok Try.prog f := by
  intro f C h
  simp only [G_rtP, List.mem_cons, Prod.mk.injEq, List.not_mem_nil, or_false] at h
  rcases h with ⟨rfl, rfl⟩ | ⟨rfl, rfl⟩
  · exact ok_pow
  · exact ok_exp
set_option maxRecDepth 100000 in
set_option maxHeartbeats 4000000 in
theorem ok_rtP : (mk c_rtP).ok Try.prog 71 := okR (Θ := Th) (N := 21) (rs := [.cell 7 88]) Th_ok Try.func71 (by kernel_rfl) rfl Try.results71 (by decide) (by kernel_rfl) (fun ((c, e, p, q, g, u, v) : Int × Int × Int × Int × Int × Int × Int) => [.lit (.int .i64 c), .lit (.int .i64 e), .rp [.lit (.int .i64 p), .lit (.int .i64 q), .lit (.int .i64 g)], .rp [.lit (.int .i64 u)], .rp [.lit (.int .i64 v)]]) (fun args d h => by unfold m_rtP at h; split at h <;> cases h; rfl) fun ((c, e, p, q, g, u, v) : Int × Int × Int × Int × Int × Int × Int) => ⟨rfl, rfl, Nat.le_of_ble_eq_true rfl, fun hc w0 => by
  have hL := dmy_eq
  try dsimp only at hc
  try dsimp only
  obtain ⟨hG, hu, hv, hcc, he⟩ := hc
  have hq2 := hG.q2
  have hqp := hG.qp
  have hp3 := hG.p3
  have hpM := hG.pM
  have hgb : 0 ≤ g ∧ g < p := ⟨by have := hG.g2; omega, hG.gp⟩
  have hml := mul_bd (a := e) (b := v) (by omega) (by omega)
  refine AWp.body rfl ?_
  repeat' first
    | ((with_reducible refine hK _ _ ?_); clear hK K)
    | ((with_reducible refine hK _ _ (by kernel_rfl) ?_); clear hK K)
    | ((with_reducible refine AWp.pS Th_ok G_rtP_ok [0, 1, 2, 3, 4, 7] (by decide) ?_); intro K hK)
    | ((with_reducible refine AWp.dS (by kernel_rfl) Th_ok G_rtP_ok [0, 1, 2, 3, 4, 7] ?_); intro K hK)
    | ((with_reducible refine AWp.pE Th_ok G_rtP_ok [0, 1, 2, 3, 4, 7] (by decide) ?_); intro K hK)
    | ((with_reducible refine AWp.dE (by kernel_rfl) Th_ok G_rtP_ok [0, 1, 2, 3, 4, 7] ?_); intro K hK)
    | ((first | with_reducible refine runF_id ?_ | with_reducible refine stepF_id ?_); simp (maxSteps := 2000000) only [runF, stepF, forkOf, gdOf, List.toList_toArray, stepOp, look, opAV, pureOp, callOp, memOp, AS.ev, AS.get, AS.obj, initS, initFrom, AV.cells, AS.upd, Option.bind_some, Option.bind_none, Option.map_some, Option.map_none, Option.getD_none, Option.getD_some, ↓reduceIte, Nat.reduceEqDiff, Nat.reduceAdd, Nat.reduceMul, Nat.reduceSub, List.nil_append, List.append_nil, List.cons_append, List.map_cons, List.map_nil, true_and, and_true, AS.fin, pick, dedup, List.mem_cons, List.not_mem_nil, or_false, false_or, List.size_toArray, List.length_cons, List.length_nil, loadAV, List.drop_zero, List.drop_succ_cons, List.take_zero, List.take_succ_cons, List.getElem?_cons_zero, List.getElem?_cons_succ, List.head?_cons, List.mapM_cons, List.mapM_nil, Option.bind_eq_bind, Option.pure_def, deeps3, deep3, deep2, deep1, deeps, deeps2, mixInts, AV.plain, mk, mkD, DCon.lift, DCon.runC, ren3, ren2, ren1, numb, List.zipIdx_nil, List.zipIdx_cons, List.all_nil, List.all_cons, Nat.reduceLeDiff, List.range, List.range.loop, Ty.sz, beq_self_eq_true, Bool.and_self, and_self, Ty.ofC, AO.isDead, Nat.reduceLT, if_true, Nat.zero_add, Nat.add_zero, ite_true, Nat.le_refl, Bool.false_eq_true, reduceCtorEq, if_false, ite_false, binAV, AO.ren, AV.isCell, fillAV, List.set_cons_zero, List.set_cons_succ, Ty.cells, Ty.flat, Ty.dflt, List.getD_cons_zero, List.getD_cons_succ, Int.reduceToNat, Int.reduceSub, Int.reduceAdd, Int.reduceMul, Int.reduceNeg, forall_eq_or_imp, forall_eq, gdL, id_eq, Nat.lt_irrefl, srcOf, List.replicate_succ, List.replicate_zero, dite_true, List.isEmpty_cons, Option.isSome_some, List.length_append, List.length_singleton, bne_self_eq_false, Bool.not_true, Bool.not_false, conF, asArgs, asArg, asTy, asI1, asB1, asS1, asL1, canons, canon, Fork.true_, Fork.false_, bne, Bool.not_not, List.length_map, pickO, AS.over, TI.bl, bne_iff_ne, AS.over2, without, keys, List.mem_singleton, memOp2, memOp3, absorb, abInt, abBool, abStr, abList, gones, Int.toNat_natCast, List.take_length, subE, List.nodup_cons, List.nodup_nil, not_false_eq_true, Nat.sub_self, conR, asG, asI, asBo, asStr, asIs, asBs, asE4, asI2, asI3, asLL, asLLL, Th_int, Th_bool, Th_implGroup, Th_implTranscript, Th_string, G_rtP, c_pow, c_exp, hL])
    | ((with_reducible refine ens_step ?_ (fun hE => ?_)); · ((repeat' with_reducible apply And.intro) <;> first | with_reducible assumption | omega | exact True.intro | with_reducible rfl | (show ByteArray.size _ ≤ _; decide) | (simp; done) | (simp; omega) | rfl))
    | ((with_reducible refine And.intro ?_ ?_); · ((repeat' with_reducible apply And.intro) <;> first | with_reducible assumption | omega | exact True.intro | with_reducible rfl | (show ByteArray.size _ ≤ _; decide) | (simp; done) | (simp; omega) | rfl))
    | ((with_reducible refine Fork.intro (fun h' => ?_) (fun h' => ?_)) <;> (try simp only [Bool.not_eq_true', Bool.not_eq_false', bne] at h') <;> (replace hL := And.intro h' hL) <;> (try simp only [decide_eq_true_eq, decide_eq_false_iff_not, beq_iff_eq, beq_eq_false_iff_ne, ne_eq] at h'))
    | (with_reducible refine AWp.skipS ?_)
    | ((with_reducible refine AWp.condT rfl ?_))
    | ((with_reducible refine AWp.condF rfl ?_))
    | (with_reducible refine AWp.condB rfl ?_)
    | (with_reducible refine AWp.ret ?_)
    | (with_reducible refine seqQ_n ?_)
    | (with_reducible refine seqQ_ret ?_)
    | (with_reducible refine blkQ_ret ?_)
    | (with_reducible refine blkQ_n ?_)
    | (with_reducible refine seqQ_exit ?_)
    | (with_reducible refine blkQ_exit ?_)
    | (with_reducible refine blkQ_other (by decide) ?_)
    | (with_reducible refine AWp.block ?_)
    | (with_reducible refine AWp.exit ?_)
    | (with_reducible refine AWp.skip ?_)
    | ((with_reducible refine EndsAt_id ?_); (try subst_vars); refine EndsAt.done [] (by first | exact .inr rfl | exact .inl rfl) rfl rfl ?_ ?_ <;> first | decide | (repeat' (first | rfl | apply And.intro | trivial)))
    | (with_reducible refine AWp.seq ?_)⟩
def m_stP : List AV → Option (Int × Int × Int × Int × Int × Int × Int)
  | [.lit (.int .i64 c), .lit (.int .i64 e), .rp [.lit (.int .i64 p), .lit (.int .i64 q), .lit (.int .i64 g)], .rp [.lit (.int .i64 u)], .rp [.lit (.int .i64 v)]] => some (c, e, p, q, g, u, v)
  | _ => none
noncomputable def c_stP : Con0 := conR m_stP fun ((c, e, p, q, g, u, v) : Int × Int × Int × Int × Int × Int × Int) => (M.Grp p q g ∧ (0 ≤ u ∧ u < p) ∧ (0 ≤ v ∧ v < p) ∧ (0 ≤ c ∧ c < q) ∧ (0 ≤ e ∧ e < q), .agg [.lit (.int .i64 (simC p q u v c e)), .lit (.int .i64 (c)), .lit (.int .i64 (e))], [])
noncomputable def G_stP : List (FuncId × Con) := [(76, mk c_simM)]
theorem G_stP_ok : ∀ f C, (f, C) ∈ G_stP → C.ok Try.prog f := by
  intro f C h
  simp only [G_stP, List.mem_cons, Prod.mk.injEq, List.not_mem_nil, or_false] at h
  obtain ⟨rfl, rfl⟩ := h
  exact ok_simM
set_option maxRecDepth 100000 in
set_option maxHeartbeats 4000000 in
theorem ok_stP : (mk c_stP).ok Try.prog 75 := okR (Θ := Th) (N := 14) (rs := [.cell 7 88]) Th_ok Try.func75 (by kernel_rfl) rfl Try.results75 (by decide) (by kernel_rfl) (fun ((c, e, p, q, g, u, v) : Int × Int × Int × Int × Int × Int × Int) => [.lit (.int .i64 c), .lit (.int .i64 e), .rp [.lit (.int .i64 p), .lit (.int .i64 q), .lit (.int .i64 g)], .rp [.lit (.int .i64 u)], .rp [.lit (.int .i64 v)]]) (fun args d h => by unfold m_stP at h; split at h <;> cases h; rfl) fun ((c, e, p, q, g, u, v) : Int × Int × Int × Int × Int × Int × Int) => ⟨rfl, rfl, Nat.le_of_ble_eq_true rfl, fun hc w0 => by
  have hL := dmy_eq
  try dsimp only at hc
  try dsimp only
  obtain ⟨hG, hu, hv, hcc, he⟩ := hc
  have hq2 := hG.q2
  have hqp := hG.qp
  have hp3 := hG.p3
  have hpM := hG.pM
  have hgb : 0 ≤ g ∧ g < p := ⟨by have := hG.g2; omega, hG.gp⟩
  refine AWp.body rfl ?_
  repeat' first
    | ((with_reducible refine hK _ _ ?_); clear hK K)
    | ((with_reducible refine hK _ _ (by kernel_rfl) ?_); clear hK K)
    | ((with_reducible refine AWp.pS Th_ok G_stP_ok [0, 1, 2, 3, 4, 7] (by decide) ?_); intro K hK)
    | ((with_reducible refine AWp.dS (by kernel_rfl) Th_ok G_stP_ok [0, 1, 2, 3, 4, 7] ?_); intro K hK)
    | ((with_reducible refine AWp.pE Th_ok G_stP_ok [0, 1, 2, 3, 4, 7] (by decide) ?_); intro K hK)
    | ((with_reducible refine AWp.dE (by kernel_rfl) Th_ok G_stP_ok [0, 1, 2, 3, 4, 7] ?_); intro K hK)
    | ((first | with_reducible refine runF_id ?_ | with_reducible refine stepF_id ?_); simp (maxSteps := 2000000) only [runF, stepF, forkOf, gdOf, List.toList_toArray, stepOp, look, opAV, pureOp, callOp, memOp, AS.ev, AS.get, AS.obj, initS, initFrom, AV.cells, AS.upd, Option.bind_some, Option.bind_none, Option.map_some, Option.map_none, Option.getD_none, Option.getD_some, ↓reduceIte, Nat.reduceEqDiff, Nat.reduceAdd, Nat.reduceMul, Nat.reduceSub, List.nil_append, List.append_nil, List.cons_append, List.map_cons, List.map_nil, true_and, and_true, AS.fin, pick, dedup, List.mem_cons, List.not_mem_nil, or_false, false_or, List.size_toArray, List.length_cons, List.length_nil, loadAV, List.drop_zero, List.drop_succ_cons, List.take_zero, List.take_succ_cons, List.getElem?_cons_zero, List.getElem?_cons_succ, List.head?_cons, List.mapM_cons, List.mapM_nil, Option.bind_eq_bind, Option.pure_def, deeps3, deep3, deep2, deep1, deeps, deeps2, mixInts, AV.plain, mk, mkD, DCon.lift, DCon.runC, ren3, ren2, ren1, numb, List.zipIdx_nil, List.zipIdx_cons, List.all_nil, List.all_cons, Nat.reduceLeDiff, List.range, List.range.loop, Ty.sz, beq_self_eq_true, Bool.and_self, and_self, Ty.ofC, AO.isDead, Nat.reduceLT, if_true, Nat.zero_add, Nat.add_zero, ite_true, Nat.le_refl, Bool.false_eq_true, reduceCtorEq, if_false, ite_false, binAV, AO.ren, AV.isCell, fillAV, List.set_cons_zero, List.set_cons_succ, Ty.cells, Ty.flat, Ty.dflt, List.getD_cons_zero, List.getD_cons_succ, Int.reduceToNat, Int.reduceSub, Int.reduceAdd, Int.reduceMul, Int.reduceNeg, forall_eq_or_imp, forall_eq, gdL, id_eq, Nat.lt_irrefl, srcOf, List.replicate_succ, List.replicate_zero, dite_true, List.isEmpty_cons, Option.isSome_some, List.length_append, List.length_singleton, bne_self_eq_false, Bool.not_true, Bool.not_false, conF, asArgs, asArg, asTy, asI1, asB1, asS1, asL1, canons, canon, Fork.true_, Fork.false_, bne, Bool.not_not, List.length_map, pickO, AS.over, TI.bl, bne_iff_ne, AS.over2, without, keys, List.mem_singleton, memOp2, memOp3, absorb, abInt, abBool, abStr, abList, gones, Int.toNat_natCast, List.take_length, subE, List.nodup_cons, List.nodup_nil, not_false_eq_true, Nat.sub_self, conR, asG, asI, asBo, asStr, asIs, asBs, asE4, asI2, asI3, asLL, asLLL, Th_int, Th_bool, Th_implGroup, Th_implTranscript, Th_string, G_stP, c_simM, hL])
    | ((with_reducible refine ens_step ?_ (fun hE => ?_)); · ((repeat' with_reducible apply And.intro) <;> first | with_reducible assumption | omega | exact True.intro | with_reducible rfl | (show ByteArray.size _ ≤ _; decide) | (simp; done) | (simp; omega) | rfl))
    | ((with_reducible refine And.intro ?_ ?_); · ((repeat' with_reducible apply And.intro) <;> first | with_reducible assumption | omega | exact True.intro | with_reducible rfl | (show ByteArray.size _ ≤ _; decide) | (simp; done) | (simp; omega) | rfl))
    | ((with_reducible refine Fork.intro (fun h' => ?_) (fun h' => ?_)) <;> (try simp only [Bool.not_eq_true', Bool.not_eq_false', bne] at h') <;> (replace hL := And.intro h' hL) <;> (try simp only [decide_eq_true_eq, decide_eq_false_iff_not, beq_iff_eq, beq_eq_false_iff_ne, ne_eq] at h'))
    | (with_reducible refine AWp.skipS ?_)
    | ((with_reducible refine AWp.condT rfl ?_))
    | ((with_reducible refine AWp.condF rfl ?_))
    | (with_reducible refine AWp.condB rfl ?_)
    | (with_reducible refine AWp.ret ?_)
    | (with_reducible refine seqQ_n ?_)
    | (with_reducible refine seqQ_ret ?_)
    | (with_reducible refine blkQ_ret ?_)
    | (with_reducible refine blkQ_n ?_)
    | (with_reducible refine seqQ_exit ?_)
    | (with_reducible refine blkQ_exit ?_)
    | (with_reducible refine blkQ_other (by decide) ?_)
    | (with_reducible refine AWp.block ?_)
    | (with_reducible refine AWp.exit ?_)
    | (with_reducible refine AWp.skip ?_)
    | ((with_reducible refine EndsAt_id ?_); (try subst_vars); refine EndsAt.done [] (by first | exact .inr rfl | exact .inl rfl) rfl rfl ?_ ?_ <;> first | decide | (repeat' (first | rfl | apply And.intro | trivial)))
    | (with_reducible refine AWp.seq ?_)⟩
def m_trR : List AV → Option (Int × Int × Int × Int × Int × Int × Int × Int)
  | [.agg [.lit (.int .i64 p), .lit (.int .i64 q), .lit (.int .i64 g)], .fn (.func 71) [.rp [.lit (.int .i64 p2), .lit (.int .i64 q2), .lit (.int .i64 g2)], .rp [.lit (.int .i64 u)], .rp [.lit (.int .i64 v)]]] => some (p, q, g, p2, q2, g2, u, v)
  | _ => none
noncomputable def c_trR : Con0 := conR m_trR fun ((p, q, g, p2, q2, g2, u, v) : Int × Int × Int × Int × Int × Int × Int × Int) => ((p2 = p ∧ q2 = q ∧ g2 = g) ∧ M.Grp p q g ∧ q ≤ 23 ∧ (0 ≤ u ∧ u < p) ∧ (0 ≤ v ∧ v < q), .own 0 (putsT (tN (rF p q u v) q)).length, [.row 88 (.pair .int (.pair .int .int)) (putsT (tN (rF p q u v) q))])
noncomputable def G_trR : List (FuncId × Con) := [(96, c_w_SortFunc), (71, mk c_rtP)]
theorem G_trR_ok : ∀ f C, (f, C) ∈ G_trR → C.ok Try.prog f := by
  intro f C h
  simp only [G_trR, List.mem_cons, Prod.mk.injEq, List.not_mem_nil, or_false] at h
  rcases h with ⟨rfl, rfl⟩ | ⟨rfl, rfl⟩
  · exact ok_w_SortFunc
  · exact ok_rtP
set_option maxRecDepth 100000 in
set_option maxHeartbeats 4000000 in
theorem ok_trR : (mk c_trR).ok Try.prog 70 := okR (Θ := Th) (N := 31) (rs := [.tmp 4]) Th_ok Try.func70 (by kernel_rfl) rfl Try.results70 (by decide) (by kernel_rfl) (fun ((p, q, g, p2, q2, g2, u, v) : Int × Int × Int × Int × Int × Int × Int × Int) => [.agg [.lit (.int .i64 p), .lit (.int .i64 q), .lit (.int .i64 g)], .fn (.func 71) [.rp [.lit (.int .i64 p2), .lit (.int .i64 q2), .lit (.int .i64 g2)], .rp [.lit (.int .i64 u)], .rp [.lit (.int .i64 v)]]]) (fun args d h => by unfold m_trR at h; split at h <;> cases h; rfl) fun ((p, q, g, p2, q2, g2, u, v) : Int × Int × Int × Int × Int × Int × Int × Int) => ⟨rfl, rfl, Nat.le_of_ble_eq_true rfl, fun hc w0 => by
  have hL := dmy_eq
  try dsimp only at hc
  try dsimp only
  obtain ⟨⟨e1, e2, e3⟩, hG, hq23, hu, hv⟩ := hc
  subst p2 q2 g2
  have hq2 := hG.q2
  have hqp := hG.qp
  have hp3 := hG.p3
  have hpM := hG.pM
  have hgb : 0 ≤ g ∧ g < p := ⟨by have := hG.g2; omega, hG.gp⟩
  refine AWp.body rfl ?_
  repeat' first
    | ((with_reducible refine hK _ _ ?_); clear hK K)
    | ((with_reducible refine hK _ _ (by kernel_rfl) ?_); clear hK K)
    | ((with_reducible refine AWp.pS Th_ok G_trR_ok [0, 1, 2, 4, 5, 6, 7, 10, 11, 12, 15, 16, 17] (by decide) ?_); intro K hK)
    | ((with_reducible refine AWp.dS (by kernel_rfl) Th_ok G_trR_ok [0, 1, 2, 4, 5, 6, 7, 10, 11, 12, 15, 16, 17] ?_); intro K hK)
    | ((with_reducible refine AWp.pE Th_ok G_trR_ok [0, 1, 2, 4, 5, 6, 7, 10, 11, 12, 15, 16, 17] (by decide) ?_); intro K hK)
    | ((with_reducible refine AWp.dE (by kernel_rfl) Th_ok G_trR_ok [0, 1, 2, 4, 5, 6, 7, 10, 11, 12, 15, 16, 17] ?_); intro K hK)
    | ((first | with_reducible refine runF_id ?_ | with_reducible refine stepF_id ?_); simp (maxSteps := 2000000) only [runF, stepF, forkOf, gdOf, List.toList_toArray, stepOp, look, opAV, pureOp, callOp, memOp, AS.ev, AS.get, AS.obj, initS, initFrom, AV.cells, AS.upd, Option.bind_some, Option.bind_none, Option.map_some, Option.map_none, Option.getD_none, Option.getD_some, ↓reduceIte, Nat.reduceEqDiff, Nat.reduceAdd, Nat.reduceMul, Nat.reduceSub, List.nil_append, List.append_nil, List.cons_append, List.map_cons, List.map_nil, true_and, and_true, AS.fin, pick, dedup, List.mem_cons, List.not_mem_nil, or_false, false_or, List.size_toArray, List.length_cons, List.length_nil, loadAV, List.drop_zero, List.drop_succ_cons, List.take_zero, List.take_succ_cons, List.getElem?_cons_zero, List.getElem?_cons_succ, List.head?_cons, List.mapM_cons, List.mapM_nil, Option.bind_eq_bind, Option.pure_def, deeps3, deep3, deep2, deep1, deeps, deeps2, mixInts, AV.plain, mk, mkD, DCon.lift, DCon.runC, ren3, ren2, ren1, numb, List.zipIdx_nil, List.zipIdx_cons, List.all_nil, List.all_cons, Nat.reduceLeDiff, List.range, List.range.loop, Ty.sz, beq_self_eq_true, Bool.and_self, and_self, Ty.ofC, AO.isDead, Nat.reduceLT, if_true, Nat.zero_add, Nat.add_zero, ite_true, Nat.le_refl, Bool.false_eq_true, reduceCtorEq, if_false, ite_false, binAV, AO.ren, AV.isCell, fillAV, List.set_cons_zero, List.set_cons_succ, Ty.cells, Ty.flat, Ty.dflt, List.getD_cons_zero, List.getD_cons_succ, Int.reduceToNat, Int.reduceSub, Int.reduceAdd, Int.reduceMul, Int.reduceNeg, forall_eq_or_imp, forall_eq, gdL, id_eq, Nat.lt_irrefl, srcOf, List.replicate_succ, List.replicate_zero, dite_true, List.isEmpty_cons, Option.isSome_some, List.length_append, List.length_singleton, bne_self_eq_false, Bool.not_true, Bool.not_false, conF, asArgs, asArg, asTy, asI1, asB1, asS1, asL1, canons, canon, Fork.true_, Fork.false_, bne, Bool.not_not, List.length_map, pickO, AS.over, TI.bl, bne_iff_ne, AS.over2, without, keys, List.mem_singleton, memOp2, memOp3, absorb, abInt, abBool, abStr, abList, gones, Int.toNat_natCast, List.take_length, subE, List.nodup_cons, List.nodup_nil, not_false_eq_true, Nat.sub_self, conR, asG, asI, asBo, asStr, asIs, asBs, asE4, asI2, asI3, asLL, asLLL, Th_int, Th_Sint, Th_implGroup, Th_implSTranscript, Th_lawsBases, Th_lawsGroup, Th_lawsProof, Th_lawsSProof, Th_string, G_trR, c_rtP, m_rtP, c_w_SortFunc, sel_w_SortFunc, conM, Con.wr, rowsT, rowsAO, lensR, cntR, mrkR, pair2, List.headD_cons, List.tail_cons, List.nodup_cons, List.nodup_nil, not_false_eq_true, cnt_int, cnt_mrk, mrk_len .int, Con.srtF, hL])
    | ((with_reducible refine ens_step ?_ (fun hE => ?_)); · ((repeat' with_reducible apply And.intro) <;> first | with_reducible assumption | omega | exact True.intro | with_reducible rfl | (show ByteArray.size _ ≤ _; decide) | (simp; done) | (simp; omega) | rfl))
    | ((with_reducible refine And.intro ?_ ?_); · ((repeat' with_reducible apply And.intro) <;> first | with_reducible assumption | omega | exact True.intro | with_reducible rfl | (show ByteArray.size _ ≤ _; decide) | (simp; done) | (simp; omega) | rfl))
    | ((with_reducible refine Fork.intro (fun h' => ?_) (fun h' => ?_)) <;> (try simp only [Bool.not_eq_true', Bool.not_eq_false', bne] at h') <;> (replace hL := And.intro h' hL) <;> (try simp only [decide_eq_true_eq, decide_eq_false_iff_not, beq_iff_eq, beq_eq_false_iff_ne, ne_eq] at h') <;> (try (have hje : j = q.toNat := (by omega); subst hje; have hrow := tL_row (F := (rF p q u v)) (n := q.toNat) (a := a); have hrl := congrArg List.length hrow)) <;> (try (have hae : a = q.toNat := (by omega); subst hae; have hsp := srt_put (l := tL (rF p q u v) q.toNat q.toNat 0); replace hL := And.intro hsp hL)))
    | (with_reducible refine AWp.skipS ?_)
    | ((with_reducible refine AWp.condT rfl ?_))
    | ((with_reducible refine AWp.condF rfl ?_))
    | (with_reducible refine AWp.condB rfl ?_)
    | (with_reducible refine AWp.ret ?_)
    | (with_reducible refine seqQ_n ?_)
    | (with_reducible refine seqQ_ret ?_)
    | (with_reducible refine blkQ_ret ?_)
    | (with_reducible refine blkQ_n ?_)
    | (with_reducible refine seqQ_exit ?_)
    | (with_reducible refine blkQ_exit ?_)
    | (with_reducible refine blkQ_other (by decide) ?_)
    | (with_reducible refine AWp.block ?_)
    | (with_reducible refine AWp.exit ?_)
    | (with_reducible refine AWp.skip ?_)
    | ((with_reducible refine loop_id ?_); refine AWp.loopAt 3 rfl ?_; refine AWp.loopO [5, 6, 7, 11, 12, 13, 14, 15, 16, 17, 18, 19, 20, 21, 22, 23, 24, 25, 26, 27] (fun a => [(11, .lit (.int .i64 (a : Nat))), (5, .own 16 (tL (rF p q u v) q.toNat a 0).length)]) (fun a => [(16, .row 88 (.pair .int (.pair .int .int)) (tL (rF p q u v) q.toNat a 0))]) (fun a => a ≤ q.toNat) (fun a => q.toNat - a) 0 (by omega) (by refine Sub.auto (by first | exact frok0 | assumption) rfl rfl ?_ ?_ <;> (try simp only [subE, AS.over2, without, keys, look, List.cons_append, List.nil_append, List.append_nil, List.mem_cons, List.not_mem_nil, or_false, or_true, true_or, false_or, Nat.reduceEqDiff, ↓reduceIte, Option.some.injEq, AV.lit.injEq, Value.int.injEq, Value.bool.injEq, AV.own.injEq, AO.row.injEq, AO.box.injEq, List.cons.injEq, AV.agg.injEq, AV.sl.injEq, true_and, and_true, and_self, heq_eq_eq, List.length_nil, List.length_cons, List.map_nil, List.take_zero, Int.natCast_add, Int.cast_ofNat_Int, Int.natCast_zero, List.length_append, List.length_map, List.length_take, Nat.zero_add]) <;> ((repeat' apply And.intro) <;> first | rfl | omega | exact hst | exact hst.symm | exact hrow | exact hrow.symm | exact hrl | exact hrl.symm | (simp [tL_00]; done) | (simp; done))) (fun a ha_3 L3 hLoop3 => ?_); skip; have hle := tL_le (F := (rF p q u v)) (n := q.toNat) (a := a) (b := 0) (by omega) (by omega) (by omega))
    | ((with_reducible refine seqQ_f ?_); refine hLoop3 (a + 1) _ (by omega) (by omega) ?_; (refine Sub.auto (by first | exact frok0 | assumption) rfl rfl ?_ ?_ <;> (try simp only [subE, AS.over2, without, keys, look, List.cons_append, List.nil_append, List.append_nil, List.mem_cons, List.not_mem_nil, or_false, or_true, true_or, false_or, Nat.reduceEqDiff, ↓reduceIte, Option.some.injEq, AV.lit.injEq, Value.int.injEq, Value.bool.injEq, AV.own.injEq, AO.row.injEq, AO.box.injEq, List.cons.injEq, AV.agg.injEq, AV.sl.injEq, true_and, and_true, and_self, heq_eq_eq, List.length_nil, List.length_cons, List.map_nil, List.take_zero, Int.natCast_add, Int.cast_ofNat_Int, Int.natCast_zero, List.length_append, List.length_map, List.length_take, Nat.zero_add]) <;> ((repeat' apply And.intro) <;> first | rfl | omega | exact hst | exact hst.symm | exact hrow | exact hrow.symm | exact hrl | exact hrl.symm | (simp [tL_00]; done) | (simp; done))))
    | ((with_reducible refine loop_id ?_); refine AWp.loopAt 6 rfl ?_; refine AWp.loopO [5, 7, 16, 17, 18, 19, 20, 21, 22, 23, 24, 25, 26] (fun j => [(16, .lit (.int .i64 (j : Nat))), (5, .own 16 (tL (rF p q u v) q.toNat a j).length)]) (fun j => [(16, .row 88 (.pair .int (.pair .int .int)) (tL (rF p q u v) q.toNat a j))]) (fun j => j ≤ q.toNat) (fun j => q.toNat - j) 0 (by omega) (by refine Sub.auto (by first | exact frok0 | assumption) rfl rfl ?_ ?_ <;> (try simp only [subE, AS.over2, without, keys, look, List.cons_append, List.nil_append, List.append_nil, List.mem_cons, List.not_mem_nil, or_false, or_true, true_or, false_or, Nat.reduceEqDiff, ↓reduceIte, Option.some.injEq, AV.lit.injEq, Value.int.injEq, Value.bool.injEq, AV.own.injEq, AO.row.injEq, AO.box.injEq, List.cons.injEq, AV.agg.injEq, AV.sl.injEq, true_and, and_true, and_self, heq_eq_eq, List.length_nil, List.length_cons, List.map_nil, List.take_zero, Int.natCast_add, Int.cast_ofNat_Int, Int.natCast_zero, List.length_append, List.length_map, List.length_take, Nat.zero_add]) <;> ((repeat' apply And.intro) <;> first | rfl | omega | exact hst | exact hst.symm | exact hrow | exact hrow.symm | exact hrl | exact hrl.symm | (simp [tL_00]; done) | (simp; done))) (fun j hj_6 L6 hLoop6 => ?_); skip; have hle := tL_le (F := (rF p q u v)) (n := q.toNat) (a := a) (b := j) (by omega) (by omega) (by omega); have hst := tL_step (F := (rF p q u v)) (n := q.toNat) (a := a) (b := j); have hst2 := tL_st (F := (rF p q u v)) (n := q.toNat) (a := a) (b := j))
    | ((with_reducible refine seqQ_f ?_); refine hLoop6 (j + 1) _ (by omega) (by omega) ?_; (refine Sub.auto (by first | exact frok0 | assumption) rfl rfl ?_ ?_ <;> (try simp only [subE, AS.over2, without, keys, look, List.cons_append, List.nil_append, List.append_nil, List.mem_cons, List.not_mem_nil, or_false, or_true, true_or, false_or, Nat.reduceEqDiff, ↓reduceIte, Option.some.injEq, AV.lit.injEq, Value.int.injEq, Value.bool.injEq, AV.own.injEq, AO.row.injEq, AO.box.injEq, List.cons.injEq, AV.agg.injEq, AV.sl.injEq, true_and, and_true, and_self, heq_eq_eq, List.length_nil, List.length_cons, List.map_nil, List.take_zero, Int.natCast_add, Int.cast_ofNat_Int, Int.natCast_zero, List.length_append, List.length_map, List.length_take, Nat.zero_add]) <;> ((repeat' apply And.intro) <;> first | rfl | omega | exact hst | exact hst.symm | exact hrow | exact hrow.symm | exact hrl | exact hrl.symm | (simp [tL_00]; done) | (simp; done))))
    | ((with_reducible refine EndsAt_id ?_); (try subst_vars); unfold tN; rw [putsT_len]; refine EndsAt.done [_] (by first | exact .inr rfl | exact .inl rfl) rfl rfl ?_ ?_ <;> first | decide | (repeat' (first | rfl | apply And.intro | trivial)))
    | (with_reducible refine AWp.seq ?_)⟩
def m_trS : List AV → Option (Int × Int × Int × Int × Int × Int × Int × Int)
  | [.agg [.lit (.int .i64 p), .lit (.int .i64 q), .lit (.int .i64 g)], .fn (.func 75) [.rp [.lit (.int .i64 p2), .lit (.int .i64 q2), .lit (.int .i64 g2)], .rp [.lit (.int .i64 u)], .rp [.lit (.int .i64 v)]]] => some (p, q, g, p2, q2, g2, u, v)
  | _ => none
noncomputable def c_trS : Con0 := conR m_trS fun ((p, q, g, p2, q2, g2, u, v) : Int × Int × Int × Int × Int × Int × Int × Int) => ((p2 = p ∧ q2 = q ∧ g2 = g) ∧ M.Grp p q g ∧ q ≤ 23 ∧ (0 ≤ u ∧ u < p) ∧ (0 ≤ v ∧ v < p), .own 0 (putsT (tN (sF p q u v) q)).length, [.row 88 (.pair .int (.pair .int .int)) (putsT (tN (sF p q u v) q))])
noncomputable def G_trS : List (FuncId × Con) := [(96, c_w_SortFunc), (75, mk c_stP)]
theorem G_trS_ok : ∀ f C, (f, C) ∈ G_trS → C.ok Try.prog f := by
  intro f C h
  simp only [G_trS, List.mem_cons, Prod.mk.injEq, List.not_mem_nil, or_false] at h
  rcases h with ⟨rfl, rfl⟩ | ⟨rfl, rfl⟩
  · exact ok_w_SortFunc
  · exact ok_stP
set_option maxRecDepth 100000 in
set_option maxHeartbeats 4000000 in
theorem ok_trS : (mk c_trS).ok Try.prog 70 := okR (Θ := Th) (N := 31) (rs := [.tmp 4]) Th_ok Try.func70 (by kernel_rfl) rfl Try.results70 (by decide) (by kernel_rfl) (fun ((p, q, g, p2, q2, g2, u, v) : Int × Int × Int × Int × Int × Int × Int × Int) => [.agg [.lit (.int .i64 p), .lit (.int .i64 q), .lit (.int .i64 g)], .fn (.func 75) [.rp [.lit (.int .i64 p2), .lit (.int .i64 q2), .lit (.int .i64 g2)], .rp [.lit (.int .i64 u)], .rp [.lit (.int .i64 v)]]]) (fun args d h => by unfold m_trS at h; split at h <;> cases h; rfl) fun ((p, q, g, p2, q2, g2, u, v) : Int × Int × Int × Int × Int × Int × Int × Int) => ⟨rfl, rfl, Nat.le_of_ble_eq_true rfl, fun hc w0 => by
  have hL := dmy_eq
  try dsimp only at hc
  try dsimp only
  obtain ⟨⟨e1, e2, e3⟩, hG, hq23, hu, hv⟩ := hc
  subst p2 q2 g2
  have hq2 := hG.q2
  have hqp := hG.qp
  have hp3 := hG.p3
  have hpM := hG.pM
  have hgb : 0 ≤ g ∧ g < p := ⟨by have := hG.g2; omega, hG.gp⟩
  refine AWp.body rfl ?_
  repeat' first
    | ((with_reducible refine hK _ _ ?_); clear hK K)
    | ((with_reducible refine hK _ _ (by kernel_rfl) ?_); clear hK K)
    | ((with_reducible refine AWp.pS Th_ok G_trS_ok [0, 1, 2, 4, 5, 6, 7, 10, 11, 12, 15, 16, 17] (by decide) ?_); intro K hK)
    | ((with_reducible refine AWp.dS (by kernel_rfl) Th_ok G_trS_ok [0, 1, 2, 4, 5, 6, 7, 10, 11, 12, 15, 16, 17] ?_); intro K hK)
    | ((with_reducible refine AWp.pE Th_ok G_trS_ok [0, 1, 2, 4, 5, 6, 7, 10, 11, 12, 15, 16, 17] (by decide) ?_); intro K hK)
    | ((with_reducible refine AWp.dE (by kernel_rfl) Th_ok G_trS_ok [0, 1, 2, 4, 5, 6, 7, 10, 11, 12, 15, 16, 17] ?_); intro K hK)
    | ((first | with_reducible refine runF_id ?_ | with_reducible refine stepF_id ?_); simp (maxSteps := 2000000) only [runF, stepF, forkOf, gdOf, List.toList_toArray, stepOp, look, opAV, pureOp, callOp, memOp, AS.ev, AS.get, AS.obj, initS, initFrom, AV.cells, AS.upd, Option.bind_some, Option.bind_none, Option.map_some, Option.map_none, Option.getD_none, Option.getD_some, ↓reduceIte, Nat.reduceEqDiff, Nat.reduceAdd, Nat.reduceMul, Nat.reduceSub, List.nil_append, List.append_nil, List.cons_append, List.map_cons, List.map_nil, true_and, and_true, AS.fin, pick, dedup, List.mem_cons, List.not_mem_nil, or_false, false_or, List.size_toArray, List.length_cons, List.length_nil, loadAV, List.drop_zero, List.drop_succ_cons, List.take_zero, List.take_succ_cons, List.getElem?_cons_zero, List.getElem?_cons_succ, List.head?_cons, List.mapM_cons, List.mapM_nil, Option.bind_eq_bind, Option.pure_def, deeps3, deep3, deep2, deep1, deeps, deeps2, mixInts, AV.plain, mk, mkD, DCon.lift, DCon.runC, ren3, ren2, ren1, numb, List.zipIdx_nil, List.zipIdx_cons, List.all_nil, List.all_cons, Nat.reduceLeDiff, List.range, List.range.loop, Ty.sz, beq_self_eq_true, Bool.and_self, and_self, Ty.ofC, AO.isDead, Nat.reduceLT, if_true, Nat.zero_add, Nat.add_zero, ite_true, Nat.le_refl, Bool.false_eq_true, reduceCtorEq, if_false, ite_false, binAV, AO.ren, AV.isCell, fillAV, List.set_cons_zero, List.set_cons_succ, Ty.cells, Ty.flat, Ty.dflt, List.getD_cons_zero, List.getD_cons_succ, Int.reduceToNat, Int.reduceSub, Int.reduceAdd, Int.reduceMul, Int.reduceNeg, forall_eq_or_imp, forall_eq, gdL, id_eq, Nat.lt_irrefl, srcOf, List.replicate_succ, List.replicate_zero, dite_true, List.isEmpty_cons, Option.isSome_some, List.length_append, List.length_singleton, bne_self_eq_false, Bool.not_true, Bool.not_false, conF, asArgs, asArg, asTy, asI1, asB1, asS1, asL1, canons, canon, Fork.true_, Fork.false_, bne, Bool.not_not, List.length_map, pickO, AS.over, TI.bl, bne_iff_ne, AS.over2, without, keys, List.mem_singleton, memOp2, memOp3, absorb, abInt, abBool, abStr, abList, gones, Int.toNat_natCast, List.take_length, subE, List.nodup_cons, List.nodup_nil, not_false_eq_true, Nat.sub_self, conR, asG, asI, asBo, asStr, asIs, asBs, asE4, asI2, asI3, asLL, asLLL, Th_int, Th_Sint, Th_implGroup, Th_implSTranscript, Th_lawsBases, Th_lawsGroup, Th_lawsProof, Th_lawsSProof, Th_string, G_trS, c_stP, m_stP, c_w_SortFunc, sel_w_SortFunc, conM, Con.wr, rowsT, rowsAO, lensR, cntR, mrkR, pair2, List.headD_cons, List.tail_cons, List.nodup_cons, List.nodup_nil, not_false_eq_true, cnt_int, cnt_mrk, mrk_len .int, Con.srtF, hL])
    | ((with_reducible refine ens_step ?_ (fun hE => ?_)); · ((repeat' with_reducible apply And.intro) <;> first | with_reducible assumption | omega | exact True.intro | with_reducible rfl | (show ByteArray.size _ ≤ _; decide) | (simp; done) | (simp; omega) | rfl))
    | ((with_reducible refine And.intro ?_ ?_); · ((repeat' with_reducible apply And.intro) <;> first | with_reducible assumption | omega | exact True.intro | with_reducible rfl | (show ByteArray.size _ ≤ _; decide) | (simp; done) | (simp; omega) | rfl))
    | ((with_reducible refine Fork.intro (fun h' => ?_) (fun h' => ?_)) <;> (try simp only [Bool.not_eq_true', Bool.not_eq_false', bne] at h') <;> (replace hL := And.intro h' hL) <;> (try simp only [decide_eq_true_eq, decide_eq_false_iff_not, beq_iff_eq, beq_eq_false_iff_ne, ne_eq] at h') <;> (try (have hje : j = q.toNat := (by omega); subst hje; have hrow := tL_row (F := (sF p q u v)) (n := q.toNat) (a := a); have hrl := congrArg List.length hrow)) <;> (try (have hae : a = q.toNat := (by omega); subst hae; have hsp := srt_put (l := tL (sF p q u v) q.toNat q.toNat 0); replace hL := And.intro hsp hL)))
    | (with_reducible refine AWp.skipS ?_)
    | ((with_reducible refine AWp.condT rfl ?_))
    | ((with_reducible refine AWp.condF rfl ?_))
    | (with_reducible refine AWp.condB rfl ?_)
    | (with_reducible refine AWp.ret ?_)
    | (with_reducible refine seqQ_n ?_)
    | (with_reducible refine seqQ_ret ?_)
    | (with_reducible refine blkQ_ret ?_)
    | (with_reducible refine blkQ_n ?_)
    | (with_reducible refine seqQ_exit ?_)
    | (with_reducible refine blkQ_exit ?_)
    | (with_reducible refine blkQ_other (by decide) ?_)
    | (with_reducible refine AWp.block ?_)
    | (with_reducible refine AWp.exit ?_)
    | (with_reducible refine AWp.skip ?_)
    | ((with_reducible refine loop_id ?_); refine AWp.loopAt 3 rfl ?_; refine AWp.loopO [5, 6, 7, 11, 12, 13, 14, 15, 16, 17, 18, 19, 20, 21, 22, 23, 24, 25, 26, 27] (fun a => [(11, .lit (.int .i64 (a : Nat))), (5, .own 16 (tL (sF p q u v) q.toNat a 0).length)]) (fun a => [(16, .row 88 (.pair .int (.pair .int .int)) (tL (sF p q u v) q.toNat a 0))]) (fun a => a ≤ q.toNat) (fun a => q.toNat - a) 0 (by omega) (by refine Sub.auto (by first | exact frok0 | assumption) rfl rfl ?_ ?_ <;> (try simp only [subE, AS.over2, without, keys, look, List.cons_append, List.nil_append, List.append_nil, List.mem_cons, List.not_mem_nil, or_false, or_true, true_or, false_or, Nat.reduceEqDiff, ↓reduceIte, Option.some.injEq, AV.lit.injEq, Value.int.injEq, Value.bool.injEq, AV.own.injEq, AO.row.injEq, AO.box.injEq, List.cons.injEq, AV.agg.injEq, AV.sl.injEq, true_and, and_true, and_self, heq_eq_eq, List.length_nil, List.length_cons, List.map_nil, List.take_zero, Int.natCast_add, Int.cast_ofNat_Int, Int.natCast_zero, List.length_append, List.length_map, List.length_take, Nat.zero_add]) <;> ((repeat' apply And.intro) <;> first | rfl | omega | exact hst | exact hst.symm | exact hrow | exact hrow.symm | exact hrl | exact hrl.symm | (simp [tL_00]; done) | (simp; done))) (fun a ha_3 L3 hLoop3 => ?_); skip; have hle := tL_le (F := (sF p q u v)) (n := q.toNat) (a := a) (b := 0) (by omega) (by omega) (by omega))
    | ((with_reducible refine seqQ_f ?_); refine hLoop3 (a + 1) _ (by omega) (by omega) ?_; (refine Sub.auto (by first | exact frok0 | assumption) rfl rfl ?_ ?_ <;> (try simp only [subE, AS.over2, without, keys, look, List.cons_append, List.nil_append, List.append_nil, List.mem_cons, List.not_mem_nil, or_false, or_true, true_or, false_or, Nat.reduceEqDiff, ↓reduceIte, Option.some.injEq, AV.lit.injEq, Value.int.injEq, Value.bool.injEq, AV.own.injEq, AO.row.injEq, AO.box.injEq, List.cons.injEq, AV.agg.injEq, AV.sl.injEq, true_and, and_true, and_self, heq_eq_eq, List.length_nil, List.length_cons, List.map_nil, List.take_zero, Int.natCast_add, Int.cast_ofNat_Int, Int.natCast_zero, List.length_append, List.length_map, List.length_take, Nat.zero_add]) <;> ((repeat' apply And.intro) <;> first | rfl | omega | exact hst | exact hst.symm | exact hrow | exact hrow.symm | exact hrl | exact hrl.symm | (simp [tL_00]; done) | (simp; done))))
    | ((with_reducible refine loop_id ?_); refine AWp.loopAt 6 rfl ?_; refine AWp.loopO [5, 7, 16, 17, 18, 19, 20, 21, 22, 23, 24, 25, 26] (fun j => [(16, .lit (.int .i64 (j : Nat))), (5, .own 16 (tL (sF p q u v) q.toNat a j).length)]) (fun j => [(16, .row 88 (.pair .int (.pair .int .int)) (tL (sF p q u v) q.toNat a j))]) (fun j => j ≤ q.toNat) (fun j => q.toNat - j) 0 (by omega) (by refine Sub.auto (by first | exact frok0 | assumption) rfl rfl ?_ ?_ <;> (try simp only [subE, AS.over2, without, keys, look, List.cons_append, List.nil_append, List.append_nil, List.mem_cons, List.not_mem_nil, or_false, or_true, true_or, false_or, Nat.reduceEqDiff, ↓reduceIte, Option.some.injEq, AV.lit.injEq, Value.int.injEq, Value.bool.injEq, AV.own.injEq, AO.row.injEq, AO.box.injEq, List.cons.injEq, AV.agg.injEq, AV.sl.injEq, true_and, and_true, and_self, heq_eq_eq, List.length_nil, List.length_cons, List.map_nil, List.take_zero, Int.natCast_add, Int.cast_ofNat_Int, Int.natCast_zero, List.length_append, List.length_map, List.length_take, Nat.zero_add]) <;> ((repeat' apply And.intro) <;> first | rfl | omega | exact hst | exact hst.symm | exact hrow | exact hrow.symm | exact hrl | exact hrl.symm | (simp [tL_00]; done) | (simp; done))) (fun j hj_6 L6 hLoop6 => ?_); skip; have hle := tL_le (F := (sF p q u v)) (n := q.toNat) (a := a) (b := j) (by omega) (by omega) (by omega); have hst := tL_step (F := (sF p q u v)) (n := q.toNat) (a := a) (b := j); have hst2 := tL_st (F := (sF p q u v)) (n := q.toNat) (a := a) (b := j))
    | ((with_reducible refine seqQ_f ?_); refine hLoop6 (j + 1) _ (by omega) (by omega) ?_; (refine Sub.auto (by first | exact frok0 | assumption) rfl rfl ?_ ?_ <;> (try simp only [subE, AS.over2, without, keys, look, List.cons_append, List.nil_append, List.append_nil, List.mem_cons, List.not_mem_nil, or_false, or_true, true_or, false_or, Nat.reduceEqDiff, ↓reduceIte, Option.some.injEq, AV.lit.injEq, Value.int.injEq, Value.bool.injEq, AV.own.injEq, AO.row.injEq, AO.box.injEq, List.cons.injEq, AV.agg.injEq, AV.sl.injEq, true_and, and_true, and_self, heq_eq_eq, List.length_nil, List.length_cons, List.map_nil, List.take_zero, Int.natCast_add, Int.cast_ofNat_Int, Int.natCast_zero, List.length_append, List.length_map, List.length_take, Nat.zero_add]) <;> ((repeat' apply And.intro) <;> first | rfl | omega | exact hst | exact hst.symm | exact hrow | exact hrow.symm | exact hrl | exact hrl.symm | (simp [tL_00]; done) | (simp; done))))
    | ((with_reducible refine EndsAt_id ?_); (try subst_vars); unfold tN; rw [putsT_len]; refine EndsAt.done [_] (by first | exact .inr rfl | exact .inl rfl) rfl rfl ?_ ?_ <;> first | decide | (repeat' (first | rfl | apply And.intro | trivial)))
    | (with_reducible refine AWp.seq ?_)⟩
noncomputable def c_RealTranscriptsI : Con0 := conF [(.pair .int (.pair .int .int)), .int, .int] fun (⟨⟨p, q, g⟩, u, v, _⟩ : (Int × Int × Int) × Int × Int × Unit) => (True, .tup [.own 0 (PRt p q g u v).length, .lit (.bool (okRt p q g u v))], [.row 88 (.pair .int (.pair .int .int)) (PRt p q g u v)])
noncomputable def G_RealTranscriptsI : List (FuncId × Con) := [(69, mk c_isCounted), (45, mk c_has), (60, mk c_isExp), (70, mk c_trR)]
theorem G_RealTranscriptsI_ok : ∀ f C, (f, C) ∈ G_RealTranscriptsI → C.ok Try.prog f := by
  intro f C h
  simp only [G_RealTranscriptsI, List.mem_cons, Prod.mk.injEq, List.not_mem_nil, or_false] at h
  rcases h with ⟨rfl, rfl⟩ | ⟨rfl, rfl⟩ | ⟨rfl, rfl⟩ | ⟨rfl, rfl⟩
  · exact ok_isCounted
  · exact ok_has
  · exact ok_isExp
  · exact ok_trR
set_option maxRecDepth 100000 in
set_option maxHeartbeats 4000000 in
theorem ok_RealTranscriptsI : (mk c_RealTranscriptsI).ok Try.prog 31 := okF (Θ := Th) (N := 26) (rs := [.tmp 6, .tmp 7]) Th_ok Try.func31 (by kernel_rfl) rfl Try.results31 (by decide) (by kernel_rfl) fun (⟨⟨p, q, g⟩, u, v, _⟩ : (Int × Int × Int) × Int × Int × Unit) => ⟨rfl, rfl, Nat.le_of_ble_eq_true rfl, fun hc w0 => by
  have hL := dmy_eq
  try dsimp only at hc
  try dsimp only
  refine AWp.body rfl ?_
  repeat' first
    | ((with_reducible refine hK _ _ ?_); clear hK K)
    | ((with_reducible refine hK _ _ (by kernel_rfl) ?_); clear hK K)
    | ((with_reducible refine AWp.pS Th_ok G_RealTranscriptsI_ok [0, 1, 2, 3, 4, 5, 6, 7, 22] (by decide) ?_); intro K hK)
    | ((with_reducible refine AWp.dS (by kernel_rfl) Th_ok G_RealTranscriptsI_ok [0, 1, 2, 3, 4, 5, 6, 7, 22] ?_); intro K hK)
    | ((with_reducible refine AWp.pE Th_ok G_RealTranscriptsI_ok [0, 1, 2, 3, 4, 5, 6, 7, 22] (by decide) ?_); intro K hK)
    | ((with_reducible refine AWp.dE (by kernel_rfl) Th_ok G_RealTranscriptsI_ok [0, 1, 2, 3, 4, 5, 6, 7, 22] ?_); intro K hK)
    | ((first | with_reducible refine runF_id ?_ | with_reducible refine stepF_id ?_); simp (maxSteps := 2000000) only [runF, stepF, forkOf, gdOf, List.toList_toArray, stepOp, look, opAV, pureOp, callOp, memOp, AS.ev, AS.get, AS.obj, initS, initFrom, AV.cells, AS.upd, Option.bind_some, Option.bind_none, Option.map_some, Option.map_none, Option.getD_none, Option.getD_some, ↓reduceIte, Nat.reduceEqDiff, Nat.reduceAdd, Nat.reduceMul, Nat.reduceSub, List.nil_append, List.append_nil, List.cons_append, List.map_cons, List.map_nil, true_and, and_true, AS.fin, pick, dedup, List.mem_cons, List.not_mem_nil, or_false, false_or, List.size_toArray, List.length_cons, List.length_nil, loadAV, List.drop_zero, List.drop_succ_cons, List.take_zero, List.take_succ_cons, List.getElem?_cons_zero, List.getElem?_cons_succ, List.head?_cons, List.mapM_cons, List.mapM_nil, Option.bind_eq_bind, Option.pure_def, deeps3, deep3, deep2, deep1, deeps, deeps2, mixInts, AV.plain, mk, mkD, DCon.lift, DCon.runC, ren3, ren2, ren1, numb, List.zipIdx_nil, List.zipIdx_cons, List.all_nil, List.all_cons, Nat.reduceLeDiff, List.range, List.range.loop, Ty.sz, beq_self_eq_true, Bool.and_self, and_self, Ty.ofC, AO.isDead, Nat.reduceLT, if_true, Nat.zero_add, Nat.add_zero, ite_true, Nat.le_refl, Bool.false_eq_true, reduceCtorEq, if_false, ite_false, binAV, AO.ren, AV.isCell, fillAV, List.set_cons_zero, List.set_cons_succ, Ty.cells, Ty.flat, Ty.dflt, List.getD_cons_zero, List.getD_cons_succ, Int.reduceToNat, Int.reduceSub, Int.reduceAdd, Int.reduceMul, Int.reduceNeg, forall_eq_or_imp, forall_eq, gdL, id_eq, Nat.lt_irrefl, srcOf, List.replicate_succ, List.replicate_zero, dite_true, List.isEmpty_cons, Option.isSome_some, List.length_append, List.length_singleton, bne_self_eq_false, Bool.not_true, Bool.not_false, conF, asArgs, asArg, asTy, asI1, asB1, asS1, asL1, canons, canon, Fork.true_, Fork.false_, bne, Bool.not_not, List.length_map, pickO, AS.over, TI.bl, bne_iff_ne, AS.over2, without, keys, List.mem_singleton, memOp2, memOp3, absorb, abInt, abBool, abStr, abList, gones, Int.toNat_natCast, List.take_length, subE, List.nodup_cons, List.nodup_nil, not_false_eq_true, Nat.sub_self, conR, asG, asI, asBo, asStr, asIs, asBs, asE4, asI2, asI3, asLL, asLLL, Th_int, Th_Sint, Th_bool, Th_implGroup, Th_lawsGroup, Th_string, G_RealTranscriptsI, c_isCounted, c_has, c_isExp, c_trR, m_trR, hL])
    | ((with_reducible refine ens_step ?_ (fun hE => ?_)); · ((repeat' with_reducible apply And.intro) <;> first | with_reducible assumption | omega | exact True.intro | with_reducible rfl | (show ByteArray.size _ ≤ _; decide) | (simp; done) | (simp; omega) | rfl))
    | ((with_reducible refine And.intro ?_ ?_); · ((repeat' with_reducible apply And.intro) <;> first | with_reducible assumption | omega | exact True.intro | with_reducible rfl | (show ByteArray.size _ ≤ _; decide) | (simp; done) | (simp; omega) | rfl))
    | ((with_reducible refine Fork.intro (fun h' => ?_) (fun h' => ?_)) <;> (try simp only [Bool.not_eq_true', Bool.not_eq_false', bne] at h') <;> (replace hL := And.intro h' hL) <;> (try simp only [decide_eq_true_eq, decide_eq_false_iff_not, beq_iff_eq, beq_eq_false_iff_ne, ne_eq] at h') <;> (try (have hcb := cntT_use h'; obtain ⟨hq23, hgd⟩ := hcb; have hG := M.goodB_of hgd; have hq2 := hG.q2; have hqp := hG.qp; have hp3 := hG.p3; have hpM := hG.pM)) <;> (try (have hub : 0 ≤ u ∧ u < p := elem_bd (elemB_t h'))) <;> (try (have hib := inr_t h')) <;> (try (have he1 : elemsB p q [u, v] = true := h'; have hub := elem_bd (elemsB_mem he1 (x := u) (by simp)); have hvb := elem_bd (elemsB_mem he1 (x := v) (by simp)))))
    | (with_reducible refine AWp.skipS ?_)
    | ((with_reducible refine AWp.condT rfl ?_))
    | ((with_reducible refine AWp.condF rfl ?_))
    | (with_reducible refine AWp.condB rfl ?_)
    | ((with_reducible refine AWp.ret_id ?_); refine AWp.sub (Sub.nilSlot 6 200006 88 (.pair .int (.pair .int .int)) rfl rfl) ?_)
    | (with_reducible refine AWp.ret ?_)
    | (with_reducible refine seqQ_n ?_)
    | (with_reducible refine seqQ_ret ?_)
    | (with_reducible refine blkQ_ret ?_)
    | (with_reducible refine blkQ_n ?_)
    | (with_reducible refine seqQ_exit ?_)
    | (with_reducible refine blkQ_exit ?_)
    | (with_reducible refine blkQ_other (by decide) ?_)
    | (with_reducible refine AWp.block ?_)
    | (with_reducible refine AWp.exit ?_)
    | (with_reducible refine AWp.skip ?_)
    | ((with_reducible refine EndsAt_id ?_); (try subst_vars); (try simp only [PRt, okRt, hL, List.length_cons, List.length_nil, Nat.zero_add, Nat.reduceAdd, Bool.and_true, Bool.and_false, Bool.true_and, Bool.false_and, Bool.and_self, ↓reduceIte, Bool.false_eq_true, Bool.not_true, Bool.not_false, bne]); refine EndsAt.done [_] (by first | exact .inr rfl | exact .inl rfl) rfl rfl ?_ ?_ <;> first | decide | (repeat' (first | rfl | apply And.intro | trivial)))
    | (with_reducible refine AWp.seq ?_)⟩
noncomputable def c_SimulatedTranscriptsI : Con0 := conF [(.pair .int (.pair .int .int)), .int, .int] fun (⟨⟨p, q, g⟩, u, v, _⟩ : (Int × Int × Int) × Int × Int × Unit) => (True, .tup [.own 0 (PSt p q g u v).length, .lit (.bool (okSt p q g u v))], [.row 88 (.pair .int (.pair .int .int)) (PSt p q g u v)])
noncomputable def G_SimulatedTranscriptsI : List (FuncId × Con) := [(69, mk c_isCounted), (74, mk c_hasAll), (70, mk c_trS)]
theorem G_SimulatedTranscriptsI_ok : ∀ f C, (f, C) ∈ G_SimulatedTranscriptsI → C.ok Try.prog f := by
  intro f C h
  simp only [G_SimulatedTranscriptsI, List.mem_cons, Prod.mk.injEq, List.not_mem_nil, or_false] at h
  rcases h with ⟨rfl, rfl⟩ | ⟨rfl, rfl⟩ | ⟨rfl, rfl⟩
  · exact ok_isCounted
  · exact ok_hasAll
  · exact ok_trS
set_option maxRecDepth 100000 in
set_option maxHeartbeats 4000000 in
theorem ok_SimulatedTranscriptsI : (mk c_SimulatedTranscriptsI).ok Try.prog 36 := okF (Θ := Th) (N := 22) (rs := [.tmp 6, .tmp 7]) Th_ok Try.func36 (by kernel_rfl) rfl Try.results36 (by decide) (by kernel_rfl) fun (⟨⟨p, q, g⟩, u, v, _⟩ : (Int × Int × Int) × Int × Int × Unit) => ⟨rfl, rfl, Nat.le_of_ble_eq_true rfl, fun hc w0 => by
  have hL := dmy_eq
  try dsimp only at hc
  try dsimp only
  refine AWp.body rfl ?_
  repeat' first
    | ((with_reducible refine hK _ _ ?_); clear hK K)
    | ((with_reducible refine hK _ _ (by kernel_rfl) ?_); clear hK K)
    | ((with_reducible refine AWp.pS Th_ok G_SimulatedTranscriptsI_ok [0, 1, 2, 3, 4, 5, 6, 7, 18] (by decide) ?_); intro K hK)
    | ((with_reducible refine AWp.dS (by kernel_rfl) Th_ok G_SimulatedTranscriptsI_ok [0, 1, 2, 3, 4, 5, 6, 7, 18] ?_); intro K hK)
    | ((with_reducible refine AWp.pE Th_ok G_SimulatedTranscriptsI_ok [0, 1, 2, 3, 4, 5, 6, 7, 18] (by decide) ?_); intro K hK)
    | ((with_reducible refine AWp.dE (by kernel_rfl) Th_ok G_SimulatedTranscriptsI_ok [0, 1, 2, 3, 4, 5, 6, 7, 18] ?_); intro K hK)
    | ((first | with_reducible refine runF_id ?_ | with_reducible refine stepF_id ?_); simp (maxSteps := 2000000) only [runF, stepF, forkOf, gdOf, List.toList_toArray, stepOp, look, opAV, pureOp, callOp, memOp, AS.ev, AS.get, AS.obj, initS, initFrom, AV.cells, AS.upd, Option.bind_some, Option.bind_none, Option.map_some, Option.map_none, Option.getD_none, Option.getD_some, ↓reduceIte, Nat.reduceEqDiff, Nat.reduceAdd, Nat.reduceMul, Nat.reduceSub, List.nil_append, List.append_nil, List.cons_append, List.map_cons, List.map_nil, true_and, and_true, AS.fin, pick, dedup, List.mem_cons, List.not_mem_nil, or_false, false_or, List.size_toArray, List.length_cons, List.length_nil, loadAV, List.drop_zero, List.drop_succ_cons, List.take_zero, List.take_succ_cons, List.getElem?_cons_zero, List.getElem?_cons_succ, List.head?_cons, List.mapM_cons, List.mapM_nil, Option.bind_eq_bind, Option.pure_def, deeps3, deep3, deep2, deep1, deeps, deeps2, mixInts, AV.plain, mk, mkD, DCon.lift, DCon.runC, ren3, ren2, ren1, numb, List.zipIdx_nil, List.zipIdx_cons, List.all_nil, List.all_cons, Nat.reduceLeDiff, List.range, List.range.loop, Ty.sz, beq_self_eq_true, Bool.and_self, and_self, Ty.ofC, AO.isDead, Nat.reduceLT, if_true, Nat.zero_add, Nat.add_zero, ite_true, Nat.le_refl, Bool.false_eq_true, reduceCtorEq, if_false, ite_false, binAV, AO.ren, AV.isCell, fillAV, List.set_cons_zero, List.set_cons_succ, Ty.cells, Ty.flat, Ty.dflt, List.getD_cons_zero, List.getD_cons_succ, Int.reduceToNat, Int.reduceSub, Int.reduceAdd, Int.reduceMul, Int.reduceNeg, forall_eq_or_imp, forall_eq, gdL, id_eq, Nat.lt_irrefl, srcOf, List.replicate_succ, List.replicate_zero, dite_true, List.isEmpty_cons, Option.isSome_some, List.length_append, List.length_singleton, bne_self_eq_false, Bool.not_true, Bool.not_false, conF, asArgs, asArg, asTy, asI1, asB1, asS1, asL1, canons, canon, Fork.true_, Fork.false_, bne, Bool.not_not, List.length_map, pickO, AS.over, TI.bl, bne_iff_ne, AS.over2, without, keys, List.mem_singleton, memOp2, memOp3, absorb, abInt, abBool, abStr, abList, gones, Int.toNat_natCast, List.take_length, subE, List.nodup_cons, List.nodup_nil, not_false_eq_true, Nat.sub_self, conR, asG, asI, asBo, asStr, asIs, asBs, asE4, asI2, asI3, asLL, asLLL, Th_int, Th_Sint, Th_bool, Th_implGroup, Th_string, G_SimulatedTranscriptsI, c_isCounted, c_hasAll, c_trS, m_trS, hL])
    | ((with_reducible refine ens_step ?_ (fun hE => ?_)); · ((repeat' with_reducible apply And.intro) <;> first | with_reducible assumption | omega | exact True.intro | with_reducible rfl | (show ByteArray.size _ ≤ _; decide) | (simp; done) | (simp; omega) | rfl))
    | ((with_reducible refine And.intro ?_ ?_); · ((repeat' with_reducible apply And.intro) <;> first | with_reducible assumption | omega | exact True.intro | with_reducible rfl | (show ByteArray.size _ ≤ _; decide) | (simp; done) | (simp; omega) | rfl))
    | ((with_reducible refine Fork.intro (fun h' => ?_) (fun h' => ?_)) <;> (try simp only [Bool.not_eq_true', Bool.not_eq_false', bne] at h') <;> (replace hL := And.intro h' hL) <;> (try simp only [decide_eq_true_eq, decide_eq_false_iff_not, beq_iff_eq, beq_eq_false_iff_ne, ne_eq] at h') <;> (try (have hcb := cntT_use h'; obtain ⟨hq23, hgd⟩ := hcb; have hG := M.goodB_of hgd; have hq2 := hG.q2; have hqp := hG.qp; have hp3 := hG.p3; have hpM := hG.pM)) <;> (try (have hub : 0 ≤ u ∧ u < p := elem_bd (elemB_t h'))) <;> (try (have hib := inr_t h')) <;> (try (have he1 : elemsB p q [u, v] = true := h'; have hub := elem_bd (elemsB_mem he1 (x := u) (by simp)); have hvb := elem_bd (elemsB_mem he1 (x := v) (by simp)))))
    | (with_reducible refine AWp.skipS ?_)
    | ((with_reducible refine AWp.condT rfl ?_))
    | ((with_reducible refine AWp.condF rfl ?_))
    | (with_reducible refine AWp.condB rfl ?_)
    | ((with_reducible refine AWp.ret_id ?_); refine AWp.sub (Sub.nilSlot 6 200006 88 (.pair .int (.pair .int .int)) rfl rfl) ?_)
    | (with_reducible refine AWp.ret ?_)
    | (with_reducible refine seqQ_n ?_)
    | (with_reducible refine seqQ_ret ?_)
    | (with_reducible refine blkQ_ret ?_)
    | (with_reducible refine blkQ_n ?_)
    | (with_reducible refine seqQ_exit ?_)
    | (with_reducible refine blkQ_exit ?_)
    | (with_reducible refine blkQ_other (by decide) ?_)
    | (with_reducible refine AWp.block ?_)
    | (with_reducible refine AWp.exit ?_)
    | (with_reducible refine AWp.skip ?_)
    | ((with_reducible refine EndsAt_id ?_); (try subst_vars); (try simp only [PSt, okSt, hL, List.length_cons, List.length_nil, Nat.zero_add, Nat.reduceAdd, Bool.and_true, Bool.and_false, Bool.true_and, Bool.false_and, Bool.and_self, ↓reduceIte, Bool.false_eq_true, Bool.not_true, Bool.not_false, bne]); refine EndsAt.done [_] (by first | exact .inr rfl | exact .inl rfl) rfl rfl ?_ ?_ <;> first | decide | (repeat' (first | rfl | apply And.intro | trivial)))
    | (with_reducible refine AWp.seq ?_)⟩
end Go.Proofs.Ytgnnmifpfgpllaa
