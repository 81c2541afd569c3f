/- Abstract walks: ProveBit. -/
import Derived.Test.YtljlimlgdnbllaaC1
import Derived.Test.YtljlimlgdnbllaaB6
import Derived.Test.YtljlimlgdnbllaaAE
namespace Go.Proofs.Ytljlimlgdnbllaa
open Go.RowKit
set_option linter.unusedSimpArgs false
theorem prBit_len {p q g bh m r k0 k1 k2 : Int} : (prBit p q g bh m r k0 k1 k2).1.length = 2 ∧ (prBit p q g bh m r k0 k1 k2).2.1.length = 2 ∧ (prBit p q g bh m r k0 k1 k2).2.2.length = 2 := by
  refine ⟨rfl, ?_, ?_⟩
  · simp only [prBit]; split <;> rfl
  · simp only [prBit]; split <;> rfl
noncomputable def okBit (p q g bh : Int) (bs : List Int) (m r : Int) (ks : List Int) : Bool := l9B p q g bh bs && inr m 0 1 && inr r 0 (q - 1) && ((ks.length : Int) == 3) && expsB q ks
/-- what ProveBit returns -/
noncomputable def PBit (p q g bh : Int) (bs : List Int) (m r : Int) (ks : List Int) : List Int × List Int × List Int := if okBit p q g bh bs m r ks = true then prBit p q g bh m r (ks.getD 0 0) (ks.getD 1 0) (ks.getD 2 0) else ([], [], [])
theorem PBit_t {p q g bh : Int} {bs : List Int} {m r : Int} {ks : List Int} (h : okBit p q g bh bs m r ks = true) : PBit p q g bh bs m r ks = prBit p q g bh m r (ks.getD 0 0) (ks.getD 1 0) (ks.getD 2 0) := if_pos h
theorem PBit_f {p q g bh : Int} {bs : List Int} {m r : Int} {ks : List Int} (h : okBit p q g bh bs m r ks = false) : PBit p q g bh bs m r ks = ([], [], []) := if_neg (by rw [h]; decide)
theorem q_bd {p q g bh : Int} {bs : List Int} (h : l9B p q g bh bs = true) : -9000000000000000000 ≤ q ∧ q ≤ 9000000000000000000 := by
  have hG := M.goodB_of (l9B_of h).1
  have h1 := hG.q2; have h2 := hG.qp; have h3 := hG.pM
  omega
theorem expsB_one {q r : Int} : expsB q [r] = inr r 0 (q - 1) := by simp [expsB]
theorem ne3 {n : Int} (h : (n != 3) = false) : (n == 3) = true := by simpa using h
theorem ne3' {n : Int} (h : (n != 3) = true) : (n == 3) = false := by simpa using h
theorem okBit_use {p q g bh : Int} {bs : List Int} {m r : Int} {ks : List Int} (h1 : l9B p q g bh bs = true) (h2 : inr m 0 1 = true) (h3 : inr r 0 (q - 1) = true) (h4 : ((ks.length : Int) != 3) = false) (h5 : expsB q ks = true) : M.Grp p q g ∧ (0 ≤ bh ∧ bh < p) ∧ (m = 0 ∨ m = 1) ∧ (0 ≤ r ∧ r < q) ∧ ks.length = 3 ∧ ∀ x ∈ ks, 0 ≤ x ∧ x < q := by
  obtain ⟨h6, h7⟩ := l9B_of h1
  have h8 := inr_t h2
  have h9 := ne3 h4
  simp only [beq_iff_eq] at h9
  refine ⟨M.goodB_of h6, (by have h := (basesB_of h7).1; exact ⟨by have := h.1.1; omega, h.1.2⟩), by omega, inr_exp h3, by omega, fun x hx => expsB_mem h5 hx⟩
def kp_rBitChallenge : List Nat := [0, 1, 2, 3, 4, 5, 8]
noncomputable def G_rBitChallenge : List (FuncId × Con) := [(126, mk c_hChallenge)]
theorem G_rBitChallenge_ok : ∀ f C, (f, C) ∈ G_rBitChallenge → C.ok Try.prog f := by
  intro f C h
  simp only [G_rBitChallenge, List.mem_cons, Prod.mk.injEq, List.not_mem_nil, or_false] at h
  obtain ⟨rfl, rfl⟩ := h
  exact ok_hChallenge
set_option maxRecDepth 100000 in
set_option maxHeartbeats 4000000 in
theorem body_rBitChallenge (p q g : Int) (bh : Int) (bs : List Int) (c : Int) (xs : List Int) (hc : M.Grp p q g ∧ (0 ≤ bh ∧ bh < p) ∧ (0 ≤ c ∧ c < p) ∧ 2 ≤ xs.length ∧ (0 ≤ xs.getD 0 0 ∧ xs.getD 0 0 < p) ∧ 0 ≤ xs.getD 1 0 ∧ xs.getD 1 0 < p) (w0 : World) : AWp Try.prog w0 21 ((Try.f133).body.getD .skip) (initS [.agg [.lit (.int .i64 p), .lit (.int .i64 q), .lit (.int .i64 g)], .agg [.lit (.int .i64 bh), .sl .int bs], .lit (.int .i64 c), .sl .int xs]) (EndsAt Th [.tmp 8] (.lit (.int .i64 (M.chal p q g [98, 105, 116] [bh, c, xs.getD 0 0, xs.getD 1 0]))) []) := by
  obtain ⟨hG, hb, hc, hl, h0, h1⟩ := hc
  have hq2 := hG.q2
  have hqp := hG.qp
  have hp3 := hG.p3
  have hpM := hG.pM
  refine AWp.body rfl ?_
  refine AWp.plainS Th_ok G_rBitChallenge_ok [] kp_rBitChallenge [some 4, some 5, some 8] rfl (by decide) ?_
  intro K hK
  simp (maxSteps := 2000000) only [runR, List.toList_toArray, stepOp, look, opAV, pureOp, callOp, memOp, AS.ev, AS.get, AS.obj, initS, initFrom, AV.cells, AS.upd, Option.bind_some, Option.bind_none, Option.map_some, Option.map_none, Option.getD_none, Option.getD_some, ↓reduceIte, Nat.reduceEqDiff, Nat.reduceAdd, Nat.reduceMul, Nat.reduceSub, List.nil_append, List.append_nil, List.cons_append, List.map_cons, List.map_nil, true_and, and_true, AS.fin, pick, dedup, List.mem_cons, List.not_mem_nil, or_false, false_or, List.size_toArray, List.length_cons, List.length_nil, loadAV, List.drop_zero, List.drop_succ_cons, List.take_zero, List.take_succ_cons, List.getElem?_cons_zero, List.getElem?_cons_succ, List.head?_cons, List.mapM_cons, List.mapM_nil, Option.bind_eq_bind, Option.pure_def, deeps3, deep3, deep2, deep1, deeps, deeps2, mixInts, AV.plain, mk, mkD, DCon.lift, DCon.runC, asG, asI, asBo, asStr, asIs, asBs, asE4, asI2, asI3, asLL, asLLL, ren3, ren2, ren1, numb, List.zipIdx_nil, List.zipIdx_cons, List.all_nil, List.all_cons, Nat.reduceLeDiff, List.range, List.range.loop, Ty.sz, beq_self_eq_true, Bool.and_self, and_self, Ty.ofC, AO.isDead, Nat.reduceLT, if_true, Nat.zero_add, Nat.add_zero, ite_true, Nat.le_refl, Bool.false_eq_true, reduceCtorEq, if_false, ite_false, binAV, AO.ren, AV.isCell, fillAV, List.set_cons_zero, List.set_cons_succ, Ty.cells, Ty.flat, Ty.dflt, List.getD_cons_zero, List.getD_cons_succ, Int.reduceToNat, Int.reduceSub, Int.reduceAdd, Int.reduceMul, Int.reduceNeg, forall_eq_or_imp, forall_eq, gdL, id_eq, Nat.lt_irrefl, srcOf, List.replicate_succ, List.replicate_zero, dite_true, List.isEmpty_cons, Option.isSome_some, List.length_append, List.length_singleton, bne_self_eq_false, Bool.not_true, Bool.not_false, kp_rBitChallenge, Th_int, Th_bool, Th_string, Th_Sint, Th_implGroup, Th_implBases, Th_implProof, G_rBitChallenge, c_hChallenge]
  repeat (refine ⟨by ((repeat' apply And.intro) <;> first | with_reducible assumption | omega | trivial | rfl  | (apply decide_eq_false; omega) | (simp; done) | (simp; omega)), ?_⟩)
  refine hK _ _ ?_
  clear hK K
  refine AWp.drawnS (by kernel_rfl) Th_ok G_rBitChallenge_ok [] kp_rBitChallenge [some 9, some 10, some 11, some 12, some 13, some 14, some 15, some 16, some 17, some 18, some 19, some 20, some 8] rfl ?_
  intro K hK
  simp (maxSteps := 2000000) only [runR, List.toList_toArray, stepOp, look, opAV, pureOp, callOp, memOp, AS.ev, AS.get, AS.obj, initS, initFrom, AV.cells, AS.upd, Option.bind_some, Option.bind_none, Option.map_some, Option.map_none, Option.getD_none, Option.getD_some, ↓reduceIte, Nat.reduceEqDiff, Nat.reduceAdd, Nat.reduceMul, Nat.reduceSub, List.nil_append, List.append_nil, List.cons_append, List.map_cons, List.map_nil, true_and, and_true, AS.fin, pick, dedup, List.mem_cons, List.not_mem_nil, or_false, false_or, List.size_toArray, List.length_cons, List.length_nil, loadAV, List.drop_zero, List.drop_succ_cons, List.take_zero, List.take_succ_cons, List.getElem?_cons_zero, List.getElem?_cons_succ, List.head?_cons, List.mapM_cons, List.mapM_nil, Option.bind_eq_bind, Option.pure_def, deeps3, deep3, deep2, deep1, deeps, deeps2, mixInts, AV.plain, mk, mkD, DCon.lift, DCon.runC, asG, asI, asBo, asStr, asIs, asBs, asE4, asI2, asI3, asLL, asLLL, ren3, ren2, ren1, numb, List.zipIdx_nil, List.zipIdx_cons, List.all_nil, List.all_cons, Nat.reduceLeDiff, List.range, List.range.loop, Ty.sz, beq_self_eq_true, Bool.and_self, and_self, Ty.ofC, AO.isDead, Nat.reduceLT, if_true, Nat.zero_add, Nat.add_zero, ite_true, Nat.le_refl, Bool.false_eq_true, reduceCtorEq, if_false, ite_false, binAV, AO.ren, AV.isCell, fillAV, List.set_cons_zero, List.set_cons_succ, Ty.cells, Ty.flat, Ty.dflt, List.getD_cons_zero, List.getD_cons_succ, Int.reduceToNat, Int.reduceSub, Int.reduceAdd, Int.reduceMul, Int.reduceNeg, forall_eq_or_imp, forall_eq, gdL, id_eq, Nat.lt_irrefl, srcOf, List.replicate_succ, List.replicate_zero, dite_true, List.isEmpty_cons, Option.isSome_some, List.length_append, List.length_singleton, bne_self_eq_false, Bool.not_true, Bool.not_false, kp_rBitChallenge, Th_int, Th_bool, Th_string, Th_Sint, Th_implGroup, Th_implBases, Th_implProof, G_rBitChallenge, c_hChallenge]
  try (generalize hv1 : M.chal p q g _ _ = v1; have bv1 : 0 ≤ v1 ∧ v1 < q := by rw [← hv1]; exact chal_bd (by omega) _ _)
  repeat (refine ⟨by ((repeat' apply And.intro) <;> first | with_reducible assumption | omega | trivial | rfl  | (apply decide_eq_false; omega) | (simp; done) | (simp; omega)), ?_⟩)
  refine hK _ _ (by kernel_rfl) ?_
  clear hK K
  refine AWp.ret ?_
  repeat (first | refine seqQ_ret ?_ | refine blkQ_ret ?_)
  subst_vars
  refine ⟨.inr rfl, [], rfl, by decide, rfl, fun i ob h => ?_⟩
  simp at h
noncomputable def c_rBitChallenge : Con0 := fun args => match args with
  | [a0, a1, a2, a3] => match asG a0, asBs a1, asI a2, asIs a3 with
    | some (p, q, g), some (bh, bs), some c, some xs => some (M.Grp p q g ∧ (0 ≤ bh ∧ bh < p) ∧ (0 ≤ c ∧ c < p) ∧ 2 ≤ xs.length ∧ (0 ≤ xs.getD 0 0 ∧ xs.getD 0 0 < p) ∧ 0 ≤ xs.getD 1 0 ∧ xs.getD 1 0 < p, .lit (.int .i64 (M.chal p q g [98, 105, 116] [bh, c, xs.getD 0 0, xs.getD 1 0])), [])
    | _, _, _, _ => none
  | _ => none
theorem ok_rBitChallenge : (mk c_rBitChallenge).ok Try.prog 133 := Con0.okOf2 (Θ := Th) (N := 21) (rs := [.tmp 8]) Th_ok Try.func133 (by kernel_rfl) rfl Try.results133 (by decide) (by kernel_rfl) fun args c x obs h => by
  unfold c_rBitChallenge at h
  split at h
  · split at h
    · rename_i p q g bh bs c xs e0 e1 e2 e3
      cases h
      refine ⟨rfl, rfl, by simp, [.agg [.lit (.int .i64 p), .lit (.int .i64 q), .lit (.int .i64 g)], .agg [.lit (.int .i64 bh), .sl .int bs], .lit (.int .i64 c), .sl .int xs], rfl, fun w vs hv => ?_, fun hc w0 => body_rBitChallenge p q g bh bs c xs hc w0⟩
      obtain ⟨u0, vs, rfl, r0, h0⟩ := hv.cons_of
      obtain ⟨u1, vs, rfl, r1, h1⟩ := h0.cons_of
      obtain ⟨u2, vs, rfl, r2, h2⟩ := h1.cons_of
      obtain ⟨u3, vs, rfl, r3, h3⟩ := h2.cons_of
      rw [h3.nil_of]
      exact .cons (asG_can e0 r0) (.cons (asBs_can e1 r1) (.cons (asI_can e2 r2) (.cons (asIs_can e3 r3) (.nil))))
    · cases h
  · cases h
def kp_rBit : List Nat := [0, 1, 2, 3, 4, 5, 6, 10, 11, 12, 13, 14, 15]
noncomputable def G_rBit : List (FuncId × Con) := [(82, mk c_pCommit), (69, mk c_gExp), (67, mk c_gMul), (132, mk c_rCase), (133, mk c_rBitChallenge), (84, mk c_nMod)]
theorem G_rBit_ok : ∀ f C, (f, C) ∈ G_rBit → C.ok Try.prog f := by
  intro f C h
  simp only [G_rBit, List.mem_cons, Prod.mk.injEq, List.not_mem_nil, or_false] at h
  rcases h with ⟨rfl, rfl⟩ | ⟨rfl, rfl⟩ | ⟨rfl, rfl⟩ | ⟨rfl, rfl⟩ | ⟨rfl, rfl⟩ | ⟨rfl, rfl⟩
  · exact ok_pCommit
  · exact ok_gExp
  · exact ok_gMul
  · exact ok_rCase
  · exact ok_rBitChallenge
  · exact ok_nMod
set_option maxRecDepth 100000 in
set_option maxHeartbeats 4000000 in
theorem body_rBit (p q g : Int) (bh : Int) (bs : List Int) (m : Int) (r : Int) (ks : List Int) (hc : M.Grp p q g ∧ (0 ≤ bh ∧ bh < p) ∧ (m = 0 ∨ m = 1) ∧ (0 ≤ r ∧ r < q) ∧ ks.length = 3 ∧ ∀ x ∈ ks, 0 ≤ x ∧ x < q) (w0 : World) : AWp Try.prog w0 109 ((Try.f89).body.getD .skip) (initS [.agg [.lit (.int .i64 p), .lit (.int .i64 q), .lit (.int .i64 g)], .agg [.lit (.int .i64 bh), .sl .int bs], .lit (.int .i64 m), .lit (.int .i64 r), .sl .int ks]) (EndsAt Th [.cell 10 38] (.agg [.own 0 2, .own 1 2, .own 2 2]) [.row 3 .int (prBit p q g bh m r (ks.getD 0 0) (ks.getD 1 0) (ks.getD 2 0)).1, .row 3 .int (prBit p q g bh m r (ks.getD 0 0) (ks.getD 1 0) (ks.getD 2 0)).2.1, .row 3 .int (prBit p q g bh m r (ks.getD 0 0) (ks.getD 1 0) (ks.getD 2 0)).2.2]) := by
  obtain ⟨hG, hb, hm, hr, hl, hk⟩ := hc
  have hq2 := hG.q2
  have hqp := hG.qp
  have hp3 := hG.p3
  have hpM := hG.pM
  obtain ⟨hk0, hk1, hk2⟩ := of_all3 hl hk
  have hgb : 0 ≤ g ∧ g < p := ⟨by have := hG.g2; omega, hG.gp⟩
  rcases hm with rfl | rfl
  all_goals
    refine AWp.body rfl ?_
    refine AWp.plainS Th_ok G_rBit_ok [] kp_rBit [some 5, some 6, some 10] rfl (by decide) ?_
    intro K hK
    simp (maxSteps := 2000000) only [runR, List.toList_toArray, stepOp, look, opAV, pureOp, callOp, memOp, AS.ev, AS.get, AS.obj, initS, initFrom, AV.cells, AS.upd, Option.bind_some, Option.bind_none, Option.map_some, Option.map_none, Option.getD_none, Option.getD_some, ↓reduceIte, Nat.reduceEqDiff, Nat.reduceAdd, Nat.reduceMul, Nat.reduceSub, List.nil_append, List.append_nil, List.cons_append, List.map_cons, List.map_nil, true_and, and_true, AS.fin, pick, dedup, List.mem_cons, List.not_mem_nil, or_false, false_or, List.size_toArray, List.length_cons, List.length_nil, loadAV, List.drop_zero, List.drop_succ_cons, List.take_zero, List.take_succ_cons, List.getElem?_cons_zero, List.getElem?_cons_succ, List.head?_cons, List.mapM_cons, List.mapM_nil, Option.bind_eq_bind, Option.pure_def, deeps3, deep3, deep2, deep1, deeps, deeps2, mixInts, AV.plain, mk, mkD, DCon.lift, DCon.runC, asG, asI, asBo, asStr, asIs, asBs, asE4, asI2, asI3, asLL, asLLL, ren3, ren2, ren1, numb, List.zipIdx_nil, List.zipIdx_cons, List.all_nil, List.all_cons, Nat.reduceLeDiff, List.range, List.range.loop, Ty.sz, beq_self_eq_true, Bool.and_self, and_self, Ty.ofC, AO.isDead, Nat.reduceLT, if_true, Nat.zero_add, Nat.add_zero, ite_true, Nat.le_refl, Bool.false_eq_true, reduceCtorEq, if_false, ite_false, binAV, AO.ren, AV.isCell, fillAV, List.set_cons_zero, List.set_cons_succ, Ty.cells, Ty.flat, Ty.dflt, List.getD_cons_zero, List.getD_cons_succ, Int.reduceToNat, Int.reduceSub, Int.reduceAdd, Int.reduceMul, Int.reduceNeg, forall_eq_or_imp, forall_eq, gdL, id_eq, Nat.lt_irrefl, srcOf, List.replicate_succ, List.replicate_zero, dite_true, List.isEmpty_cons, Option.isSome_some, List.length_append, List.length_singleton, bne_self_eq_false, Bool.not_true, Bool.not_false, kp_rBit, Th_int, Th_bool, Th_string, Th_Sint, Th_implGroup, Th_implBases, Th_implProof, G_rBit, c_pCommit, c_gExp, c_gMul, c_rCase, c_rBitChallenge, c_nMod]
    repeat (refine ⟨by ((repeat' apply And.intro) <;> first | with_reducible assumption | omega | trivial | rfl  | (apply decide_eq_false; omega) | (simp; done) | (simp; omega)), ?_⟩)
    refine hK _ _ ?_
    clear hK K
    refine AWp.plainS Th_ok G_rBit_ok [] kp_rBit [some 16, some 17, some 18, some 19, some 20, some 11] rfl (by decide) ?_
    intro K hK
    simp (maxSteps := 2000000) only [runR, List.toList_toArray, stepOp, look, opAV, pureOp, callOp, memOp, AS.ev, AS.get, AS.obj, initS, initFrom, AV.cells, AS.upd, Option.bind_some, Option.bind_none, Option.map_some, Option.map_none, Option.getD_none, Option.getD_some, ↓reduceIte, Nat.reduceEqDiff, Nat.reduceAdd, Nat.reduceMul, Nat.reduceSub, List.nil_append, List.append_nil, List.cons_append, List.map_cons, List.map_nil, true_and, and_true, AS.fin, pick, dedup, List.mem_cons, List.not_mem_nil, or_false, false_or, List.size_toArray, List.length_cons, List.length_nil, loadAV, List.drop_zero, List.drop_succ_cons, List.take_zero, List.take_succ_cons, List.getElem?_cons_zero, List.getElem?_cons_succ, List.head?_cons, List.mapM_cons, List.mapM_nil, Option.bind_eq_bind, Option.pure_def, deeps3, deep3, deep2, deep1, deeps, deeps2, mixInts, AV.plain, mk, mkD, DCon.lift, DCon.runC, asG, asI, asBo, asStr, asIs, asBs, asE4, asI2, asI3, asLL, asLLL, ren3, ren2, ren1, numb, List.zipIdx_nil, List.zipIdx_cons, List.all_nil, List.all_cons, Nat.reduceLeDiff, List.range, List.range.loop, Ty.sz, beq_self_eq_true, Bool.and_self, and_self, Ty.ofC, AO.isDead, Nat.reduceLT, if_true, Nat.zero_add, Nat.add_zero, ite_true, Nat.le_refl, Bool.false_eq_true, reduceCtorEq, if_false, ite_false, binAV, AO.ren, AV.isCell, fillAV, List.set_cons_zero, List.set_cons_succ, Ty.cells, Ty.flat, Ty.dflt, List.getD_cons_zero, List.getD_cons_succ, Int.reduceToNat, Int.reduceSub, Int.reduceAdd, Int.reduceMul, Int.reduceNeg, forall_eq_or_imp, forall_eq, gdL, id_eq, Nat.lt_irrefl, srcOf, List.replicate_succ, List.replicate_zero, dite_true, List.isEmpty_cons, Option.isSome_some, List.length_append, List.length_singleton, bne_self_eq_false, Bool.not_true, Bool.not_false, kp_rBit, Th_int, Th_bool, Th_string, Th_Sint, Th_implGroup, Th_implBases, Th_implProof, G_rBit, c_pCommit, c_gExp, c_gMul, c_rCase, c_rBitChallenge, c_nMod]
    try (generalize hv1 : cmt p q g _ _ _ = v1; have bv1 : 0 ≤ v1 ∧ v1 < p := by rw [← hv1]; exact cmt_bd (by omega))
    repeat (refine ⟨by ((repeat' apply And.intro) <;> first | with_reducible assumption | omega | trivial | rfl  | (apply decide_eq_false; omega) | (simp; done) | (simp; omega)), ?_⟩)
    refine hK _ _ ?_
    clear hK K
    refine AWp.drawnS (by kernel_rfl) Th_ok G_rBit_ok [] kp_rBit [some 21, some 22, some 23, some 12, some 13, some 14] rfl ?_
    intro K hK
    simp (maxSteps := 2000000) only [runR, List.toList_toArray, stepOp, look, opAV, pureOp, callOp, memOp, AS.ev, AS.get, AS.obj, initS, initFrom, AV.cells, AS.upd, Option.bind_some, Option.bind_none, Option.map_some, Option.map_none, Option.getD_none, Option.getD_some, ↓reduceIte, Nat.reduceEqDiff, Nat.reduceAdd, Nat.reduceMul, Nat.reduceSub, List.nil_append, List.append_nil, List.cons_append, List.map_cons, List.map_nil, true_and, and_true, AS.fin, pick, dedup, List.mem_cons, List.not_mem_nil, or_false, false_or, List.size_toArray, List.length_cons, List.length_nil, loadAV, List.drop_zero, List.drop_succ_cons, List.take_zero, List.take_succ_cons, List.getElem?_cons_zero, List.getElem?_cons_succ, List.head?_cons, List.mapM_cons, List.mapM_nil, Option.bind_eq_bind, Option.pure_def, deeps3, deep3, deep2, deep1, deeps, deeps2, mixInts, AV.plain, mk, mkD, DCon.lift, DCon.runC, asG, asI, asBo, asStr, asIs, asBs, asE4, asI2, asI3, asLL, asLLL, ren3, ren2, ren1, numb, List.zipIdx_nil, List.zipIdx_cons, List.all_nil, List.all_cons, Nat.reduceLeDiff, List.range, List.range.loop, Ty.sz, beq_self_eq_true, Bool.and_self, and_self, Ty.ofC, AO.isDead, Nat.reduceLT, if_true, Nat.zero_add, Nat.add_zero, ite_true, Nat.le_refl, Bool.false_eq_true, reduceCtorEq, if_false, ite_false, binAV, AO.ren, AV.isCell, fillAV, List.set_cons_zero, List.set_cons_succ, Ty.cells, Ty.flat, Ty.dflt, List.getD_cons_zero, List.getD_cons_succ, Int.reduceToNat, Int.reduceSub, Int.reduceAdd, Int.reduceMul, Int.reduceNeg, forall_eq_or_imp, forall_eq, gdL, id_eq, Nat.lt_irrefl, srcOf, List.replicate_succ, List.replicate_zero, dite_true, List.isEmpty_cons, Option.isSome_some, List.length_append, List.length_singleton, bne_self_eq_false, Bool.not_true, Bool.not_false, kp_rBit, Th_int, Th_bool, Th_string, Th_Sint, Th_implGroup, Th_implBases, Th_implProof, G_rBit, c_pCommit, c_gExp, c_gMul, c_rCase, c_rBitChallenge, c_nMod]
    repeat (refine ⟨by ((repeat' apply And.intro) <;> first | with_reducible assumption | omega | trivial | rfl  | (apply decide_eq_false; omega) | (simp; done) | (simp; omega)), ?_⟩)
    refine hK _ _ (by kernel_rfl) ?_
    clear hK K
    refine AWp.plainS Th_ok G_rBit_ok [] kp_rBit [some 24, some 25, some 15] rfl (by decide) ?_
    intro K hK
    simp (maxSteps := 2000000) only [runR, List.toList_toArray, stepOp, look, opAV, pureOp, callOp, memOp, AS.ev, AS.get, AS.obj, initS, initFrom, AV.cells, AS.upd, Option.bind_some, Option.bind_none, Option.map_some, Option.map_none, Option.getD_none, Option.getD_some, ↓reduceIte, Nat.reduceEqDiff, Nat.reduceAdd, Nat.reduceMul, Nat.reduceSub, List.nil_append, List.append_nil, List.cons_append, List.map_cons, List.map_nil, true_and, and_true, AS.fin, pick, dedup, List.mem_cons, List.not_mem_nil, or_false, false_or, List.size_toArray, List.length_cons, List.length_nil, loadAV, List.drop_zero, List.drop_succ_cons, List.take_zero, List.take_succ_cons, List.getElem?_cons_zero, List.getElem?_cons_succ, List.head?_cons, List.mapM_cons, List.mapM_nil, Option.bind_eq_bind, Option.pure_def, deeps3, deep3, deep2, deep1, deeps, deeps2, mixInts, AV.plain, mk, mkD, DCon.lift, DCon.runC, asG, asI, asBo, asStr, asIs, asBs, asE4, asI2, asI3, asLL, asLLL, ren3, ren2, ren1, numb, List.zipIdx_nil, List.zipIdx_cons, List.all_nil, List.all_cons, Nat.reduceLeDiff, List.range, List.range.loop, Ty.sz, beq_self_eq_true, Bool.and_self, and_self, Ty.ofC, AO.isDead, Nat.reduceLT, if_true, Nat.zero_add, Nat.add_zero, ite_true, Nat.le_refl, Bool.false_eq_true, reduceCtorEq, if_false, ite_false, binAV, AO.ren, AV.isCell, fillAV, List.set_cons_zero, List.set_cons_succ, Ty.cells, Ty.flat, Ty.dflt, List.getD_cons_zero, List.getD_cons_succ, Int.reduceToNat, Int.reduceSub, Int.reduceAdd, Int.reduceMul, Int.reduceNeg, forall_eq_or_imp, forall_eq, gdL, id_eq, Nat.lt_irrefl, srcOf, List.replicate_succ, List.replicate_zero, dite_true, List.isEmpty_cons, Option.isSome_some, List.length_append, List.length_singleton, bne_self_eq_false, Bool.not_true, Bool.not_false, kp_rBit, Th_int, Th_bool, Th_string, Th_Sint, Th_implGroup, Th_implBases, Th_implProof, G_rBit, c_pCommit, c_gExp, c_gMul, c_rCase, c_rBitChallenge, c_nMod]
    repeat (refine ⟨by ((repeat' apply And.intro) <;> first | with_reducible assumption | omega | trivial | rfl  | (apply decide_eq_false; omega) | (simp; done) | (simp; omega)), ?_⟩)
    refine hK _ _ ?_
    clear hK K
    refine AWp.plainS Th_ok G_rBit_ok [] kp_rBit [some 26, some 27, some 28, some 29, some 30, some 31, none] rfl (by decide) ?_
    intro K hK
    simp (maxSteps := 2000000) only [runR, List.toList_toArray, stepOp, look, opAV, pureOp, callOp, memOp, AS.ev, AS.get, AS.obj, initS, initFrom, AV.cells, AS.upd, Option.bind_some, Option.bind_none, Option.map_some, Option.map_none, Option.getD_none, Option.getD_some, ↓reduceIte, Nat.reduceEqDiff, Nat.reduceAdd, Nat.reduceMul, Nat.reduceSub, List.nil_append, List.append_nil, List.cons_append, List.map_cons, List.map_nil, true_and, and_true, AS.fin, pick, dedup, List.mem_cons, List.not_mem_nil, or_false, false_or, List.size_toArray, List.length_cons, List.length_nil, loadAV, List.drop_zero, List.drop_succ_cons, List.take_zero, List.take_succ_cons, List.getElem?_cons_zero, List.getElem?_cons_succ, List.head?_cons, List.mapM_cons, List.mapM_nil, Option.bind_eq_bind, Option.pure_def, deeps3, deep3, deep2, deep1, deeps, deeps2, mixInts, AV.plain, mk, mkD, DCon.lift, DCon.runC, asG, asI, asBo, asStr, asIs, asBs, asE4, asI2, asI3, asLL, asLLL, ren3, ren2, ren1, numb, List.zipIdx_nil, List.zipIdx_cons, List.all_nil, List.all_cons, Nat.reduceLeDiff, List.range, List.range.loop, Ty.sz, beq_self_eq_true, Bool.and_self, and_self, Ty.ofC, AO.isDead, Nat.reduceLT, if_true, Nat.zero_add, Nat.add_zero, ite_true, Nat.le_refl, Bool.false_eq_true, reduceCtorEq, if_false, ite_false, binAV, AO.ren, AV.isCell, fillAV, List.set_cons_zero, List.set_cons_succ, Ty.cells, Ty.flat, Ty.dflt, List.getD_cons_zero, List.getD_cons_succ, Int.reduceToNat, Int.reduceSub, Int.reduceAdd, Int.reduceMul, Int.reduceNeg, forall_eq_or_imp, forall_eq, gdL, id_eq, Nat.lt_irrefl, srcOf, List.replicate_succ, List.replicate_zero, dite_true, List.isEmpty_cons, Option.isSome_some, List.length_append, List.length_singleton, bne_self_eq_false, Bool.not_true, Bool.not_false, kp_rBit, Th_int, Th_bool, Th_string, Th_Sint, Th_implGroup, Th_implBases, Th_implProof, G_rBit, c_pCommit, c_gExp, c_gMul, c_rCase, c_rBitChallenge, c_nMod]
    repeat (refine ⟨by ((repeat' apply And.intro) <;> first | with_reducible assumption | omega | trivial | rfl  | (apply decide_eq_false; omega) | (simp; done) | (simp; omega)), ?_⟩)
    refine hK _ _ ?_
    clear hK K
    refine AWp.plainS Th_ok G_rBit_ok [] kp_rBit [some 32, some 33, some 34, some 35, some 36, some 37, none] rfl (by decide) ?_
    intro K hK
    simp (maxSteps := 2000000) only [runR, List.toList_toArray, stepOp, look, opAV, pureOp, callOp, memOp, AS.ev, AS.get, AS.obj, initS, initFrom, AV.cells, AS.upd, Option.bind_some, Option.bind_none, Option.map_some, Option.map_none, Option.getD_none, Option.getD_some, ↓reduceIte, Nat.reduceEqDiff, Nat.reduceAdd, Nat.reduceMul, Nat.reduceSub, List.nil_append, List.append_nil, List.cons_append, List.map_cons, List.map_nil, true_and, and_true, AS.fin, pick, dedup, List.mem_cons, List.not_mem_nil, or_false, false_or, List.size_toArray, List.length_cons, List.length_nil, loadAV, List.drop_zero, List.drop_succ_cons, List.take_zero, List.take_succ_cons, List.getElem?_cons_zero, List.getElem?_cons_succ, List.head?_cons, List.mapM_cons, List.mapM_nil, Option.bind_eq_bind, Option.pure_def, deeps3, deep3, deep2, deep1, deeps, deeps2, mixInts, AV.plain, mk, mkD, DCon.lift, DCon.runC, asG, asI, asBo, asStr, asIs, asBs, asE4, asI2, asI3, asLL, asLLL, ren3, ren2, ren1, numb, List.zipIdx_nil, List.zipIdx_cons, List.all_nil, List.all_cons, Nat.reduceLeDiff, List.range, List.range.loop, Ty.sz, beq_self_eq_true, Bool.and_self, and_self, Ty.ofC, AO.isDead, Nat.reduceLT, if_true, Nat.zero_add, Nat.add_zero, ite_true, Nat.le_refl, Bool.false_eq_true, reduceCtorEq, if_false, ite_false, binAV, AO.ren, AV.isCell, fillAV, List.set_cons_zero, List.set_cons_succ, Ty.cells, Ty.flat, Ty.dflt, List.getD_cons_zero, List.getD_cons_succ, Int.reduceToNat, Int.reduceSub, Int.reduceAdd, Int.reduceMul, Int.reduceNeg, forall_eq_or_imp, forall_eq, gdL, id_eq, Nat.lt_irrefl, srcOf, List.replicate_succ, List.replicate_zero, dite_true, List.isEmpty_cons, Option.isSome_some, List.length_append, List.length_singleton, bne_self_eq_false, Bool.not_true, Bool.not_false, kp_rBit, Th_int, Th_bool, Th_string, Th_Sint, Th_implGroup, Th_implBases, Th_implProof, G_rBit, c_pCommit, c_gExp, c_gMul, c_rCase, c_rBitChallenge, c_nMod]
    repeat (refine ⟨by ((repeat' apply And.intro) <;> first | with_reducible assumption | omega | trivial | rfl  | (apply decide_eq_false; omega) | (simp; done) | (simp; omega)), ?_⟩)
    refine hK _ _ ?_
    clear hK K
    refine AWp.drawnS (by kernel_rfl) Th_ok G_rBit_ok [] kp_rBit [some 38, some 39, some 40, some 41, some 42, some 43, some 44, some 45, some 46, some 47, some 48, some 49, some 50, some 51, some 52, some 53, some 54, some 55, some 56, some 57, some 58, some 59, some 60, some 61, some 62, none] rfl ?_
    intro K hK
    simp (maxSteps := 2000000) only [runR, List.toList_toArray, stepOp, look, opAV, pureOp, callOp, memOp, AS.ev, AS.get, AS.obj, initS, initFrom, AV.cells, AS.upd, Option.bind_some, Option.bind_none, Option.map_some, Option.map_none, Option.getD_none, Option.getD_some, ↓reduceIte, Nat.reduceEqDiff, Nat.reduceAdd, Nat.reduceMul, Nat.reduceSub, List.nil_append, List.append_nil, List.cons_append, List.map_cons, List.map_nil, true_and, and_true, AS.fin, pick, dedup, List.mem_cons, List.not_mem_nil, or_false, false_or, List.size_toArray, List.length_cons, List.length_nil, loadAV, List.drop_zero, List.drop_succ_cons, List.take_zero, List.take_succ_cons, List.getElem?_cons_zero, List.getElem?_cons_succ, List.head?_cons, List.mapM_cons, List.mapM_nil, Option.bind_eq_bind, Option.pure_def, deeps3, deep3, deep2, deep1, deeps, deeps2, mixInts, AV.plain, mk, mkD, DCon.lift, DCon.runC, asG, asI, asBo, asStr, asIs, asBs, asE4, asI2, asI3, asLL, asLLL, ren3, ren2, ren1, numb, List.zipIdx_nil, List.zipIdx_cons, List.all_nil, List.all_cons, Nat.reduceLeDiff, List.range, List.range.loop, Ty.sz, beq_self_eq_true, Bool.and_self, and_self, Ty.ofC, AO.isDead, Nat.reduceLT, if_true, Nat.zero_add, Nat.add_zero, ite_true, Nat.le_refl, Bool.false_eq_true, reduceCtorEq, if_false, ite_false, binAV, AO.ren, AV.isCell, fillAV, List.set_cons_zero, List.set_cons_succ, Ty.cells, Ty.flat, Ty.dflt, List.getD_cons_zero, List.getD_cons_succ, Int.reduceToNat, Int.reduceSub, Int.reduceAdd, Int.reduceMul, Int.reduceNeg, forall_eq_or_imp, forall_eq, gdL, id_eq, Nat.lt_irrefl, srcOf, List.replicate_succ, List.replicate_zero, dite_true, List.isEmpty_cons, Option.isSome_some, List.length_append, List.length_singleton, bne_self_eq_false, Bool.not_true, Bool.not_false, kp_rBit, Th_int, Th_bool, Th_string, Th_Sint, Th_implGroup, Th_implBases, Th_implProof, G_rBit, c_pCommit, c_gExp, c_gMul, c_rCase, c_rBitChallenge, c_nMod]
    try (generalize hv2 : M.gpw p q _ _ = v2; have bv2 : 0 ≤ v2 ∧ v2 < p := by rw [← hv2]; exact gpw_bd (by omega))
    try (generalize hv3 : bcs p q g _ _ = v3; have bv3 : 0 ≤ v3 ∧ v3 < p := by rw [← hv3]; exact bcs_lt' (by omega) (by omega))
    try (generalize hv4 : M.gpw p q _ _ = v4; have bv4 : 0 ≤ v4 ∧ v4 < p := by rw [← hv4]; exact gpw_bd (by omega))
    try (generalize hv5 : M.mulL p _ = v5; have bv5 : 0 ≤ v5 ∧ v5 < p := by rw [← hv5]; exact mulL_bd' (by omega))
    repeat (refine ⟨by ((repeat' apply And.intro) <;> first | with_reducible assumption | omega | trivial | rfl  | (apply decide_eq_false; omega) | (simp; done) | (simp; omega)), ?_⟩)
    refine hK _ _ (by kernel_rfl) ?_
    clear hK K
    refine AWp.drawnS (by kernel_rfl) Th_ok G_rBit_ok [] kp_rBit [some 63, some 64, some 65, some 66, some 67, some 68, some 69, some 70, some 71, some 72, none] rfl ?_
    intro K hK
    simp (maxSteps := 2000000) only [runR, List.toList_toArray, stepOp, look, opAV, pureOp, callOp, memOp, AS.ev, AS.get, AS.obj, initS, initFrom, AV.cells, AS.upd, Option.bind_some, Option.bind_none, Option.map_some, Option.map_none, Option.getD_none, Option.getD_some, ↓reduceIte, Nat.reduceEqDiff, Nat.reduceAdd, Nat.reduceMul, Nat.reduceSub, List.nil_append, List.append_nil, List.cons_append, List.map_cons, List.map_nil, true_and, and_true, AS.fin, pick, dedup, List.mem_cons, List.not_mem_nil, or_false, false_or, List.size_toArray, List.length_cons, List.length_nil, loadAV, List.drop_zero, List.drop_succ_cons, List.take_zero, List.take_succ_cons, List.getElem?_cons_zero, List.getElem?_cons_succ, List.head?_cons, List.mapM_cons, List.mapM_nil, Option.bind_eq_bind, Option.pure_def, deeps3, deep3, deep2, deep1, deeps, deeps2, mixInts, AV.plain, mk, mkD, DCon.lift, DCon.runC, asG, asI, asBo, asStr, asIs, asBs, asE4, asI2, asI3, asLL, asLLL, ren3, ren2, ren1, numb, List.zipIdx_nil, List.zipIdx_cons, List.all_nil, List.all_cons, Nat.reduceLeDiff, List.range, List.range.loop, Ty.sz, beq_self_eq_true, Bool.and_self, and_self, Ty.ofC, AO.isDead, Nat.reduceLT, if_true, Nat.zero_add, Nat.add_zero, ite_true, Nat.le_refl, Bool.false_eq_true, reduceCtorEq, if_false, ite_false, binAV, AO.ren, AV.isCell, fillAV, List.set_cons_zero, List.set_cons_succ, Ty.cells, Ty.flat, Ty.dflt, List.getD_cons_zero, List.getD_cons_succ, Int.reduceToNat, Int.reduceSub, Int.reduceAdd, Int.reduceMul, Int.reduceNeg, forall_eq_or_imp, forall_eq, gdL, id_eq, Nat.lt_irrefl, srcOf, List.replicate_succ, List.replicate_zero, dite_true, List.isEmpty_cons, Option.isSome_some, List.length_append, List.length_singleton, bne_self_eq_false, Bool.not_true, Bool.not_false, kp_rBit, Th_int, Th_bool, Th_string, Th_Sint, Th_implGroup, Th_implBases, Th_implProof, G_rBit, c_pCommit, c_gExp, c_gMul, c_rCase, c_rBitChallenge, c_nMod]
    try (generalize hv6 : M.gpw p q _ _ = v6; have bv6 : 0 ≤ v6 ∧ v6 < p := by rw [← hv6]; exact gpw_bd (by omega))
    repeat (refine ⟨by ((repeat' apply And.intro) <;> first | with_reducible assumption | omega | trivial | rfl  | (apply decide_eq_false; omega) | (simp; done) | (simp; omega)), ?_⟩)
    refine hK _ _ (by kernel_rfl) ?_
    clear hK K
    refine AWp.drawnS (by kernel_rfl) Th_ok G_rBit_ok [] kp_rBit [some 73, some 74, some 75, some 76, some 77, some 78, some 79, some 80, some 81, some 82, some 83, some 84, some 85, some 86, some 87, some 88, none] rfl ?_
    intro K hK
    simp (maxSteps := 2000000) only [runR, List.toList_toArray, stepOp, look, opAV, pureOp, callOp, memOp, AS.ev, AS.get, AS.obj, initS, initFrom, AV.cells, AS.upd, Option.bind_some, Option.bind_none, Option.map_some, Option.map_none, Option.getD_none, Option.getD_some, ↓reduceIte, Nat.reduceEqDiff, Nat.reduceAdd, Nat.reduceMul, Nat.reduceSub, List.nil_append, List.append_nil, List.cons_append, List.map_cons, List.map_nil, true_and, and_true, AS.fin, pick, dedup, List.mem_cons, List.not_mem_nil, or_false, false_or, List.size_toArray, List.length_cons, List.length_nil, loadAV, List.drop_zero, List.drop_succ_cons, List.take_zero, List.take_succ_cons, List.getElem?_cons_zero, List.getElem?_cons_succ, List.head?_cons, List.mapM_cons, List.mapM_nil, Option.bind_eq_bind, Option.pure_def, deeps3, deep3, deep2, deep1, deeps, deeps2, mixInts, AV.plain, mk, mkD, DCon.lift, DCon.runC, asG, asI, asBo, asStr, asIs, asBs, asE4, asI2, asI3, asLL, asLLL, ren3, ren2, ren1, numb, List.zipIdx_nil, List.zipIdx_cons, List.all_nil, List.all_cons, Nat.reduceLeDiff, List.range, List.range.loop, Ty.sz, beq_self_eq_true, Bool.and_self, and_self, Ty.ofC, AO.isDead, Nat.reduceLT, if_true, Nat.zero_add, Nat.add_zero, ite_true, Nat.le_refl, Bool.false_eq_true, reduceCtorEq, if_false, ite_false, binAV, AO.ren, AV.isCell, fillAV, List.set_cons_zero, List.set_cons_succ, Ty.cells, Ty.flat, Ty.dflt, List.getD_cons_zero, List.getD_cons_succ, Int.reduceToNat, Int.reduceSub, Int.reduceAdd, Int.reduceMul, Int.reduceNeg, forall_eq_or_imp, forall_eq, gdL, id_eq, Nat.lt_irrefl, srcOf, List.replicate_succ, List.replicate_zero, dite_true, List.isEmpty_cons, Option.isSome_some, List.length_append, List.length_singleton, bne_self_eq_false, Bool.not_true, Bool.not_false, kp_rBit, Th_int, Th_bool, Th_string, Th_Sint, Th_implGroup, Th_implBases, Th_implProof, G_rBit, c_pCommit, c_gExp, c_gMul, c_rCase, c_rBitChallenge, c_nMod]
    try (generalize hv7 : M.chal p q g _ _ = v7; have bv7 : 0 ≤ v7 ∧ v7 < q := by rw [← hv7]; exact chal_bd (by omega) _ _)
    try (generalize hv8 : (_ : Int) % q = v8; have bv8 : 0 ≤ v8 ∧ v8 < q := by rw [← hv8]; exact emod_bd (by omega))
    repeat (refine ⟨by ((repeat' apply And.intro) <;> first | with_reducible assumption | omega | trivial | rfl  | (apply decide_eq_false; omega) | (simp; done) | (simp; omega)), ?_⟩)
    refine hK _ _ (by kernel_rfl) ?_
    clear hK K
    refine AWp.drawnS (by kernel_rfl) Th_ok G_rBit_ok [] kp_rBit [some 89, some 90, some 91, some 92, some 93, some 94, some 95, some 96, some 97, some 98, some 99, some 100, some 101, some 102, some 103, some 104, none] rfl ?_
    intro K hK
    simp (maxSteps := 2000000) only [runR, List.toList_toArray, stepOp, look, opAV, pureOp, callOp, memOp, AS.ev, AS.get, AS.obj, initS, initFrom, AV.cells, AS.upd, Option.bind_some, Option.bind_none, Option.map_some, Option.map_none, Option.getD_none, Option.getD_some, ↓reduceIte, Nat.reduceEqDiff, Nat.reduceAdd, Nat.reduceMul, Nat.reduceSub, List.nil_append, List.append_nil, List.cons_append, List.map_cons, List.map_nil, true_and, and_true, AS.fin, pick, dedup, List.mem_cons, List.not_mem_nil, or_false, false_or, List.size_toArray, List.length_cons, List.length_nil, loadAV, List.drop_zero, List.drop_succ_cons, List.take_zero, List.take_succ_cons, List.getElem?_cons_zero, List.getElem?_cons_succ, List.head?_cons, List.mapM_cons, List.mapM_nil, Option.bind_eq_bind, Option.pure_def, deeps3, deep3, deep2, deep1, deeps, deeps2, mixInts, AV.plain, mk, mkD, DCon.lift, DCon.runC, asG, asI, asBo, asStr, asIs, asBs, asE4, asI2, asI3, asLL, asLLL, ren3, ren2, ren1, numb, List.zipIdx_nil, List.zipIdx_cons, List.all_nil, List.all_cons, Nat.reduceLeDiff, List.range, List.range.loop, Ty.sz, beq_self_eq_true, Bool.and_self, and_self, Ty.ofC, AO.isDead, Nat.reduceLT, if_true, Nat.zero_add, Nat.add_zero, ite_true, Nat.le_refl, Bool.false_eq_true, reduceCtorEq, if_false, ite_false, binAV, AO.ren, AV.isCell, fillAV, List.set_cons_zero, List.set_cons_succ, Ty.cells, Ty.flat, Ty.dflt, List.getD_cons_zero, List.getD_cons_succ, Int.reduceToNat, Int.reduceSub, Int.reduceAdd, Int.reduceMul, Int.reduceNeg, forall_eq_or_imp, forall_eq, gdL, id_eq, Nat.lt_irrefl, srcOf, List.replicate_succ, List.replicate_zero, dite_true, List.isEmpty_cons, Option.isSome_some, List.length_append, List.length_singleton, bne_self_eq_false, Bool.not_true, Bool.not_false, kp_rBit, Th_int, Th_bool, Th_string, Th_Sint, Th_implGroup, Th_implBases, Th_implProof, G_rBit, c_pCommit, c_gExp, c_gMul, c_rCase, c_rBitChallenge, c_nMod]
    try (generalize hv9 : (_ * _ : Int) = v9; have bv9 : 0 ≤ v9 ∧ v9 ≤ 4000000000000000000 := by rw [← hv9]; exact mul_bd (by omega) (by omega))
    try (generalize hv10 : (_ : Int) % q = v10; have bv10 : 0 ≤ v10 ∧ v10 < q := by rw [← hv10]; exact emod_bd (by omega))
    repeat (refine ⟨by ((repeat' apply And.intro) <;> first | with_reducible assumption | omega | trivial | rfl  | (apply decide_eq_false; omega) | (simp; done) | (simp; omega)), ?_⟩)
    refine hK _ _ (by kernel_rfl) ?_
    clear hK K
    refine AWp.plainS Th_ok G_rBit_ok [] kp_rBit [some 105, some 106, some 107, some 108, none] rfl (by decide) ?_
    intro K hK
    simp (maxSteps := 2000000) only [runR, List.toList_toArray, stepOp, look, opAV, pureOp, callOp, memOp, AS.ev, AS.get, AS.obj, initS, initFrom, AV.cells, AS.upd, Option.bind_some, Option.bind_none, Option.map_some, Option.map_none, Option.getD_none, Option.getD_some, ↓reduceIte, Nat.reduceEqDiff, Nat.reduceAdd, Nat.reduceMul, Nat.reduceSub, List.nil_append, List.append_nil, List.cons_append, List.map_cons, List.map_nil, true_and, and_true, AS.fin, pick, dedup, List.mem_cons, List.not_mem_nil, or_false, false_or, List.size_toArray, List.length_cons, List.length_nil, loadAV, List.drop_zero, List.drop_succ_cons, List.take_zero, List.take_succ_cons, List.getElem?_cons_zero, List.getElem?_cons_succ, List.head?_cons, List.mapM_cons, List.mapM_nil, Option.bind_eq_bind, Option.pure_def, deeps3, deep3, deep2, deep1, deeps, deeps2, mixInts, AV.plain, mk, mkD, DCon.lift, DCon.runC, asG, asI, asBo, asStr, asIs, asBs, asE4, asI2, asI3, asLL, asLLL, ren3, ren2, ren1, numb, List.zipIdx_nil, List.zipIdx_cons, List.all_nil, List.all_cons, Nat.reduceLeDiff, List.range, List.range.loop, Ty.sz, beq_self_eq_true, Bool.and_self, and_self, Ty.ofC, AO.isDead, Nat.reduceLT, if_true, Nat.zero_add, Nat.add_zero, ite_true, Nat.le_refl, Bool.false_eq_true, reduceCtorEq, if_false, ite_false, binAV, AO.ren, AV.isCell, fillAV, List.set_cons_zero, List.set_cons_succ, Ty.cells, Ty.flat, Ty.dflt, List.getD_cons_zero, List.getD_cons_succ, Int.reduceToNat, Int.reduceSub, Int.reduceAdd, Int.reduceMul, Int.reduceNeg, forall_eq_or_imp, forall_eq, gdL, id_eq, Nat.lt_irrefl, srcOf, List.replicate_succ, List.replicate_zero, dite_true, List.isEmpty_cons, Option.isSome_some, List.length_append, List.length_singleton, bne_self_eq_false, Bool.not_true, Bool.not_false, kp_rBit, Th_int, Th_bool, Th_string, Th_Sint, Th_implGroup, Th_implBases, Th_implProof, G_rBit, c_pCommit, c_gExp, c_gMul, c_rCase, c_rBitChallenge, c_nMod]
    repeat (refine ⟨by ((repeat' apply And.intro) <;> first | with_reducible assumption | omega | trivial | rfl  | (apply decide_eq_false; omega) | (simp; done) | (simp; omega)), ?_⟩)
    refine hK _ _ ?_
    clear hK K
    refine AWp.ret ?_
    repeat (first | refine seqQ_ret ?_ | refine blkQ_ret ?_)
    subst_vars
    refine ⟨.inr rfl, [72, 80, 88], rfl, by decide, rfl, fun i ob h => ?_⟩
    rcases i with _ | _ | _ | i
    · simp only [List.getElem?_cons_zero, List.getElem?_cons_succ, Option.some.injEq] at h
      subst h
      rfl
    · simp only [List.getElem?_cons_zero, List.getElem?_cons_succ, Option.some.injEq] at h
      subst h
      rfl
    · simp only [List.getElem?_cons_zero, List.getElem?_cons_succ, Option.some.injEq] at h
      subst h
      rfl
    · simp at h
noncomputable def c_rBit : Con0 := fun args => match args with
  | [a0, a1, a2, a3, a4] => match asG a0, asBs a1, asI a2, asI a3, asIs a4 with
    | some (p, q, g), some (bh, bs), some m, some r, some ks => some (M.Grp p q g ∧ (0 ≤ bh ∧ bh < p) ∧ (m = 0 ∨ m = 1) ∧ (0 ≤ r ∧ r < q) ∧ ks.length = 3 ∧ ∀ x ∈ ks, 0 ≤ x ∧ x < q, .agg [.own 0 2, .own 1 2, .own 2 2], [.row 3 .int (prBit p q g bh m r (ks.getD 0 0) (ks.getD 1 0) (ks.getD 2 0)).1, .row 3 .int (prBit p q g bh m r (ks.getD 0 0) (ks.getD 1 0) (ks.getD 2 0)).2.1, .row 3 .int (prBit p q g bh m r (ks.getD 0 0) (ks.getD 1 0) (ks.getD 2 0)).2.2])
    | _, _, _, _, _ => none
  | _ => none
theorem ok_rBit : (mk c_rBit).ok Try.prog 89 := Con0.okOf2 (Θ := Th) (N := 109) (rs := [.cell 10 38]) Th_ok Try.func89 (by kernel_rfl) rfl Try.results89 (by decide) (by kernel_rfl) fun args c x obs h => by
  unfold c_rBit at h
  split at h
  · split at h
    · rename_i p q g bh bs m r ks e0 e1 e2 e3 e4
      cases h
      refine ⟨rfl, rfl, by simp, [.agg [.lit (.int .i64 p), .lit (.int .i64 q), .lit (.int .i64 g)], .agg [.lit (.int .i64 bh), .sl .int bs], .lit (.int .i64 m), .lit (.int .i64 r), .sl .int ks], rfl, fun w vs hv => ?_, fun hc w0 => body_rBit p q g bh bs m r ks hc w0⟩
      obtain ⟨u0, vs, rfl, r0, h0⟩ := hv.cons_of
      obtain ⟨u1, vs, rfl, r1, h1⟩ := h0.cons_of
      obtain ⟨u2, vs, rfl, r2, h2⟩ := h1.cons_of
      obtain ⟨u3, vs, rfl, r3, h3⟩ := h2.cons_of
      obtain ⟨u4, vs, rfl, r4, h4⟩ := h3.cons_of
      rw [h4.nil_of]
      exact .cons (asG_can e0 r0) (.cons (asBs_can e1 r1) (.cons (asI_can e2 r2) (.cons (asI_can e3 r3) (.cons (asIs_can e4 r4) (.nil)))))
    · cases h
  · cases h
def kp_ProveBitI : List Nat := [0, 1, 2, 3, 4, 5, 6, 10, 11, 37]
noncomputable def G_ProveBitI : List (FuncId × Con) := [(70, mk c_isValidBases), (71, mk c_within), (73, mk c_isExp), (79, mk c_areExps), (90, mk c_proveBit)]
theorem G_ProveBitI_ok : ∀ f C, (f, C) ∈ G_ProveBitI → C.ok Try.prog f := by
  intro f C h
  simp only [G_ProveBitI, List.mem_cons, Prod.mk.injEq, List.not_mem_nil, or_false] at h
  rcases h with ⟨rfl, rfl⟩ | ⟨rfl, rfl⟩ | ⟨rfl, rfl⟩ | ⟨rfl, rfl⟩ | ⟨rfl, rfl⟩
  · exact ok_isValidBases
  · exact ok_within
  · exact ok_isExp
  · exact ok_areExps
  · exact ok_proveBit
set_option maxRecDepth 100000 in
set_option maxHeartbeats 4000000 in
theorem body_ProveBitI (p q g : Int) (bh : Int) (bs : List Int) (m : Int) (r : Int) (ks : List Int) (w0 : World) : AWp Try.prog w0 45 ((Try.f37).body.getD .skip) (initS [.agg [.lit (.int .i64 p), .lit (.int .i64 q), .lit (.int .i64 g)], .agg [.lit (.int .i64 bh), .sl .int bs], .lit (.int .i64 m), .lit (.int .i64 r), .sl .int ks]) (EndsAt Th [.cell 10 38, .tmp 11] (.tup [.agg [.own 0 (PBit p q g bh bs m r ks).1.length, .own 1 (PBit p q g bh bs m r ks).2.1.length, .own 2 (PBit p q g bh bs m r ks).2.2.length], .lit (.bool (okBit p q g bh bs m r ks))]) [.row 3 .int (PBit p q g bh bs m r ks).1, .row 3 .int (PBit p q g bh bs m r ks).2.1, .row 3 .int (PBit p q g bh bs m r ks).2.2]) := by
  refine AWp.body rfl ?_
  refine AWp.plainS Th_ok G_ProveBitI_ok [] kp_ProveBitI [some 5, some 6, some 10, some 11] rfl (by decide) ?_
  intro K hK
  simp (maxSteps := 2000000) only [runR, List.toList_toArray, stepOp, look, opAV, pureOp, callOp, memOp, AS.ev, AS.get, AS.obj, initS, initFrom, AV.cells, AS.upd, Option.bind_some, Option.bind_none, Option.map_some, Option.map_none, Option.getD_none, Option.getD_some, ↓reduceIte, Nat.reduceEqDiff, Nat.reduceAdd, Nat.reduceMul, Nat.reduceSub, List.nil_append, List.append_nil, List.cons_append, List.map_cons, List.map_nil, true_and, and_true, AS.fin, pick, dedup, List.mem_cons, List.not_mem_nil, or_false, false_or, List.size_toArray, List.length_cons, List.length_nil, loadAV, List.drop_zero, List.drop_succ_cons, List.take_zero, List.take_succ_cons, List.getElem?_cons_zero, List.getElem?_cons_succ, List.head?_cons, List.mapM_cons, List.mapM_nil, Option.bind_eq_bind, Option.pure_def, deeps3, deep3, deep2, deep1, deeps, deeps2, mixInts, AV.plain, mk, mkD, DCon.lift, DCon.runC, asG, asI, asBo, asStr, asIs, asBs, asE4, asI2, asI3, asLL, asLLL, ren3, ren2, ren1, numb, List.zipIdx_nil, List.zipIdx_cons, List.all_nil, List.all_cons, Nat.reduceLeDiff, List.range, List.range.loop, Ty.sz, beq_self_eq_true, Bool.and_self, and_self, Ty.ofC, AO.isDead, Nat.reduceLT, if_true, Nat.zero_add, Nat.add_zero, ite_true, Nat.le_refl, Bool.false_eq_true, reduceCtorEq, if_false, ite_false, binAV, AO.ren, AV.isCell, fillAV, List.set_cons_zero, List.set_cons_succ, Ty.cells, Ty.flat, Ty.dflt, List.getD_cons_zero, List.getD_cons_succ, Int.reduceToNat, Int.reduceSub, Int.reduceAdd, Int.reduceMul, Int.reduceNeg, forall_eq_or_imp, forall_eq, gdL, id_eq, Nat.lt_irrefl, srcOf, List.replicate_succ, List.replicate_zero, dite_true, List.isEmpty_cons, Option.isSome_some, List.length_append, List.length_singleton, bne_self_eq_false, Bool.not_true, Bool.not_false, kp_ProveBitI, Th_int, Th_bool, Th_string, Th_Sint, Th_implGroup, Th_implBases, Th_implProof, G_ProveBitI, c_isValidBases, c_within, c_isExp, c_areExps, c_proveBit]
  repeat (refine ⟨by ((repeat' apply And.intro) <;> first | with_reducible assumption | omega | trivial | rfl  | (apply decide_eq_false; omega) | (simp; done) | (simp; omega)), ?_⟩)
  refine hK _ _ ?_
  clear hK K
  refine AWp.seq ?_
  cases hL1_2 : (l9B p q g bh bs)
  · skip
    have hok : okBit p q g bh bs m r ks = false := by simp [okBit, hL1_2, ne3']
    have hP := PBit_f hok
    refine AWp.plainS Th_ok G_ProveBitI_ok [(5, true), (6, true), (7, true), (8, true), (10, true), (11, true), (12, true), (13, true), (14, true), (16, true), (17, true), (18, true), (19, true), (21, true), (22, true), (23, true), (24, true), (25, true)] kp_ProveBitI [some 12, some 13, some 14, some 15, some 16, some 17, some 18, some 19, some 20, some 21, some 22, some 23, some 24, some 25, some 26, some 27, some 28, some 29, some 30, some 31, some 32, some 33, some 34, some 35, some 36, some 37] rfl (by decide) ?_
    intro K hK
    simp (maxSteps := 2000000) only [runR, List.toList_toArray, stepOp, look, opAV, pureOp, callOp, memOp, AS.ev, AS.get, AS.obj, initS, initFrom, AV.cells, AS.upd, Option.bind_some, Option.bind_none, Option.map_some, Option.map_none, Option.getD_none, Option.getD_some, ↓reduceIte, Nat.reduceEqDiff, Nat.reduceAdd, Nat.reduceMul, Nat.reduceSub, List.nil_append, List.append_nil, List.cons_append, List.map_cons, List.map_nil, true_and, and_true, AS.fin, pick, dedup, List.mem_cons, List.not_mem_nil, or_false, false_or, List.size_toArray, List.length_cons, List.length_nil, loadAV, List.drop_zero, List.drop_succ_cons, List.take_zero, List.take_succ_cons, List.getElem?_cons_zero, List.getElem?_cons_succ, List.head?_cons, List.mapM_cons, List.mapM_nil, Option.bind_eq_bind, Option.pure_def, deeps3, deep3, deep2, deep1, deeps, deeps2, mixInts, AV.plain, mk, mkD, DCon.lift, DCon.runC, asG, asI, asBo, asStr, asIs, asBs, asE4, asI2, asI3, asLL, asLLL, ren3, ren2, ren1, numb, List.zipIdx_nil, List.zipIdx_cons, List.all_nil, List.all_cons, Nat.reduceLeDiff, List.range, List.range.loop, Ty.sz, beq_self_eq_true, Bool.and_self, and_self, Ty.ofC, AO.isDead, Nat.reduceLT, if_true, Nat.zero_add, Nat.add_zero, ite_true, Nat.le_refl, Bool.false_eq_true, reduceCtorEq, if_false, ite_false, binAV, AO.ren, AV.isCell, fillAV, List.set_cons_zero, List.set_cons_succ, Ty.cells, Ty.flat, Ty.dflt, List.getD_cons_zero, List.getD_cons_succ, Int.reduceToNat, Int.reduceSub, Int.reduceAdd, Int.reduceMul, Int.reduceNeg, forall_eq_or_imp, forall_eq, gdL, id_eq, Nat.lt_irrefl, srcOf, List.replicate_succ, List.replicate_zero, dite_true, List.isEmpty_cons, Option.isSome_some, List.length_append, List.length_singleton, bne_self_eq_false, Bool.not_true, Bool.not_false, kp_ProveBitI, Th_int, Th_bool, Th_string, Th_Sint, Th_implGroup, Th_implBases, Th_implProof, G_ProveBitI, c_isValidBases, c_within, c_isExp, c_areExps, c_proveBit, hL1_2, expsB_one]
    repeat (refine ⟨by ((repeat' apply And.intro) <;> first | with_reducible assumption | omega | trivial | rfl  | (apply decide_eq_false; omega) | (simp; done) | (simp; omega)), ?_⟩)
    refine hK _ _ ?_
    clear hK K
    refine AWp.cond (b := true) rfl (fun _ => ?_) (fun h => absurd h (by decide))
    refine AWp.plainS Th_ok G_ProveBitI_ok [] kp_ProveBitI [some 38, none, some 11] rfl (by decide) ?_
    intro K hK
    simp (maxSteps := 2000000) only [runR, List.toList_toArray, stepOp, look, opAV, pureOp, callOp, memOp, AS.ev, AS.get, AS.obj, initS, initFrom, AV.cells, AS.upd, Option.bind_some, Option.bind_none, Option.map_some, Option.map_none, Option.getD_none, Option.getD_some, ↓reduceIte, Nat.reduceEqDiff, Nat.reduceAdd, Nat.reduceMul, Nat.reduceSub, List.nil_append, List.append_nil, List.cons_append, List.map_cons, List.map_nil, true_and, and_true, AS.fin, pick, dedup, List.mem_cons, List.not_mem_nil, or_false, false_or, List.size_toArray, List.length_cons, List.length_nil, loadAV, List.drop_zero, List.drop_succ_cons, List.take_zero, List.take_succ_cons, List.getElem?_cons_zero, List.getElem?_cons_succ, List.head?_cons, List.mapM_cons, List.mapM_nil, Option.bind_eq_bind, Option.pure_def, deeps3, deep3, deep2, deep1, deeps, deeps2, mixInts, AV.plain, mk, mkD, DCon.lift, DCon.runC, asG, asI, asBo, asStr, asIs, asBs, asE4, asI2, asI3, asLL, asLLL, ren3, ren2, ren1, numb, List.zipIdx_nil, List.zipIdx_cons, List.all_nil, List.all_cons, Nat.reduceLeDiff, List.range, List.range.loop, Ty.sz, beq_self_eq_true, Bool.and_self, and_self, Ty.ofC, AO.isDead, Nat.reduceLT, if_true, Nat.zero_add, Nat.add_zero, ite_true, Nat.le_refl, Bool.false_eq_true, reduceCtorEq, if_false, ite_false, binAV, AO.ren, AV.isCell, fillAV, List.set_cons_zero, List.set_cons_succ, Ty.cells, Ty.flat, Ty.dflt, List.getD_cons_zero, List.getD_cons_succ, Int.reduceToNat, Int.reduceSub, Int.reduceAdd, Int.reduceMul, Int.reduceNeg, forall_eq_or_imp, forall_eq, gdL, id_eq, Nat.lt_irrefl, srcOf, List.replicate_succ, List.replicate_zero, dite_true, List.isEmpty_cons, Option.isSome_some, List.length_append, List.length_singleton, bne_self_eq_false, Bool.not_true, Bool.not_false, kp_ProveBitI, Th_int, Th_bool, Th_string, Th_Sint, Th_implGroup, Th_implBases, Th_implProof, G_ProveBitI, c_isValidBases, c_within, c_isExp, c_areExps, c_proveBit]
    repeat (refine ⟨by ((repeat' apply And.intro) <;> first | with_reducible assumption | omega | trivial | rfl  | (apply decide_eq_false; omega) | (simp; done) | (simp; omega)), ?_⟩)
    refine hK _ _ ?_
    clear hK K
    refine AWp.sub (Sub.nilBox 16 0 264 3 .int rfl rfl rfl) ?_
    refine AWp.sub (Sub.nilBox 16 1 265 3 .int rfl rfl rfl) ?_
    refine AWp.sub (Sub.nilBox 16 2 266 3 .int rfl rfl rfl) ?_
    refine AWp.ret ?_
    repeat (first | refine seqQ_ret ?_ | refine blkQ_ret ?_)
    rw [hP, hok]
    refine ⟨.inr rfl, [264, 265, 266], rfl, by decide, rfl, fun i ob h => ?_⟩
    rcases i with _ | _ | _ | i
    · simp only [List.getElem?_cons_zero, List.getElem?_cons_succ, Option.some.injEq] at h
      subst h
      rfl
    · simp only [List.getElem?_cons_zero, List.getElem?_cons_succ, Option.some.injEq] at h
      subst h
      rfl
    · simp only [List.getElem?_cons_zero, List.getElem?_cons_succ, Option.some.injEq] at h
      subst h
      rfl
    · simp at h
  · skip
    cases hL1_6 : (inr m 0 1)
    · skip
      have hqb := q_bd hL1_2
      have hok : okBit p q g bh bs m r ks = false := by simp [okBit, hL1_2, hL1_6, ne3']
      have hP := PBit_f hok
      refine AWp.plainS Th_ok G_ProveBitI_ok [(5, false), (6, false), (7, false), (8, false), (10, true), (11, true), (12, true), (13, true), (14, true), (16, true), (17, true), (18, true), (19, true), (21, true), (22, true), (23, true), (24, true), (25, true)] kp_ProveBitI [some 12, some 13, some 14, some 15, some 16, some 17, some 18, some 19, some 20, some 21, some 22, some 23, some 24, some 25, some 26, some 27, some 28, some 29, some 30, some 31, some 32, some 33, some 34, some 35, some 36, some 37] rfl (by decide) ?_
      intro K hK
      simp (maxSteps := 2000000) only [runR, List.toList_toArray, stepOp, look, opAV, pureOp, callOp, memOp, AS.ev, AS.get, AS.obj, initS, initFrom, AV.cells, AS.upd, Option.bind_some, Option.bind_none, Option.map_some, Option.map_none, Option.getD_none, Option.getD_some, ↓reduceIte, Nat.reduceEqDiff, Nat.reduceAdd, Nat.reduceMul, Nat.reduceSub, List.nil_append, List.append_nil, List.cons_append, List.map_cons, List.map_nil, true_and, and_true, AS.fin, pick, dedup, List.mem_cons, List.not_mem_nil, or_false, false_or, List.size_toArray, List.length_cons, List.length_nil, loadAV, List.drop_zero, List.drop_succ_cons, List.take_zero, List.take_succ_cons, List.getElem?_cons_zero, List.getElem?_cons_succ, List.head?_cons, List.mapM_cons, List.mapM_nil, Option.bind_eq_bind, Option.pure_def, deeps3, deep3, deep2, deep1, deeps, deeps2, mixInts, AV.plain, mk, mkD, DCon.lift, DCon.runC, asG, asI, asBo, asStr, asIs, asBs, asE4, asI2, asI3, asLL, asLLL, ren3, ren2, ren1, numb, List.zipIdx_nil, List.zipIdx_cons, List.all_nil, List.all_cons, Nat.reduceLeDiff, List.range, List.range.loop, Ty.sz, beq_self_eq_true, Bool.and_self, and_self, Ty.ofC, AO.isDead, Nat.reduceLT, if_true, Nat.zero_add, Nat.add_zero, ite_true, Nat.le_refl, Bool.false_eq_true, reduceCtorEq, if_false, ite_false, binAV, AO.ren, AV.isCell, fillAV, List.set_cons_zero, List.set_cons_succ, Ty.cells, Ty.flat, Ty.dflt, List.getD_cons_zero, List.getD_cons_succ, Int.reduceToNat, Int.reduceSub, Int.reduceAdd, Int.reduceMul, Int.reduceNeg, forall_eq_or_imp, forall_eq, gdL, id_eq, Nat.lt_irrefl, srcOf, List.replicate_succ, List.replicate_zero, dite_true, List.isEmpty_cons, Option.isSome_some, List.length_append, List.length_singleton, bne_self_eq_false, Bool.not_true, Bool.not_false, kp_ProveBitI, Th_int, Th_bool, Th_string, Th_Sint, Th_implGroup, Th_implBases, Th_implProof, G_ProveBitI, c_isValidBases, c_within, c_isExp, c_areExps, c_proveBit, hL1_2, hL1_6, expsB_one]
      repeat (refine ⟨by ((repeat' apply And.intro) <;> first | with_reducible assumption | omega | trivial | rfl  | (apply decide_eq_false; omega) | (simp; done) | (simp; omega)), ?_⟩)
      refine hK _ _ ?_
      clear hK K
      refine AWp.cond (b := true) rfl (fun _ => ?_) (fun h => absurd h (by decide))
      refine AWp.plainS Th_ok G_ProveBitI_ok [] kp_ProveBitI [some 38, none, some 11] rfl (by decide) ?_
      intro K hK
      simp (maxSteps := 2000000) only [runR, List.toList_toArray, stepOp, look, opAV, pureOp, callOp, memOp, AS.ev, AS.get, AS.obj, initS, initFrom, AV.cells, AS.upd, Option.bind_some, Option.bind_none, Option.map_some, Option.map_none, Option.getD_none, Option.getD_some, ↓reduceIte, Nat.reduceEqDiff, Nat.reduceAdd, Nat.reduceMul, Nat.reduceSub, List.nil_append, List.append_nil, List.cons_append, List.map_cons, List.map_nil, true_and, and_true, AS.fin, pick, dedup, List.mem_cons, List.not_mem_nil, or_false, false_or, List.size_toArray, List.length_cons, List.length_nil, loadAV, List.drop_zero, List.drop_succ_cons, List.take_zero, List.take_succ_cons, List.getElem?_cons_zero, List.getElem?_cons_succ, List.head?_cons, List.mapM_cons, List.mapM_nil, Option.bind_eq_bind, Option.pure_def, deeps3, deep3, deep2, deep1, deeps, deeps2, mixInts, AV.plain, mk, mkD, DCon.lift, DCon.runC, asG, asI, asBo, asStr, asIs, asBs, asE4, asI2, asI3, asLL, asLLL, ren3, ren2, ren1, numb, List.zipIdx_nil, List.zipIdx_cons, List.all_nil, List.all_cons, Nat.reduceLeDiff, List.range, List.range.loop, Ty.sz, beq_self_eq_true, Bool.and_self, and_self, Ty.ofC, AO.isDead, Nat.reduceLT, if_true, Nat.zero_add, Nat.add_zero, ite_true, Nat.le_refl, Bool.false_eq_true, reduceCtorEq, if_false, ite_false, binAV, AO.ren, AV.isCell, fillAV, List.set_cons_zero, List.set_cons_succ, Ty.cells, Ty.flat, Ty.dflt, List.getD_cons_zero, List.getD_cons_succ, Int.reduceToNat, Int.reduceSub, Int.reduceAdd, Int.reduceMul, Int.reduceNeg, forall_eq_or_imp, forall_eq, gdL, id_eq, Nat.lt_irrefl, srcOf, List.replicate_succ, List.replicate_zero, dite_true, List.isEmpty_cons, Option.isSome_some, List.length_append, List.length_singleton, bne_self_eq_false, Bool.not_true, Bool.not_false, kp_ProveBitI, Th_int, Th_bool, Th_string, Th_Sint, Th_implGroup, Th_implBases, Th_implProof, G_ProveBitI, c_isValidBases, c_within, c_isExp, c_areExps, c_proveBit]
      repeat (refine ⟨by ((repeat' apply And.intro) <;> first | with_reducible assumption | omega | trivial | rfl  | (apply decide_eq_false; omega) | (simp; done) | (simp; omega)), ?_⟩)
      refine hK _ _ ?_
      clear hK K
      refine AWp.sub (Sub.nilBox 16 0 264 3 .int rfl rfl rfl) ?_
      refine AWp.sub (Sub.nilBox 16 1 265 3 .int rfl rfl rfl) ?_
      refine AWp.sub (Sub.nilBox 16 2 266 3 .int rfl rfl rfl) ?_
      refine AWp.ret ?_
      repeat (first | refine seqQ_ret ?_ | refine blkQ_ret ?_)
      rw [hP, hok]
      refine ⟨.inr rfl, [264, 265, 266], rfl, by decide, rfl, fun i ob h => ?_⟩
      rcases i with _ | _ | _ | i
      · simp only [List.getElem?_cons_zero, List.getElem?_cons_succ, Option.some.injEq] at h
        subst h
        rfl
      · simp only [List.getElem?_cons_zero, List.getElem?_cons_succ, Option.some.injEq] at h
        subst h
        rfl
      · simp only [List.getElem?_cons_zero, List.getElem?_cons_succ, Option.some.injEq] at h
        subst h
        rfl
      · simp at h
    · skip
      cases hL1_12 : (inr r 0 (q - 1))
      · skip
        have hqb := q_bd hL1_2
        have hok : okBit p q g bh bs m r ks = false := by simp [okBit, hL1_2, hL1_6, hL1_12, ne3']
        have hP := PBit_f hok
        refine AWp.plainS Th_ok G_ProveBitI_ok [(5, false), (6, false), (7, false), (8, false), (10, false), (11, false), (12, false), (13, false), (14, false), (16, true), (17, true), (18, true), (19, true), (21, true), (22, true), (23, true), (24, true), (25, true)] kp_ProveBitI [some 12, some 13, some 14, some 15, some 16, some 17, some 18, some 19, some 20, some 21, some 22, some 23, some 24, some 25, some 26, some 27, some 28, some 29, some 30, some 31, some 32, some 33, some 34, some 35, some 36, some 37] rfl (by decide) ?_
        intro K hK
        simp (maxSteps := 2000000) only [runR, List.toList_toArray, stepOp, look, opAV, pureOp, callOp, memOp, AS.ev, AS.get, AS.obj, initS, initFrom, AV.cells, AS.upd, Option.bind_some, Option.bind_none, Option.map_some, Option.map_none, Option.getD_none, Option.getD_some, ↓reduceIte, Nat.reduceEqDiff, Nat.reduceAdd, Nat.reduceMul, Nat.reduceSub, List.nil_append, List.append_nil, List.cons_append, List.map_cons, List.map_nil, true_and, and_true, AS.fin, pick, dedup, List.mem_cons, List.not_mem_nil, or_false, false_or, List.size_toArray, List.length_cons, List.length_nil, loadAV, List.drop_zero, List.drop_succ_cons, List.take_zero, List.take_succ_cons, List.getElem?_cons_zero, List.getElem?_cons_succ, List.head?_cons, List.mapM_cons, List.mapM_nil, Option.bind_eq_bind, Option.pure_def, deeps3, deep3, deep2, deep1, deeps, deeps2, mixInts, AV.plain, mk, mkD, DCon.lift, DCon.runC, asG, asI, asBo, asStr, asIs, asBs, asE4, asI2, asI3, asLL, asLLL, ren3, ren2, ren1, numb, List.zipIdx_nil, List.zipIdx_cons, List.all_nil, List.all_cons, Nat.reduceLeDiff, List.range, List.range.loop, Ty.sz, beq_self_eq_true, Bool.and_self, and_self, Ty.ofC, AO.isDead, Nat.reduceLT, if_true, Nat.zero_add, Nat.add_zero, ite_true, Nat.le_refl, Bool.false_eq_true, reduceCtorEq, if_false, ite_false, binAV, AO.ren, AV.isCell, fillAV, List.set_cons_zero, List.set_cons_succ, Ty.cells, Ty.flat, Ty.dflt, List.getD_cons_zero, List.getD_cons_succ, Int.reduceToNat, Int.reduceSub, Int.reduceAdd, Int.reduceMul, Int.reduceNeg, forall_eq_or_imp, forall_eq, gdL, id_eq, Nat.lt_irrefl, srcOf, List.replicate_succ, List.replicate_zero, dite_true, List.isEmpty_cons, Option.isSome_some, List.length_append, List.length_singleton, bne_self_eq_false, Bool.not_true, Bool.not_false, kp_ProveBitI, Th_int, Th_bool, Th_string, Th_Sint, Th_implGroup, Th_implBases, Th_implProof, G_ProveBitI, c_isValidBases, c_within, c_isExp, c_areExps, c_proveBit, hL1_2, hL1_6, hL1_12, expsB_one]
        repeat (refine ⟨by ((repeat' apply And.intro) <;> first | with_reducible assumption | omega | trivial | rfl  | (apply decide_eq_false; omega) | (simp; done) | (simp; omega)), ?_⟩)
        refine hK _ _ ?_
        clear hK K
        refine AWp.cond (b := true) rfl (fun _ => ?_) (fun h => absurd h (by decide))
        refine AWp.plainS Th_ok G_ProveBitI_ok [] kp_ProveBitI [some 38, none, some 11] rfl (by decide) ?_
        intro K hK
        simp (maxSteps := 2000000) only [runR, List.toList_toArray, stepOp, look, opAV, pureOp, callOp, memOp, AS.ev, AS.get, AS.obj, initS, initFrom, AV.cells, AS.upd, Option.bind_some, Option.bind_none, Option.map_some, Option.map_none, Option.getD_none, Option.getD_some, ↓reduceIte, Nat.reduceEqDiff, Nat.reduceAdd, Nat.reduceMul, Nat.reduceSub, List.nil_append, List.append_nil, List.cons_append, List.map_cons, List.map_nil, true_and, and_true, AS.fin, pick, dedup, List.mem_cons, List.not_mem_nil, or_false, false_or, List.size_toArray, List.length_cons, List.length_nil, loadAV, List.drop_zero, List.drop_succ_cons, List.take_zero, List.take_succ_cons, List.getElem?_cons_zero, List.getElem?_cons_succ, List.head?_cons, List.mapM_cons, List.mapM_nil, Option.bind_eq_bind, Option.pure_def, deeps3, deep3, deep2, deep1, deeps, deeps2, mixInts, AV.plain, mk, mkD, DCon.lift, DCon.runC, asG, asI, asBo, asStr, asIs, asBs, asE4, asI2, asI3, asLL, asLLL, ren3, ren2, ren1, numb, List.zipIdx_nil, List.zipIdx_cons, List.all_nil, List.all_cons, Nat.reduceLeDiff, List.range, List.range.loop, Ty.sz, beq_self_eq_true, Bool.and_self, and_self, Ty.ofC, AO.isDead, Nat.reduceLT, if_true, Nat.zero_add, Nat.add_zero, ite_true, Nat.le_refl, Bool.false_eq_true, reduceCtorEq, if_false, ite_false, binAV, AO.ren, AV.isCell, fillAV, List.set_cons_zero, List.set_cons_succ, Ty.cells, Ty.flat, Ty.dflt, List.getD_cons_zero, List.getD_cons_succ, Int.reduceToNat, Int.reduceSub, Int.reduceAdd, Int.reduceMul, Int.reduceNeg, forall_eq_or_imp, forall_eq, gdL, id_eq, Nat.lt_irrefl, srcOf, List.replicate_succ, List.replicate_zero, dite_true, List.isEmpty_cons, Option.isSome_some, List.length_append, List.length_singleton, bne_self_eq_false, Bool.not_true, Bool.not_false, kp_ProveBitI, Th_int, Th_bool, Th_string, Th_Sint, Th_implGroup, Th_implBases, Th_implProof, G_ProveBitI, c_isValidBases, c_within, c_isExp, c_areExps, c_proveBit]
        repeat (refine ⟨by ((repeat' apply And.intro) <;> first | with_reducible assumption | omega | trivial | rfl  | (apply decide_eq_false; omega) | (simp; done) | (simp; omega)), ?_⟩)
        refine hK _ _ ?_
        clear hK K
        refine AWp.sub (Sub.nilBox 16 0 264 3 .int rfl rfl rfl) ?_
        refine AWp.sub (Sub.nilBox 16 1 265 3 .int rfl rfl rfl) ?_
        refine AWp.sub (Sub.nilBox 16 2 266 3 .int rfl rfl rfl) ?_
        refine AWp.ret ?_
        repeat (first | refine seqQ_ret ?_ | refine blkQ_ret ?_)
        rw [hP, hok]
        refine ⟨.inr rfl, [264, 265, 266], rfl, by decide, rfl, fun i ob h => ?_⟩
        rcases i with _ | _ | _ | i
        · simp only [List.getElem?_cons_zero, List.getElem?_cons_succ, Option.some.injEq] at h
          subst h
          rfl
        · simp only [List.getElem?_cons_zero, List.getElem?_cons_succ, Option.some.injEq] at h
          subst h
          rfl
        · simp only [List.getElem?_cons_zero, List.getElem?_cons_succ, Option.some.injEq] at h
          subst h
          rfl
        · simp at h
      · skip
        cases hL1_18 : (((ks.length : Int) != 3))
        · skip
          cases hL1_23 : (expsB q ks)
          · skip
            have hqb := q_bd hL1_2
            have hok : okBit p q g bh bs m r ks = false := by simp [okBit, hL1_2, hL1_6, hL1_12, hL1_18, hL1_23, ne3']
            have hP := PBit_f hok
            refine AWp.plainS Th_ok G_ProveBitI_ok [(5, false), (6, false), (7, false), (8, false), (10, false), (11, false), (12, false), (13, false), (14, false), (16, false), (17, false), (18, false), (19, false), (21, false), (22, false), (23, false), (24, false), (25, false)] kp_ProveBitI [some 12, some 13, some 14, some 15, some 16, some 17, some 18, some 19, some 20, some 21, some 22, some 23, some 24, some 25, some 26, some 27, some 28, some 29, some 30, some 31, some 32, some 33, some 34, some 35, some 36, some 37] rfl (by decide) ?_
            intro K hK
            simp (maxSteps := 2000000) only [runR, List.toList_toArray, stepOp, look, opAV, pureOp, callOp, memOp, AS.ev, AS.get, AS.obj, initS, initFrom, AV.cells, AS.upd, Option.bind_some, Option.bind_none, Option.map_some, Option.map_none, Option.getD_none, Option.getD_some, ↓reduceIte, Nat.reduceEqDiff, Nat.reduceAdd, Nat.reduceMul, Nat.reduceSub, List.nil_append, List.append_nil, List.cons_append, List.map_cons, List.map_nil, true_and, and_true, AS.fin, pick, dedup, List.mem_cons, List.not_mem_nil, or_false, false_or, List.size_toArray, List.length_cons, List.length_nil, loadAV, List.drop_zero, List.drop_succ_cons, List.take_zero, List.take_succ_cons, List.getElem?_cons_zero, List.getElem?_cons_succ, List.head?_cons, List.mapM_cons, List.mapM_nil, Option.bind_eq_bind, Option.pure_def, deeps3, deep3, deep2, deep1, deeps, deeps2, mixInts, AV.plain, mk, mkD, DCon.lift, DCon.runC, asG, asI, asBo, asStr, asIs, asBs, asE4, asI2, asI3, asLL, asLLL, ren3, ren2, ren1, numb, List.zipIdx_nil, List.zipIdx_cons, List.all_nil, List.all_cons, Nat.reduceLeDiff, List.range, List.range.loop, Ty.sz, beq_self_eq_true, Bool.and_self, and_self, Ty.ofC, AO.isDead, Nat.reduceLT, if_true, Nat.zero_add, Nat.add_zero, ite_true, Nat.le_refl, Bool.false_eq_true, reduceCtorEq, if_false, ite_false, binAV, AO.ren, AV.isCell, fillAV, List.set_cons_zero, List.set_cons_succ, Ty.cells, Ty.flat, Ty.dflt, List.getD_cons_zero, List.getD_cons_succ, Int.reduceToNat, Int.reduceSub, Int.reduceAdd, Int.reduceMul, Int.reduceNeg, forall_eq_or_imp, forall_eq, gdL, id_eq, Nat.lt_irrefl, srcOf, List.replicate_succ, List.replicate_zero, dite_true, List.isEmpty_cons, Option.isSome_some, List.length_append, List.length_singleton, bne_self_eq_false, Bool.not_true, Bool.not_false, kp_ProveBitI, Th_int, Th_bool, Th_string, Th_Sint, Th_implGroup, Th_implBases, Th_implProof, G_ProveBitI, c_isValidBases, c_within, c_isExp, c_areExps, c_proveBit, hL1_2, hL1_6, hL1_12, hL1_18, hL1_23, expsB_one]
            repeat (refine ⟨by ((repeat' apply And.intro) <;> first | with_reducible assumption | omega | trivial | rfl  | (apply decide_eq_false; omega) | (simp; done) | (simp; omega)), ?_⟩)
            refine hK _ _ ?_
            clear hK K
            refine AWp.cond (b := true) rfl (fun _ => ?_) (fun h => absurd h (by decide))
            refine AWp.plainS Th_ok G_ProveBitI_ok [] kp_ProveBitI [some 38, none, some 11] rfl (by decide) ?_
            intro K hK
            simp (maxSteps := 2000000) only [runR, List.toList_toArray, stepOp, look, opAV, pureOp, callOp, memOp, AS.ev, AS.get, AS.obj, initS, initFrom, AV.cells, AS.upd, Option.bind_some, Option.bind_none, Option.map_some, Option.map_none, Option.getD_none, Option.getD_some, ↓reduceIte, Nat.reduceEqDiff, Nat.reduceAdd, Nat.reduceMul, Nat.reduceSub, List.nil_append, List.append_nil, List.cons_append, List.map_cons, List.map_nil, true_and, and_true, AS.fin, pick, dedup, List.mem_cons, List.not_mem_nil, or_false, false_or, List.size_toArray, List.length_cons, List.length_nil, loadAV, List.drop_zero, List.drop_succ_cons, List.take_zero, List.take_succ_cons, List.getElem?_cons_zero, List.getElem?_cons_succ, List.head?_cons, List.mapM_cons, List.mapM_nil, Option.bind_eq_bind, Option.pure_def, deeps3, deep3, deep2, deep1, deeps, deeps2, mixInts, AV.plain, mk, mkD, DCon.lift, DCon.runC, asG, asI, asBo, asStr, asIs, asBs, asE4, asI2, asI3, asLL, asLLL, ren3, ren2, ren1, numb, List.zipIdx_nil, List.zipIdx_cons, List.all_nil, List.all_cons, Nat.reduceLeDiff, List.range, List.range.loop, Ty.sz, beq_self_eq_true, Bool.and_self, and_self, Ty.ofC, AO.isDead, Nat.reduceLT, if_true, Nat.zero_add, Nat.add_zero, ite_true, Nat.le_refl, Bool.false_eq_true, reduceCtorEq, if_false, ite_false, binAV, AO.ren, AV.isCell, fillAV, List.set_cons_zero, List.set_cons_succ, Ty.cells, Ty.flat, Ty.dflt, List.getD_cons_zero, List.getD_cons_succ, Int.reduceToNat, Int.reduceSub, Int.reduceAdd, Int.reduceMul, Int.reduceNeg, forall_eq_or_imp, forall_eq, gdL, id_eq, Nat.lt_irrefl, srcOf, List.replicate_succ, List.replicate_zero, dite_true, List.isEmpty_cons, Option.isSome_some, List.length_append, List.length_singleton, bne_self_eq_false, Bool.not_true, Bool.not_false, kp_ProveBitI, Th_int, Th_bool, Th_string, Th_Sint, Th_implGroup, Th_implBases, Th_implProof, G_ProveBitI, c_isValidBases, c_within, c_isExp, c_areExps, c_proveBit]
            repeat (refine ⟨by ((repeat' apply And.intro) <;> first | with_reducible assumption | omega | trivial | rfl  | (apply decide_eq_false; omega) | (simp; done) | (simp; omega)), ?_⟩)
            refine hK _ _ ?_
            clear hK K
            refine AWp.sub (Sub.nilBox 16 0 264 3 .int rfl rfl rfl) ?_
            refine AWp.sub (Sub.nilBox 16 1 265 3 .int rfl rfl rfl) ?_
            refine AWp.sub (Sub.nilBox 16 2 266 3 .int rfl rfl rfl) ?_
            refine AWp.ret ?_
            repeat (first | refine seqQ_ret ?_ | refine blkQ_ret ?_)
            rw [hP, hok]
            refine ⟨.inr rfl, [264, 265, 266], rfl, by decide, rfl, fun i ob h => ?_⟩
            rcases i with _ | _ | _ | i
            · simp only [List.getElem?_cons_zero, List.getElem?_cons_succ, Option.some.injEq] at h
              subst h
              rfl
            · simp only [List.getElem?_cons_zero, List.getElem?_cons_succ, Option.some.injEq] at h
              subst h
              rfl
            · simp only [List.getElem?_cons_zero, List.getElem?_cons_succ, Option.some.injEq] at h
              subst h
              rfl
            · simp at h
          · skip
            have hqb := q_bd hL1_2
            have huse := okBit_use hL1_2 hL1_6 hL1_12 hL1_18 hL1_23
            have hok : okBit p q g bh bs m r ks = true := by simp only [okBit, hL1_2, hL1_6, hL1_12, hL1_18, hL1_23, ne3 hL1_18, Bool.and_self]
            have hP := PBit_t hok
            obtain ⟨hG, hb, hm, hr, hl, hk⟩ := huse
            refine AWp.plainS Th_ok G_ProveBitI_ok [(5, false), (6, false), (7, false), (8, false), (10, false), (11, false), (12, false), (13, false), (14, false), (16, false), (17, false), (18, false), (19, false), (21, false), (22, false), (23, false), (24, false), (25, false)] kp_ProveBitI [some 12, some 13, some 14, some 15, some 16, some 17, some 18, some 19, some 20, some 21, some 22, some 23, some 24, some 25, some 26, some 27, some 28, some 29, some 30, some 31, some 32, some 33, some 34, some 35, some 36, some 37] rfl (by decide) ?_
            intro K hK
            simp (maxSteps := 2000000) only [runR, List.toList_toArray, stepOp, look, opAV, pureOp, callOp, memOp, AS.ev, AS.get, AS.obj, initS, initFrom, AV.cells, AS.upd, Option.bind_some, Option.bind_none, Option.map_some, Option.map_none, Option.getD_none, Option.getD_some, ↓reduceIte, Nat.reduceEqDiff, Nat.reduceAdd, Nat.reduceMul, Nat.reduceSub, List.nil_append, List.append_nil, List.cons_append, List.map_cons, List.map_nil, true_and, and_true, AS.fin, pick, dedup, List.mem_cons, List.not_mem_nil, or_false, false_or, List.size_toArray, List.length_cons, List.length_nil, loadAV, List.drop_zero, List.drop_succ_cons, List.take_zero, List.take_succ_cons, List.getElem?_cons_zero, List.getElem?_cons_succ, List.head?_cons, List.mapM_cons, List.mapM_nil, Option.bind_eq_bind, Option.pure_def, deeps3, deep3, deep2, deep1, deeps, deeps2, mixInts, AV.plain, mk, mkD, DCon.lift, DCon.runC, asG, asI, asBo, asStr, asIs, asBs, asE4, asI2, asI3, asLL, asLLL, ren3, ren2, ren1, numb, List.zipIdx_nil, List.zipIdx_cons, List.all_nil, List.all_cons, Nat.reduceLeDiff, List.range, List.range.loop, Ty.sz, beq_self_eq_true, Bool.and_self, and_self, Ty.ofC, AO.isDead, Nat.reduceLT, if_true, Nat.zero_add, Nat.add_zero, ite_true, Nat.le_refl, Bool.false_eq_true, reduceCtorEq, if_false, ite_false, binAV, AO.ren, AV.isCell, fillAV, List.set_cons_zero, List.set_cons_succ, Ty.cells, Ty.flat, Ty.dflt, List.getD_cons_zero, List.getD_cons_succ, Int.reduceToNat, Int.reduceSub, Int.reduceAdd, Int.reduceMul, Int.reduceNeg, forall_eq_or_imp, forall_eq, gdL, id_eq, Nat.lt_irrefl, srcOf, List.replicate_succ, List.replicate_zero, dite_true, List.isEmpty_cons, Option.isSome_some, List.length_append, List.length_singleton, bne_self_eq_false, Bool.not_true, Bool.not_false, kp_ProveBitI, Th_int, Th_bool, Th_string, Th_Sint, Th_implGroup, Th_implBases, Th_implProof, G_ProveBitI, c_isValidBases, c_within, c_isExp, c_areExps, c_proveBit, hL1_2, hL1_6, hL1_12, hL1_18, hL1_23, expsB_one]
            repeat (refine ⟨by ((repeat' apply And.intro) <;> first | with_reducible assumption | omega | trivial | rfl  | (apply decide_eq_false; omega) | (simp; done) | (simp; omega)), ?_⟩)
            refine hK _ _ ?_
            clear hK K
            refine AWp.cond (b := false) rfl (fun h => absurd h (by decide)) (fun _ => ?_)
            refine AWp.skip ?_
            refine seqQ_n ?_
            refine AWp.plainS Th_ok G_ProveBitI_ok [] kp_ProveBitI [some 39, some 40, some 41, some 42, some 43, some 44, none, some 11] rfl (by decide) ?_
            intro K hK
            simp (maxSteps := 2000000) only [runR, List.toList_toArray, stepOp, look, opAV, pureOp, callOp, memOp, AS.ev, AS.get, AS.obj, initS, initFrom, AV.cells, AS.upd, Option.bind_some, Option.bind_none, Option.map_some, Option.map_none, Option.getD_none, Option.getD_some, ↓reduceIte, Nat.reduceEqDiff, Nat.reduceAdd, Nat.reduceMul, Nat.reduceSub, List.nil_append, List.append_nil, List.cons_append, List.map_cons, List.map_nil, true_and, and_true, AS.fin, pick, dedup, List.mem_cons, List.not_mem_nil, or_false, false_or, List.size_toArray, List.length_cons, List.length_nil, loadAV, List.drop_zero, List.drop_succ_cons, List.take_zero, List.take_succ_cons, List.getElem?_cons_zero, List.getElem?_cons_succ, List.head?_cons, List.mapM_cons, List.mapM_nil, Option.bind_eq_bind, Option.pure_def, deeps3, deep3, deep2, deep1, deeps, deeps2, mixInts, AV.plain, mk, mkD, DCon.lift, DCon.runC, asG, asI, asBo, asStr, asIs, asBs, asE4, asI2, asI3, asLL, asLLL, ren3, ren2, ren1, numb, List.zipIdx_nil, List.zipIdx_cons, List.all_nil, List.all_cons, Nat.reduceLeDiff, List.range, List.range.loop, Ty.sz, beq_self_eq_true, Bool.and_self, and_self, Ty.ofC, AO.isDead, Nat.reduceLT, if_true, Nat.zero_add, Nat.add_zero, ite_true, Nat.le_refl, Bool.false_eq_true, reduceCtorEq, if_false, ite_false, binAV, AO.ren, AV.isCell, fillAV, List.set_cons_zero, List.set_cons_succ, Ty.cells, Ty.flat, Ty.dflt, List.getD_cons_zero, List.getD_cons_succ, Int.reduceToNat, Int.reduceSub, Int.reduceAdd, Int.reduceMul, Int.reduceNeg, forall_eq_or_imp, forall_eq, gdL, id_eq, Nat.lt_irrefl, srcOf, List.replicate_succ, List.replicate_zero, dite_true, List.isEmpty_cons, Option.isSome_some, List.length_append, List.length_singleton, bne_self_eq_false, Bool.not_true, Bool.not_false, kp_ProveBitI, Th_int, Th_bool, Th_string, Th_Sint, Th_implGroup, Th_implBases, Th_implProof, G_ProveBitI, c_isValidBases, c_within, c_isExp, c_areExps, c_proveBit]
            repeat (refine ⟨by ((repeat' apply And.intro) <;> first | with_reducible assumption | omega | trivial | rfl  | (apply decide_eq_false; omega) | (simp; done) | (simp; omega)), ?_⟩)
            refine hK _ _ ?_
            clear hK K
            refine AWp.ret ?_
            repeat (first | refine seqQ_ret ?_ | refine blkQ_ret ?_)
            rw [hP, hok, prBit_len.1, prBit_len.2.1, prBit_len.2.2]
            refine ⟨.inr rfl, [280, 281, 282], rfl, by decide, rfl, fun i ob h => ?_⟩
            rcases i with _ | _ | _ | i
            · simp only [List.getElem?_cons_zero, List.getElem?_cons_succ, Option.some.injEq] at h
              subst h
              rfl
            · simp only [List.getElem?_cons_zero, List.getElem?_cons_succ, Option.some.injEq] at h
              subst h
              rfl
            · simp only [List.getElem?_cons_zero, List.getElem?_cons_succ, Option.some.injEq] at h
              subst h
              rfl
            · simp at h
        · skip
          have hqb := q_bd hL1_2
          have hok : okBit p q g bh bs m r ks = false := by simp [okBit, hL1_2, hL1_6, hL1_12, hL1_18, ne3']
          have hP := PBit_f hok
          refine AWp.plainS Th_ok G_ProveBitI_ok [(5, false), (6, false), (7, false), (8, false), (10, false), (11, false), (12, false), (13, false), (14, false), (16, false), (17, false), (18, false), (19, false), (21, true), (22, true), (23, true), (24, true), (25, true)] kp_ProveBitI [some 12, some 13, some 14, some 15, some 16, some 17, some 18, some 19, some 20, some 21, some 22, some 23, some 24, some 25, some 26, some 27, some 28, some 29, some 30, some 31, some 32, some 33, some 34, some 35, some 36, some 37] rfl (by decide) ?_
          intro K hK
          simp (maxSteps := 2000000) only [runR, List.toList_toArray, stepOp, look, opAV, pureOp, callOp, memOp, AS.ev, AS.get, AS.obj, initS, initFrom, AV.cells, AS.upd, Option.bind_some, Option.bind_none, Option.map_some, Option.map_none, Option.getD_none, Option.getD_some, ↓reduceIte, Nat.reduceEqDiff, Nat.reduceAdd, Nat.reduceMul, Nat.reduceSub, List.nil_append, List.append_nil, List.cons_append, List.map_cons, List.map_nil, true_and, and_true, AS.fin, pick, dedup, List.mem_cons, List.not_mem_nil, or_false, false_or, List.size_toArray, List.length_cons, List.length_nil, loadAV, List.drop_zero, List.drop_succ_cons, List.take_zero, List.take_succ_cons, List.getElem?_cons_zero, List.getElem?_cons_succ, List.head?_cons, List.mapM_cons, List.mapM_nil, Option.bind_eq_bind, Option.pure_def, deeps3, deep3, deep2, deep1, deeps, deeps2, mixInts, AV.plain, mk, mkD, DCon.lift, DCon.runC, asG, asI, asBo, asStr, asIs, asBs, asE4, asI2, asI3, asLL, asLLL, ren3, ren2, ren1, numb, List.zipIdx_nil, List.zipIdx_cons, List.all_nil, List.all_cons, Nat.reduceLeDiff, List.range, List.range.loop, Ty.sz, beq_self_eq_true, Bool.and_self, and_self, Ty.ofC, AO.isDead, Nat.reduceLT, if_true, Nat.zero_add, Nat.add_zero, ite_true, Nat.le_refl, Bool.false_eq_true, reduceCtorEq, if_false, ite_false, binAV, AO.ren, AV.isCell, fillAV, List.set_cons_zero, List.set_cons_succ, Ty.cells, Ty.flat, Ty.dflt, List.getD_cons_zero, List.getD_cons_succ, Int.reduceToNat, Int.reduceSub, Int.reduceAdd, Int.reduceMul, Int.reduceNeg, forall_eq_or_imp, forall_eq, gdL, id_eq, Nat.lt_irrefl, srcOf, List.replicate_succ, List.replicate_zero, dite_true, List.isEmpty_cons, Option.isSome_some, List.length_append, List.length_singleton, bne_self_eq_false, Bool.not_true, Bool.not_false, kp_ProveBitI, Th_int, Th_bool, Th_string, Th_Sint, Th_implGroup, Th_implBases, Th_implProof, G_ProveBitI, c_isValidBases, c_within, c_isExp, c_areExps, c_proveBit, hL1_2, hL1_6, hL1_12, hL1_18, expsB_one]
          repeat (refine ⟨by ((repeat' apply And.intro) <;> first | with_reducible assumption | omega | trivial | rfl  | (apply decide_eq_false; omega) | (simp; done) | (simp; omega)), ?_⟩)
          refine hK _ _ ?_
          clear hK K
          refine AWp.cond (b := true) rfl (fun _ => ?_) (fun h => absurd h (by decide))
          refine AWp.plainS Th_ok G_ProveBitI_ok [] kp_ProveBitI [some 38, none, some 11] rfl (by decide) ?_
          intro K hK
          simp (maxSteps := 2000000) only [runR, List.toList_toArray, stepOp, look, opAV, pureOp, callOp, memOp, AS.ev, AS.get, AS.obj, initS, initFrom, AV.cells, AS.upd, Option.bind_some, Option.bind_none, Option.map_some, Option.map_none, Option.getD_none, Option.getD_some, ↓reduceIte, Nat.reduceEqDiff, Nat.reduceAdd, Nat.reduceMul, Nat.reduceSub, List.nil_append, List.append_nil, List.cons_append, List.map_cons, List.map_nil, true_and, and_true, AS.fin, pick, dedup, List.mem_cons, List.not_mem_nil, or_false, false_or, List.size_toArray, List.length_cons, List.length_nil, loadAV, List.drop_zero, List.drop_succ_cons, List.take_zero, List.take_succ_cons, List.getElem?_cons_zero, List.getElem?_cons_succ, List.head?_cons, List.mapM_cons, List.mapM_nil, Option.bind_eq_bind, Option.pure_def, deeps3, deep3, deep2, deep1, deeps, deeps2, mixInts, AV.plain, mk, mkD, DCon.lift, DCon.runC, asG, asI, asBo, asStr, asIs, asBs, asE4, asI2, asI3, asLL, asLLL, ren3, ren2, ren1, numb, List.zipIdx_nil, List.zipIdx_cons, List.all_nil, List.all_cons, Nat.reduceLeDiff, List.range, List.range.loop, Ty.sz, beq_self_eq_true, Bool.and_self, and_self, Ty.ofC, AO.isDead, Nat.reduceLT, if_true, Nat.zero_add, Nat.add_zero, ite_true, Nat.le_refl, Bool.false_eq_true, reduceCtorEq, if_false, ite_false, binAV, AO.ren, AV.isCell, fillAV, List.set_cons_zero, List.set_cons_succ, Ty.cells, Ty.flat, Ty.dflt, List.getD_cons_zero, List.getD_cons_succ, Int.reduceToNat, Int.reduceSub, Int.reduceAdd, Int.reduceMul, Int.reduceNeg, forall_eq_or_imp, forall_eq, gdL, id_eq, Nat.lt_irrefl, srcOf, List.replicate_succ, List.replicate_zero, dite_true, List.isEmpty_cons, Option.isSome_some, List.length_append, List.length_singleton, bne_self_eq_false, Bool.not_true, Bool.not_false, kp_ProveBitI, Th_int, Th_bool, Th_string, Th_Sint, Th_implGroup, Th_implBases, Th_implProof, G_ProveBitI, c_isValidBases, c_within, c_isExp, c_areExps, c_proveBit]
          repeat (refine ⟨by ((repeat' apply And.intro) <;> first | with_reducible assumption | omega | trivial | rfl  | (apply decide_eq_false; omega) | (simp; done) | (simp; omega)), ?_⟩)
          refine hK _ _ ?_
          clear hK K
          refine AWp.sub (Sub.nilBox 16 0 264 3 .int rfl rfl rfl) ?_
          refine AWp.sub (Sub.nilBox 16 1 265 3 .int rfl rfl rfl) ?_
          refine AWp.sub (Sub.nilBox 16 2 266 3 .int rfl rfl rfl) ?_
          refine AWp.ret ?_
          repeat (first | refine seqQ_ret ?_ | refine blkQ_ret ?_)
          rw [hP, hok]
          refine ⟨.inr rfl, [264, 265, 266], rfl, by decide, rfl, fun i ob h => ?_⟩
          rcases i with _ | _ | _ | i
          · simp only [List.getElem?_cons_zero, List.getElem?_cons_succ, Option.some.injEq] at h
            subst h
            rfl
          · simp only [List.getElem?_cons_zero, List.getElem?_cons_succ, Option.some.injEq] at h
            subst h
            rfl
          · simp only [List.getElem?_cons_zero, List.getElem?_cons_succ, Option.some.injEq] at h
            subst h
            rfl
          · simp at h
noncomputable def c_ProveBitI : Con0 := fun args => match args with
  | [a0, a1, a2, a3, a4] => match asG a0, asBs a1, asI a2, asI a3, asIs a4 with
    | some (p, q, g), some (bh, bs), some m, some r, some ks => some (True, .tup [.agg [.own 0 (PBit p q g bh bs m r ks).1.length, .own 1 (PBit p q g bh bs m r ks).2.1.length, .own 2 (PBit p q g bh bs m r ks).2.2.length], .lit (.bool (okBit p q g bh bs m r ks))], [.row 3 .int (PBit p q g bh bs m r ks).1, .row 3 .int (PBit p q g bh bs m r ks).2.1, .row 3 .int (PBit p q g bh bs m r ks).2.2])
    | _, _, _, _, _ => none
  | _ => none
theorem ok_ProveBitI : (mk c_ProveBitI).ok Try.prog 37 := Con0.okOf2 (Θ := Th) (N := 45) (rs := [.cell 10 38, .tmp 11]) Th_ok Try.func37 (by kernel_rfl) rfl Try.results37 (by decide) (by kernel_rfl) fun args c x obs h => by
  unfold c_ProveBitI at h
  split at h
  · split at h
    · rename_i p q g bh bs m r ks e0 e1 e2 e3 e4
      cases h
      refine ⟨rfl, rfl, by simp, [.agg [.lit (.int .i64 p), .lit (.int .i64 q), .lit (.int .i64 g)], .agg [.lit (.int .i64 bh), .sl .int bs], .lit (.int .i64 m), .lit (.int .i64 r), .sl .int ks], rfl, fun w vs hv => ?_, fun _ w0 => body_ProveBitI p q g bh bs m r ks w0⟩
      obtain ⟨u0, vs, rfl, r0, h0⟩ := hv.cons_of
      obtain ⟨u1, vs, rfl, r1, h1⟩ := h0.cons_of
      obtain ⟨u2, vs, rfl, r2, h2⟩ := h1.cons_of
      obtain ⟨u3, vs, rfl, r3, h3⟩ := h2.cons_of
      obtain ⟨u4, vs, rfl, r4, h4⟩ := h3.cons_of
      rw [h4.nil_of]
      exact .cons (asG_can e0 r0) (.cons (asBs_can e1 r1) (.cons (asI_can e2 r2) (.cons (asI_can e3 r3) (.cons (asIs_can e4 r4) (.nil)))))
    · cases h
  · cases h
def kp_ProveBitS : List Nat := [0, 1, 2, 3, 4, 5, 6, 10, 11, 38]
noncomputable def G_ProveBitS : List (FuncId × Con) := [(62, mk c_l9Good), (63, mk c_l1In), (65, mk c_gExps), (89, mk c_rBit)]
theorem G_ProveBitS_ok : ∀ f C, (f, C) ∈ G_ProveBitS → C.ok Try.prog f := by
  intro f C h
  simp only [G_ProveBitS, List.mem_cons, Prod.mk.injEq, List.not_mem_nil, or_false] at h
  rcases h with ⟨rfl, rfl⟩ | ⟨rfl, rfl⟩ | ⟨rfl, rfl⟩ | ⟨rfl, rfl⟩
  · exact ok_l9Good
  · exact ok_l1In
  · exact ok_gExps
  · exact ok_rBit
set_option maxRecDepth 100000 in
set_option maxHeartbeats 4000000 in
theorem body_ProveBitS (p q g : Int) (bh : Int) (bs : List Int) (m : Int) (r : Int) (ks : List Int) (w0 : World) : AWp Try.prog w0 46 ((Try.f36).body.getD .skip) (initS [.agg [.lit (.int .i64 p), .lit (.int .i64 q), .lit (.int .i64 g)], .agg [.lit (.int .i64 bh), .sl .int bs], .lit (.int .i64 m), .lit (.int .i64 r), .sl .int ks]) (EndsAt Th [.cell 10 38, .tmp 11] (.tup [.agg [.own 0 (PBit p q g bh bs m r ks).1.length, .own 1 (PBit p q g bh bs m r ks).2.1.length, .own 2 (PBit p q g bh bs m r ks).2.2.length], .lit (.bool (okBit p q g bh bs m r ks))]) [.row 3 .int (PBit p q g bh bs m r ks).1, .row 3 .int (PBit p q g bh bs m r ks).2.1, .row 3 .int (PBit p q g bh bs m r ks).2.2]) := by
  refine AWp.body rfl ?_
  refine AWp.plainS Th_ok G_ProveBitS_ok [] kp_ProveBitS [some 5, some 6, some 10, some 11] rfl (by decide) ?_
  intro K hK
  simp (maxSteps := 2000000) only [runR, List.toList_toArray, stepOp, look, opAV, pureOp, callOp, memOp, AS.ev, AS.get, AS.obj, initS, initFrom, AV.cells, AS.upd, Option.bind_some, Option.bind_none, Option.map_some, Option.map_none, Option.getD_none, Option.getD_some, ↓reduceIte, Nat.reduceEqDiff, Nat.reduceAdd, Nat.reduceMul, Nat.reduceSub, List.nil_append, List.append_nil, List.cons_append, List.map_cons, List.map_nil, true_and, and_true, AS.fin, pick, dedup, List.mem_cons, List.not_mem_nil, or_false, false_or, List.size_toArray, List.length_cons, List.length_nil, loadAV, List.drop_zero, List.drop_succ_cons, List.take_zero, List.take_succ_cons, List.getElem?_cons_zero, List.getElem?_cons_succ, List.head?_cons, List.mapM_cons, List.mapM_nil, Option.bind_eq_bind, Option.pure_def, deeps3, deep3, deep2, deep1, deeps, deeps2, mixInts, AV.plain, mk, mkD, DCon.lift, DCon.runC, asG, asI, asBo, asStr, asIs, asBs, asE4, asI2, asI3, asLL, asLLL, ren3, ren2, ren1, numb, List.zipIdx_nil, List.zipIdx_cons, List.all_nil, List.all_cons, Nat.reduceLeDiff, List.range, List.range.loop, Ty.sz, beq_self_eq_true, Bool.and_self, and_self, Ty.ofC, AO.isDead, Nat.reduceLT, if_true, Nat.zero_add, Nat.add_zero, ite_true, Nat.le_refl, Bool.false_eq_true, reduceCtorEq, if_false, ite_false, binAV, AO.ren, AV.isCell, fillAV, List.set_cons_zero, List.set_cons_succ, Ty.cells, Ty.flat, Ty.dflt, List.getD_cons_zero, List.getD_cons_succ, Int.reduceToNat, Int.reduceSub, Int.reduceAdd, Int.reduceMul, Int.reduceNeg, forall_eq_or_imp, forall_eq, gdL, id_eq, Nat.lt_irrefl, srcOf, List.replicate_succ, List.replicate_zero, dite_true, List.isEmpty_cons, Option.isSome_some, List.length_append, List.length_singleton, bne_self_eq_false, Bool.not_true, Bool.not_false, kp_ProveBitS, Th_int, Th_bool, Th_string, Th_Sint, Th_implGroup, Th_implBases, Th_implProof, G_ProveBitS, c_l9Good, c_l1In, c_gExps, c_rBit]
  repeat (refine ⟨by ((repeat' apply And.intro) <;> first | with_reducible assumption | omega | trivial | rfl  | (apply decide_eq_false; omega) | (simp; done) | (simp; omega)), ?_⟩)
  refine hK _ _ ?_
  clear hK K
  refine AWp.seq ?_
  cases hL1_2 : (l9B p q g bh bs)
  · skip
    have hok : okBit p q g bh bs m r ks = false := by simp [okBit, hL1_2, ne3']
    have hP := PBit_f hok
    refine AWp.plainS Th_ok G_ProveBitS_ok [(5, true), (6, true), (7, true), (8, true), (10, true), (11, true), (12, true), (13, true), (14, true), (15, true), (17, true), (18, true), (19, true), (20, true), (22, true), (23, true), (24, true), (25, true), (26, true)] kp_ProveBitS [some 12, some 13, some 14, some 15, some 16, some 17, some 18, some 19, some 20, some 21, some 22, some 23, some 24, some 25, some 26, some 27, some 28, some 29, some 30, some 31, some 32, some 33, some 34, some 35, some 36, some 37, some 38] rfl (by decide) ?_
    intro K hK
    simp (maxSteps := 2000000) only [runR, List.toList_toArray, stepOp, look, opAV, pureOp, callOp, memOp, AS.ev, AS.get, AS.obj, initS, initFrom, AV.cells, AS.upd, Option.bind_some, Option.bind_none, Option.map_some, Option.map_none, Option.getD_none, Option.getD_some, ↓reduceIte, Nat.reduceEqDiff, Nat.reduceAdd, Nat.reduceMul, Nat.reduceSub, List.nil_append, List.append_nil, List.cons_append, List.map_cons, List.map_nil, true_and, and_true, AS.fin, pick, dedup, List.mem_cons, List.not_mem_nil, or_false, false_or, List.size_toArray, List.length_cons, List.length_nil, loadAV, List.drop_zero, List.drop_succ_cons, List.take_zero, List.take_succ_cons, List.getElem?_cons_zero, List.getElem?_cons_succ, List.head?_cons, List.mapM_cons, List.mapM_nil, Option.bind_eq_bind, Option.pure_def, deeps3, deep3, deep2, deep1, deeps, deeps2, mixInts, AV.plain, mk, mkD, DCon.lift, DCon.runC, asG, asI, asBo, asStr, asIs, asBs, asE4, asI2, asI3, asLL, asLLL, ren3, ren2, ren1, numb, List.zipIdx_nil, List.zipIdx_cons, List.all_nil, List.all_cons, Nat.reduceLeDiff, List.range, List.range.loop, Ty.sz, beq_self_eq_true, Bool.and_self, and_self, Ty.ofC, AO.isDead, Nat.reduceLT, if_true, Nat.zero_add, Nat.add_zero, ite_true, Nat.le_refl, Bool.false_eq_true, reduceCtorEq, if_false, ite_false, binAV, AO.ren, AV.isCell, fillAV, List.set_cons_zero, List.set_cons_succ, Ty.cells, Ty.flat, Ty.dflt, List.getD_cons_zero, List.getD_cons_succ, Int.reduceToNat, Int.reduceSub, Int.reduceAdd, Int.reduceMul, Int.reduceNeg, forall_eq_or_imp, forall_eq, gdL, id_eq, Nat.lt_irrefl, srcOf, List.replicate_succ, List.replicate_zero, dite_true, List.isEmpty_cons, Option.isSome_some, List.length_append, List.length_singleton, bne_self_eq_false, Bool.not_true, Bool.not_false, kp_ProveBitS, Th_int, Th_bool, Th_string, Th_Sint, Th_implGroup, Th_implBases, Th_implProof, G_ProveBitS, c_l9Good, c_l1In, c_gExps, c_rBit, hL1_2, expsB_one]
    repeat (refine ⟨by ((repeat' apply And.intro) <;> first | with_reducible assumption | omega | trivial | rfl  | (apply decide_eq_false; omega) | (simp; done) | (simp; omega)), ?_⟩)
    refine hK _ _ ?_
    clear hK K
    refine AWp.cond (b := true) rfl (fun _ => ?_) (fun h => absurd h (by decide))
    refine AWp.plainS Th_ok G_ProveBitS_ok [] kp_ProveBitS [some 39, none, some 11] rfl (by decide) ?_
    intro K hK
    simp (maxSteps := 2000000) only [runR, List.toList_toArray, stepOp, look, opAV, pureOp, callOp, memOp, AS.ev, AS.get, AS.obj, initS, initFrom, AV.cells, AS.upd, Option.bind_some, Option.bind_none, Option.map_some, Option.map_none, Option.getD_none, Option.getD_some, ↓reduceIte, Nat.reduceEqDiff, Nat.reduceAdd, Nat.reduceMul, Nat.reduceSub, List.nil_append, List.append_nil, List.cons_append, List.map_cons, List.map_nil, true_and, and_true, AS.fin, pick, dedup, List.mem_cons, List.not_mem_nil, or_false, false_or, List.size_toArray, List.length_cons, List.length_nil, loadAV, List.drop_zero, List.drop_succ_cons, List.take_zero, List.take_succ_cons, List.getElem?_cons_zero, List.getElem?_cons_succ, List.head?_cons, List.mapM_cons, List.mapM_nil, Option.bind_eq_bind, Option.pure_def, deeps3, deep3, deep2, deep1, deeps, deeps2, mixInts, AV.plain, mk, mkD, DCon.lift, DCon.runC, asG, asI, asBo, asStr, asIs, asBs, asE4, asI2, asI3, asLL, asLLL, ren3, ren2, ren1, numb, List.zipIdx_nil, List.zipIdx_cons, List.all_nil, List.all_cons, Nat.reduceLeDiff, List.range, List.range.loop, Ty.sz, beq_self_eq_true, Bool.and_self, and_self, Ty.ofC, AO.isDead, Nat.reduceLT, if_true, Nat.zero_add, Nat.add_zero, ite_true, Nat.le_refl, Bool.false_eq_true, reduceCtorEq, if_false, ite_false, binAV, AO.ren, AV.isCell, fillAV, List.set_cons_zero, List.set_cons_succ, Ty.cells, Ty.flat, Ty.dflt, List.getD_cons_zero, List.getD_cons_succ, Int.reduceToNat, Int.reduceSub, Int.reduceAdd, Int.reduceMul, Int.reduceNeg, forall_eq_or_imp, forall_eq, gdL, id_eq, Nat.lt_irrefl, srcOf, List.replicate_succ, List.replicate_zero, dite_true, List.isEmpty_cons, Option.isSome_some, List.length_append, List.length_singleton, bne_self_eq_false, Bool.not_true, Bool.not_false, kp_ProveBitS, Th_int, Th_bool, Th_string, Th_Sint, Th_implGroup, Th_implBases, Th_implProof, G_ProveBitS, c_l9Good, c_l1In, c_gExps, c_rBit]
    repeat (refine ⟨by ((repeat' apply And.intro) <;> first | with_reducible assumption | omega | trivial | rfl  | (apply decide_eq_false; omega) | (simp; done) | (simp; omega)), ?_⟩)
    refine hK _ _ ?_
    clear hK K
    refine AWp.sub (Sub.nilBox 16 0 272 3 .int rfl rfl rfl) ?_
    refine AWp.sub (Sub.nilBox 16 1 273 3 .int rfl rfl rfl) ?_
    refine AWp.sub (Sub.nilBox 16 2 274 3 .int rfl rfl rfl) ?_
    refine AWp.ret ?_
    repeat (first | refine seqQ_ret ?_ | refine blkQ_ret ?_)
    rw [hP, hok]
    refine ⟨.inr rfl, [272, 273, 274], rfl, by decide, rfl, fun i ob h => ?_⟩
    rcases i with _ | _ | _ | i
    · simp only [List.getElem?_cons_zero, List.getElem?_cons_succ, Option.some.injEq] at h
      subst h
      rfl
    · simp only [List.getElem?_cons_zero, List.getElem?_cons_succ, Option.some.injEq] at h
      subst h
      rfl
    · simp only [List.getElem?_cons_zero, List.getElem?_cons_succ, Option.some.injEq] at h
      subst h
      rfl
    · simp at h
  · skip
    cases hL1_6 : (inr m 0 1)
    · skip
      have hqb := q_bd hL1_2
      have hok : okBit p q g bh bs m r ks = false := by simp [okBit, hL1_2, hL1_6, ne3']
      have hP := PBit_f hok
      refine AWp.plainS Th_ok G_ProveBitS_ok [(5, false), (6, false), (7, false), (8, false), (10, true), (11, true), (12, true), (13, true), (14, true), (15, true), (17, true), (18, true), (19, true), (20, true), (22, true), (23, true), (24, true), (25, true), (26, true)] kp_ProveBitS [some 12, some 13, some 14, some 15, some 16, some 17, some 18, some 19, some 20, some 21, some 22, some 23, some 24, some 25, some 26, some 27, some 28, some 29, some 30, some 31, some 32, some 33, some 34, some 35, some 36, some 37, some 38] rfl (by decide) ?_
      intro K hK
      simp (maxSteps := 2000000) only [runR, List.toList_toArray, stepOp, look, opAV, pureOp, callOp, memOp, AS.ev, AS.get, AS.obj, initS, initFrom, AV.cells, AS.upd, Option.bind_some, Option.bind_none, Option.map_some, Option.map_none, Option.getD_none, Option.getD_some, ↓reduceIte, Nat.reduceEqDiff, Nat.reduceAdd, Nat.reduceMul, Nat.reduceSub, List.nil_append, List.append_nil, List.cons_append, List.map_cons, List.map_nil, true_and, and_true, AS.fin, pick, dedup, List.mem_cons, List.not_mem_nil, or_false, false_or, List.size_toArray, List.length_cons, List.length_nil, loadAV, List.drop_zero, List.drop_succ_cons, List.take_zero, List.take_succ_cons, List.getElem?_cons_zero, List.getElem?_cons_succ, List.head?_cons, List.mapM_cons, List.mapM_nil, Option.bind_eq_bind, Option.pure_def, deeps3, deep3, deep2, deep1, deeps, deeps2, mixInts, AV.plain, mk, mkD, DCon.lift, DCon.runC, asG, asI, asBo, asStr, asIs, asBs, asE4, asI2, asI3, asLL, asLLL, ren3, ren2, ren1, numb, List.zipIdx_nil, List.zipIdx_cons, List.all_nil, List.all_cons, Nat.reduceLeDiff, List.range, List.range.loop, Ty.sz, beq_self_eq_true, Bool.and_self, and_self, Ty.ofC, AO.isDead, Nat.reduceLT, if_true, Nat.zero_add, Nat.add_zero, ite_true, Nat.le_refl, Bool.false_eq_true, reduceCtorEq, if_false, ite_false, binAV, AO.ren, AV.isCell, fillAV, List.set_cons_zero, List.set_cons_succ, Ty.cells, Ty.flat, Ty.dflt, List.getD_cons_zero, List.getD_cons_succ, Int.reduceToNat, Int.reduceSub, Int.reduceAdd, Int.reduceMul, Int.reduceNeg, forall_eq_or_imp, forall_eq, gdL, id_eq, Nat.lt_irrefl, srcOf, List.replicate_succ, List.replicate_zero, dite_true, List.isEmpty_cons, Option.isSome_some, List.length_append, List.length_singleton, bne_self_eq_false, Bool.not_true, Bool.not_false, kp_ProveBitS, Th_int, Th_bool, Th_string, Th_Sint, Th_implGroup, Th_implBases, Th_implProof, G_ProveBitS, c_l9Good, c_l1In, c_gExps, c_rBit, hL1_2, hL1_6, expsB_one]
      repeat (refine ⟨by ((repeat' apply And.intro) <;> first | with_reducible assumption | omega | trivial | rfl  | (apply decide_eq_false; omega) | (simp; done) | (simp; omega)), ?_⟩)
      refine hK _ _ ?_
      clear hK K
      refine AWp.cond (b := true) rfl (fun _ => ?_) (fun h => absurd h (by decide))
      refine AWp.plainS Th_ok G_ProveBitS_ok [] kp_ProveBitS [some 39, none, some 11] rfl (by decide) ?_
      intro K hK
      simp (maxSteps := 2000000) only [runR, List.toList_toArray, stepOp, look, opAV, pureOp, callOp, memOp, AS.ev, AS.get, AS.obj, initS, initFrom, AV.cells, AS.upd, Option.bind_some, Option.bind_none, Option.map_some, Option.map_none, Option.getD_none, Option.getD_some, ↓reduceIte, Nat.reduceEqDiff, Nat.reduceAdd, Nat.reduceMul, Nat.reduceSub, List.nil_append, List.append_nil, List.cons_append, List.map_cons, List.map_nil, true_and, and_true, AS.fin, pick, dedup, List.mem_cons, List.not_mem_nil, or_false, false_or, List.size_toArray, List.length_cons, List.length_nil, loadAV, List.drop_zero, List.drop_succ_cons, List.take_zero, List.take_succ_cons, List.getElem?_cons_zero, List.getElem?_cons_succ, List.head?_cons, List.mapM_cons, List.mapM_nil, Option.bind_eq_bind, Option.pure_def, deeps3, deep3, deep2, deep1, deeps, deeps2, mixInts, AV.plain, mk, mkD, DCon.lift, DCon.runC, asG, asI, asBo, asStr, asIs, asBs, asE4, asI2, asI3, asLL, asLLL, ren3, ren2, ren1, numb, List.zipIdx_nil, List.zipIdx_cons, List.all_nil, List.all_cons, Nat.reduceLeDiff, List.range, List.range.loop, Ty.sz, beq_self_eq_true, Bool.and_self, and_self, Ty.ofC, AO.isDead, Nat.reduceLT, if_true, Nat.zero_add, Nat.add_zero, ite_true, Nat.le_refl, Bool.false_eq_true, reduceCtorEq, if_false, ite_false, binAV, AO.ren, AV.isCell, fillAV, List.set_cons_zero, List.set_cons_succ, Ty.cells, Ty.flat, Ty.dflt, List.getD_cons_zero, List.getD_cons_succ, Int.reduceToNat, Int.reduceSub, Int.reduceAdd, Int.reduceMul, Int.reduceNeg, forall_eq_or_imp, forall_eq, gdL, id_eq, Nat.lt_irrefl, srcOf, List.replicate_succ, List.replicate_zero, dite_true, List.isEmpty_cons, Option.isSome_some, List.length_append, List.length_singleton, bne_self_eq_false, Bool.not_true, Bool.not_false, kp_ProveBitS, Th_int, Th_bool, Th_string, Th_Sint, Th_implGroup, Th_implBases, Th_implProof, G_ProveBitS, c_l9Good, c_l1In, c_gExps, c_rBit]
      repeat (refine ⟨by ((repeat' apply And.intro) <;> first | with_reducible assumption | omega | trivial | rfl  | (apply decide_eq_false; omega) | (simp; done) | (simp; omega)), ?_⟩)
      refine hK _ _ ?_
      clear hK K
      refine AWp.sub (Sub.nilBox 16 0 272 3 .int rfl rfl rfl) ?_
      refine AWp.sub (Sub.nilBox 16 1 273 3 .int rfl rfl rfl) ?_
      refine AWp.sub (Sub.nilBox 16 2 274 3 .int rfl rfl rfl) ?_
      refine AWp.ret ?_
      repeat (first | refine seqQ_ret ?_ | refine blkQ_ret ?_)
      rw [hP, hok]
      refine ⟨.inr rfl, [272, 273, 274], rfl, by decide, rfl, fun i ob h => ?_⟩
      rcases i with _ | _ | _ | i
      · simp only [List.getElem?_cons_zero, List.getElem?_cons_succ, Option.some.injEq] at h
        subst h
        rfl
      · simp only [List.getElem?_cons_zero, List.getElem?_cons_succ, Option.some.injEq] at h
        subst h
        rfl
      · simp only [List.getElem?_cons_zero, List.getElem?_cons_succ, Option.some.injEq] at h
        subst h
        rfl
      · simp at h
    · skip
      cases hL1_13 : (expsB q [r])
      · skip
        simp only [expsB_one] at hL1_13
        have hqb := q_bd hL1_2
        have hok : okBit p q g bh bs m r ks = false := by simp [okBit, hL1_2, hL1_6, hL1_13, ne3']
        have hP := PBit_f hok
        refine AWp.plainS Th_ok G_ProveBitS_ok [(5, false), (6, false), (7, false), (8, false), (10, false), (11, false), (12, false), (13, false), (14, false), (15, false), (17, true), (18, true), (19, true), (20, true), (22, true), (23, true), (24, true), (25, true), (26, true)] kp_ProveBitS [some 12, some 13, some 14, some 15, some 16, some 17, some 18, some 19, some 20, some 21, some 22, some 23, some 24, some 25, some 26, some 27, some 28, some 29, some 30, some 31, some 32, some 33, some 34, some 35, some 36, some 37, some 38] rfl (by decide) ?_
        intro K hK
        simp (maxSteps := 2000000) only [runR, List.toList_toArray, stepOp, look, opAV, pureOp, callOp, memOp, AS.ev, AS.get, AS.obj, initS, initFrom, AV.cells, AS.upd, Option.bind_some, Option.bind_none, Option.map_some, Option.map_none, Option.getD_none, Option.getD_some, ↓reduceIte, Nat.reduceEqDiff, Nat.reduceAdd, Nat.reduceMul, Nat.reduceSub, List.nil_append, List.append_nil, List.cons_append, List.map_cons, List.map_nil, true_and, and_true, AS.fin, pick, dedup, List.mem_cons, List.not_mem_nil, or_false, false_or, List.size_toArray, List.length_cons, List.length_nil, loadAV, List.drop_zero, List.drop_succ_cons, List.take_zero, List.take_succ_cons, List.getElem?_cons_zero, List.getElem?_cons_succ, List.head?_cons, List.mapM_cons, List.mapM_nil, Option.bind_eq_bind, Option.pure_def, deeps3, deep3, deep2, deep1, deeps, deeps2, mixInts, AV.plain, mk, mkD, DCon.lift, DCon.runC, asG, asI, asBo, asStr, asIs, asBs, asE4, asI2, asI3, asLL, asLLL, ren3, ren2, ren1, numb, List.zipIdx_nil, List.zipIdx_cons, List.all_nil, List.all_cons, Nat.reduceLeDiff, List.range, List.range.loop, Ty.sz, beq_self_eq_true, Bool.and_self, and_self, Ty.ofC, AO.isDead, Nat.reduceLT, if_true, Nat.zero_add, Nat.add_zero, ite_true, Nat.le_refl, Bool.false_eq_true, reduceCtorEq, if_false, ite_false, binAV, AO.ren, AV.isCell, fillAV, List.set_cons_zero, List.set_cons_succ, Ty.cells, Ty.flat, Ty.dflt, List.getD_cons_zero, List.getD_cons_succ, Int.reduceToNat, Int.reduceSub, Int.reduceAdd, Int.reduceMul, Int.reduceNeg, forall_eq_or_imp, forall_eq, gdL, id_eq, Nat.lt_irrefl, srcOf, List.replicate_succ, List.replicate_zero, dite_true, List.isEmpty_cons, Option.isSome_some, List.length_append, List.length_singleton, bne_self_eq_false, Bool.not_true, Bool.not_false, kp_ProveBitS, Th_int, Th_bool, Th_string, Th_Sint, Th_implGroup, Th_implBases, Th_implProof, G_ProveBitS, c_l9Good, c_l1In, c_gExps, c_rBit, hL1_2, hL1_6, hL1_13, expsB_one]
        repeat (refine ⟨by ((repeat' apply And.intro) <;> first | with_reducible assumption | omega | trivial | rfl  | (apply decide_eq_false; omega) | (simp; done) | (simp; omega)), ?_⟩)
        refine hK _ _ ?_
        clear hK K
        refine AWp.cond (b := true) rfl (fun _ => ?_) (fun h => absurd h (by decide))
        refine AWp.plainS Th_ok G_ProveBitS_ok [] kp_ProveBitS [some 39, none, some 11] rfl (by decide) ?_
        intro K hK
        simp (maxSteps := 2000000) only [runR, List.toList_toArray, stepOp, look, opAV, pureOp, callOp, memOp, AS.ev, AS.get, AS.obj, initS, initFrom, AV.cells, AS.upd, Option.bind_some, Option.bind_none, Option.map_some, Option.map_none, Option.getD_none, Option.getD_some, ↓reduceIte, Nat.reduceEqDiff, Nat.reduceAdd, Nat.reduceMul, Nat.reduceSub, List.nil_append, List.append_nil, List.cons_append, List.map_cons, List.map_nil, true_and, and_true, AS.fin, pick, dedup, List.mem_cons, List.not_mem_nil, or_false, false_or, List.size_toArray, List.length_cons, List.length_nil, loadAV, List.drop_zero, List.drop_succ_cons, List.take_zero, List.take_succ_cons, List.getElem?_cons_zero, List.getElem?_cons_succ, List.head?_cons, List.mapM_cons, List.mapM_nil, Option.bind_eq_bind, Option.pure_def, deeps3, deep3, deep2, deep1, deeps, deeps2, mixInts, AV.plain, mk, mkD, DCon.lift, DCon.runC, asG, asI, asBo, asStr, asIs, asBs, asE4, asI2, asI3, asLL, asLLL, ren3, ren2, ren1, numb, List.zipIdx_nil, List.zipIdx_cons, List.all_nil, List.all_cons, Nat.reduceLeDiff, List.range, List.range.loop, Ty.sz, beq_self_eq_true, Bool.and_self, and_self, Ty.ofC, AO.isDead, Nat.reduceLT, if_true, Nat.zero_add, Nat.add_zero, ite_true, Nat.le_refl, Bool.false_eq_true, reduceCtorEq, if_false, ite_false, binAV, AO.ren, AV.isCell, fillAV, List.set_cons_zero, List.set_cons_succ, Ty.cells, Ty.flat, Ty.dflt, List.getD_cons_zero, List.getD_cons_succ, Int.reduceToNat, Int.reduceSub, Int.reduceAdd, Int.reduceMul, Int.reduceNeg, forall_eq_or_imp, forall_eq, gdL, id_eq, Nat.lt_irrefl, srcOf, List.replicate_succ, List.replicate_zero, dite_true, List.isEmpty_cons, Option.isSome_some, List.length_append, List.length_singleton, bne_self_eq_false, Bool.not_true, Bool.not_false, kp_ProveBitS, Th_int, Th_bool, Th_string, Th_Sint, Th_implGroup, Th_implBases, Th_implProof, G_ProveBitS, c_l9Good, c_l1In, c_gExps, c_rBit]
        repeat (refine ⟨by ((repeat' apply And.intro) <;> first | with_reducible assumption | omega | trivial | rfl  | (apply decide_eq_false; omega) | (simp; done) | (simp; omega)), ?_⟩)
        refine hK _ _ ?_
        clear hK K
        refine AWp.sub (Sub.nilBox 16 0 272 3 .int rfl rfl rfl) ?_
        refine AWp.sub (Sub.nilBox 16 1 273 3 .int rfl rfl rfl) ?_
        refine AWp.sub (Sub.nilBox 16 2 274 3 .int rfl rfl rfl) ?_
        refine AWp.ret ?_
        repeat (first | refine seqQ_ret ?_ | refine blkQ_ret ?_)
        rw [hP, hok]
        refine ⟨.inr rfl, [272, 273, 274], rfl, by decide, rfl, fun i ob h => ?_⟩
        rcases i with _ | _ | _ | i
        · simp only [List.getElem?_cons_zero, List.getElem?_cons_succ, Option.some.injEq] at h
          subst h
          rfl
        · simp only [List.getElem?_cons_zero, List.getElem?_cons_succ, Option.some.injEq] at h
          subst h
          rfl
        · simp only [List.getElem?_cons_zero, List.getElem?_cons_succ, Option.some.injEq] at h
          subst h
          rfl
        · simp at h
      · skip
        cases hL1_19 : (((ks.length : Int) != 3))
        · skip
          cases hL1_24 : (expsB q ks)
          · skip
            simp only [expsB_one] at hL1_13
            have hqb := q_bd hL1_2
            have hok : okBit p q g bh bs m r ks = false := by simp [okBit, hL1_2, hL1_6, hL1_13, hL1_19, hL1_24, ne3']
            have hP := PBit_f hok
            refine AWp.plainS Th_ok G_ProveBitS_ok [(5, false), (6, false), (7, false), (8, false), (10, false), (11, false), (12, false), (13, false), (14, false), (15, false), (17, false), (18, false), (19, false), (20, false), (22, false), (23, false), (24, false), (25, false), (26, false)] kp_ProveBitS [some 12, some 13, some 14, some 15, some 16, some 17, some 18, some 19, some 20, some 21, some 22, some 23, some 24, some 25, some 26, some 27, some 28, some 29, some 30, some 31, some 32, some 33, some 34, some 35, some 36, some 37, some 38] rfl (by decide) ?_
            intro K hK
            simp (maxSteps := 2000000) only [runR, List.toList_toArray, stepOp, look, opAV, pureOp, callOp, memOp, AS.ev, AS.get, AS.obj, initS, initFrom, AV.cells, AS.upd, Option.bind_some, Option.bind_none, Option.map_some, Option.map_none, Option.getD_none, Option.getD_some, ↓reduceIte, Nat.reduceEqDiff, Nat.reduceAdd, Nat.reduceMul, Nat.reduceSub, List.nil_append, List.append_nil, List.cons_append, List.map_cons, List.map_nil, true_and, and_true, AS.fin, pick, dedup, List.mem_cons, List.not_mem_nil, or_false, false_or, List.size_toArray, List.length_cons, List.length_nil, loadAV, List.drop_zero, List.drop_succ_cons, List.take_zero, List.take_succ_cons, List.getElem?_cons_zero, List.getElem?_cons_succ, List.head?_cons, List.mapM_cons, List.mapM_nil, Option.bind_eq_bind, Option.pure_def, deeps3, deep3, deep2, deep1, deeps, deeps2, mixInts, AV.plain, mk, mkD, DCon.lift, DCon.runC, asG, asI, asBo, asStr, asIs, asBs, asE4, asI2, asI3, asLL, asLLL, ren3, ren2, ren1, numb, List.zipIdx_nil, List.zipIdx_cons, List.all_nil, List.all_cons, Nat.reduceLeDiff, List.range, List.range.loop, Ty.sz, beq_self_eq_true, Bool.and_self, and_self, Ty.ofC, AO.isDead, Nat.reduceLT, if_true, Nat.zero_add, Nat.add_zero, ite_true, Nat.le_refl, Bool.false_eq_true, reduceCtorEq, if_false, ite_false, binAV, AO.ren, AV.isCell, fillAV, List.set_cons_zero, List.set_cons_succ, Ty.cells, Ty.flat, Ty.dflt, List.getD_cons_zero, List.getD_cons_succ, Int.reduceToNat, Int.reduceSub, Int.reduceAdd, Int.reduceMul, Int.reduceNeg, forall_eq_or_imp, forall_eq, gdL, id_eq, Nat.lt_irrefl, srcOf, List.replicate_succ, List.replicate_zero, dite_true, List.isEmpty_cons, Option.isSome_some, List.length_append, List.length_singleton, bne_self_eq_false, Bool.not_true, Bool.not_false, kp_ProveBitS, Th_int, Th_bool, Th_string, Th_Sint, Th_implGroup, Th_implBases, Th_implProof, G_ProveBitS, c_l9Good, c_l1In, c_gExps, c_rBit, hL1_2, hL1_6, hL1_13, hL1_19, hL1_24, expsB_one]
            repeat (refine ⟨by ((repeat' apply And.intro) <;> first | with_reducible assumption | omega | trivial | rfl  | (apply decide_eq_false; omega) | (simp; done) | (simp; omega)), ?_⟩)
            refine hK _ _ ?_
            clear hK K
            refine AWp.cond (b := true) rfl (fun _ => ?_) (fun h => absurd h (by decide))
            refine AWp.plainS Th_ok G_ProveBitS_ok [] kp_ProveBitS [some 39, none, some 11] rfl (by decide) ?_
            intro K hK
            simp (maxSteps := 2000000) only [runR, List.toList_toArray, stepOp, look, opAV, pureOp, callOp, memOp, AS.ev, AS.get, AS.obj, initS, initFrom, AV.cells, AS.upd, Option.bind_some, Option.bind_none, Option.map_some, Option.map_none, Option.getD_none, Option.getD_some, ↓reduceIte, Nat.reduceEqDiff, Nat.reduceAdd, Nat.reduceMul, Nat.reduceSub, List.nil_append, List.append_nil, List.cons_append, List.map_cons, List.map_nil, true_and, and_true, AS.fin, pick, dedup, List.mem_cons, List.not_mem_nil, or_false, false_or, List.size_toArray, List.length_cons, List.length_nil, loadAV, List.drop_zero, List.drop_succ_cons, List.take_zero, List.take_succ_cons, List.getElem?_cons_zero, List.getElem?_cons_succ, List.head?_cons, List.mapM_cons, List.mapM_nil, Option.bind_eq_bind, Option.pure_def, deeps3, deep3, deep2, deep1, deeps, deeps2, mixInts, AV.plain, mk, mkD, DCon.lift, DCon.runC, asG, asI, asBo, asStr, asIs, asBs, asE4, asI2, asI3, asLL, asLLL, ren3, ren2, ren1, numb, List.zipIdx_nil, List.zipIdx_cons, List.all_nil, List.all_cons, Nat.reduceLeDiff, List.range, List.range.loop, Ty.sz, beq_self_eq_true, Bool.and_self, and_self, Ty.ofC, AO.isDead, Nat.reduceLT, if_true, Nat.zero_add, Nat.add_zero, ite_true, Nat.le_refl, Bool.false_eq_true, reduceCtorEq, if_false, ite_false, binAV, AO.ren, AV.isCell, fillAV, List.set_cons_zero, List.set_cons_succ, Ty.cells, Ty.flat, Ty.dflt, List.getD_cons_zero, List.getD_cons_succ, Int.reduceToNat, Int.reduceSub, Int.reduceAdd, Int.reduceMul, Int.reduceNeg, forall_eq_or_imp, forall_eq, gdL, id_eq, Nat.lt_irrefl, srcOf, List.replicate_succ, List.replicate_zero, dite_true, List.isEmpty_cons, Option.isSome_some, List.length_append, List.length_singleton, bne_self_eq_false, Bool.not_true, Bool.not_false, kp_ProveBitS, Th_int, Th_bool, Th_string, Th_Sint, Th_implGroup, Th_implBases, Th_implProof, G_ProveBitS, c_l9Good, c_l1In, c_gExps, c_rBit]
            repeat (refine ⟨by ((repeat' apply And.intro) <;> first | with_reducible assumption | omega | trivial | rfl  | (apply decide_eq_false; omega) | (simp; done) | (simp; omega)), ?_⟩)
            refine hK _ _ ?_
            clear hK K
            refine AWp.sub (Sub.nilBox 16 0 272 3 .int rfl rfl rfl) ?_
            refine AWp.sub (Sub.nilBox 16 1 273 3 .int rfl rfl rfl) ?_
            refine AWp.sub (Sub.nilBox 16 2 274 3 .int rfl rfl rfl) ?_
            refine AWp.ret ?_
            repeat (first | refine seqQ_ret ?_ | refine blkQ_ret ?_)
            rw [hP, hok]
            refine ⟨.inr rfl, [272, 273, 274], rfl, by decide, rfl, fun i ob h => ?_⟩
            rcases i with _ | _ | _ | i
            · simp only [List.getElem?_cons_zero, List.getElem?_cons_succ, Option.some.injEq] at h
              subst h
              rfl
            · simp only [List.getElem?_cons_zero, List.getElem?_cons_succ, Option.some.injEq] at h
              subst h
              rfl
            · simp only [List.getElem?_cons_zero, List.getElem?_cons_succ, Option.some.injEq] at h
              subst h
              rfl
            · simp at h
          · skip
            simp only [expsB_one] at hL1_13
            have hqb := q_bd hL1_2
            have huse := okBit_use hL1_2 hL1_6 hL1_13 hL1_19 hL1_24
            have hok : okBit p q g bh bs m r ks = true := by simp only [okBit, hL1_2, hL1_6, hL1_13, hL1_19, hL1_24, ne3 hL1_19, Bool.and_self]
            have hP := PBit_t hok
            obtain ⟨hG, hb, hm, hr, hl, hk⟩ := huse
            refine AWp.plainS Th_ok G_ProveBitS_ok [(5, false), (6, false), (7, false), (8, false), (10, false), (11, false), (12, false), (13, false), (14, false), (15, false), (17, false), (18, false), (19, false), (20, false), (22, false), (23, false), (24, false), (25, false), (26, false)] kp_ProveBitS [some 12, some 13, some 14, some 15, some 16, some 17, some 18, some 19, some 20, some 21, some 22, some 23, some 24, some 25, some 26, some 27, some 28, some 29, some 30, some 31, some 32, some 33, some 34, some 35, some 36, some 37, some 38] rfl (by decide) ?_
            intro K hK
            simp (maxSteps := 2000000) only [runR, List.toList_toArray, stepOp, look, opAV, pureOp, callOp, memOp, AS.ev, AS.get, AS.obj, initS, initFrom, AV.cells, AS.upd, Option.bind_some, Option.bind_none, Option.map_some, Option.map_none, Option.getD_none, Option.getD_some, ↓reduceIte, Nat.reduceEqDiff, Nat.reduceAdd, Nat.reduceMul, Nat.reduceSub, List.nil_append, List.append_nil, List.cons_append, List.map_cons, List.map_nil, true_and, and_true, AS.fin, pick, dedup, List.mem_cons, List.not_mem_nil, or_false, false_or, List.size_toArray, List.length_cons, List.length_nil, loadAV, List.drop_zero, List.drop_succ_cons, List.take_zero, List.take_succ_cons, List.getElem?_cons_zero, List.getElem?_cons_succ, List.head?_cons, List.mapM_cons, List.mapM_nil, Option.bind_eq_bind, Option.pure_def, deeps3, deep3, deep2, deep1, deeps, deeps2, mixInts, AV.plain, mk, mkD, DCon.lift, DCon.runC, asG, asI, asBo, asStr, asIs, asBs, asE4, asI2, asI3, asLL, asLLL, ren3, ren2, ren1, numb, List.zipIdx_nil, List.zipIdx_cons, List.all_nil, List.all_cons, Nat.reduceLeDiff, List.range, List.range.loop, Ty.sz, beq_self_eq_true, Bool.and_self, and_self, Ty.ofC, AO.isDead, Nat.reduceLT, if_true, Nat.zero_add, Nat.add_zero, ite_true, Nat.le_refl, Bool.false_eq_true, reduceCtorEq, if_false, ite_false, binAV, AO.ren, AV.isCell, fillAV, List.set_cons_zero, List.set_cons_succ, Ty.cells, Ty.flat, Ty.dflt, List.getD_cons_zero, List.getD_cons_succ, Int.reduceToNat, Int.reduceSub, Int.reduceAdd, Int.reduceMul, Int.reduceNeg, forall_eq_or_imp, forall_eq, gdL, id_eq, Nat.lt_irrefl, srcOf, List.replicate_succ, List.replicate_zero, dite_true, List.isEmpty_cons, Option.isSome_some, List.length_append, List.length_singleton, bne_self_eq_false, Bool.not_true, Bool.not_false, kp_ProveBitS, Th_int, Th_bool, Th_string, Th_Sint, Th_implGroup, Th_implBases, Th_implProof, G_ProveBitS, c_l9Good, c_l1In, c_gExps, c_rBit, hL1_2, hL1_6, hL1_13, hL1_19, hL1_24, expsB_one]
            repeat (refine ⟨by ((repeat' apply And.intro) <;> first | with_reducible assumption | omega | trivial | rfl  | (apply decide_eq_false; omega) | (simp; done) | (simp; omega)), ?_⟩)
            refine hK _ _ ?_
            clear hK K
            refine AWp.cond (b := false) rfl (fun h => absurd h (by decide)) (fun _ => ?_)
            refine AWp.skip ?_
            refine seqQ_n ?_
            refine AWp.plainS Th_ok G_ProveBitS_ok [] kp_ProveBitS [some 40, some 41, some 42, some 43, some 44, some 45, none, some 11] rfl (by decide) ?_
            intro K hK
            simp (maxSteps := 2000000) only [runR, List.toList_toArray, stepOp, look, opAV, pureOp, callOp, memOp, AS.ev, AS.get, AS.obj, initS, initFrom, AV.cells, AS.upd, Option.bind_some, Option.bind_none, Option.map_some, Option.map_none, Option.getD_none, Option.getD_some, ↓reduceIte, Nat.reduceEqDiff, Nat.reduceAdd, Nat.reduceMul, Nat.reduceSub, List.nil_append, List.append_nil, List.cons_append, List.map_cons, List.map_nil, true_and, and_true, AS.fin, pick, dedup, List.mem_cons, List.not_mem_nil, or_false, false_or, List.size_toArray, List.length_cons, List.length_nil, loadAV, List.drop_zero, List.drop_succ_cons, List.take_zero, List.take_succ_cons, List.getElem?_cons_zero, List.getElem?_cons_succ, List.head?_cons, List.mapM_cons, List.mapM_nil, Option.bind_eq_bind, Option.pure_def, deeps3, deep3, deep2, deep1, deeps, deeps2, mixInts, AV.plain, mk, mkD, DCon.lift, DCon.runC, asG, asI, asBo, asStr, asIs, asBs, asE4, asI2, asI3, asLL, asLLL, ren3, ren2, ren1, numb, List.zipIdx_nil, List.zipIdx_cons, List.all_nil, List.all_cons, Nat.reduceLeDiff, List.range, List.range.loop, Ty.sz, beq_self_eq_true, Bool.and_self, and_self, Ty.ofC, AO.isDead, Nat.reduceLT, if_true, Nat.zero_add, Nat.add_zero, ite_true, Nat.le_refl, Bool.false_eq_true, reduceCtorEq, if_false, ite_false, binAV, AO.ren, AV.isCell, fillAV, List.set_cons_zero, List.set_cons_succ, Ty.cells, Ty.flat, Ty.dflt, List.getD_cons_zero, List.getD_cons_succ, Int.reduceToNat, Int.reduceSub, Int.reduceAdd, Int.reduceMul, Int.reduceNeg, forall_eq_or_imp, forall_eq, gdL, id_eq, Nat.lt_irrefl, srcOf, List.replicate_succ, List.replicate_zero, dite_true, List.isEmpty_cons, Option.isSome_some, List.length_append, List.length_singleton, bne_self_eq_false, Bool.not_true, Bool.not_false, kp_ProveBitS, Th_int, Th_bool, Th_string, Th_Sint, Th_implGroup, Th_implBases, Th_implProof, G_ProveBitS, c_l9Good, c_l1In, c_gExps, c_rBit]
            repeat (refine ⟨by ((repeat' apply And.intro) <;> first | with_reducible assumption | omega | trivial | rfl  | (apply decide_eq_false; omega) | (simp; done) | (simp; omega)), ?_⟩)
            refine hK _ _ ?_
            clear hK K
            refine AWp.ret ?_
            repeat (first | refine seqQ_ret ?_ | refine blkQ_ret ?_)
            rw [hP, hok, prBit_len.1, prBit_len.2.1, prBit_len.2.2]
            refine ⟨.inr rfl, [288, 289, 290], rfl, by decide, rfl, fun i ob h => ?_⟩
            rcases i with _ | _ | _ | i
            · simp only [List.getElem?_cons_zero, List.getElem?_cons_succ, Option.some.injEq] at h
              subst h
              rfl
            · simp only [List.getElem?_cons_zero, List.getElem?_cons_succ, Option.some.injEq] at h
              subst h
              rfl
            · simp only [List.getElem?_cons_zero, List.getElem?_cons_succ, Option.some.injEq] at h
              subst h
              rfl
            · simp at h
        · skip
          simp only [expsB_one] at hL1_13
          have hqb := q_bd hL1_2
          have hok : okBit p q g bh bs m r ks = false := by simp [okBit, hL1_2, hL1_6, hL1_13, hL1_19, ne3']
          have hP := PBit_f hok
          refine AWp.plainS Th_ok G_ProveBitS_ok [(5, false), (6, false), (7, false), (8, false), (10, false), (11, false), (12, false), (13, false), (14, false), (15, false), (17, false), (18, false), (19, false), (20, false), (22, true), (23, true), (24, true), (25, true), (26, true)] kp_ProveBitS [some 12, some 13, some 14, some 15, some 16, some 17, some 18, some 19, some 20, some 21, some 22, some 23, some 24, some 25, some 26, some 27, some 28, some 29, some 30, some 31, some 32, some 33, some 34, some 35, some 36, some 37, some 38] rfl (by decide) ?_
          intro K hK
          simp (maxSteps := 2000000) only [runR, List.toList_toArray, stepOp, look, opAV, pureOp, callOp, memOp, AS.ev, AS.get, AS.obj, initS, initFrom, AV.cells, AS.upd, Option.bind_some, Option.bind_none, Option.map_some, Option.map_none, Option.getD_none, Option.getD_some, ↓reduceIte, Nat.reduceEqDiff, Nat.reduceAdd, Nat.reduceMul, Nat.reduceSub, List.nil_append, List.append_nil, List.cons_append, List.map_cons, List.map_nil, true_and, and_true, AS.fin, pick, dedup, List.mem_cons, List.not_mem_nil, or_false, false_or, List.size_toArray, List.length_cons, List.length_nil, loadAV, List.drop_zero, List.drop_succ_cons, List.take_zero, List.take_succ_cons, List.getElem?_cons_zero, List.getElem?_cons_succ, List.head?_cons, List.mapM_cons, List.mapM_nil, Option.bind_eq_bind, Option.pure_def, deeps3, deep3, deep2, deep1, deeps, deeps2, mixInts, AV.plain, mk, mkD, DCon.lift, DCon.runC, asG, asI, asBo, asStr, asIs, asBs, asE4, asI2, asI3, asLL, asLLL, ren3, ren2, ren1, numb, List.zipIdx_nil, List.zipIdx_cons, List.all_nil, List.all_cons, Nat.reduceLeDiff, List.range, List.range.loop, Ty.sz, beq_self_eq_true, Bool.and_self, and_self, Ty.ofC, AO.isDead, Nat.reduceLT, if_true, Nat.zero_add, Nat.add_zero, ite_true, Nat.le_refl, Bool.false_eq_true, reduceCtorEq, if_false, ite_false, binAV, AO.ren, AV.isCell, fillAV, List.set_cons_zero, List.set_cons_succ, Ty.cells, Ty.flat, Ty.dflt, List.getD_cons_zero, List.getD_cons_succ, Int.reduceToNat, Int.reduceSub, Int.reduceAdd, Int.reduceMul, Int.reduceNeg, forall_eq_or_imp, forall_eq, gdL, id_eq, Nat.lt_irrefl, srcOf, List.replicate_succ, List.replicate_zero, dite_true, List.isEmpty_cons, Option.isSome_some, List.length_append, List.length_singleton, bne_self_eq_false, Bool.not_true, Bool.not_false, kp_ProveBitS, Th_int, Th_bool, Th_string, Th_Sint, Th_implGroup, Th_implBases, Th_implProof, G_ProveBitS, c_l9Good, c_l1In, c_gExps, c_rBit, hL1_2, hL1_6, hL1_13, hL1_19, expsB_one]
          repeat (refine ⟨by ((repeat' apply And.intro) <;> first | with_reducible assumption | omega | trivial | rfl  | (apply decide_eq_false; omega) | (simp; done) | (simp; omega)), ?_⟩)
          refine hK _ _ ?_
          clear hK K
          refine AWp.cond (b := true) rfl (fun _ => ?_) (fun h => absurd h (by decide))
          refine AWp.plainS Th_ok G_ProveBitS_ok [] kp_ProveBitS [some 39, none, some 11] rfl (by decide) ?_
          intro K hK
          simp (maxSteps := 2000000) only [runR, List.toList_toArray, stepOp, look, opAV, pureOp, callOp, memOp, AS.ev, AS.get, AS.obj, initS, initFrom, AV.cells, AS.upd, Option.bind_some, Option.bind_none, Option.map_some, Option.map_none, Option.getD_none, Option.getD_some, ↓reduceIte, Nat.reduceEqDiff, Nat.reduceAdd, Nat.reduceMul, Nat.reduceSub, List.nil_append, List.append_nil, List.cons_append, List.map_cons, List.map_nil, true_and, and_true, AS.fin, pick, dedup, List.mem_cons, List.not_mem_nil, or_false, false_or, List.size_toArray, List.length_cons, List.length_nil, loadAV, List.drop_zero, List.drop_succ_cons, List.take_zero, List.take_succ_cons, List.getElem?_cons_zero, List.getElem?_cons_succ, List.head?_cons, List.mapM_cons, List.mapM_nil, Option.bind_eq_bind, Option.pure_def, deeps3, deep3, deep2, deep1, deeps, deeps2, mixInts, AV.plain, mk, mkD, DCon.lift, DCon.runC, asG, asI, asBo, asStr, asIs, asBs, asE4, asI2, asI3, asLL, asLLL, ren3, ren2, ren1, numb, List.zipIdx_nil, List.zipIdx_cons, List.all_nil, List.all_cons, Nat.reduceLeDiff, List.range, List.range.loop, Ty.sz, beq_self_eq_true, Bool.and_self, and_self, Ty.ofC, AO.isDead, Nat.reduceLT, if_true, Nat.zero_add, Nat.add_zero, ite_true, Nat.le_refl, Bool.false_eq_true, reduceCtorEq, if_false, ite_false, binAV, AO.ren, AV.isCell, fillAV, List.set_cons_zero, List.set_cons_succ, Ty.cells, Ty.flat, Ty.dflt, List.getD_cons_zero, List.getD_cons_succ, Int.reduceToNat, Int.reduceSub, Int.reduceAdd, Int.reduceMul, Int.reduceNeg, forall_eq_or_imp, forall_eq, gdL, id_eq, Nat.lt_irrefl, srcOf, List.replicate_succ, List.replicate_zero, dite_true, List.isEmpty_cons, Option.isSome_some, List.length_append, List.length_singleton, bne_self_eq_false, Bool.not_true, Bool.not_false, kp_ProveBitS, Th_int, Th_bool, Th_string, Th_Sint, Th_implGroup, Th_implBases, Th_implProof, G_ProveBitS, c_l9Good, c_l1In, c_gExps, c_rBit]
          repeat (refine ⟨by ((repeat' apply And.intro) <;> first | with_reducible assumption | omega | trivial | rfl  | (apply decide_eq_false; omega) | (simp; done) | (simp; omega)), ?_⟩)
          refine hK _ _ ?_
          clear hK K
          refine AWp.sub (Sub.nilBox 16 0 272 3 .int rfl rfl rfl) ?_
          refine AWp.sub (Sub.nilBox 16 1 273 3 .int rfl rfl rfl) ?_
          refine AWp.sub (Sub.nilBox 16 2 274 3 .int rfl rfl rfl) ?_
          refine AWp.ret ?_
          repeat (first | refine seqQ_ret ?_ | refine blkQ_ret ?_)
          rw [hP, hok]
          refine ⟨.inr rfl, [272, 273, 274], rfl, by decide, rfl, fun i ob h => ?_⟩
          rcases i with _ | _ | _ | i
          · simp only [List.getElem?_cons_zero, List.getElem?_cons_succ, Option.some.injEq] at h
            subst h
            rfl
          · simp only [List.getElem?_cons_zero, List.getElem?_cons_succ, Option.some.injEq] at h
            subst h
            rfl
          · simp only [List.getElem?_cons_zero, List.getElem?_cons_succ, Option.some.injEq] at h
            subst h
            rfl
          · simp at h
noncomputable def c_ProveBitS : Con0 := fun args => match args with
  | [a0, a1, a2, a3, a4] => match asG a0, asBs a1, asI a2, asI a3, asIs a4 with
    | some (p, q, g), some (bh, bs), some m, some r, some ks => some (True, .tup [.agg [.own 0 (PBit p q g bh bs m r ks).1.length, .own 1 (PBit p q g bh bs m r ks).2.1.length, .own 2 (PBit p q g bh bs m r ks).2.2.length], .lit (.bool (okBit p q g bh bs m r ks))], [.row 3 .int (PBit p q g bh bs m r ks).1, .row 3 .int (PBit p q g bh bs m r ks).2.1, .row 3 .int (PBit p q g bh bs m r ks).2.2])
    | _, _, _, _, _ => none
  | _ => none
theorem ok_ProveBitS : (mk c_ProveBitS).ok Try.prog 36 := Con0.okOf2 (Θ := Th) (N := 46) (rs := [.cell 10 38, .tmp 11]) Th_ok Try.func36 (by kernel_rfl) rfl Try.results36 (by decide) (by kernel_rfl) fun args c x obs h => by
  unfold c_ProveBitS at h
  split at h
  · split at h
    · rename_i p q g bh bs m r ks e0 e1 e2 e3 e4
      cases h
      refine ⟨rfl, rfl, by simp, [.agg [.lit (.int .i64 p), .lit (.int .i64 q), .lit (.int .i64 g)], .agg [.lit (.int .i64 bh), .sl .int bs], .lit (.int .i64 m), .lit (.int .i64 r), .sl .int ks], rfl, fun w vs hv => ?_, fun _ w0 => body_ProveBitS p q g bh bs m r ks w0⟩
      obtain ⟨u0, vs, rfl, r0, h0⟩ := hv.cons_of
      obtain ⟨u1, vs, rfl, r1, h1⟩ := h0.cons_of
      obtain ⟨u2, vs, rfl, r2, h2⟩ := h1.cons_of
      obtain ⟨u3, vs, rfl, r3, h3⟩ := h2.cons_of
      obtain ⟨u4, vs, rfl, r4, h4⟩ := h3.cons_of
      rw [h4.nil_of]
      exact .cons (asG_can e0 r0) (.cons (asBs_can e1 r1) (.cons (asI_can e2 r2) (.cons (asI_can e3 r3) (.cons (asIs_can e4 r4) (.nil)))))
    · cases h
  · cases h
end Go.Proofs.Ytljlimlgdnbllaa
