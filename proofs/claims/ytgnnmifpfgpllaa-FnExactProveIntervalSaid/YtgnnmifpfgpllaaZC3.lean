import Derived.Test.YtgnnmifpfgpllaaZD37
/- Proofs of bits. -/
set_option linter.all false
set_option linter.unusedVariables false
set_option linter.unusedSimpArgs false
namespace Go.Proofs.Ytgnnmifpfgpllaa
open Go.RowKit
theorem of_all3 {q : Int} {ks : List Int} (hl : ks.length = 3) (hk : ∀ x ∈ ks, 0 ≤ x ∧ x < q) : (0 ≤ ks.getD 0 0 ∧ ks.getD 0 0 < q) ∧ (0 ≤ ks.getD 1 0 ∧ ks.getD 1 0 < q) ∧ (0 ≤ ks.getD 2 0 ∧ ks.getD 2 0 < q) := ⟨getD_bd' hk (by omega), getD_bd' hk (by omega), getD_bd' hk (by omega)⟩
/-- the proof of a bit: its case and the other -/
noncomputable def pbX (p q g bh c k1 k2 o : Int) : Int := M.mulL p [M.gpw p q bh k2, M.gpw p q (bcs p q g c o) (-k1)]
noncomputable def prBit (p q g bh m r k0 k1 k2 : Int) : List Int × List Int × List Int :=
  if m = 0 then
    ([M.gpw p q bh k0, pbX p q g bh (cmt p q g bh 0 r) k1 k2 1], [(M.chal p q g (ByteArray.mk #[98, 105, 116]).data.toList [bh, cmt p q g bh 0 r, M.gpw p q bh k0, pbX p q g bh (cmt p q g bh 0 r) k1 k2 1] - k1) % q, k1], [(k0 + (M.chal p q g (ByteArray.mk #[98, 105, 116]).data.toList [bh, cmt p q g bh 0 r, M.gpw p q bh k0, pbX p q g bh (cmt p q g bh 0 r) k1 k2 1] - k1) % q * r) % q, k2])
  else
    ([pbX p q g bh (cmt p q g bh 1 r) k1 k2 0, M.gpw p q bh k0], [k1, (M.chal p q g (ByteArray.mk #[98, 105, 116]).data.toList [bh, cmt p q g bh 1 r, pbX p q g bh (cmt p q g bh 1 r) k1 k2 0, M.gpw p q bh k0] - k1) % q], [k2, (k0 + (M.chal p q g (ByteArray.mk #[98, 105, 116]).data.toList [bh, cmt p q g bh 1 r, pbX p q g bh (cmt p q g bh 1 r) k1 k2 0, M.gpw p q bh k0] - k1) % q * r) % q])
theorem prBit_0 {p q g bh r k0 k1 k2 : Int} : prBit p q g bh 0 r k0 k1 k2 = ([M.gpw p q bh k0, pbX p q g bh (cmt p q g bh 0 r) k1 k2 1], [(M.chal p q g (ByteArray.mk #[98, 105, 116]).data.toList [bh, cmt p q g bh 0 r, M.gpw p q bh k0, pbX p q g bh (cmt p q g bh 0 r) k1 k2 1] - k1) % q, k1], [(k0 + (M.chal p q g (ByteArray.mk #[98, 105, 116]).data.toList [bh, cmt p q g bh 0 r, M.gpw p q bh k0, pbX p q g bh (cmt p q g bh 0 r) k1 k2 1] - k1) % q * r) % q, k2]) := if_pos rfl
theorem prBit_1 {p q g bh r k0 k1 k2 : Int} : prBit p q g bh 1 r k0 k1 k2 = ([pbX p q g bh (cmt p q g bh 1 r) k1 k2 0, M.gpw p q bh k0], [k1, (M.chal p q g (ByteArray.mk #[98, 105, 116]).data.toList [bh, cmt p q g bh 1 r, pbX p q g bh (cmt p q g bh 1 r) k1 k2 0, M.gpw p q bh k0] - k1) % q], [k2, (k0 + (M.chal p q g (ByteArray.mk #[98, 105, 116]).data.toList [bh, cmt p q g bh 1 r, pbX p q g bh (cmt p q g bh 1 r) k1 k2 0, M.gpw p q bh k0] - k1) % q * r) % q]) := if_neg (by decide)
theorem prBit_len {p q g bh m r k0 k1 k2 : Int} : (prBit p q g bh m r k0 k1 k2).1.length = 2 ∧ (prBit p q g bh m r k0 k1 k2).2.1.length = 2 ∧ (prBit p q g bh m r k0 k1 k2).2.2.length = 2 := by
  unfold prBit; split <;> exact ⟨rfl, rfl, rfl⟩
theorem pbX_bd {p q g bh c k1 k2 o : Int} (hp : 3 ≤ p) : 0 ≤ pbX p q g bh c k1 k2 o ∧ pbX p q g bh c k1 k2 o < p := mulL_bd hp _
theorem dig4 {p a b c d : Int} (hp : p ≤ 2000000000) (ha : 0 ≤ a ∧ a < p) (hb : 0 ≤ b ∧ b < p) (hc : 0 ≤ c ∧ c < p) (hd : 0 ≤ d ∧ d < p) : ∀ x ∈ [a, b, c, d], 0 ≤ x ∧ x ≤ 4611686018427387903 := by
  intro x hx
  simp only [List.mem_cons, List.not_mem_nil, or_false] at hx
  rcases hx with rfl | rfl | rfl | rfl <;> omega
noncomputable def c_rBitChallenge : Con0 := conF [(.pair .int (.pair .int .int)), (.pair .int (.list .int)), .int, (.list .int)] fun (⟨⟨p, q, g⟩, ⟨bh, bs⟩, c, xs, _⟩ : (Int × Int × Int) × (Int × List Int) × Int × (List Int) × Unit) => (M.Grp p q g ∧ (0 ≤ bh ∧ bh < p) ∧ (0 ≤ c ∧ c < p) ∧ xs.length = 2 ∧ ∀ x ∈ xs, 0 ≤ x ∧ x < p, .lit (.int .i64 (M.chal p q g (ByteArray.mk #[98, 105, 116]).data.toList [bh, c, xs.getD 0 0, xs.getD 1 0])), [])
noncomputable def G_rBitChallenge : List (FuncId × Con) := [(113, mk c_hChallenge)]
theorem G_rBitChallenge_ok : ∀ f C, (f, C) ∈ G_rBitChallenge → C.ok Try.prog f := by
  intro f C h
  simp only [G_rBitChallenge, List.mem_cons, Prod.mk.injEq, List.not_mem_nil, or_false] at h
  obtain ⟨rfl, rfl⟩ := h
  exact ok_hChallenge
set_option maxRecDepth 100000 in
set_option maxHeartbeats 4000000 in
theorem ok_rBitChallenge : (mk c_rBitChallenge).ok Try.prog 102 := okF (Θ := Th) (N := 21) (rs := [.tmp 8]) Th_ok Try.func102 (by kernel_rfl) rfl Try.results102 (by decide) (by kernel_rfl) fun (⟨⟨p, q, g⟩, ⟨bh, bs⟩, c, xs, _⟩ : (Int × Int × Int) × (Int × List Int) × Int × (List Int) × Unit) => ⟨rfl, rfl, Nat.le_of_ble_eq_true rfl, fun hc w0 => by
  have hL := dmy_eq
  try dsimp only at hc
  try dsimp only
  obtain ⟨hG, hbb, hcb, hxl, hxs⟩ := hc
  have hq2 := hG.q2
  have hqp := hG.qp
  have hp3 := hG.p3
  have hpM := hG.pM
  have hgb : 0 ≤ g ∧ g < p := ⟨by have := hG.g2; omega, hG.gp⟩
  have h0 := getD_bd' hxs (k := 0) (by omega)
  have h1 := getD_bd' hxs (k := 1) (by omega)
  have hd := dig4 hpM hbb hcb h0 h1
  refine AWp.body rfl ?_
  repeat' first
    | ((with_reducible refine hK _ _ ?_); clear hK K)
    | ((with_reducible refine hK _ _ (by kernel_rfl) ?_); clear hK K)
    | ((with_reducible refine AWp.pS Th_ok G_rBitChallenge_ok [0, 1, 2, 3, 4, 5, 8] (by decide) ?_); intro K hK)
    | ((with_reducible refine AWp.dS (by kernel_rfl) Th_ok G_rBitChallenge_ok [0, 1, 2, 3, 4, 5, 8] ?_); intro K hK)
    | ((with_reducible refine AWp.pE Th_ok G_rBitChallenge_ok [0, 1, 2, 3, 4, 5, 8] (by decide) ?_); intro K hK)
    | ((with_reducible refine AWp.dE (by kernel_rfl) Th_ok G_rBitChallenge_ok [0, 1, 2, 3, 4, 5, 8] ?_); intro K hK)
    | ((first | with_reducible refine runF_id ?_ | with_reducible refine stepF_id ?_); simp (maxSteps := 2000000) only [runF, stepF, forkOf, gdOf, List.toList_toArray, stepOp, look, opAV, pureOp, callOp, memOp, AS.ev, AS.get, AS.obj, initS, initFrom, AV.cells, AS.upd, Option.bind_some, Option.bind_none, Option.map_some, Option.map_none, Option.getD_none, Option.getD_some, ↓reduceIte, Nat.reduceEqDiff, Nat.reduceAdd, Nat.reduceMul, Nat.reduceSub, List.nil_append, List.append_nil, List.cons_append, List.map_cons, List.map_nil, true_and, and_true, AS.fin, pick, dedup, List.mem_cons, List.not_mem_nil, or_false, false_or, List.size_toArray, List.length_cons, List.length_nil, loadAV, List.drop_zero, List.drop_succ_cons, List.take_zero, List.take_succ_cons, List.getElem?_cons_zero, List.getElem?_cons_succ, List.head?_cons, List.mapM_cons, List.mapM_nil, Option.bind_eq_bind, Option.pure_def, deeps3, deep3, deep2, deep1, deeps, deeps2, mixInts, AV.plain, mk, mkD, DCon.lift, DCon.runC, ren3, ren2, ren1, numb, List.zipIdx_nil, List.zipIdx_cons, List.all_nil, List.all_cons, Nat.reduceLeDiff, List.range, List.range.loop, Ty.sz, beq_self_eq_true, Bool.and_self, and_self, Ty.ofC, AO.isDead, Nat.reduceLT, if_true, Nat.zero_add, Nat.add_zero, ite_true, Nat.le_refl, Bool.false_eq_true, reduceCtorEq, if_false, ite_false, binAV, AO.ren, AV.isCell, fillAV, List.set_cons_zero, List.set_cons_succ, Ty.cells, Ty.flat, Ty.dflt, List.getD_cons_zero, List.getD_cons_succ, Int.reduceToNat, Int.reduceSub, Int.reduceAdd, Int.reduceMul, Int.reduceNeg, forall_eq_or_imp, forall_eq, gdL, id_eq, Nat.lt_irrefl, srcOf, List.replicate_succ, List.replicate_zero, dite_true, List.isEmpty_cons, Option.isSome_some, List.length_append, List.length_singleton, bne_self_eq_false, Bool.not_true, Bool.not_false, conF, asArgs, asArg, asTy, asI1, asB1, asS1, asL1, canons, canon, Fork.true_, Fork.false_, bne, Bool.not_not, List.length_map, pickO, AS.over, TI.bl, bne_iff_ne, AS.over2, without, keys, List.mem_singleton, memOp2, memOp3, absorb, abInt, abBool, abStr, abList, gones, Int.toNat_natCast, List.take_length, subE, List.nodup_cons, List.nodup_nil, not_false_eq_true, Nat.sub_self, conR, asG, asI, asBo, asStr, asIs, asBs, asE4, asI2, asI3, asLL, asLLL, Th_int, Th_Sint, Th_bool, Th_implBases, Th_implGroup, Th_string, G_rBitChallenge, c_hChallenge, hL])
    | ((with_reducible refine ens_step ?_ (fun hE => ?_)); · ((repeat' with_reducible apply And.intro) <;> first | with_reducible assumption | omega | exact True.intro | with_reducible rfl | (show ByteArray.size _ ≤ _; decide) | (simp; done) | (simp; omega) | rfl))
    | ((with_reducible refine And.intro ?_ ?_); · ((repeat' with_reducible apply And.intro) <;> first | with_reducible assumption | omega | exact True.intro | with_reducible rfl | (show ByteArray.size _ ≤ _; decide) | (simp; done) | (simp; omega) | rfl))
    | ((with_reducible refine Fork.intro (fun h' => ?_) (fun h' => ?_)) <;> (try simp only [Bool.not_eq_true', Bool.not_eq_false', bne] at h') <;> (replace hL := And.intro h' hL) <;> (try simp only [decide_eq_true_eq, decide_eq_false_iff_not, beq_iff_eq, beq_eq_false_iff_ne, ne_eq] at h'))
    | (with_reducible refine AWp.skipS ?_)
    | ((with_reducible refine AWp.condT rfl ?_))
    | ((with_reducible refine AWp.condF rfl ?_))
    | (with_reducible refine AWp.condB rfl ?_)
    | (with_reducible refine AWp.ret ?_)
    | (with_reducible refine seqQ_n ?_)
    | (with_reducible refine seqQ_ret ?_)
    | (with_reducible refine blkQ_ret ?_)
    | (with_reducible refine blkQ_n ?_)
    | (with_reducible refine seqQ_exit ?_)
    | (with_reducible refine blkQ_exit ?_)
    | (with_reducible refine blkQ_other (by decide) ?_)
    | (with_reducible refine AWp.block ?_)
    | (with_reducible refine AWp.exit ?_)
    | (with_reducible refine AWp.skip ?_)
    | ((with_reducible refine EndsAt_id ?_); (try subst_vars); (try simp only [id_eq, hL, List.length_cons, List.length_nil, Nat.zero_add, Nat.reduceAdd, Bool.and_true, Bool.and_false, Bool.true_and, Bool.false_and, Bool.and_self, ↓reduceIte, Bool.false_eq_true, Bool.not_true, Bool.not_false, bne]); refine EndsAt.done [] (by first | exact .inr rfl | exact .inl rfl) rfl rfl ?_ ?_ <;> first | decide | (repeat' (first | rfl | apply And.intro | trivial)))
    | (with_reducible refine AWp.seq ?_)⟩
noncomputable def c_proveBit : Con0 := conF [(.pair .int (.pair .int .int)), (.pair .int (.list .int)), .int, .int, (.list .int)] fun (⟨⟨p, q, g⟩, ⟨bh, bs⟩, m, r, ks, _⟩ : (Int × Int × Int) × (Int × List Int) × Int × Int × (List Int) × Unit) => (M.Grp p q g ∧ (0 ≤ bh ∧ bh < p) ∧ (m = 0 ∨ m = 1) ∧ (0 ≤ r ∧ r < q) ∧ ks.length = 3 ∧ ∀ x ∈ ks, 0 ≤ x ∧ x < q, .agg [.own 0 2, .own 1 2, .own 2 2], [.row 3 .int (prBit p q g bh m r (ks.getD 0 0) (ks.getD 1 0) (ks.getD 2 0)).1, .row 3 .int (prBit p q g bh m r (ks.getD 0 0) (ks.getD 1 0) (ks.getD 2 0)).2.1, .row 3 .int (prBit p q g bh m r (ks.getD 0 0) (ks.getD 1 0) (ks.getD 2 0)).2.2])
noncomputable def G_proveBit : List (FuncId × Con) := [(92, mk c_commit), (55, mk c_pow), (105, mk c_bitCase), (54, mk c_mul), (106, mk c_challenge), (66, mk c_exp)]
theorem G_proveBit_ok : ∀ f C, (f, C) ∈ G_proveBit → C.ok Try.prog f := by
  intro f C h
  simp only [G_proveBit, List.mem_cons, Prod.mk.injEq, List.not_mem_nil, or_false] at h
  rcases h with ⟨rfl, rfl⟩ | ⟨rfl, rfl⟩ | ⟨rfl, rfl⟩ | ⟨rfl, rfl⟩ | ⟨rfl, rfl⟩ | ⟨rfl, rfl⟩
  · exact ok_commit
  · exact ok_pow
  · exact ok_bitCase
  · exact ok_mul
  · exact ok_challenge
  · exact ok_exp
set_option maxRecDepth 100000 in
set_option maxHeartbeats 4000000 in
theorem ok_proveBit : (mk c_proveBit).ok Try.prog 93 := okF (Θ := Th) (N := 122) (rs := [.cell 10 100]) Th_ok Try.func93 (by kernel_rfl) rfl Try.results93 (by decide) (by kernel_rfl) fun (⟨⟨p, q, g⟩, ⟨bh, bs⟩, m, r, ks, _⟩ : (Int × Int × Int) × (Int × List Int) × Int × Int × (List Int) × Unit) => ⟨rfl, rfl, Nat.le_of_ble_eq_true rfl, fun hc w0 => by
  have hL := dmy_eq
  try dsimp only at hc
  try dsimp only
  obtain ⟨hG, hbb, hm, hr, hl, hk⟩ := hc
  have hq2 := hG.q2
  have hqp := hG.qp
  have hp3 := hG.p3
  have hpM := hG.pM
  have hgb : 0 ≤ g ∧ g < p := ⟨by have := hG.g2; omega, hG.gp⟩
  obtain ⟨hk0, hk1, hk2⟩ := of_all3 hl hk
  have hcm := cmt_bd (p := p) (q := q) (g := g) (bh := bh) (m := m) (r := r) hp3
  have hbc := bcs_lt (q := q) (g := g) (k := 1 - m) hp3 hcm
  have hg0 := M.gpw_lt (p := p) (q := q) (x := bh) (e := (ks.getD 0 0)) hp3
  have hg2 := M.gpw_lt (p := p) (q := q) (x := bh) (e := (ks.getD 2 0)) hp3
  have hg1 := M.gpw_lt (p := p) (q := q) (x := bcs p q g (cmt p q g bh m r) (1 - m)) (e := -(ks.getD 1 0)) hp3
  have hal := all2r hg2 hg1
  have hpx : M.mulL p [M.gpw p q bh (ks.getD 2 0), M.gpw p q (bcs p q g (cmt p q g bh m r) (1 - m)) (-(ks.getD 1 0))] = pbX p q g bh (cmt p q g bh m r) (ks.getD 1 0) (ks.getD 2 0) (1 - m) := rfl
  have hpb := pbX_bd (q := q) (g := g) (bh := bh) (c := cmt p q g bh m r) (k1 := (ks.getD 1 0)) (k2 := (ks.getD 2 0)) (o := 1 - m) hp3
  have hda := dig4 hpM hbb hcm hg0 hpb
  have hdb := dig4 hpM hbb hcm hpb hg0
  have hxa := all2r hg0 hpb
  have hxb := all2r hpb hg0
  have hca := M.chal_lt (p := p) (g := g) hq2 (ByteArray.mk #[98, 105, 116]).data.toList [bh, cmt p q g bh m r, M.gpw p q bh (ks.getD 0 0), pbX p q g bh (cmt p q g bh m r) (ks.getD 1 0) (ks.getD 2 0) (1 - m)]
  have hcb := M.chal_lt (p := p) (g := g) hq2 (ByteArray.mk #[98, 105, 116]).data.toList [bh, cmt p q g bh m r, pbX p q g bh (cmt p q g bh m r) (ks.getD 1 0) (ks.getD 2 0) (1 - m), M.gpw p q bh (ks.getD 0 0)]
  have hea := emod_bd (n := M.chal p q g (ByteArray.mk #[98, 105, 116]).data.toList [bh, cmt p q g bh m r, M.gpw p q bh (ks.getD 0 0), pbX p q g bh (cmt p q g bh m r) (ks.getD 1 0) (ks.getD 2 0) (1 - m)] - (ks.getD 1 0)) (q := q) (by omega)
  have heb := emod_bd (n := M.chal p q g (ByteArray.mk #[98, 105, 116]).data.toList [bh, cmt p q g bh m r, pbX p q g bh (cmt p q g bh m r) (ks.getD 1 0) (ks.getD 2 0) (1 - m), M.gpw p q bh (ks.getD 0 0)] - (ks.getD 1 0)) (q := q) (by omega)
  have hma := mul_bd (a := (M.chal p q g (ByteArray.mk #[98, 105, 116]).data.toList [bh, cmt p q g bh m r, M.gpw p q bh (ks.getD 0 0), pbX p q g bh (cmt p q g bh m r) (ks.getD 1 0) (ks.getD 2 0) (1 - m)] - (ks.getD 1 0)) % q) (b := r) (by omega) (by omega)
  have hmb := mul_bd (a := (M.chal p q g (ByteArray.mk #[98, 105, 116]).data.toList [bh, cmt p q g bh m r, pbX p q g bh (cmt p q g bh m r) (ks.getD 1 0) (ks.getD 2 0) (1 - m), M.gpw p q bh (ks.getD 0 0)] - (ks.getD 1 0)) % q) (b := r) (by omega) (by omega)
  rcases hm with rfl | rfl
  all_goals simp only [Int.reduceSub] at *
  all_goals replace hL := And.intro hpx hL
  all_goals refine AWp.body rfl ?_
  repeat' first
    | ((with_reducible refine hK _ _ ?_); clear hK K)
    | ((with_reducible refine hK _ _ (by kernel_rfl) ?_); clear hK K)
    | ((with_reducible refine AWp.pS Th_ok G_proveBit_ok [0, 1, 2, 3, 4, 5, 6, 10, 11, 12, 13, 14] (by decide) ?_); intro K hK)
    | ((with_reducible refine AWp.dS (by kernel_rfl) Th_ok G_proveBit_ok [0, 1, 2, 3, 4, 5, 6, 10, 11, 12, 13, 14] ?_); intro K hK)
    | ((with_reducible refine AWp.pE Th_ok G_proveBit_ok [0, 1, 2, 3, 4, 5, 6, 10, 11, 12, 13, 14] (by decide) ?_); intro K hK)
    | ((with_reducible refine AWp.dE (by kernel_rfl) Th_ok G_proveBit_ok [0, 1, 2, 3, 4, 5, 6, 10, 11, 12, 13, 14] ?_); intro K hK)
    | ((first | with_reducible refine runF_id ?_ | with_reducible refine stepF_id ?_); simp (maxSteps := 2000000) only [runF, stepF, forkOf, gdOf, List.toList_toArray, stepOp, look, opAV, pureOp, callOp, memOp, AS.ev, AS.get, AS.obj, initS, initFrom, AV.cells, AS.upd, Option.bind_some, Option.bind_none, Option.map_some, Option.map_none, Option.getD_none, Option.getD_some, ↓reduceIte, Nat.reduceEqDiff, Nat.reduceAdd, Nat.reduceMul, Nat.reduceSub, List.nil_append, List.append_nil, List.cons_append, List.map_cons, List.map_nil, true_and, and_true, AS.fin, pick, dedup, List.mem_cons, List.not_mem_nil, or_false, false_or, List.size_toArray, List.length_cons, List.length_nil, loadAV, List.drop_zero, List.drop_succ_cons, List.take_zero, List.take_succ_cons, List.getElem?_cons_zero, List.getElem?_cons_succ, List.head?_cons, List.mapM_cons, List.mapM_nil, Option.bind_eq_bind, Option.pure_def, deeps3, deep3, deep2, deep1, deeps, deeps2, mixInts, AV.plain, mk, mkD, DCon.lift, DCon.runC, ren3, ren2, ren1, numb, List.zipIdx_nil, List.zipIdx_cons, List.all_nil, List.all_cons, Nat.reduceLeDiff, List.range, List.range.loop, Ty.sz, beq_self_eq_true, Bool.and_self, and_self, Ty.ofC, AO.isDead, Nat.reduceLT, if_true, Nat.zero_add, Nat.add_zero, ite_true, Nat.le_refl, Bool.false_eq_true, reduceCtorEq, if_false, ite_false, binAV, AO.ren, AV.isCell, fillAV, List.set_cons_zero, List.set_cons_succ, Ty.cells, Ty.flat, Ty.dflt, List.getD_cons_zero, List.getD_cons_succ, Int.reduceToNat, Int.reduceSub, Int.reduceAdd, Int.reduceMul, Int.reduceNeg, forall_eq_or_imp, forall_eq, gdL, id_eq, Nat.lt_irrefl, srcOf, List.replicate_succ, List.replicate_zero, dite_true, List.isEmpty_cons, Option.isSome_some, List.length_append, List.length_singleton, bne_self_eq_false, Bool.not_true, Bool.not_false, conF, asArgs, asArg, asTy, asI1, asB1, asS1, asL1, canons, canon, Fork.true_, Fork.false_, bne, Bool.not_not, List.length_map, pickO, AS.over, TI.bl, bne_iff_ne, AS.over2, without, keys, List.mem_singleton, memOp2, memOp3, absorb, abInt, abBool, abStr, abList, gones, Int.toNat_natCast, List.take_length, subE, List.nodup_cons, List.nodup_nil, not_false_eq_true, Nat.sub_self, conR, asG, asI, asBo, asStr, asIs, asBs, asE4, asI2, asI3, asLL, asLLL, Th_int, Th_Sint, Th_bool, Th_implBases, Th_implGroup, Th_implProof, Th_implRangeProof, Th_implSProof, Th_implSTranscript, Th_implTranscript, Th_lawsBases, Th_lawsGroup, Th_lawsProof, Th_lawsRangeProof, Th_lawsSProof, Th_string, Th_uint, G_proveBit, c_commit, c_pow, c_bitCase, c_mul, c_challenge, c_exp, Int.reduceSub, Int.sub_zero, Int.sub_self, hL])
    | ((with_reducible refine ens_step ?_ (fun hE => ?_)); · ((repeat' with_reducible apply And.intro) <;> first | with_reducible assumption | omega | exact True.intro | with_reducible rfl | (show ByteArray.size _ ≤ _; decide) | (simp; done) | (simp; omega) | rfl))
    | ((with_reducible refine And.intro ?_ ?_); · ((repeat' with_reducible apply And.intro) <;> first | with_reducible assumption | omega | exact True.intro | with_reducible rfl | (show ByteArray.size _ ≤ _; decide) | (simp; done) | (simp; omega) | rfl))
    | ((with_reducible refine Fork.intro (fun h' => ?_) (fun h' => ?_)) <;> (try simp only [Bool.not_eq_true', Bool.not_eq_false', bne] at h') <;> (replace hL := And.intro h' hL) <;> (try simp only [decide_eq_true_eq, decide_eq_false_iff_not, beq_iff_eq, beq_eq_false_iff_ne, ne_eq] at h'))
    | (with_reducible refine AWp.skipS ?_)
    | ((with_reducible refine AWp.condT rfl ?_))
    | ((with_reducible refine AWp.condF rfl ?_))
    | (with_reducible refine AWp.condB rfl ?_)
    | (with_reducible refine AWp.ret ?_)
    | (with_reducible refine seqQ_n ?_)
    | (with_reducible refine seqQ_ret ?_)
    | (with_reducible refine blkQ_ret ?_)
    | (with_reducible refine blkQ_n ?_)
    | (with_reducible refine seqQ_exit ?_)
    | (with_reducible refine blkQ_exit ?_)
    | (with_reducible refine blkQ_other (by decide) ?_)
    | (with_reducible refine AWp.block ?_)
    | (with_reducible refine AWp.exit ?_)
    | (with_reducible refine AWp.skip ?_)
    | ((with_reducible refine EndsAt_id ?_); (try subst_vars); (try simp only [prBit_0, prBit_1, hL, List.length_cons, List.length_nil, Nat.zero_add, Nat.reduceAdd, Bool.and_true, Bool.and_false, Bool.true_and, Bool.false_and, Bool.and_self, ↓reduceIte, Bool.false_eq_true, Bool.not_true, Bool.not_false, bne]); refine EndsAt.done [_, _, _] (by first | exact .inr rfl | exact .inl rfl) rfl rfl ?_ ?_ <;> first | decide | (repeat' (first | rfl | apply And.intro | trivial)))
    | (with_reducible refine AWp.seq ?_)⟩
noncomputable def c_rBit : Con0 := conF [(.pair .int (.pair .int .int)), (.pair .int (.list .int)), .int, .int, (.list .int)] fun (⟨⟨p, q, g⟩, ⟨bh, bs⟩, m, r, ks, _⟩ : (Int × Int × Int) × (Int × List Int) × Int × Int × (List Int) × Unit) => (M.Grp p q g ∧ (0 ≤ bh ∧ bh < p) ∧ (m = 0 ∨ m = 1) ∧ (0 ≤ r ∧ r < q) ∧ ks.length = 3 ∧ ∀ x ∈ ks, 0 ≤ x ∧ x < q, .agg [.own 0 2, .own 1 2, .own 2 2], [.row 3 .int (prBit p q g bh m r (ks.getD 0 0) (ks.getD 1 0) (ks.getD 2 0)).1, .row 3 .int (prBit p q g bh m r (ks.getD 0 0) (ks.getD 1 0) (ks.getD 2 0)).2.1, .row 3 .int (prBit p q g bh m r (ks.getD 0 0) (ks.getD 1 0) (ks.getD 2 0)).2.2])
noncomputable def G_rBit : List (FuncId × Con) := [(90, mk c_pCommit), (51, mk c_gExp), (101, mk c_rCase), (50, mk c_gMul), (102, mk c_rBitChallenge), (65, mk c_nMod)]
theorem G_rBit_ok : ∀ f C, (f, C) ∈ G_rBit → C.ok Try.prog f := by
  intro f C h
  simp only [G_rBit, List.mem_cons, Prod.mk.injEq, List.not_mem_nil, or_false] at h
  rcases h with ⟨rfl, rfl⟩ | ⟨rfl, rfl⟩ | ⟨rfl, rfl⟩ | ⟨rfl, rfl⟩ | ⟨rfl, rfl⟩ | ⟨rfl, rfl⟩
  · exact ok_pCommit
  · exact ok_gExp
  · exact ok_rCase
  · exact ok_gMul
  · exact ok_rBitChallenge
  · exact ok_nMod
set_option maxRecDepth 100000 in
set_option maxHeartbeats 4000000 in
theorem ok_rBit : (mk c_rBit).ok Try.prog 91 := okF (Θ := Th) (N := 109) (rs := [.cell 10 100]) Th_ok Try.func91 (by kernel_rfl) rfl Try.results91 (by decide) (by kernel_rfl) fun (⟨⟨p, q, g⟩, ⟨bh, bs⟩, m, r, ks, _⟩ : (Int × Int × Int) × (Int × List Int) × Int × Int × (List Int) × Unit) => ⟨rfl, rfl, Nat.le_of_ble_eq_true rfl, fun hc w0 => by
  have hL := dmy_eq
  try dsimp only at hc
  try dsimp only
  obtain ⟨hG, hbb, hm, hr, hl, hk⟩ := hc
  have hq2 := hG.q2
  have hqp := hG.qp
  have hp3 := hG.p3
  have hpM := hG.pM
  have hgb : 0 ≤ g ∧ g < p := ⟨by have := hG.g2; omega, hG.gp⟩
  obtain ⟨hk0, hk1, hk2⟩ := of_all3 hl hk
  have hcm := cmt_bd (p := p) (q := q) (g := g) (bh := bh) (m := m) (r := r) hp3
  have hbc := bcs_lt (q := q) (g := g) (k := 1 - m) hp3 hcm
  have hg0 := M.gpw_lt (p := p) (q := q) (x := bh) (e := (ks.getD 0 0)) hp3
  have hg2 := M.gpw_lt (p := p) (q := q) (x := bh) (e := (ks.getD 2 0)) hp3
  have hg1 := M.gpw_lt (p := p) (q := q) (x := bcs p q g (cmt p q g bh m r) (1 - m)) (e := -(ks.getD 1 0)) hp3
  have hal := all2r hg2 hg1
  have hpx : M.mulL p [M.gpw p q bh (ks.getD 2 0), M.gpw p q (bcs p q g (cmt p q g bh m r) (1 - m)) (-(ks.getD 1 0))] = pbX p q g bh (cmt p q g bh m r) (ks.getD 1 0) (ks.getD 2 0) (1 - m) := rfl
  have hpb := pbX_bd (q := q) (g := g) (bh := bh) (c := cmt p q g bh m r) (k1 := (ks.getD 1 0)) (k2 := (ks.getD 2 0)) (o := 1 - m) hp3
  have hda := dig4 hpM hbb hcm hg0 hpb
  have hdb := dig4 hpM hbb hcm hpb hg0
  have hxa := all2r hg0 hpb
  have hxb := all2r hpb hg0
  have hca := M.chal_lt (p := p) (g := g) hq2 (ByteArray.mk #[98, 105, 116]).data.toList [bh, cmt p q g bh m r, M.gpw p q bh (ks.getD 0 0), pbX p q g bh (cmt p q g bh m r) (ks.getD 1 0) (ks.getD 2 0) (1 - m)]
  have hcb := M.chal_lt (p := p) (g := g) hq2 (ByteArray.mk #[98, 105, 116]).data.toList [bh, cmt p q g bh m r, pbX p q g bh (cmt p q g bh m r) (ks.getD 1 0) (ks.getD 2 0) (1 - m), M.gpw p q bh (ks.getD 0 0)]
  have hea := emod_bd (n := M.chal p q g (ByteArray.mk #[98, 105, 116]).data.toList [bh, cmt p q g bh m r, M.gpw p q bh (ks.getD 0 0), pbX p q g bh (cmt p q g bh m r) (ks.getD 1 0) (ks.getD 2 0) (1 - m)] - (ks.getD 1 0)) (q := q) (by omega)
  have heb := emod_bd (n := M.chal p q g (ByteArray.mk #[98, 105, 116]).data.toList [bh, cmt p q g bh m r, pbX p q g bh (cmt p q g bh m r) (ks.getD 1 0) (ks.getD 2 0) (1 - m), M.gpw p q bh (ks.getD 0 0)] - (ks.getD 1 0)) (q := q) (by omega)
  have hma := mul_bd (a := (M.chal p q g (ByteArray.mk #[98, 105, 116]).data.toList [bh, cmt p q g bh m r, M.gpw p q bh (ks.getD 0 0), pbX p q g bh (cmt p q g bh m r) (ks.getD 1 0) (ks.getD 2 0) (1 - m)] - (ks.getD 1 0)) % q) (b := r) (by omega) (by omega)
  have hmb := mul_bd (a := (M.chal p q g (ByteArray.mk #[98, 105, 116]).data.toList [bh, cmt p q g bh m r, pbX p q g bh (cmt p q g bh m r) (ks.getD 1 0) (ks.getD 2 0) (1 - m), M.gpw p q bh (ks.getD 0 0)] - (ks.getD 1 0)) % q) (b := r) (by omega) (by omega)
  rcases hm with rfl | rfl
  all_goals simp only [Int.reduceSub] at *
  all_goals replace hL := And.intro hpx hL
  all_goals refine AWp.body rfl ?_
  repeat' first
    | ((with_reducible refine hK _ _ ?_); clear hK K)
    | ((with_reducible refine hK _ _ (by kernel_rfl) ?_); clear hK K)
    | ((with_reducible refine AWp.pS Th_ok G_rBit_ok [0, 1, 2, 3, 4, 5, 6, 10, 11, 12, 13, 14, 15] (by decide) ?_); intro K hK)
    | ((with_reducible refine AWp.dS (by kernel_rfl) Th_ok G_rBit_ok [0, 1, 2, 3, 4, 5, 6, 10, 11, 12, 13, 14, 15] ?_); intro K hK)
    | ((with_reducible refine AWp.pE Th_ok G_rBit_ok [0, 1, 2, 3, 4, 5, 6, 10, 11, 12, 13, 14, 15] (by decide) ?_); intro K hK)
    | ((with_reducible refine AWp.dE (by kernel_rfl) Th_ok G_rBit_ok [0, 1, 2, 3, 4, 5, 6, 10, 11, 12, 13, 14, 15] ?_); intro K hK)
    | ((first | with_reducible refine runF_id ?_ | with_reducible refine stepF_id ?_); simp (maxSteps := 2000000) only [runF, stepF, forkOf, gdOf, List.toList_toArray, stepOp, look, opAV, pureOp, callOp, memOp, AS.ev, AS.get, AS.obj, initS, initFrom, AV.cells, AS.upd, Option.bind_some, Option.bind_none, Option.map_some, Option.map_none, Option.getD_none, Option.getD_some, ↓reduceIte, Nat.reduceEqDiff, Nat.reduceAdd, Nat.reduceMul, Nat.reduceSub, List.nil_append, List.append_nil, List.cons_append, List.map_cons, List.map_nil, true_and, and_true, AS.fin, pick, dedup, List.mem_cons, List.not_mem_nil, or_false, false_or, List.size_toArray, List.length_cons, List.length_nil, loadAV, List.drop_zero, List.drop_succ_cons, List.take_zero, List.take_succ_cons, List.getElem?_cons_zero, List.getElem?_cons_succ, List.head?_cons, List.mapM_cons, List.mapM_nil, Option.bind_eq_bind, Option.pure_def, deeps3, deep3, deep2, deep1, deeps, deeps2, mixInts, AV.plain, mk, mkD, DCon.lift, DCon.runC, ren3, ren2, ren1, numb, List.zipIdx_nil, List.zipIdx_cons, List.all_nil, List.all_cons, Nat.reduceLeDiff, List.range, List.range.loop, Ty.sz, beq_self_eq_true, Bool.and_self, and_self, Ty.ofC, AO.isDead, Nat.reduceLT, if_true, Nat.zero_add, Nat.add_zero, ite_true, Nat.le_refl, Bool.false_eq_true, reduceCtorEq, if_false, ite_false, binAV, AO.ren, AV.isCell, fillAV, List.set_cons_zero, List.set_cons_succ, Ty.cells, Ty.flat, Ty.dflt, List.getD_cons_zero, List.getD_cons_succ, Int.reduceToNat, Int.reduceSub, Int.reduceAdd, Int.reduceMul, Int.reduceNeg, forall_eq_or_imp, forall_eq, gdL, id_eq, Nat.lt_irrefl, srcOf, List.replicate_succ, List.replicate_zero, dite_true, List.isEmpty_cons, Option.isSome_some, List.length_append, List.length_singleton, bne_self_eq_false, Bool.not_true, Bool.not_false, conF, asArgs, asArg, asTy, asI1, asB1, asS1, asL1, canons, canon, Fork.true_, Fork.false_, bne, Bool.not_not, List.length_map, pickO, AS.over, TI.bl, bne_iff_ne, AS.over2, without, keys, List.mem_singleton, memOp2, memOp3, absorb, abInt, abBool, abStr, abList, gones, Int.toNat_natCast, List.take_length, subE, List.nodup_cons, List.nodup_nil, not_false_eq_true, Nat.sub_self, conR, asG, asI, asBo, asStr, asIs, asBs, asE4, asI2, asI3, asLL, asLLL, Th_int, Th_Sint, Th_bool, Th_implBases, Th_implGroup, Th_implProof, Th_implRangeProof, Th_implSProof, Th_implSTranscript, Th_implTranscript, Th_lawsBases, Th_lawsGroup, Th_lawsProof, Th_lawsRangeProof, Th_lawsSProof, Th_uint, G_rBit, c_pCommit, c_gExp, c_rCase, c_gMul, c_rBitChallenge, c_nMod, Int.reduceSub, Int.sub_zero, Int.sub_self, hL])
    | ((with_reducible refine ens_step ?_ (fun hE => ?_)); · ((repeat' with_reducible apply And.intro) <;> first | with_reducible assumption | omega | exact True.intro | with_reducible rfl | (show ByteArray.size _ ≤ _; decide) | (simp; done) | (simp; omega) | rfl))
    | ((with_reducible refine And.intro ?_ ?_); · ((repeat' with_reducible apply And.intro) <;> first | with_reducible assumption | omega | exact True.intro | with_reducible rfl | (show ByteArray.size _ ≤ _; decide) | (simp; done) | (simp; omega) | rfl))
    | ((with_reducible refine Fork.intro (fun h' => ?_) (fun h' => ?_)) <;> (try simp only [Bool.not_eq_true', Bool.not_eq_false', bne] at h') <;> (replace hL := And.intro h' hL) <;> (try simp only [decide_eq_true_eq, decide_eq_false_iff_not, beq_iff_eq, beq_eq_false_iff_ne, ne_eq] at h'))
    | (with_reducible refine AWp.skipS ?_)
    | ((with_reducible refine AWp.condT rfl ?_))
    | ((with_reducible refine AWp.condF rfl ?_))
    | (with_reducible refine AWp.condB rfl ?_)
    | (with_reducible refine AWp.ret ?_)
    | (with_reducible refine seqQ_n ?_)
    | (with_reducible refine seqQ_ret ?_)
    | (with_reducible refine blkQ_ret ?_)
    | (with_reducible refine blkQ_n ?_)
    | (with_reducible refine seqQ_exit ?_)
    | (with_reducible refine blkQ_exit ?_)
    | (with_reducible refine blkQ_other (by decide) ?_)
    | (with_reducible refine AWp.block ?_)
    | (with_reducible refine AWp.exit ?_)
    | (with_reducible refine AWp.skip ?_)
    | ((with_reducible refine EndsAt_id ?_); (try subst_vars); (try simp only [prBit_0, prBit_1, hL, List.length_cons, List.length_nil, Nat.zero_add, Nat.reduceAdd, Bool.and_true, Bool.and_false, Bool.true_and, Bool.false_and, Bool.and_self, ↓reduceIte, Bool.false_eq_true, Bool.not_true, Bool.not_false, bne]); refine EndsAt.done [_, _, _] (by first | exact .inr rfl | exact .inl rfl) rfl rfl ?_ ?_ <;> first | decide | (repeat' (first | rfl | apply And.intro | trivial)))
    | (with_reducible refine AWp.seq ?_)⟩
end Go.Proofs.Ytgnnmifpfgpllaa
