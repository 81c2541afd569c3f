import Derived.Test.YtgnnmifpfgpllaaGreatZD46
import Derived.Test.YtgnnmifpfgpllaaGreatZD34
/- Trustees to blame. -/
set_option linter.all false
set_option linter.unusedVariables false
set_option linter.unusedSimpArgs false
namespace Go.Proofs.YtgnnmifpfgpllaaGreat
open Go.RowKit
noncomputable def blC (p q g : Int) (cs : List Int) (u : Int) (d : (Int × Int × List Int × List Int × List Int)) : Bool := inr d.1 1 7 && !iptB p q g cs u d.1 d.2.1 d.2.2.1 d.2.2.2.1 d.2.2.2.2
/-- the indices of wrong contributions among the first k -/
noncomputable def blL (p q g : Int) (cs : List Int) (u : Int) (l : List (Int × Int × List Int × List Int × List Int)) (k : Nat) : List Int := ((l.take k).filter (blC p q g cs u)).map (·.1)
section
variable {p q g u : Int} {cs : List Int} {l : List (Int × Int × List Int × List Int × List Int)} {k : Nat}
theorem bl_y (hk : k < l.length) (h1 : inr (l.getD k ((0 : Int), (0 : Int), ([] : List Int), ([] : List Int), ([] : List Int))).1 1 7 = true) (h2 : iptB p q g cs u (l.getD k ((0 : Int), (0 : Int), ([] : List Int), ([] : List Int), ([] : List Int))).1 (l.getD k ((0 : Int), (0 : Int), ([] : List Int), ([] : List Int), ([] : List Int))).2.1 (l.getD k ((0 : Int), (0 : Int), ([] : List Int), ([] : List Int), ([] : List Int))).2.2.1 (l.getD k ((0 : Int), (0 : Int), ([] : List Int), ([] : List Int), ([] : List Int))).2.2.2.1 (l.getD k ((0 : Int), (0 : Int), ([] : List Int), ([] : List Int), ([] : List Int))).2.2.2.2 = false) : blL p q g cs u l k ++ [(l.getD k ((0 : Int), (0 : Int), ([] : List Int), ([] : List Int), ([] : List Int))).1] = blL p q g cs u l (k + 1) := by
  have h3 : blC p q g cs u (l.getD k ((0 : Int), (0 : Int), ([] : List Int), ([] : List Int), ([] : List Int))) = true := by unfold blC; rw [h1, h2]; rfl
  unfold blL
  rw [take_at ((0 : Int), (0 : Int), ([] : List Int), ([] : List Int), ([] : List Int)) hk, List.filter_append, List.map_append, List.filter_cons, if_pos h3]; rfl
theorem bl_n (hk : k < l.length) (h3 : blC p q g cs u (l.getD k ((0 : Int), (0 : Int), ([] : List Int), ([] : List Int), ([] : List Int))) = false) : blL p q g cs u l (k + 1) = blL p q g cs u l k := by
  unfold blL
  rw [take_at ((0 : Int), (0 : Int), ([] : List Int), ([] : List Int), ([] : List Int)) hk, List.filter_append, List.map_append, List.filter_cons, if_neg (by rw [h3]; simp)]; simp
theorem bl_n1 (hk : k < l.length) (h1 : inr (l.getD k ((0 : Int), (0 : Int), ([] : List Int), ([] : List Int), ([] : List Int))).1 1 7 = false) : blL p q g cs u l (k + 1) = blL p q g cs u l k := bl_n hk (by unfold blC; rw [h1]; rfl)
theorem bl_n2 (hk : k < l.length) (h2 : iptB p q g cs u (l.getD k ((0 : Int), (0 : Int), ([] : List Int), ([] : List Int), ([] : List Int))).1 (l.getD k ((0 : Int), (0 : Int), ([] : List Int), ([] : List Int), ([] : List Int))).2.1 (l.getD k ((0 : Int), (0 : Int), ([] : List Int), ([] : List Int), ([] : List Int))).2.2.1 (l.getD k ((0 : Int), (0 : Int), ([] : List Int), ([] : List Int), ([] : List Int))).2.2.2.1 (l.getD k ((0 : Int), (0 : Int), ([] : List Int), ([] : List Int), ([] : List Int))).2.2.2.2 = true) : blL p q g cs u l (k + 1) = blL p q g cs u l k := bl_n hk (by unfold blC; rw [h2]; simp)
theorem bl_len : (blL p q g cs u l k).length ≤ k := by
  unfold blL; rw [List.length_map]
  refine Nat.le_trans (List.length_filter_le _ _) ?_
  rw [List.length_take]; omega
/-- the same, put in one by one -/
noncomputable def blP (p q g : Int) (cs : List Int) (u : Int) (l : List (Int × Int × List Int × List Int × List Int)) (k : Nat) : List Int := M.putsL (blL p q g cs u l k)
theorem bp_y (h : blL p q g cs u l k ++ [(l.getD k ((0 : Int), (0 : Int), ([] : List Int), ([] : List Int), ([] : List Int))).1] = blL p q g cs u l (k + 1)) : M.putL (l.getD k ((0 : Int), (0 : Int), ([] : List Int), ([] : List Int), ([] : List Int))).1 (blP p q g cs u l k) = blP p q g cs u l (k + 1) := by
  unfold blP; rw [← h, M.putsL_app]
theorem bp_n (h : blL p q g cs u l (k + 1) = blL p q g cs u l k) : blP p q g cs u l (k + 1) = blP p q g cs u l k := by
  unfold blP; rw [h]
theorem putsL_len (xs : List Int) : (M.putsL xs).length ≤ xs.length := by
  rw [← M.cpt_puts]
  have h1 := M.cptL_len (M.srtL xs)
  rw [M.srtL_len] at h1; exact h1
theorem bp_len : (blP p q g cs u l k).length ≤ k := Nat.le_trans (putsL_len _) bl_len
end
theorem bp_cpt {p q g u : Int} {cs : List Int} {l : List (Int × Int × List Int × List Int × List Int)} {k : Nat} : M.cptL (M.srtL (blL p q g cs u l k)) = blP p q g cs u l k := M.cpt_puts _
noncomputable def PBl (p q g : Int) (cs : List Int) (u v : Int) (l : List (Int × Int × List Int × List Int × List Int)) : List Int := if okGp p q g cs u v l = true then blP p q g cs u l l.length else []
theorem PBl_le (p q g : Int) (cs : List Int) (u v : Int) (l : List (Int × Int × List Int × List Int × List Int)) : (PBl p q g cs u v l).length ≤ 14 := by
  unfold PBl; split
  · rename_i h
    have h2 := (gp_use h).2
    have := bp_len (p := p) (q := q) (g := g) (cs := cs) (u := u) (l := l) (k := l.length)
    omega
  · simp
noncomputable def c_BlamedForI : Con0 := conF [(.pair .int (.pair .int .int)), (.list .int), (.pair .int .int), (.list (.pair .int (.pair .int (.pair (.list .int) (.pair (.list .int) (.list .int))))))] fun (⟨⟨p, q, g⟩, cs, ⟨u, v⟩, l, _⟩ : (Int × Int × Int) × (List Int) × (Int × Int) × (List (Int × Int × (List Int) × (List Int) × (List Int))) × Unit) => (l.length ≤ 9223372036854775806, .tup [.own 0 (PBl p q g cs u v l).length, .lit (.bool (okGp p q g cs u v l))], [.row 3 .int (PBl p q g cs u v l)])
noncomputable def G_BlamedForI : List (FuncId × Con) := [(36, mk c_isDecryption), (37, mk c_isTrustee), (38, mk c_isPartial), (39, c_w_Sort), (40, c_w_Compact)]
theorem G_BlamedForI_ok : ∀ f C, (f, C) ∈ G_BlamedForI → C.ok Tryz.prog f := by
  intro f C h
  simp only [G_BlamedForI, List.mem_cons, Prod.mk.injEq, List.not_mem_nil, or_false] at h
  rcases h with ⟨rfl, rfl⟩ | ⟨rfl, rfl⟩ | ⟨rfl, rfl⟩ | ⟨rfl, rfl⟩ | ⟨rfl, rfl⟩
  · exact ok_isDecryption
  · exact ok_isTrustee
  · exact ok_isPartial
  · exact ok_w_Sort
  · exact ok_w_Compact
set_option maxRecDepth 100000 in
set_option maxHeartbeats 4000000 in
theorem ok_BlamedForI : (mk c_BlamedForI).ok Tryz.prog 12 := okF (Θ := Th) (N := 51) (rs := [.tmp 8, .tmp 9]) Th_ok Tryz.func12 (by kernel_rfl) rfl Tryz.results12 (by decide) (by kernel_rfl) fun (⟨⟨p, q, g⟩, cs, ⟨u, v⟩, l, _⟩ : (Int × Int × Int) × (List Int) × (Int × Int) × (List (Int × Int × (List Int) × (List Int) × (List Int))) × Unit) => ⟨rfl, rfl, Nat.le_of_ble_eq_true rfl, fun hc w0 => by
  have hL := dmy_eq
  try dsimp only at hc
  try dsimp only
  have hbl := hc
  refine AWp.body rfl ?_
  repeat' first
    | ((with_reducible refine hK _ _ ?_); clear hK K)
    | ((with_reducible refine hK _ _ (by kernel_rfl) ?_); clear hK K)
    | ((with_reducible refine AWp.pS Th_ok G_BlamedForI_ok [0, 1, 2, 3, 4, 6, 8, 9, 10, 12, 22, 24, 25, 26, 27, 40] (by decide) ?_); intro K hK)
    | ((with_reducible refine AWp.dS (by kernel_rfl) Th_ok G_BlamedForI_ok [0, 1, 2, 3, 4, 6, 8, 9, 10, 12, 22, 24, 25, 26, 27, 40] ?_); intro K hK)
    | ((with_reducible refine AWp.pE Th_ok G_BlamedForI_ok [0, 1, 2, 3, 4, 6, 8, 9, 10, 12, 22, 24, 25, 26, 27, 40] (by decide) ?_); intro K hK)
    | ((with_reducible refine AWp.dE (by kernel_rfl) Th_ok G_BlamedForI_ok [0, 1, 2, 3, 4, 6, 8, 9, 10, 12, 22, 24, 25, 26, 27, 40] ?_); intro K hK)
    | ((first | with_reducible refine runF_id ?_ | with_reducible refine stepF_id ?_); simp (maxSteps := 2000000) only [runF, stepF, forkOf, gdOf, List.toList_toArray, stepOp, look, opAV, pureOp, callOp, memOp, AS.ev, AS.get, AS.obj, initS, initFrom, AV.cells, AS.upd, Option.bind_some, Option.bind_none, Option.map_some, Option.map_none, Option.getD_none, Option.getD_some, ↓reduceIte, Nat.reduceEqDiff, Nat.reduceAdd, Nat.reduceMul, Nat.reduceSub, List.nil_append, List.append_nil, List.cons_append, List.map_cons, List.map_nil, true_and, and_true, AS.fin, pick, dedup, List.mem_cons, List.not_mem_nil, or_false, false_or, List.size_toArray, List.length_cons, List.length_nil, loadAV, List.drop_zero, List.drop_succ_cons, List.take_zero, List.take_succ_cons, List.getElem?_cons_zero, List.getElem?_cons_succ, List.head?_cons, List.mapM_cons, List.mapM_nil, Option.bind_eq_bind, Option.pure_def, deeps3, deep3, deep2, deep1, deeps, deeps2, mixInts, AV.plain, mk, mkD, DCon.lift, DCon.runC, ren3, ren2, ren1, numb, List.zipIdx_nil, List.zipIdx_cons, List.all_nil, List.all_cons, Nat.reduceLeDiff, List.range, List.range.loop, Ty.sz, beq_self_eq_true, Bool.and_self, and_self, Ty.ofC, AO.isDead, Nat.reduceLT, if_true, Nat.zero_add, Nat.add_zero, ite_true, Nat.le_refl, Bool.false_eq_true, reduceCtorEq, if_false, ite_false, binAV, AO.ren, AV.isCell, fillAV, List.set_cons_zero, List.set_cons_succ, Ty.cells, Ty.flat, Ty.dflt, List.getD_cons_zero, List.getD_cons_succ, Int.reduceToNat, Int.reduceSub, Int.reduceAdd, Int.reduceMul, Int.reduceNeg, forall_eq_or_imp, forall_eq, gdL, id_eq, Nat.lt_irrefl, srcOf, List.replicate_succ, List.replicate_zero, dite_true, List.isEmpty_cons, Option.isSome_some, List.length_append, List.length_singleton, bne_self_eq_false, Bool.not_true, Bool.not_false, conF, asArgs, asArg, asTy, asI1, asB1, asS1, asL1, canons, canon, Fork.true_, Fork.false_, bne, Bool.not_not, List.length_map, pickO, AS.over, TI.bl, bne_iff_ne, AS.over2, without, keys, List.mem_singleton, memOp2, memOp3, absorb, abInt, abBool, abStr, abList, gones, Int.toNat_natCast, List.take_length, subE, List.nodup_cons, List.nodup_nil, not_false_eq_true, Nat.sub_self, conR, asG, asI, asBo, asStr, asIs, asBs, asE4, asI2, asI3, asLL, asLLL, Th_int, Th_Sint, Th_bool, Th_implCipher, Th_implGroup, Th_implPartial, Th_implSPartial, Th_lawsCipher, Th_lawsGroup, Th_lawsSCipher, Th_lawsSSPartial, G_BlamedForI, c_isDecryption, c_isTrustee, c_isPartial, c_w_Sort, sel_w_Sort, c_w_Compact, sel_w_Compact, conM, Con.wr, rowsT, rowsAO, lensR, cntR, mrkR, pair2, List.headD_cons, List.tail_cons, List.nodup_cons, List.nodup_nil, not_false_eq_true, cnt_int, cnt_mrk, mrk_len .int, Con.srt, Con.cpt, hL])
    | ((with_reducible refine ens_step ?_ (fun hE => ?_)); · ((repeat' with_reducible apply And.intro) <;> first | with_reducible assumption | omega | exact True.intro | with_reducible rfl | (show ByteArray.size _ ≤ _; decide) | (simp; done) | (simp; omega) | rfl))
    | ((with_reducible refine And.intro ?_ ?_); · ((repeat' with_reducible apply And.intro) <;> first | with_reducible assumption | omega | exact True.intro | with_reducible rfl | (show ByteArray.size _ ≤ _; decide) | (simp; done) | (simp; omega) | rfl))
    | ((with_reducible refine Fork.intro (fun h' => ?_) (fun h' => ?_)) <;> (try simp only [Bool.not_eq_true', Bool.not_eq_false', bne] at h') <;> (replace hL := And.intro h' hL) <;> (try simp only [decide_eq_true_eq, decide_eq_false_iff_not, beq_iff_eq, beq_eq_false_iff_ne, ne_eq] at h') <;> (try (have hdc := okDc_use h'; obtain ⟨hd1, hd2, hd3, hd4⟩ := hdc; have hsh := shB_of hd1; obtain ⟨hgd, hq7⟩ := hsh; have hG := M.goodB_of hgd; have hcm := comB_use hd2; obtain ⟨hcl, hcb⟩ := hcm; have hu := elemB_bd hd3)) <;> (try (have hgp : okDc p q g cs u v = true ∧ l.length ≤ 14 := gp_use h'; obtain ⟨hgp1, hl14⟩ := hgp; have hdc := okDc_use hgp1; obtain ⟨hd1, hd2, hd3, hd4⟩ := hdc; have hsh := shB_of hd1; obtain ⟨hgd, hq7⟩ := hsh; have hG := M.goodB_of hgd; have hcm := comB_use hd2; obtain ⟨hcl, hcb⟩ := hcm; have hu := elemB_bd hd3)) <;> (try (have hbn := bl_n1 (p := p) (q := q) (g := g) (cs := cs) (u := u) (l := l) (k := k) (by omega) h'; have hpn := bp_n hbn; have hbl2 := congrArg List.length hbn; have hpl2 := congrArg List.length hpn)) <;> (try (have hbn := bl_n2 (p := p) (q := q) (g := g) (cs := cs) (u := u) (l := l) (k := k) (by omega) h'; have hpn := bp_n hbn; have hbl2 := congrArg List.length hbn; have hpl2 := congrArg List.length hpn)) <;> (try (have hti : inr (l.getD k ((0 : Int), (0 : Int), ([] : List Int), ([] : List Int), ([] : List Int))).1 1 7 = true := h')) <;> (try (have hby := bl_y (p := p) (q := q) (g := g) (cs := cs) (u := u) (l := l) (k := k) (by omega) hti h'; have hpy := bp_y hby; have hbl2 : (blL p q g cs u l (k + 1)).length = (blL p q g cs u l k).length + 1 := (congrArg List.length hby).symm.trans (by rw [List.length_append]; rfl); have hpl2 := congrArg List.length hpy; replace hL := And.intro hpy hL)) <;> (try (have hke : k = l.length := (by omega); subst hke; have hcp := bp_cpt (p := p) (q := q) (g := g) (cs := cs) (u := u) (l := l) (k := l.length); have hsl := M.srtL_len (xs := blL p q g cs u l l.length); replace hL := And.intro hcp hL)))
    | (with_reducible refine AWp.skipS ?_)
    | ((with_reducible refine AWp.condT rfl ?_))
    | ((with_reducible refine AWp.condF rfl ?_))
    | (with_reducible refine AWp.condB rfl ?_)
    | ((with_reducible refine AWp.ret_id ?_); refine AWp.sub (Sub.nilSlot 8 200008 3 .int rfl rfl) ?_)
    | (with_reducible refine AWp.ret ?_)
    | (with_reducible refine seqQ_n ?_)
    | (with_reducible refine seqQ_ret ?_)
    | (with_reducible refine blkQ_ret ?_)
    | (with_reducible refine blkQ_n ?_)
    | (with_reducible refine seqQ_exit ?_)
    | (with_reducible refine blkQ_exit ?_)
    | (with_reducible refine blkQ_other (by decide) ?_)
    | (with_reducible refine AWp.block ?_)
    | (with_reducible refine AWp.exit ?_)
    | (with_reducible refine AWp.skip ?_)
    | ((with_reducible refine loop_id ?_); refine AWp.loopAt 5 rfl ?_; refine AWp.loopO [10, 12, 26, 27, 28, 29, 30, 31, 32, 33, 34, 35, 36, 37, 38, 39, 40, 41, 42, 43, 44, 45, 46] (fun k => [(26, .lit (.int .i64 (k : Nat))), (10, .own 112 (blL p q g cs u l k).length)]) (fun k => [(112, .row 3 .int (blL p q g cs u l k))]) (fun k => k ≤ l.length) (fun k => l.length - k) 0 (by omega) (by refine Sub.auto (by first | exact frok0 | assumption) rfl rfl ?_ ?_ <;> (try simp only [subE, AS.over2, without, keys, look, List.cons_append, List.nil_append, List.append_nil, List.mem_cons, List.not_mem_nil, or_false, or_true, true_or, false_or, Nat.reduceEqDiff, ↓reduceIte, Option.some.injEq, AV.lit.injEq, Value.int.injEq, Value.bool.injEq, AV.own.injEq, AO.row.injEq, AO.box.injEq, List.cons.injEq, AV.agg.injEq, AV.sl.injEq, true_and, and_true, and_self, heq_eq_eq, List.length_nil, List.length_cons, List.map_nil, List.take_zero, Int.natCast_add, Int.cast_ofNat_Int, Int.natCast_zero, List.length_append, List.length_map, List.length_take, Nat.zero_add]) <;> ((repeat' apply And.intro) <;> first | rfl | (simp [blL]; done))) (fun k hk_5 L5 hLoop5 => ?_); have hbk := bl_len (p := p) (q := q) (g := g) (cs := cs) (u := u) (l := l) (k := k))
    | ((with_reducible refine seqQ_f ?_); refine hLoop5 (k + 1) _ (by omega) (by omega) ?_; (refine Sub.auto (by first | exact frok0 | assumption) rfl rfl ?_ ?_ <;> (try simp only [subE, AS.over2, without, keys, look, List.cons_append, List.nil_append, List.append_nil, List.mem_cons, List.not_mem_nil, or_false, or_true, true_or, false_or, Nat.reduceEqDiff, ↓reduceIte, Option.some.injEq, AV.lit.injEq, Value.int.injEq, Value.bool.injEq, AV.own.injEq, AO.row.injEq, AO.box.injEq, List.cons.injEq, AV.agg.injEq, AV.sl.injEq, true_and, and_true, and_self, heq_eq_eq, List.length_nil, List.length_cons, List.map_nil, List.take_zero, Int.natCast_add, Int.cast_ofNat_Int, Int.natCast_zero, List.length_append, List.length_map, List.length_take, Nat.zero_add]) <;> ((repeat' apply And.intro) <;> first | rfl | omega | exact hby | exact hbn.symm | exact hpy | exact hpn.symm | (simp; done))))
    | ((with_reducible refine EndsAt_id ?_); (try subst_vars); (try simp only [PBl, okGp, hL, List.length_cons, List.length_nil, Nat.zero_add, Nat.reduceAdd, Bool.and_true, Bool.and_false, Bool.true_and, Bool.false_and, Bool.and_self, ↓reduceIte, Bool.false_eq_true, Bool.not_true, Bool.not_false, bne]); refine EndsAt.done [_] (by first | exact .inr rfl | exact .inl rfl) rfl rfl ?_ ?_ <;> first | decide | (repeat' (first | rfl | apply And.intro | trivial)))
    | (with_reducible refine AWp.seq ?_)⟩
noncomputable def c_BlamedForS : Con0 := conF [(.pair .int (.pair .int .int)), (.list .int), (.pair .int .int), (.list (.pair .int (.pair .int (.pair (.list .int) (.pair (.list .int) (.list .int))))))] fun (⟨⟨p, q, g⟩, cs, ⟨u, v⟩, l, _⟩ : (Int × Int × Int) × (List Int) × (Int × Int) × (List (Int × Int × (List Int) × (List Int) × (List Int))) × Unit) => (l.length ≤ 9223372036854775806, .tup [.own 0 (PBl p q g cs u v l).length, .lit (.bool (okGp p q g cs u v l))], [.row 3 .int (PBl p q g cs u v l)])
noncomputable def G_BlamedForS : List (FuncId × Con) := [(31, mk c_tInput), (32, mk c_l1In), (33, mk c_tVerify), (34, c_w_put)]
theorem G_BlamedForS_ok : ∀ f C, (f, C) ∈ G_BlamedForS → C.ok Tryz.prog f := by
  intro f C h
  simp only [G_BlamedForS, List.mem_cons, Prod.mk.injEq, List.not_mem_nil, or_false] at h
  rcases h with ⟨rfl, rfl⟩ | ⟨rfl, rfl⟩ | ⟨rfl, rfl⟩ | ⟨rfl, rfl⟩
  · exact ok_tInput
  · exact ok_l1In
  · exact ok_tVerify
  · exact ok_w_put
set_option maxRecDepth 100000 in
set_option maxHeartbeats 4000000 in
theorem ok_BlamedForS : (mk c_BlamedForS).ok Tryz.prog 7 := okF (Θ := Th) (N := 42) (rs := [.tmp 8, .tmp 9]) Th_ok Tryz.func7 (by kernel_rfl) rfl Tryz.results7 (by decide) (by kernel_rfl) fun (⟨⟨p, q, g⟩, cs, ⟨u, v⟩, l, _⟩ : (Int × Int × Int) × (List Int) × (Int × Int) × (List (Int × Int × (List Int) × (List Int) × (List Int))) × Unit) => ⟨rfl, rfl, Nat.le_of_ble_eq_true rfl, fun hc w0 => by
  have hL := dmy_eq
  try dsimp only at hc
  try dsimp only
  have hbl := hc
  have h14 : decide ((l.length : Int) ≤ 14) = !decide (14 < (l.length : Int)) := by rw [Bool.eq_iff_iff]; simp
  replace hL := And.intro h14 hL
  refine AWp.body rfl ?_
  repeat' first
    | ((with_reducible refine hK _ _ ?_); clear hK K)
    | ((with_reducible refine hK _ _ (by kernel_rfl) ?_); clear hK K)
    | ((with_reducible refine AWp.pS Th_ok G_BlamedForS_ok [0, 1, 2, 3, 4, 6, 8, 9, 10, 12, 18, 19, 20, 21, 22, 35] (by decide) ?_); intro K hK)
    | ((with_reducible refine AWp.dS (by kernel_rfl) Th_ok G_BlamedForS_ok [0, 1, 2, 3, 4, 6, 8, 9, 10, 12, 18, 19, 20, 21, 22, 35] ?_); intro K hK)
    | ((with_reducible refine AWp.pE Th_ok G_BlamedForS_ok [0, 1, 2, 3, 4, 6, 8, 9, 10, 12, 18, 19, 20, 21, 22, 35] (by decide) ?_); intro K hK)
    | ((with_reducible refine AWp.dE (by kernel_rfl) Th_ok G_BlamedForS_ok [0, 1, 2, 3, 4, 6, 8, 9, 10, 12, 18, 19, 20, 21, 22, 35] ?_); intro K hK)
    | ((first | with_reducible refine runF_id ?_ | with_reducible refine stepF_id ?_); simp (maxSteps := 2000000) only [runF, stepF, forkOf, gdOf, List.toList_toArray, stepOp, look, opAV, pureOp, callOp, memOp, AS.ev, AS.get, AS.obj, initS, initFrom, AV.cells, AS.upd, Option.bind_some, Option.bind_none, Option.map_some, Option.map_none, Option.getD_none, Option.getD_some, ↓reduceIte, Nat.reduceEqDiff, Nat.reduceAdd, Nat.reduceMul, Nat.reduceSub, List.nil_append, List.append_nil, List.cons_append, List.map_cons, List.map_nil, true_and, and_true, AS.fin, pick, dedup, List.mem_cons, List.not_mem_nil, or_false, false_or, List.size_toArray, List.length_cons, List.length_nil, loadAV, List.drop_zero, List.drop_succ_cons, List.take_zero, List.take_succ_cons, List.getElem?_cons_zero, List.getElem?_cons_succ, List.head?_cons, List.mapM_cons, List.mapM_nil, Option.bind_eq_bind, Option.pure_def, deeps3, deep3, deep2, deep1, deeps, deeps2, mixInts, AV.plain, mk, mkD, DCon.lift, DCon.runC, ren3, ren2, ren1, numb, List.zipIdx_nil, List.zipIdx_cons, List.all_nil, List.all_cons, Nat.reduceLeDiff, List.range, List.range.loop, Ty.sz, beq_self_eq_true, Bool.and_self, and_self, Ty.ofC, AO.isDead, Nat.reduceLT, if_true, Nat.zero_add, Nat.add_zero, ite_true, Nat.le_refl, Bool.false_eq_true, reduceCtorEq, if_false, ite_false, binAV, AO.ren, AV.isCell, fillAV, List.set_cons_zero, List.set_cons_succ, Ty.cells, Ty.flat, Ty.dflt, List.getD_cons_zero, List.getD_cons_succ, Int.reduceToNat, Int.reduceSub, Int.reduceAdd, Int.reduceMul, Int.reduceNeg, forall_eq_or_imp, forall_eq, gdL, id_eq, Nat.lt_irrefl, srcOf, List.replicate_succ, List.replicate_zero, dite_true, List.isEmpty_cons, Option.isSome_some, List.length_append, List.length_singleton, bne_self_eq_false, Bool.not_true, Bool.not_false, conF, asArgs, asArg, asTy, asI1, asB1, asS1, asL1, canons, canon, Fork.true_, Fork.false_, bne, Bool.not_not, List.length_map, pickO, AS.over, TI.bl, bne_iff_ne, AS.over2, without, keys, List.mem_singleton, memOp2, memOp3, absorb, abInt, abBool, abStr, abList, gones, Int.toNat_natCast, List.take_length, subE, List.nodup_cons, List.nodup_nil, not_false_eq_true, Nat.sub_self, conR, asG, asI, asBo, asStr, asIs, asBs, asE4, asI2, asI3, asLL, asLLL, Th_int, Th_Sint, Th_bool, Th_implCipher, Th_implGroup, Th_implPartial, Th_implSPartial, Th_lawsCipher, Th_lawsGroup, Th_lawsSPartial, G_BlamedForS, c_tInput, c_l1In, c_tVerify, c_w_put, sel_w_put, conM, Con.wr, rowsT, rowsAO, lensR, cntR, mrkR, pair2, List.headD_cons, List.tail_cons, List.nodup_cons, List.nodup_nil, not_false_eq_true, cnt_int, cnt_mrk, mrk_len .int, Con.ins, hL])
    | ((with_reducible refine ens_step ?_ (fun hE => ?_)); · ((repeat' with_reducible apply And.intro) <;> first | with_reducible assumption | omega | exact True.intro | with_reducible rfl | (show ByteArray.size _ ≤ _; decide) | (simp; done) | (simp; omega) | rfl))
    | ((with_reducible refine And.intro ?_ ?_); · ((repeat' with_reducible apply And.intro) <;> first | with_reducible assumption | omega | exact True.intro | with_reducible rfl | (show ByteArray.size _ ≤ _; decide) | (simp; done) | (simp; omega) | rfl))
    | ((with_reducible refine Fork.intro (fun h' => ?_) (fun h' => ?_)) <;> (try simp only [Bool.not_eq_true', Bool.not_eq_false', bne] at h') <;> (replace hL := And.intro h' hL) <;> (try simp only [decide_eq_true_eq, decide_eq_false_iff_not, beq_iff_eq, beq_eq_false_iff_ne, ne_eq] at h') <;> (try (have hdc := okDc_use h'; obtain ⟨hd1, hd2, hd3, hd4⟩ := hdc; have hsh := shB_of hd1; obtain ⟨hgd, hq7⟩ := hsh; have hG := M.goodB_of hgd; have hcm := comB_use hd2; obtain ⟨hcl, hcb⟩ := hcm; have hu := elemB_bd hd3)) <;> (try (have hgp : okDc p q g cs u v = true ∧ l.length ≤ 14 := gp_use h'; obtain ⟨hgp1, hl14⟩ := hgp; have hdc := okDc_use hgp1; obtain ⟨hd1, hd2, hd3, hd4⟩ := hdc; have hsh := shB_of hd1; obtain ⟨hgd, hq7⟩ := hsh; have hG := M.goodB_of hgd; have hcm := comB_use hd2; obtain ⟨hcl, hcb⟩ := hcm; have hu := elemB_bd hd3)) <;> (try (have hbn := bl_n1 (p := p) (q := q) (g := g) (cs := cs) (u := u) (l := l) (k := k) (by omega) h'; have hpn := bp_n hbn; have hbl2 := congrArg List.length hbn; have hpl2 := congrArg List.length hpn)) <;> (try (have hbn := bl_n2 (p := p) (q := q) (g := g) (cs := cs) (u := u) (l := l) (k := k) (by omega) h'; have hpn := bp_n hbn; have hbl2 := congrArg List.length hbn; have hpl2 := congrArg List.length hpn)) <;> (try (have hti : inr (l.getD k ((0 : Int), (0 : Int), ([] : List Int), ([] : List Int), ([] : List Int))).1 1 7 = true := h')) <;> (try (have hby := bl_y (p := p) (q := q) (g := g) (cs := cs) (u := u) (l := l) (k := k) (by omega) hti h'; have hpy := bp_y hby; have hbl2 : (blL p q g cs u l (k + 1)).length = (blL p q g cs u l k).length + 1 := (congrArg List.length hby).symm.trans (by rw [List.length_append]; rfl); have hpl2 := congrArg List.length hpy; replace hL := And.intro hpy hL)) <;> (try (have hke : k = l.length := (by omega); subst hke; have hcp := bp_cpt (p := p) (q := q) (g := g) (cs := cs) (u := u) (l := l) (k := l.length); have hsl := M.srtL_len (xs := blL p q g cs u l l.length); replace hL := And.intro hcp hL)))
    | (with_reducible refine AWp.skipS ?_)
    | ((with_reducible refine AWp.condT rfl ?_))
    | ((with_reducible refine AWp.condF rfl ?_))
    | (with_reducible refine AWp.condB rfl ?_)
    | ((with_reducible refine AWp.ret_id ?_); refine AWp.sub (Sub.nilSlot 8 200008 3 .int rfl rfl) ?_)
    | (with_reducible refine AWp.ret ?_)
    | (with_reducible refine seqQ_n ?_)
    | (with_reducible refine seqQ_ret ?_)
    | (with_reducible refine blkQ_ret ?_)
    | (with_reducible refine blkQ_n ?_)
    | (with_reducible refine seqQ_exit ?_)
    | (with_reducible refine blkQ_exit ?_)
    | (with_reducible refine blkQ_other (by decide) ?_)
    | (with_reducible refine AWp.block ?_)
    | (with_reducible refine AWp.exit ?_)
    | (with_reducible refine AWp.skip ?_)
    | ((with_reducible refine loop_id ?_); refine AWp.loopAt 5 rfl ?_; refine AWp.sub (Sub.nilSlot 10 300010 3 .int rfl rfl) ?_; refine AWp.sub (Sub.moved 10 300010 300500 (0) (e := 3) (ty := .int) (xs := []) rfl rfl rfl (by rfl) rfl (by refine Sub.auto (by first | exact frok0 | assumption) rfl rfl ?_ ?_ <;> (try simp only [subE, AS.over2, without, keys, look, List.cons_append, List.nil_append, List.append_nil, List.mem_cons, List.not_mem_nil, or_false, or_true, true_or, false_or, Nat.reduceEqDiff, ↓reduceIte, Option.some.injEq, AV.lit.injEq, Value.int.injEq, Value.bool.injEq, AV.own.injEq, AO.row.injEq, AO.box.injEq, List.cons.injEq, AV.agg.injEq, AV.sl.injEq, true_and, and_true, and_self, heq_eq_eq, List.length_nil, List.length_cons, List.map_nil, List.take_zero, Int.natCast_add, Int.cast_ofNat_Int, Int.natCast_zero, List.length_append, List.length_map, List.length_take, Nat.zero_add]))) ?_; (try simp only [without, List.mem_singleton, Nat.reduceEqDiff, ↓reduceIte]); refine AWp.loopO [10, 12, 21, 22, 23, 24, 25, 26, 27, 28, 29, 30, 31, 32, 33, 34, 35, 36, 37, 38, 39, 40] (fun k => [(21, .lit (.int .i64 (k : Nat))), (10, .own 300500 (blP p q g cs u l k).length)]) (fun k => [(300500, .row 3 .int (blP p q g cs u l k))]) (fun k => k ≤ l.length) (fun k => l.length - k) 0 (by omega) (by refine Sub.auto (by first | exact frok0 | assumption) rfl rfl ?_ ?_ <;> (try simp only [subE, AS.over2, without, keys, look, List.cons_append, List.nil_append, List.append_nil, List.mem_cons, List.not_mem_nil, or_false, or_true, true_or, false_or, Nat.reduceEqDiff, ↓reduceIte, Option.some.injEq, AV.lit.injEq, Value.int.injEq, Value.bool.injEq, AV.own.injEq, AO.row.injEq, AO.box.injEq, List.cons.injEq, AV.agg.injEq, AV.sl.injEq, true_and, and_true, and_self, heq_eq_eq, List.length_nil, List.length_cons, List.map_nil, List.take_zero, Int.natCast_add, Int.cast_ofNat_Int, Int.natCast_zero, List.length_append, List.length_map, List.length_take, Nat.zero_add]) <;> ((repeat' apply And.intro) <;> first | rfl | (simp [blP, blL, M.putsL]; done))) (fun k hk_5 L5 hLoop5 => ?_); have hpk := bp_len (p := p) (q := q) (g := g) (cs := cs) (u := u) (l := l) (k := k))
    | ((with_reducible refine seqQ_f ?_); refine hLoop5 (k + 1) _ (by omega) (by omega) ?_; (refine Sub.auto (by first | exact frok0 | assumption) rfl rfl ?_ ?_ <;> (try simp only [subE, AS.over2, without, keys, look, List.cons_append, List.nil_append, List.append_nil, List.mem_cons, List.not_mem_nil, or_false, or_true, true_or, false_or, Nat.reduceEqDiff, ↓reduceIte, Option.some.injEq, AV.lit.injEq, Value.int.injEq, Value.bool.injEq, AV.own.injEq, AO.row.injEq, AO.box.injEq, List.cons.injEq, AV.agg.injEq, AV.sl.injEq, true_and, and_true, and_self, heq_eq_eq, List.length_nil, List.length_cons, List.map_nil, List.take_zero, Int.natCast_add, Int.cast_ofNat_Int, Int.natCast_zero, List.length_append, List.length_map, List.length_take, Nat.zero_add]) <;> ((repeat' apply And.intro) <;> first | rfl | omega | exact hby | exact hbn.symm | exact hpy | exact hpn.symm | (simp; done))))
    | ((with_reducible refine seqQ_f ?_); refine hLoop5 (k + 1) _ (by omega) (by omega) ?_; refine Sub.into 10 264 300500 ((blP p q g cs u l (k + 1)).length) (e := 3) (ty := .int) (xs := blP p q g cs u l (k + 1)) rfl (by rfl) ?_ rfl ?_ <;> (refine Sub.auto (by first | exact frok0 | assumption) rfl rfl ?_ ?_ <;> (try simp only [subE, AS.over2, without, keys, look, List.cons_append, List.nil_append, List.append_nil, List.mem_cons, List.not_mem_nil, or_false, or_true, true_or, false_or, Nat.reduceEqDiff, ↓reduceIte, Option.some.injEq, AV.lit.injEq, Value.int.injEq, Value.bool.injEq, AV.own.injEq, AO.row.injEq, AO.box.injEq, List.cons.injEq, AV.agg.injEq, AV.sl.injEq, true_and, and_true, and_self, heq_eq_eq, List.length_nil, List.length_cons, List.map_nil, List.take_zero, Int.natCast_add, Int.cast_ofNat_Int, Int.natCast_zero, List.length_append, List.length_map, List.length_take, Nat.zero_add]) <;> ((repeat' apply And.intro) <;> first | rfl | omega | exact hby | exact hbn.symm | exact hpy | exact hpn.symm | (simp; done))))
    | ((with_reducible refine EndsAt_id ?_); (try subst_vars); (try simp only [PBl, okGp, hL, List.length_cons, List.length_nil, Nat.zero_add, Nat.reduceAdd, Bool.and_true, Bool.and_false, Bool.true_and, Bool.false_and, Bool.and_self, ↓reduceIte, Bool.false_eq_true, Bool.not_true, Bool.not_false, bne]); refine EndsAt.done [_] (by first | exact .inr rfl | exact .inl rfl) rfl rfl ?_ ?_ <;> first | decide | (repeat' (first | rfl | apply And.intro | trivial)))
    | (with_reducible refine AWp.seq ?_)⟩
end Go.Proofs.YtgnnmifpfgpllaaGreat
