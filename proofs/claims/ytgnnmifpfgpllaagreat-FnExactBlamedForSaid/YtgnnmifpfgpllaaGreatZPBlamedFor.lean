import Derived.Test.YtgnnmifpfgpllaaGreatZF2
import Derived.Test.YtgnnmifpfgpllaaGreatZD47
import Derived.Test.YtgnnmifpfgpllaaGreatZOpen4
import Derived.Test.YtgnnmifpfgpllaaGreatZCut
/- FnExactBlamedFor returns true for every input. No condition. -/
set_option linter.all false
set_option linter.unusedVariables false
set_option linter.unusedSimpArgs false
namespace Go.Proofs.YtgnnmifpfgpllaaGreat.pBlamedFor
open Go.ChangeShapes Go.WideShapes Go.ChangeAt Go.RowKit Go.Joins
theorem own : ownKnob Tryz.prog.godebug = none := by kernel_rfl
theorem sz_use {l n : Int} (h : ¬ (if l - n < 0 then (-1 : Int) else l - n) < 0) : n ≤ l := by
  split at h <;> omega
theorem sz_use' {l n : Int} (h : n ≤ l) : (if l - n < 0 then (-1 : Int) else l - n) = l - n := if_neg (by omega)
noncomputable def c_law : Con0 := conF [(.pair .int (.pair .int .int)), (.list .int), (.pair .int .int), (.list (.pair .int (.pair .int (.pair (.list .int) (.pair (.list .int) (.list .int))))))] fun (⟨⟨p, q, g⟩, cs, ⟨u, v⟩, l, _⟩ : (Int × Int × Int) × (List Int) × (Int × Int) × (List (Int × Int × (List Int) × (List Int) × (List Int))) × Unit) => (Ty.fit (.list .int) cs ∧ Ty.fit (.list (.pair .int (.pair .int (.pair (.list .int) (.pair (.list .int) (.list .int)))))) l, .lit (.bool true), [])
noncomputable def G_law : List (FuncId × Con) := [(6, mk c_z_PartialS), (8, mk c_t_Group), (9, mk c_t_IntS), (10, mk c_t_Cipher), (11, mk c_t_PartialS), (13, mk c_e_IntS), (14, mk c_e_PartialS), (15, c_w_IntS), (16, c_w_PartialS), (17, mk c_h_IntS), (7, mk c_BlamedForS), (12, mk c_BlamedForI)]
theorem G_law_ok : ∀ f C, (f, C) ∈ G_law → C.ok Tryz.prog f := by
  intro f C h
  simp only [G_law, List.mem_cons, Prod.mk.injEq, List.not_mem_nil, or_false] at h
  rcases h with ⟨rfl, rfl⟩ | ⟨rfl, rfl⟩ | ⟨rfl, rfl⟩ | ⟨rfl, rfl⟩ | ⟨rfl, rfl⟩ | ⟨rfl, rfl⟩ | ⟨rfl, rfl⟩ | ⟨rfl, rfl⟩ | ⟨rfl, rfl⟩ | ⟨rfl, rfl⟩ | ⟨rfl, rfl⟩ | ⟨rfl, rfl⟩
  · exact ok_z_PartialS
  · exact ok_t_Group
  · exact ok_t_IntS
  · exact ok_t_Cipher
  · exact ok_t_PartialS
  · exact ok_e_IntS
  · exact ok_e_PartialS
  · exact ok_w_IntS
  · exact ok_w_PartialS
  · exact ok_h_IntS
  · exact ok_BlamedForS
  · exact ok_BlamedForI
set_option maxRecDepth 100000 in
set_option maxHeartbeats 8000000 in
theorem ok_law : (mk c_law).ok Tryz.prog 3 := okF (Θ := Th) (N := 133) (rs := [.tmp 8]) Th_ok Tryz.func3 (by kernel_rfl) rfl Tryz.results3 (by decide) (by kernel_rfl) fun (⟨⟨p, q, g⟩, cs, ⟨u, v⟩, l, _⟩ : (Int × Int × Int) × (List Int) × (Int × Int) × (List (Int × Int × (List Int) × (List Int) × (List Int))) × Unit) => ⟨rfl, rfl, Nat.le_of_ble_eq_true rfl, fun hc w0 => by
  have hL := dmy_eq
  try dsimp only at hc
  try dsimp only
  obtain ⟨hf1, hf3⟩ := hc
  have hfit1 := hf1
  replace hfit1 := fit_len hfit1
  have hfit3 := hf3
  replace hfit3 := fit_len hfit3
  have hls3_0 := len_szn (.pair .int (.pair .int (.pair (.list .int) (.pair (.list .int) (.list .int))))) l
  have hcs3_0 := cntL_szn (t := (.pair .int (.pair .int (.pair (.list .int) (.pair (.list .int) (.list .int)))))) l rfl

  refine AWp.body rfl ?_
  repeat' first
    | ((with_reducible refine hK _ _ ?_); clear hK K)
    | ((with_reducible refine hK _ _ (by kernel_rfl) ?_); clear hK K)
    | ((with_reducible refine AWp.pS Th_ok G_law_ok [0, 1, 2, 3, 4, 6, 8, 9, 10, 11, 12, 13, 14, 15, 16, 17, 18, 19, 20, 23, 28, 63, 68, 73, 92, 100, 103, 124, 129, 132] (by decide) ?_); intro K hK)
    | ((with_reducible refine AWp.dS (by kernel_rfl) Th_ok G_law_ok [0, 1, 2, 3, 4, 6, 8, 9, 10, 11, 12, 13, 14, 15, 16, 17, 18, 19, 20, 23, 28, 63, 68, 73, 92, 100, 103, 124, 129, 132] ?_); intro K hK)
    | ((with_reducible refine AWp.pE Th_ok G_law_ok [0, 1, 2, 3, 4, 6, 8, 9, 10, 11, 12, 13, 14, 15, 16, 17, 18, 19, 20, 23, 28, 63, 68, 73, 92, 100, 103, 124, 129, 132] (by decide) ?_); intro K hK)
    | ((with_reducible refine AWp.dE (by kernel_rfl) Th_ok G_law_ok [0, 1, 2, 3, 4, 6, 8, 9, 10, 11, 12, 13, 14, 15, 16, 17, 18, 19, 20, 23, 28, 63, 68, 73, 92, 100, 103, 124, 129, 132] ?_); intro K hK)
    | ((first | with_reducible refine runF_id ?_ | with_reducible refine stepF_id ?_); simp (maxSteps := 2000000) only [runF, stepF, forkOf, gdOf, List.toList_toArray, stepOp, look, opAV, pureOp, callOp, memOp, AS.ev, AS.get, AS.obj, initS, initFrom, AV.cells, AS.upd, Option.bind_some, Option.bind_none, Option.map_some, Option.map_none, Option.getD_none, Option.getD_some, ↓reduceIte, Nat.reduceEqDiff, Nat.reduceAdd, Nat.reduceMul, Nat.reduceSub, List.nil_append, List.append_nil, List.cons_append, List.map_cons, List.map_nil, true_and, and_true, AS.fin, pick, dedup, List.mem_cons, List.not_mem_nil, or_false, false_or, List.size_toArray, List.length_cons, List.length_nil, loadAV, List.drop_zero, List.drop_succ_cons, List.take_zero, List.take_succ_cons, List.getElem?_cons_zero, List.getElem?_cons_succ, List.head?_cons, List.mapM_cons, List.mapM_nil, Option.bind_eq_bind, Option.pure_def, deeps3, deep3, deep2, deep1, deeps, deeps2, mixInts, AV.plain, mk, mkD, DCon.lift, DCon.runC, ren3, ren2, ren1, numb, List.zipIdx_nil, List.zipIdx_cons, List.all_nil, List.all_cons, Nat.reduceLeDiff, List.range, List.range.loop, Ty.sz, beq_self_eq_true, Bool.and_self, and_self, Ty.ofC, AO.isDead, Nat.reduceLT, if_true, Nat.zero_add, Nat.add_zero, ite_true, Nat.le_refl, Bool.false_eq_true, reduceCtorEq, if_false, ite_false, binAV, AO.ren, AV.isCell, fillAV, List.set_cons_zero, List.set_cons_succ, Ty.cells, Ty.flat, Ty.dflt, List.getD_cons_zero, List.getD_cons_succ, Int.reduceToNat, Int.reduceSub, Int.reduceAdd, Int.reduceMul, Int.reduceNeg, forall_eq_or_imp, forall_eq, gdL, id_eq, Nat.lt_irrefl, srcOf, List.replicate_succ, List.replicate_zero, dite_true, List.isEmpty_cons, Option.isSome_some, List.length_append, List.length_singleton, bne_self_eq_false, Bool.not_true, Bool.not_false, conF, asArgs, asArg, asTy, asI1, asB1, asS1, asL1, canons, canon, Fork.true_, Fork.false_, bne, Bool.not_not, List.length_map, pickO, AS.over, TI.bl, bne_iff_ne, AS.over2, without, keys, List.mem_singleton, memOp2, memOp3, absorb, abInt, abBool, abStr, abList, gones, Int.toNat_natCast, List.take_length, subE, List.nodup_cons, List.nodup_nil, not_false_eq_true, Nat.sub_self, conR, asG, asI, asBo, asStr, asIs, asBs, asE4, asI2, asI3, asLL, asLLL, Th_int, Th_SSint, Th_Sint, Th_bool, Th_implCipher, Th_implEqualLog, Th_implGroup, Th_implProof, Th_implSCipher, Th_implSPartial, Th_implSSPartial, Th_lawsCipher, Th_lawsGroup, Th_lawsPartial, Th_lawsProof, Th_lawsSCipher, Th_lawsSPartial, Th_lawsSSPartial, Th_string, Th_uint, G_law, c_z_PartialS, c_t_Group, c_t_IntS, c_t_Cipher, c_t_PartialS, c_e_IntS, c_e_PartialS, c_h_IntS, c_BlamedForS, c_BlamedForI, c_w_IntS, sel_w_IntS, c_w_PartialS, sel_w_PartialS, conM, Con.wr, rowsT, rowsAO, lensR, cntR, mrkR, pair2, List.headD_cons, List.tail_cons, List.nodup_cons, List.nodup_nil, not_false_eq_true, cnt_int, cnt_mrk, mrk_len .int, mrk_idem, cnt_mrk, mrk_len .int, cnt_int, mrk_len (.pair .int (.pair .int (.pair (.list .int) (.pair (.list .int) (.list .int))))), hL])
    | ((with_reducible refine ens_step ?_ (fun hE => ?_)); · ((repeat' with_reducible apply And.intro) <;> first | with_reducible assumption | omega | exact True.intro | with_reducible rfl | omega | (show ByteArray.size _ ≤ _; decide) | (simp; done) | (simp; omega) | rfl))
    | ((with_reducible refine And.intro ?_ ?_); · ((repeat' with_reducible apply And.intro) <;> first | with_reducible assumption | omega | exact True.intro | with_reducible rfl | omega | (show ByteArray.size _ ≤ _; decide) | (simp; done) | (simp; omega) | rfl))
    | ((with_reducible refine Fork.intro (fun h' => ?_) (fun h' => ?_)) <;> (try simp only [Bool.not_eq_true', Bool.not_eq_false', bne] at h') <;> (replace hL := And.intro h' hL) <;> (try simp only [decide_eq_true_eq, decide_eq_false_iff_not, beq_iff_eq, beq_eq_false_iff_ne, ne_eq] at h') <;> (try (exfalso; omega)) <;> (try (have hsz := sz_use h')) <;> (try (have hPl := PBl_le p q g cs u v l)))
    | (with_reducible refine AWp.skipS ?_)
    | ((with_reducible refine AWp.condT rfl ?_))
    | ((with_reducible refine AWp.condF rfl ?_))
    | (with_reducible refine AWp.condB rfl ?_)
    | (with_reducible refine AWp.ret ?_)
    | (with_reducible refine seqQ_n ?_)
    | (with_reducible refine seqQ_ret ?_)
    | (with_reducible refine blkQ_ret ?_)
    | (with_reducible refine blkQ_n ?_)
    | (with_reducible refine seqQ_exit ?_)
    | (with_reducible refine blkQ_exit ?_)
    | (with_reducible refine blkQ_other (by decide) ?_)
    | (with_reducible refine AWp.block ?_)
    | (with_reducible refine AWp.exit ?_)
    | (with_reducible refine AWp.skip ?_)
    | ((with_reducible refine EndsAt_id ?_); (try subst_vars); refine EndsAt.done [] (by first | exact .inr rfl | exact .inl rfl) rfl rfl ?_ ?_ <;> first | decide | (repeat' (first | rfl | apply And.intro | trivial)))
    | (with_reducible refine AWp.seq ?_)⟩
set_option maxRecDepth 100000 in
theorem lifted (os : Os) (started : os.Started) (H : Type) (enc : TypeId × Value → H) :
    ReturnsInHanded {} Tryz.checked os 3 .any (Rows.fnExactBlamedForSpec.pre6 enc Tryz.prog Tryz.f3 Rows.fnExactBlamedForRow.domain false) (Rows.fnExactBlamedForSpec.post enc Tryz.prog Tryz.f3 false true false false) := by
  refine law_lift (C := Tryz.checked) own started (by kernel_rfl) Tryz.func3
    (ChangeSpec.witness6 (enc := enc) (C := Tryz.checked) false ⟨#[], #[.agg #[.int .i64 0, .int .i64 0, .int .i64 0], .slice none 0 0, .agg #[.int .i64 0, .int .i64 0], .slice none 0 0], []⟩ 8 (by kernel_rfl) (by kernel_rfl) (by kernel_rfl) (by kernel_rfl))
    (by kernel_rfl) [23, 24, 26, 27] rfl (by kernel_rfl) 4 rfl Tryz.underlying4 rfl (fun ds h => by
      match ds, h with
      | [_, _, _, _], _ => rfl) ?_
  intro W base args ds p hval hA hlt
  obtain ⟨v0, vs0, d0, ds0, p0, q0, hargs, rfl, rfl, h0, r0⟩ := trodAll_cons hA
  obtain ⟨v1, vs1, d1, ds1, p1, q1, rfl, rfl, rfl, h1, r1⟩ := trodAll_cons r0
  obtain ⟨v2, vs2, d2, ds2, p2, q2, rfl, rfl, rfl, h2, r2⟩ := trodAll_cons r1
  obtain ⟨v3, vs3, d3, ds3, p3, q3, rfl, rfl, rfl, h3, r3⟩ := trodAll_cons r2
  obtain ⟨rfl, rfl, rfl⟩ := trodAll_nil r3
  rw [hargs] at hval
  obtain rfl : args = #[v0, v1, v2, v3] := by cases args; simp_all
  have O0 : opens Tryz.prog (.pair .int (.pair .int .int)) (.inl 23) := ⟨_, _, _, Tryz.underlying23, rfl, rfl, rfl, rfl, Tryz.underlying3, .inr ⟨_, _, rfl, rfl, rfl, Tryz.underlying3, .inl ⟨_, rfl, rfl, rfl, Tryz.underlying3⟩⟩⟩
  obtain ⟨⟨p, q, g⟩, R0⟩ := arg_open O0 (hval 0 23 v0 rfl rfl) h0 (fun x hx => hlt x (by simp [hx]))
  have O1 : opens Tryz.prog (.list .int) (.inl 24) := ⟨_, Tryz.underlying24, rfl, by decide, Tryz.underlying3⟩
  obtain ⟨cs, R1⟩ := arg_open O1 (hval 1 24 v1 rfl rfl) h1 (fun x hx => hlt x (by simp [hx]))
  have O2 : opens Tryz.prog (.pair .int .int) (.inl 26) := ⟨_, _, _, Tryz.underlying26, rfl, rfl, rfl, rfl, Tryz.underlying3, .inl ⟨_, rfl, rfl, rfl, Tryz.underlying3⟩⟩
  obtain ⟨⟨u, v⟩, R2⟩ := arg_open O2 (hval 2 26 v2 rfl rfl) h2 (fun x hx => hlt x (by simp [hx]))
  have O3 : opens Tryz.prog (.list (.pair .int (.pair .int (.pair (.list .int) (.pair (.list .int) (.list .int)))))) (.inl 27) := ⟨_, Tryz.underlying27, rfl, by decide, ⟨_, _, _, Tryz.underlying64, rfl, rfl, rfl, rfl, Tryz.underlying3, .inr ⟨_, _, rfl, rfl, rfl, Tryz.underlying3, .inl ⟨_, rfl, rfl, rfl, ⟨_, _, _, Tryz.underlying62, rfl, rfl, rfl, rfl, ⟨_, Tryz.underlying24, rfl, by decide, Tryz.underlying3⟩, .inr ⟨_, _, rfl, rfl, rfl, ⟨_, Tryz.underlying24, rfl, by decide, Tryz.underlying3⟩, .inl ⟨_, rfl, rfl, rfl, ⟨_, Tryz.underlying24, rfl, by decide, Tryz.underlying3⟩⟩⟩⟩⟩⟩⟩⟩
  obtain ⟨l, R3⟩ := arg_open O3 (hval 3 27 v3 rfl rfl) h3 (fun x hx => hlt x (by simp [hx]))
  exact Con.law ok_law rfl ⟨by repeat' (first | trivial | assumption | apply And.intro), ⟨rep_fit (.list .int) cs R1, rep_fit (.list (.pair .int (.pair .int (.pair (.list .int) (.pair (.list .int) (.list .int)))))) l R3⟩⟩ (Reps.cons R0 (.cons R1 (.cons R2 (.cons R3 (.nil)))))
theorem proved : Rows.FnExactBlamedForSaid :=
  OpenClaim.holds_of_wide 3 Tryz.f3 rfl rfl rfl rfl rfl rfl rfl ⟨rfl, rfl, rfl, rfl, rfl⟩ rfl rfl rfl rfl rfl (by kernel_rfl) Tryz.func3 (by unfold joinedFacts; rw [cut_make, cut_may, cut_lifts]; kernel_rfl)
    (of_decide_eq_true (by kernel_rfl)) (by unfold Func.isWrapper; rw [if_neg (of_decide_eq_false (by kernel_rfl))]; exact ⟨rfl, rfl⟩)
    (fun os started H enc _ => lifted os started H enc)
#print axioms proved
end Go.Proofs.YtgnnmifpfgpllaaGreat.pBlamedFor
