import Derived.Test.YtgnnmifpfgpllaaZF3
import Derived.Test.YtgnnmifpfgpllaaZD54
import Derived.Test.YtgnnmifpfgpllaaZOpen4
import Derived.Test.YtgnnmifpfgpllaaZCut
/- FnExactSimulatedTranscripts returns true for every input. No condition. -/
set_option linter.all false
set_option linter.unusedVariables false
set_option linter.unusedSimpArgs false
namespace Go.Proofs.Ytgnnmifpfgpllaa.pSimulatedTranscripts
open Go.ChangeShapes Go.WideShapes Go.ChangeAt Go.RowKit Go.Joins
theorem own : ownKnob Try.prog.godebug = none := by kernel_rfl
theorem sz_use {l n : Int} (h : ¬ (if l - n < 0 then (-1 : Int) else l - n) < 0) : n ≤ l := by
  split at h <;> omega
theorem sz_use' {l n : Int} (h : n ≤ l) : (if l - n < 0 then (-1 : Int) else l - n) = l - n := if_neg (by omega)
noncomputable def c_law : Con0 := conF [(.pair .int (.pair .int .int)), .int, .int] fun (⟨⟨p, q, g⟩, u, v, _⟩ : (Int × Int × Int) × Int × Int × Unit) => (True, .lit (.bool true), [])
noncomputable def G_law : List (FuncId × Con) := [(12, mk c_t_Group), (32, mk c_e_TranscriptS), (33, c_w_TranscriptS), (34, mk c_h_TranscriptS), (35, mk c_SimulatedTranscriptsS), (36, mk c_SimulatedTranscriptsI)]
theorem G_law_ok : ∀ f C, (f, C) ∈ G_law → C.ok Try.prog f := by
  intro f C h
  simp only [G_law, List.mem_cons, Prod.mk.injEq, List.not_mem_nil, or_false] at h
  rcases h with ⟨rfl, rfl⟩ | ⟨rfl, rfl⟩ | ⟨rfl, rfl⟩ | ⟨rfl, rfl⟩ | ⟨rfl, rfl⟩ | ⟨rfl, rfl⟩
  · exact ok_t_Group
  · exact ok_e_TranscriptS
  · exact ok_w_TranscriptS
  · exact ok_h_TranscriptS
  · exact ok_SimulatedTranscriptsS
  · exact ok_SimulatedTranscriptsI
set_option maxRecDepth 100000 in
set_option maxHeartbeats 8000000 in
theorem ok_law : (mk c_law).ok Try.prog 8 := okF (Θ := Th) (N := 76) (rs := [.tmp 6]) Th_ok Try.func8 (by kernel_rfl) rfl Try.results8 (by decide) (by kernel_rfl) fun (⟨⟨p, q, g⟩, u, v, _⟩ : (Int × Int × Int) × Int × Int × Unit) => ⟨rfl, rfl, Nat.le_of_ble_eq_true rfl, fun hc w0 => by
  have hL := dmy_eq
  try dsimp only at hc
  try dsimp only
  have hPl := PSt_le (p := p) (q := q) (g := g) (u := u) (v := v)
  have hPs := szn_flat (t := .pair .int (.pair .int .int)) (PSt p q g u v) rfl
  have hPc := cntL_szn (t := .pair .int (.pair .int .int)) (PSt p q g u v) rfl
  refine AWp.body rfl ?_
  repeat' first
    | ((with_reducible refine hK _ _ ?_); clear hK K)
    | ((with_reducible refine hK _ _ (by kernel_rfl) ?_); clear hK K)
    | ((with_reducible refine AWp.pS Th_ok G_law_ok [0, 1, 2, 3, 6, 7, 8, 9, 10, 11, 12, 13, 14, 39, 47, 50, 67, 72, 75] (by decide) ?_); intro K hK)
    | ((with_reducible refine AWp.dS (by kernel_rfl) Th_ok G_law_ok [0, 1, 2, 3, 6, 7, 8, 9, 10, 11, 12, 13, 14, 39, 47, 50, 67, 72, 75] ?_); intro K hK)
    | ((with_reducible refine AWp.pE Th_ok G_law_ok [0, 1, 2, 3, 6, 7, 8, 9, 10, 11, 12, 13, 14, 39, 47, 50, 67, 72, 75] (by decide) ?_); intro K hK)
    | ((with_reducible refine AWp.dE (by kernel_rfl) Th_ok G_law_ok [0, 1, 2, 3, 6, 7, 8, 9, 10, 11, 12, 13, 14, 39, 47, 50, 67, 72, 75] ?_); intro K hK)
    | ((first | with_reducible refine runF_id ?_ | with_reducible refine stepF_id ?_); simp (maxSteps := 2000000) only [runF, stepF, forkOf, gdOf, List.toList_toArray, stepOp, look, opAV, pureOp, callOp, memOp, AS.ev, AS.get, AS.obj, initS, initFrom, AV.cells, AS.upd, Option.bind_some, Option.bind_none, Option.map_some, Option.map_none, Option.getD_none, Option.getD_some, ↓reduceIte, Nat.reduceEqDiff, Nat.reduceAdd, Nat.reduceMul, Nat.reduceSub, List.nil_append, List.append_nil, List.cons_append, List.map_cons, List.map_nil, true_and, and_true, AS.fin, pick, dedup, List.mem_cons, List.not_mem_nil, or_false, false_or, List.size_toArray, List.length_cons, List.length_nil, loadAV, List.drop_zero, List.drop_succ_cons, List.take_zero, List.take_succ_cons, List.getElem?_cons_zero, List.getElem?_cons_succ, List.head?_cons, List.mapM_cons, List.mapM_nil, Option.bind_eq_bind, Option.pure_def, deeps3, deep3, deep2, deep1, deeps, deeps2, mixInts, AV.plain, mk, mkD, DCon.lift, DCon.runC, ren3, ren2, ren1, numb, List.zipIdx_nil, List.zipIdx_cons, List.all_nil, List.all_cons, Nat.reduceLeDiff, List.range, List.range.loop, Ty.sz, beq_self_eq_true, Bool.and_self, and_self, Ty.ofC, AO.isDead, Nat.reduceLT, if_true, Nat.zero_add, Nat.add_zero, ite_true, Nat.le_refl, Bool.false_eq_true, reduceCtorEq, if_false, ite_false, binAV, AO.ren, AV.isCell, fillAV, List.set_cons_zero, List.set_cons_succ, Ty.cells, Ty.flat, Ty.dflt, List.getD_cons_zero, List.getD_cons_succ, Int.reduceToNat, Int.reduceSub, Int.reduceAdd, Int.reduceMul, Int.reduceNeg, forall_eq_or_imp, forall_eq, gdL, id_eq, Nat.lt_irrefl, srcOf, List.replicate_succ, List.replicate_zero, dite_true, List.isEmpty_cons, Option.isSome_some, List.length_append, List.length_singleton, bne_self_eq_false, Bool.not_true, Bool.not_false, conF, asArgs, asArg, asTy, asI1, asB1, asS1, asL1, canons, canon, Fork.true_, Fork.false_, bne, Bool.not_not, List.length_map, pickO, AS.over, TI.bl, bne_iff_ne, AS.over2, without, keys, List.mem_singleton, memOp2, memOp3, absorb, abInt, abBool, abStr, abList, gones, Int.toNat_natCast, List.take_length, subE, List.nodup_cons, List.nodup_nil, not_false_eq_true, Nat.sub_self, conR, asG, asI, asBo, asStr, asIs, asBs, asE4, asI2, asI3, asLL, asLLL, Th_int, Th_Sint, Th_bool, Th_implBases, Th_implGroup, Th_implRangeProof, Th_implSProof, Th_implSTranscript, Th_lawsBases, Th_lawsGroup, Th_lawsRangeProof, Th_lawsSProof, Th_string, G_law, c_t_Group, c_e_TranscriptS, c_h_TranscriptS, c_SimulatedTranscriptsS, c_SimulatedTranscriptsI, c_w_TranscriptS, sel_w_TranscriptS, conM, Con.wr, rowsT, rowsAO, lensR, cntR, mrkR, pair2, List.headD_cons, List.tail_cons, List.nodup_cons, List.nodup_nil, not_false_eq_true, cnt_int, cnt_mrk, mrk_len .int, mrk_idem, cnt_mrk, mrk_len .int, cnt_int, mrk_len (.pair .int (.pair .int .int)), hL])
    | ((with_reducible refine ens_step ?_ (fun hE => ?_)); · ((repeat' with_reducible apply And.intro) <;> first | with_reducible assumption | omega | exact True.intro | with_reducible rfl | omega | (show ByteArray.size _ ≤ _; decide) | (simp; done) | (simp; omega) | rfl))
    | ((with_reducible refine And.intro ?_ ?_); · ((repeat' with_reducible apply And.intro) <;> first | with_reducible assumption | omega | exact True.intro | with_reducible rfl | omega | (show ByteArray.size _ ≤ _; decide) | (simp; done) | (simp; omega) | rfl))
    | ((with_reducible refine Fork.intro (fun h' => ?_) (fun h' => ?_)) <;> (try simp only [Bool.not_eq_true', Bool.not_eq_false', bne] at h') <;> (replace hL := And.intro h' hL) <;> (try simp only [decide_eq_true_eq, decide_eq_false_iff_not, beq_iff_eq, beq_eq_false_iff_ne, ne_eq] at h') <;> (try (exfalso; omega)) <;> (try (have hsz := sz_use h')))
    | (with_reducible refine AWp.skipS ?_)
    | ((with_reducible refine AWp.condT rfl ?_))
    | ((with_reducible refine AWp.condF rfl ?_))
    | (with_reducible refine AWp.condB rfl ?_)
    | (with_reducible refine AWp.ret ?_)
    | (with_reducible refine seqQ_n ?_)
    | (with_reducible refine seqQ_ret ?_)
    | (with_reducible refine blkQ_ret ?_)
    | (with_reducible refine blkQ_n ?_)
    | (with_reducible refine seqQ_exit ?_)
    | (with_reducible refine blkQ_exit ?_)
    | (with_reducible refine blkQ_other (by decide) ?_)
    | (with_reducible refine AWp.block ?_)
    | (with_reducible refine AWp.exit ?_)
    | (with_reducible refine AWp.skip ?_)
    | ((with_reducible refine EndsAt_id ?_); (try subst_vars); refine EndsAt.done [] (by first | exact .inr rfl | exact .inl rfl) rfl rfl ?_ ?_ <;> first | decide | (repeat' (first | rfl | apply And.intro | trivial)))
    | (with_reducible refine AWp.seq ?_)⟩
set_option maxRecDepth 100000 in
theorem lifted (os : Os) (started : os.Started) (H : Type) (enc : TypeId × Value → H) :
    ReturnsInHanded {} Try.checked os 8 .any (Rows.fnExactSimulatedTranscriptsSpec.pre6 enc Try.prog Try.f8 Rows.fnExactSimulatedTranscriptsRow.domain false) (Rows.fnExactSimulatedTranscriptsSpec.post enc Try.prog Try.f8 false true false false) := by
  refine law_lift (C := Try.checked) own started (by kernel_rfl) Try.func8
    (ChangeSpec.witness6 (enc := enc) (C := Try.checked) false ⟨#[], #[.agg #[.int .i64 0, .int .i64 0, .int .i64 0], .int .i64 0, .int .i64 0], []⟩ 8 (by kernel_rfl) (by kernel_rfl) (by kernel_rfl) (by kernel_rfl))
    (by kernel_rfl) [23, 3, 3] rfl (by kernel_rfl) 4 rfl Try.underlying4 rfl (fun ds h => by
      match ds, h with
      | [_, _, _], _ => rfl) ?_
  intro W base args ds p hval hA hlt
  obtain ⟨v0, vs0, d0, ds0, p0, q0, hargs, rfl, rfl, h0, r0⟩ := trodAll_cons hA
  obtain ⟨v1, vs1, d1, ds1, p1, q1, rfl, rfl, rfl, h1, r1⟩ := trodAll_cons r0
  obtain ⟨v2, vs2, d2, ds2, p2, q2, rfl, rfl, rfl, h2, r2⟩ := trodAll_cons r1
  obtain ⟨rfl, rfl, rfl⟩ := trodAll_nil r2
  rw [hargs] at hval
  obtain rfl : args = #[v0, v1, v2] := by cases args; simp_all
  have O0 : opens Try.prog (.pair .int (.pair .int .int)) (.inl 23) := ⟨_, _, _, Try.underlying23, rfl, rfl, rfl, rfl, Try.underlying3, .inr ⟨_, _, rfl, rfl, rfl, Try.underlying3, .inl ⟨_, rfl, rfl, rfl, Try.underlying3⟩⟩⟩
  obtain ⟨⟨p, q, g⟩, R0⟩ := arg_open O0 (hval 0 23 v0 rfl rfl) h0 (fun x hx => hlt x (by simp [hx]))
  have O1 : opens Try.prog .int (.inl 3) := Try.underlying3
  obtain ⟨u, R1⟩ := arg_open O1 (hval 1 3 v1 rfl rfl) h1 (fun x hx => hlt x (by simp [hx]))
  have O2 : opens Try.prog .int (.inl 3) := Try.underlying3
  obtain ⟨v, R2⟩ := arg_open O2 (hval 2 3 v2 rfl rfl) h2 (fun x hx => hlt x (by simp [hx]))
  exact Con.law ok_law rfl ⟨by repeat' (first | trivial | assumption | apply And.intro), trivial⟩ (Reps.cons R0 (.cons R1 (.cons R2 (.nil))))
theorem proved : Rows.FnExactSimulatedTranscriptsSaid :=
  OpenClaim.holds_of_wide 8 Try.f8 rfl rfl rfl rfl rfl rfl rfl ⟨rfl, rfl, rfl, rfl, rfl⟩ rfl rfl rfl rfl rfl (by kernel_rfl) Try.func8 (by unfold joinedFacts; rw [cut_make, cut_may, cut_lifts]; kernel_rfl)
    (of_decide_eq_true (by kernel_rfl)) (by unfold Func.isWrapper; rw [if_neg (of_decide_eq_false (by kernel_rfl))]; exact ⟨rfl, rfl⟩)
    (fun os started H enc _ => lifted os started H enc)
#print axioms proved
end Go.Proofs.Ytgnnmifpfgpllaa.pSimulatedTranscripts
