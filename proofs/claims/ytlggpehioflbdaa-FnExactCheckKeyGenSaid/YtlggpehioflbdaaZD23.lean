import Derived.Test.YtlggpehioflbdaaZD21
import Derived.Test.YtlggpehioflbdaaZD5
import Derived.Test.YtlggpehioflbdaaZAK
/- Lists of dealings. -/
set_option linter.all false
set_option linter.unusedVariables false
set_option linter.unusedSimpArgs false
namespace Go.Proofs.Ytlggpehioflbdaa
open Go.RowKit
def shpB (a b : List Int × List Int) : Bool := ((a.1.length : Int) == b.1.length) && ((a.2.length : Int) == b.2.length)
def ndlB (p q : Int) (d : List Int × List Int) : Bool := !dlB p q d.1 d.2
def nshB (l : List (List Int × List Int)) (d : List Int × List Int) : Bool := !shpB d (l.getD 0 ([], []))
def nkgB (l : List (List Int × List Int)) (d : List Int × List Int) : Bool := nshB l d || !((d.2.length : Int) == l.length)
/-- what a list of dealings of one shape must not hold -/
def nalB (p q : Int) (l : List (List Int × List Int)) (d : List Int × List Int) : Bool := !dlB p q d.1 d.2 || !((d.1.length : Int) == (l.getD 0 ([], [])).1.length) || !((d.2.length : Int) == (l.getD 0 ([], [])).2.length)
def hdsB (p q : Int) (l : List (List Int × List Int)) : Bool := decide ((l.length : Int) ≤ 7) && !(l.any (ndlB p q))
def alkB (p q : Int) (l : List (List Int × List Int)) : Bool := inr l.length 1 7 && !(l.any (nalB p q l))
noncomputable def kgB (p q g : Int) (l : List (List Int × List Int)) : Bool := shB p q g && alkB p q l && (((l.getD 0 ([], [])).2.length : Int) == l.length)
theorem nalB_1 {p q : Int} {l : List (List Int × List Int)} {d : List Int × List Int} (h : dlB p q d.1 d.2 = false) : nalB p q l d = true := by simp [nalB, h]
theorem nalB_2 {p q : Int} {l : List (List Int × List Int)} {d : List Int × List Int} (h : ((d.1.length : Int) == (l.getD 0 ([], [])).1.length) = false) : nalB p q l d = true := by unfold nalB; rw [h]; simp
theorem nalB_3 {p q : Int} {l : List (List Int × List Int)} {d : List Int × List Int} (h : ((d.2.length : Int) == (l.getD 0 ([], [])).2.length) = false) : nalB p q l d = true := by unfold nalB; rw [h]; simp
theorem nalB_0 {p q : Int} {l : List (List Int × List Int)} {d : List Int × List Int} (h1 : dlB p q d.1 d.2 = true) (h2 : ((d.1.length : Int) == (l.getD 0 ([], [])).1.length) = true) (h3 : ((d.2.length : Int) == (l.getD 0 ([], [])).2.length) = true) : nalB p q l d = false := by unfold nalB; rw [h1, h2, h3]; rfl
theorem any_yes {α : Type} {f : α → Bool} {xs : List α} {x : α} (hx : x ∈ xs) (h : f x = true) : xs.any f = true := List.any_eq_true.2 ⟨x, hx, h⟩
theorem any_next {α : Type} {f : α → Bool} {xs : List α} {k : Nat} (h : (xs.take k).any f = false) (d : α) (hk : k < xs.length) (hf : f (xs.getD k d) = false) : (xs.take (k + 1)).any f = false := by rw [take_at d hk, List.any_append, h]; simp only [List.any_cons, List.any_nil, hf, Bool.or_false]
theorem alk_iff {p q : Int} {l : List (List Int × List Int)} : alkB p q l = true ↔ (1 ≤ l.length ∧ l.length ≤ 7) ∧ ∀ d ∈ l, dlB p q d.1 d.2 = true ∧ d.1.length = (l.getD 0 ([], [])).1.length ∧ d.2.length = (l.getD 0 ([], [])).2.length := by
  simp only [alkB, Bool.and_eq_true, Bool.not_eq_true']
  constructor
  · rintro ⟨h1, h2⟩
    have := inr_t h1
    refine ⟨by omega, fun d hd => ?_⟩
    have h3 := List.any_eq_false.1 h2 d hd
    simp only [nalB, Bool.or_eq_true, Bool.not_eq_true', not_or, Bool.not_eq_false, beq_iff_eq] at h3
    exact ⟨h3.1.1, by omega, by omega⟩
  · rintro ⟨h1, h2⟩
    refine ⟨by unfold inr; exact decide_eq_true (by omega), List.any_eq_false.2 fun d hd => ?_⟩
    obtain ⟨a, b, c⟩ := h2 d hd
    rw [nalB_0 a (by rw [b]; simp) (by rw [c]; simp)]
    decide
theorem l0_mem {l : List (List Int × List Int)} (h : 0 < l.length) : l.getD 0 ([], []) ∈ l := getD_in _ h
theorem kg_eq {p q g : Int} {l : List (List Int × List Int)} : kgB p q g l = (shB p q g && decide (0 < (l.length : Int)) && hdsB p q l && !(l.any (nkgB l))) := by
  unfold kgB
  rw [Bool.eq_iff_iff]
  simp only [Bool.and_eq_true, alk_iff, hdsB, Bool.not_eq_true', List.any_eq_false, decide_eq_true_eq, beq_iff_eq]
  constructor
  · rintro ⟨⟨h, h1, h2⟩, h6⟩
    refine ⟨⟨⟨h, by omega⟩, by omega, fun d hd => ?_⟩, fun d hd => ?_⟩
    · simp [ndlB, (h2 d hd).1]
    · have h7 : (d.2.length : Int) = l.length := by rw [(h2 d hd).2.2]; exact h6
      simp only [nkgB, nshB, shpB, (h2 d hd).2.1, (h2 d hd).2.2, h6, beq_self_eq_true, Bool.and_self, Bool.not_true, Bool.or_self, Bool.false_eq_true, not_false_eq_true]
  · rintro ⟨⟨⟨h, h1⟩, h2, h3⟩, h4⟩
    have key : ∀ d ∈ l, dlB p q d.1 d.2 = true ∧ d.1.length = (l.getD 0 ([], [])).1.length ∧ d.2.length = (l.getD 0 ([], [])).2.length ∧ (d.2.length : Int) = l.length := fun d hd => by
      have := h3 d hd
      have h5 := h4 d hd
      simp only [ndlB, Bool.not_eq_true', Bool.not_eq_false] at this
      simp only [nkgB, nshB, shpB, Bool.or_eq_true, Bool.not_eq_true', not_or, Bool.not_eq_false, Bool.and_eq_true, beq_iff_eq] at h5
      exact ⟨this, by omega, by omega, h5.2⟩
    exact ⟨⟨h, by omega, fun d hd => ⟨(key d hd).1, (key d hd).2.1, (key d hd).2.2.1⟩⟩, (key _ (l0_mem (by omega))).2.2.2⟩
noncomputable def c_sameShape : Con0 := conF [(.pair (.list .int) (.list .int)), (.pair (.list .int) (.list .int))] fun (⟨⟨a1, a2⟩, ⟨b1, b2⟩, _⟩ : (List Int × List Int) × (List Int × List Int) × Unit) => (True, .lit (.bool (shpB (a1, a2) (b1, b2))), [])
noncomputable def G_sameShape : List (FuncId × Con) := []
theorem G_sameShape_ok : ∀ f C, (f, C) ∈ G_sameShape → C.ok Try.prog f := by
  intro f C h
  simp only [G_sameShape, List.mem_cons, Prod.mk.injEq, List.not_mem_nil, or_false] at h
set_option maxRecDepth 100000 in
set_option maxHeartbeats 4000000 in
theorem ok_sameShape : (mk c_sameShape).ok Try.prog 140 := okF (Θ := Th) (N := 21) (rs := [.tmp 4]) Th_ok Try.func140 (by kernel_rfl) rfl Try.results140 (by decide) (by kernel_rfl) fun (⟨⟨a1, a2⟩, ⟨b1, b2⟩, _⟩ : (List Int × List Int) × (List Int × List Int) × Unit) => ⟨rfl, rfl, Nat.le_of_ble_eq_true rfl, fun hc w0 => by
  have hL := dmy_eq
  try dsimp only at hc
  try dsimp only
  refine AWp.body rfl ?_
  repeat' first
    | ((with_reducible refine hK _ _ ?_); clear hK K)
    | ((with_reducible refine hK _ _ (by kernel_rfl) ?_); clear hK K)
    | ((with_reducible refine AWp.pS Th_ok G_sameShape_ok [0, 1, 2, 3, 4] (by decide) ?_); intro K hK)
    | ((with_reducible refine AWp.dS (by kernel_rfl) Th_ok G_sameShape_ok [0, 1, 2, 3, 4] ?_); intro K hK)
    | ((with_reducible refine AWp.pE Th_ok G_sameShape_ok [0, 1, 2, 3, 4] (by decide) ?_); intro K hK)
    | ((with_reducible refine AWp.dE (by kernel_rfl) Th_ok G_sameShape_ok [0, 1, 2, 3, 4] ?_); intro K hK)
    | ((first | with_reducible refine runF_id ?_ | with_reducible refine stepF_id ?_); simp (maxSteps := 2000000) only [runF, stepF, forkOf, gdOf, List.toList_toArray, stepOp, look, opAV, pureOp, callOp, memOp, AS.ev, AS.get, AS.obj, initS, initFrom, AV.cells, AS.upd, Option.bind_some, Option.bind_none, Option.map_some, Option.map_none, Option.getD_none, Option.getD_some, ↓reduceIte, Nat.reduceEqDiff, Nat.reduceAdd, Nat.reduceMul, Nat.reduceSub, List.nil_append, List.append_nil, List.cons_append, List.map_cons, List.map_nil, true_and, and_true, AS.fin, pick, dedup, List.mem_cons, List.not_mem_nil, or_false, false_or, List.size_toArray, List.length_cons, List.length_nil, loadAV, List.drop_zero, List.drop_succ_cons, List.take_zero, List.take_succ_cons, List.getElem?_cons_zero, List.getElem?_cons_succ, List.head?_cons, List.mapM_cons, List.mapM_nil, Option.bind_eq_bind, Option.pure_def, deeps3, deep3, deep2, deep1, deeps, deeps2, mixInts, AV.plain, mk, mkD, DCon.lift, DCon.runC, ren3, ren2, ren1, numb, List.zipIdx_nil, List.zipIdx_cons, List.all_nil, List.all_cons, Nat.reduceLeDiff, List.range, List.range.loop, Ty.sz, beq_self_eq_true, Bool.and_self, and_self, Ty.ofC, AO.isDead, Nat.reduceLT, if_true, Nat.zero_add, Nat.add_zero, ite_true, Nat.le_refl, Bool.false_eq_true, reduceCtorEq, if_false, ite_false, binAV, AO.ren, AV.isCell, fillAV, List.set_cons_zero, List.set_cons_succ, Ty.cells, Ty.flat, Ty.dflt, List.getD_cons_zero, List.getD_cons_succ, Int.reduceToNat, Int.reduceSub, Int.reduceAdd, Int.reduceMul, Int.reduceNeg, forall_eq_or_imp, forall_eq, gdL, id_eq, Nat.lt_irrefl, srcOf, List.replicate_succ, List.replicate_zero, dite_true, List.isEmpty_cons, Option.isSome_some, List.length_append, List.length_singleton, bne_self_eq_false, Bool.not_true, Bool.not_false, conF, asArgs, asArg, asTy, asI1, asB1, asS1, asL1, canons, canon, Fork.true_, Fork.false_, bne, Bool.not_not, List.length_map, pickO, AS.over, TI.bl, bne_iff_ne, AS.over2, without, keys, List.mem_singleton, memOp2, memOp3, absorb, abInt, abBool, abStr, abList, gones, Int.toNat_natCast, List.take_length, subE, List.nodup_cons, List.nodup_nil, not_false_eq_true, Nat.sub_self, conR, asG, asI, asBo, asStr, asIs, asBs, asE4, asI2, asI3, asLL, asLLL, Th_int, Th_Sint, Th_implDealing, Th_string, G_sameShape, hL])
    | ((with_reducible refine ens_step ?_ (fun hE => ?_)); · ((repeat' with_reducible apply And.intro) <;> first | with_reducible assumption | omega | exact True.intro | with_reducible rfl | (show ByteArray.size _ ≤ _; decide) | (simp; done) | (simp; omega) | rfl))
    | ((with_reducible refine And.intro ?_ ?_); · ((repeat' with_reducible apply And.intro) <;> first | with_reducible assumption | omega | exact True.intro | with_reducible rfl | (show ByteArray.size _ ≤ _; decide) | (simp; done) | (simp; omega) | rfl))
    | ((with_reducible refine Fork.intro (fun h' => ?_) (fun h' => ?_)) <;> (try simp only [Bool.not_eq_true', Bool.not_eq_false', bne] at h') <;> (replace hL := And.intro h' hL) <;> (try simp only [decide_eq_true_eq, decide_eq_false_iff_not, beq_iff_eq, beq_eq_false_iff_ne, ne_eq] at h'))
    | (with_reducible refine AWp.skipS ?_)
    | ((with_reducible refine AWp.condT rfl ?_))
    | ((with_reducible refine AWp.condF rfl ?_))
    | (with_reducible refine AWp.condB rfl ?_)
    | (with_reducible refine AWp.ret ?_)
    | (with_reducible refine seqQ_n ?_)
    | (with_reducible refine seqQ_ret ?_)
    | (with_reducible refine blkQ_ret ?_)
    | (with_reducible refine blkQ_n ?_)
    | (with_reducible refine seqQ_exit ?_)
    | (with_reducible refine blkQ_exit ?_)
    | (with_reducible refine blkQ_other (by decide) ?_)
    | (with_reducible refine AWp.block ?_)
    | (with_reducible refine AWp.exit ?_)
    | (with_reducible refine AWp.skip ?_)
    | ((with_reducible refine EndsAt_id ?_); (try subst_vars); (try simp only [shpB, hL, List.length_cons, List.length_nil, Nat.zero_add, Nat.reduceAdd, Bool.and_true, Bool.and_false, Bool.true_and, Bool.false_and, Bool.and_self, ↓reduceIte, Bool.false_eq_true, Bool.not_true, Bool.not_false, bne]); refine EndsAt.done [] (by first | exact .inr rfl | exact .inl rfl) rfl rfl ?_ ?_ <;> first | decide | (repeat' (first | rfl | apply And.intro | trivial)))
    | (with_reducible refine AWp.seq ?_)⟩
def m_ndlP : List AV → Option (List Int × List Int × Int × Int × Int)
  | [.agg [.sl .int cs, .sl .int ss], .rp [.lit (.int .i64 p), .lit (.int .i64 q), .lit (.int .i64 g)]] => some (cs, ss, p, q, g)
  | _ => none
noncomputable def c_ndlP : Con0 := conR m_ndlP fun ((cs, ss, p, q, g) : List Int × List Int × Int × Int × Int) => (M.Grp p q g, .lit (.bool (ndlB p q (cs, ss))), [])
noncomputable def G_ndlP : List (FuncId × Con) := [(161, mk c_hasDealing)]
theorem G_ndlP_ok : ∀ f C, (f, C) ∈ G_ndlP → C.ok Try.prog f := by
  intro f C h
  simp only [G_ndlP, List.mem_cons, Prod.mk.injEq, List.not_mem_nil, or_false] at h
  obtain ⟨rfl, rfl⟩ := h
  exact ok_hasDealing
set_option maxRecDepth 100000 in
set_option maxHeartbeats 4000000 in
theorem ok_ndlP : (mk c_ndlP).ok Try.prog 180 := okR (Θ := Th) (N := 8) (rs := [.tmp 3]) Th_ok Try.func180 (by kernel_rfl) rfl Try.results180 (by decide) (by kernel_rfl) (fun ((cs, ss, p, q, g) : List Int × List Int × Int × Int × Int) => [.agg [.sl .int cs, .sl .int ss], .rp [.lit (.int .i64 p), .lit (.int .i64 q), .lit (.int .i64 g)]]) (fun args d h => by unfold m_ndlP at h; split at h <;> cases h; rfl) fun ((cs, ss, p, q, g) : List Int × List Int × Int × Int × Int) => ⟨rfl, rfl, Nat.le_of_ble_eq_true rfl, fun hc w0 => by
  have hL := dmy_eq
  try dsimp only at hc
  try dsimp only
  have hG := hc
  refine AWp.body rfl ?_
  repeat' first
    | ((with_reducible refine hK _ _ ?_); clear hK K)
    | ((with_reducible refine hK _ _ (by kernel_rfl) ?_); clear hK K)
    | ((with_reducible refine AWp.pS Th_ok G_ndlP_ok [0, 1, 2, 3] (by decide) ?_); intro K hK)
    | ((with_reducible refine AWp.dS (by kernel_rfl) Th_ok G_ndlP_ok [0, 1, 2, 3] ?_); intro K hK)
    | ((with_reducible refine AWp.pE Th_ok G_ndlP_ok [0, 1, 2, 3] (by decide) ?_); intro K hK)
    | ((with_reducible refine AWp.dE (by kernel_rfl) Th_ok G_ndlP_ok [0, 1, 2, 3] ?_); intro K hK)
    | ((first | with_reducible refine runF_id ?_ | with_reducible refine stepF_id ?_); simp (maxSteps := 2000000) only [runF, stepF, forkOf, gdOf, List.toList_toArray, stepOp, look, opAV, pureOp, callOp, memOp, AS.ev, AS.get, AS.obj, initS, initFrom, AV.cells, AS.upd, Option.bind_some, Option.bind_none, Option.map_some, Option.map_none, Option.getD_none, Option.getD_some, ↓reduceIte, Nat.reduceEqDiff, Nat.reduceAdd, Nat.reduceMul, Nat.reduceSub, List.nil_append, List.append_nil, List.cons_append, List.map_cons, List.map_nil, true_and, and_true, AS.fin, pick, dedup, List.mem_cons, List.not_mem_nil, or_false, false_or, List.size_toArray, List.length_cons, List.length_nil, loadAV, List.drop_zero, List.drop_succ_cons, List.take_zero, List.take_succ_cons, List.getElem?_cons_zero, List.getElem?_cons_succ, List.head?_cons, List.mapM_cons, List.mapM_nil, Option.bind_eq_bind, Option.pure_def, deeps3, deep3, deep2, deep1, deeps, deeps2, mixInts, AV.plain, mk, mkD, DCon.lift, DCon.runC, ren3, ren2, ren1, numb, List.zipIdx_nil, List.zipIdx_cons, List.all_nil, List.all_cons, Nat.reduceLeDiff, List.range, List.range.loop, Ty.sz, beq_self_eq_true, Bool.and_self, and_self, Ty.ofC, AO.isDead, Nat.reduceLT, if_true, Nat.zero_add, Nat.add_zero, ite_true, Nat.le_refl, Bool.false_eq_true, reduceCtorEq, if_false, ite_false, binAV, AO.ren, AV.isCell, fillAV, List.set_cons_zero, List.set_cons_succ, Ty.cells, Ty.flat, Ty.dflt, List.getD_cons_zero, List.getD_cons_succ, Int.reduceToNat, Int.reduceSub, Int.reduceAdd, Int.reduceMul, Int.reduceNeg, forall_eq_or_imp, forall_eq, gdL, id_eq, Nat.lt_irrefl, srcOf, List.replicate_succ, List.replicate_zero, dite_true, List.isEmpty_cons, Option.isSome_some, List.length_append, List.length_singleton, bne_self_eq_false, Bool.not_true, Bool.not_false, conF, asArgs, asArg, asTy, asI1, asB1, asS1, asL1, canons, canon, Fork.true_, Fork.false_, bne, Bool.not_not, List.length_map, pickO, AS.over, TI.bl, bne_iff_ne, AS.over2, without, keys, List.mem_singleton, memOp2, memOp3, absorb, abInt, abBool, abStr, abList, gones, Int.toNat_natCast, List.take_length, subE, List.nodup_cons, List.nodup_nil, not_false_eq_true, Nat.sub_self, conR, asG, asI, asBo, asStr, asIs, asBs, asE4, asI2, asI3, asLL, asLLL, Th_int, Th_bool, Th_implDealing, Th_implGroup, G_ndlP, c_hasDealing, hL])
    | ((with_reducible refine ens_step ?_ (fun hE => ?_)); · ((repeat' with_reducible apply And.intro) <;> first | with_reducible assumption | omega | exact True.intro | with_reducible rfl | (show ByteArray.size _ ≤ _; decide) | (simp; done) | (simp; omega) | rfl))
    | ((with_reducible refine And.intro ?_ ?_); · ((repeat' with_reducible apply And.intro) <;> first | with_reducible assumption | omega | exact True.intro | with_reducible rfl | (show ByteArray.size _ ≤ _; decide) | (simp; done) | (simp; omega) | rfl))
    | ((with_reducible refine Fork.intro (fun h' => ?_) (fun h' => ?_)) <;> (try simp only [Bool.not_eq_true', Bool.not_eq_false', bne] at h') <;> (replace hL := And.intro h' hL) <;> (try simp only [decide_eq_true_eq, decide_eq_false_iff_not, beq_iff_eq, beq_eq_false_iff_ne, ne_eq] at h'))
    | (with_reducible refine AWp.skipS ?_)
    | ((with_reducible refine AWp.condT rfl ?_))
    | ((with_reducible refine AWp.condF rfl ?_))
    | (with_reducible refine AWp.condB rfl ?_)
    | (with_reducible refine AWp.ret ?_)
    | (with_reducible refine seqQ_n ?_)
    | (with_reducible refine seqQ_ret ?_)
    | (with_reducible refine blkQ_ret ?_)
    | (with_reducible refine blkQ_n ?_)
    | (with_reducible refine seqQ_exit ?_)
    | (with_reducible refine blkQ_exit ?_)
    | (with_reducible refine blkQ_other (by decide) ?_)
    | (with_reducible refine AWp.block ?_)
    | (with_reducible refine AWp.exit ?_)
    | (with_reducible refine AWp.skip ?_)
    | ((with_reducible refine EndsAt_id ?_); (try subst_vars); (try simp only [ndlB, hL, List.length_cons, List.length_nil, Nat.zero_add, Nat.reduceAdd, Bool.and_true, Bool.and_false, Bool.true_and, Bool.false_and, Bool.and_self, ↓reduceIte, Bool.false_eq_true, Bool.not_true, Bool.not_false, bne]); refine EndsAt.done [] (by first | exact .inr rfl | exact .inl rfl) rfl rfl ?_ ?_ <;> first | decide | (repeat' (first | rfl | apply And.intro | trivial)))
    | (with_reducible refine AWp.seq ?_)⟩
def m_ndlCI : List AV → Option (List (List Int × List Int) × Int × Int × Int)
  | [.sl (.pair (.list .int) (.list .int)) xs, .fn (.func 180) [.rp [.lit (.int .i64 p), .lit (.int .i64 q), .lit (.int .i64 g)]]] => some (xs, p, q, g)
  | _ => none
noncomputable def c_ndlCI : Con0 := conR m_ndlCI fun ((xs, p, q, g) : List (List Int × List Int) × Int × Int × Int) => (xs.length ≤ 9223372036854775806 ∧ M.Grp p q g, .lit (.int .i64 (idxF (ndlB p q) xs 0)), [])
noncomputable def G_ndlCI : List (FuncId × Con) := [(180, mk c_ndlP)]
theorem G_ndlCI_ok : ∀ f C, (f, C) ∈ G_ndlCI → C.ok Try.prog f := by
  intro f C h
  simp only [G_ndlCI, List.mem_cons, Prod.mk.injEq, List.not_mem_nil, or_false] at h
  obtain ⟨rfl, rfl⟩ := h
  exact ok_ndlP
set_option maxRecDepth 100000 in
set_option maxHeartbeats 4000000 in
theorem ok_ndlCI : (mk c_ndlCI).ok Try.prog 181 := okR (Θ := Th) (N := 19) (rs := [.tmp 4]) Th_ok Try.func181 (by kernel_rfl) rfl Try.results181 (by decide) (by kernel_rfl) (fun ((xs, p, q, g) : List (List Int × List Int) × Int × Int × Int) => [.sl (.pair (.list .int) (.list .int)) xs, .fn (.func 180) [.rp [.lit (.int .i64 p), .lit (.int .i64 q), .lit (.int .i64 g)]]]) (fun args d h => by unfold m_ndlCI at h; split at h <;> cases h; rfl) fun ((xs, p, q, g) : List (List Int × List Int) × Int × Int × Int) => ⟨rfl, rfl, Nat.le_of_ble_eq_true rfl, fun hc w0 => by
  have hL := dmy_eq
  try dsimp only at hc
  try dsimp only
  obtain ⟨hxl, hcc⟩ := hc
  have hG := hcc
  refine AWp.body rfl ?_
  repeat' first
    | ((with_reducible refine hK _ _ ?_); clear hK K)
    | ((with_reducible refine hK _ _ (by kernel_rfl) ?_); clear hK K)
    | ((with_reducible refine AWp.pS Th_ok G_ndlCI_ok [0, 1, 4, 5, 7, 8, 9, 16] (by decide) ?_); intro K hK)
    | ((with_reducible refine AWp.dS (by kernel_rfl) Th_ok G_ndlCI_ok [0, 1, 4, 5, 7, 8, 9, 16] ?_); intro K hK)
    | ((with_reducible refine AWp.pE Th_ok G_ndlCI_ok [0, 1, 4, 5, 7, 8, 9, 16] (by decide) ?_); intro K hK)
    | ((with_reducible refine AWp.dE (by kernel_rfl) Th_ok G_ndlCI_ok [0, 1, 4, 5, 7, 8, 9, 16] ?_); intro K hK)
    | ((first | with_reducible refine runF_id ?_ | with_reducible refine stepF_id ?_); simp (maxSteps := 2000000) only [runF, stepF, forkOf, gdOf, List.toList_toArray, stepOp, look, opAV, pureOp, callOp, memOp, AS.ev, AS.get, AS.obj, initS, initFrom, AV.cells, AS.upd, Option.bind_some, Option.bind_none, Option.map_some, Option.map_none, Option.getD_none, Option.getD_some, ↓reduceIte, Nat.reduceEqDiff, Nat.reduceAdd, Nat.reduceMul, Nat.reduceSub, List.nil_append, List.append_nil, List.cons_append, List.map_cons, List.map_nil, true_and, and_true, AS.fin, pick, dedup, List.mem_cons, List.not_mem_nil, or_false, false_or, List.size_toArray, List.length_cons, List.length_nil, loadAV, List.drop_zero, List.drop_succ_cons, List.take_zero, List.take_succ_cons, List.getElem?_cons_zero, List.getElem?_cons_succ, List.head?_cons, List.mapM_cons, List.mapM_nil, Option.bind_eq_bind, Option.pure_def, deeps3, deep3, deep2, deep1, deeps, deeps2, mixInts, AV.plain, mk, mkD, DCon.lift, DCon.runC, ren3, ren2, ren1, numb, List.zipIdx_nil, List.zipIdx_cons, List.all_nil, List.all_cons, Nat.reduceLeDiff, List.range, List.range.loop, Ty.sz, beq_self_eq_true, Bool.and_self, and_self, Ty.ofC, AO.isDead, Nat.reduceLT, if_true, Nat.zero_add, Nat.add_zero, ite_true, Nat.le_refl, Bool.false_eq_true, reduceCtorEq, if_false, ite_false, binAV, AO.ren, AV.isCell, fillAV, List.set_cons_zero, List.set_cons_succ, Ty.cells, Ty.flat, Ty.dflt, List.getD_cons_zero, List.getD_cons_succ, Int.reduceToNat, Int.reduceSub, Int.reduceAdd, Int.reduceMul, Int.reduceNeg, forall_eq_or_imp, forall_eq, gdL, id_eq, Nat.lt_irrefl, srcOf, List.replicate_succ, List.replicate_zero, dite_true, List.isEmpty_cons, Option.isSome_some, List.length_append, List.length_singleton, bne_self_eq_false, Bool.not_true, Bool.not_false, conF, asArgs, asArg, asTy, asI1, asB1, asS1, asL1, canons, canon, Fork.true_, Fork.false_, bne, Bool.not_not, List.length_map, pickO, AS.over, TI.bl, bne_iff_ne, AS.over2, without, keys, List.mem_singleton, memOp2, memOp3, absorb, abInt, abBool, abStr, abList, gones, Int.toNat_natCast, List.take_length, subE, List.nodup_cons, List.nodup_nil, not_false_eq_true, Nat.sub_self, conR, asG, asI, asBo, asStr, asIs, asBs, asE4, asI2, asI3, asLL, asLLL, Th_int, Th_implDealing, Th_implSDealing, G_ndlCI, c_ndlP, m_ndlP, hL])
    | ((with_reducible refine ens_step ?_ (fun hE => ?_)); · ((repeat' with_reducible apply And.intro) <;> first | with_reducible assumption | omega | exact True.intro | with_reducible rfl | (show ByteArray.size _ ≤ _; decide) | (simp; done) | (simp; omega) | rfl))
    | ((with_reducible refine And.intro ?_ ?_); · ((repeat' with_reducible apply And.intro) <;> first | with_reducible assumption | omega | exact True.intro | with_reducible rfl | (show ByteArray.size _ ≤ _; decide) | (simp; done) | (simp; omega) | rfl))
    | ((with_reducible refine Fork.intro (fun h' => ?_) (fun h' => ?_)) <;> (try simp only [Bool.not_eq_true', Bool.not_eq_false', bne] at h') <;> (replace hL := And.intro h' hL) <;> (try simp only [decide_eq_true_eq, decide_eq_false_iff_not, beq_iff_eq, beq_eq_false_iff_ne, ne_eq] at h') <;> (try (have hnx := ixf_next (p := ndlB p q) (d := (([] : List Int), ([] : List Int))) (xs := xs) (k := k) (by omega) h'; rw [hnx] at hk2)) <;> (try (have hke : k = xs.length := (by omega); subst hke)))
    | (with_reducible refine AWp.skipS ?_)
    | ((with_reducible refine AWp.condT rfl ?_))
    | ((with_reducible refine AWp.condF rfl ?_))
    | (with_reducible refine AWp.condB rfl ?_)
    | (with_reducible refine AWp.ret ?_)
    | (with_reducible refine seqQ_n ?_)
    | (with_reducible refine seqQ_ret ?_)
    | (with_reducible refine blkQ_ret ?_)
    | (with_reducible refine blkQ_n ?_)
    | (with_reducible refine seqQ_exit ?_)
    | (with_reducible refine blkQ_exit ?_)
    | (with_reducible refine blkQ_other (by decide) ?_)
    | (with_reducible refine AWp.block ?_)
    | (with_reducible refine AWp.exit ?_)
    | (with_reducible refine AWp.skip ?_)
    | ((with_reducible refine loop_id ?_); refine AWp.loopAt 2 rfl ?_; refine AWp.loopO [4, 5, 8, 9, 10, 11, 12, 13, 14, 15, 16, 17, 18] (fun k => [(8, .lit (.int .i64 (k : Nat)))]) (fun k => []) (fun k => k ≤ xs.length ∧ idxF (ndlB p q) xs 0 = idxF (ndlB p q) (xs.drop k) k) (fun k => xs.length - k) 0 (by exact ⟨by omega, by simp⟩) (by refine Sub.auto (by first | exact frok0 | assumption) rfl rfl ?_ ?_ <;> (try simp only [subE, AS.over2, without, keys, look, List.cons_append, List.nil_append, List.append_nil, List.mem_cons, List.not_mem_nil, or_false, or_true, true_or, false_or, Nat.reduceEqDiff, ↓reduceIte, Option.some.injEq, AV.lit.injEq, Value.int.injEq, Value.bool.injEq, AV.own.injEq, AO.row.injEq, AO.box.injEq, List.cons.injEq, AV.agg.injEq, AV.sl.injEq, true_and, and_true, and_self, heq_eq_eq, List.length_nil, List.length_cons, List.map_nil, List.take_zero, Int.natCast_add, Int.cast_ofNat_Int, Int.natCast_zero, List.length_append, List.length_map, List.length_take, Nat.zero_add]) <;> (simp)) (fun k hk_2 L2 hLoop2 => ?_); obtain ⟨hk1, hk2⟩ := hk_2)
    | ((with_reducible refine seqQ_f ?_); refine hLoop2 (k + 1) _ (by exact ⟨by omega, hk2⟩) (by omega) ?_; (refine Sub.auto (by first | exact frok0 | assumption) rfl rfl ?_ ?_ <;> (try simp only [subE, AS.over2, without, keys, look, List.cons_append, List.nil_append, List.append_nil, List.mem_cons, List.not_mem_nil, or_false, or_true, true_or, false_or, Nat.reduceEqDiff, ↓reduceIte, Option.some.injEq, AV.lit.injEq, Value.int.injEq, Value.bool.injEq, AV.own.injEq, AO.row.injEq, AO.box.injEq, List.cons.injEq, AV.agg.injEq, AV.sl.injEq, true_and, and_true, and_self, heq_eq_eq, List.length_nil, List.length_cons, List.map_nil, List.take_zero, Int.natCast_add, Int.cast_ofNat_Int, Int.natCast_zero, List.length_append, List.length_map, List.length_take, Nat.zero_add]) <;> (omega)))
    | ((with_reducible refine EndsAt_id ?_); (try subst_vars); first | (rw [hk2, ixf_hit (p := ndlB p q) (d := (([] : List Int), ([] : List Int))) (by omega) h']; refine EndsAt.done [] (by first | exact .inr rfl | exact .inl rfl) rfl rfl (by decide) trivial) | (rw [hk2, ixf_end]; refine EndsAt.done [] (by first | exact .inr rfl | exact .inl rfl) rfl rfl (by decide) trivial))
    | (with_reducible refine AWp.seq ?_)⟩
def m_ndlC : List AV → Option (List (List Int × List Int) × Int × Int × Int)
  | [.sl (.pair (.list .int) (.list .int)) xs, .fn (.func 180) [.rp [.lit (.int .i64 p), .lit (.int .i64 q), .lit (.int .i64 g)]]] => some (xs, p, q, g)
  | _ => none
noncomputable def c_ndlC : Con0 := conR m_ndlC fun ((xs, p, q, g) : List (List Int × List Int) × Int × Int × Int) => (xs.length ≤ 9223372036854775806 ∧ M.Grp p q g, .lit (.bool (xs.any (ndlB p q))), [])
noncomputable def G_ndlC : List (FuncId × Con) := [(181, mk c_ndlCI)]
theorem G_ndlC_ok : ∀ f C, (f, C) ∈ G_ndlC → C.ok Try.prog f := by
  intro f C h
  simp only [G_ndlC, List.mem_cons, Prod.mk.injEq, List.not_mem_nil, or_false] at h
  obtain ⟨rfl, rfl⟩ := h
  exact ok_ndlCI
set_option maxRecDepth 100000 in
set_option maxHeartbeats 4000000 in
theorem ok_ndlC : (mk c_ndlC).ok Try.prog 138 := okR (Θ := Th) (N := 9) (rs := [.tmp 4]) Th_ok Try.func138 (by kernel_rfl) rfl Try.results138 (by decide) (by kernel_rfl) (fun ((xs, p, q, g) : List (List Int × List Int) × Int × Int × Int) => [.sl (.pair (.list .int) (.list .int)) xs, .fn (.func 180) [.rp [.lit (.int .i64 p), .lit (.int .i64 q), .lit (.int .i64 g)]]]) (fun args d h => by unfold m_ndlC at h; split at h <;> cases h; rfl) fun ((xs, p, q, g) : List (List Int × List Int) × Int × Int × Int) => ⟨rfl, rfl, Nat.le_of_ble_eq_true rfl, fun hc w0 => by
  have hL := dmy_eq
  try dsimp only at hc
  try dsimp only
  obtain ⟨hxl, hcc⟩ := hc
  have hG := hcc
  refine AWp.body rfl ?_
  repeat' first
    | ((with_reducible refine hK _ _ ?_); clear hK K)
    | ((with_reducible refine hK _ _ (by kernel_rfl) ?_); clear hK K)
    | ((with_reducible refine AWp.pS Th_ok G_ndlC_ok [0, 1, 4] (by decide) ?_); intro K hK)
    | ((with_reducible refine AWp.dS (by kernel_rfl) Th_ok G_ndlC_ok [0, 1, 4] ?_); intro K hK)
    | ((with_reducible refine AWp.pE Th_ok G_ndlC_ok [0, 1, 4] (by decide) ?_); intro K hK)
    | ((with_reducible refine AWp.dE (by kernel_rfl) Th_ok G_ndlC_ok [0, 1, 4] ?_); intro K hK)
    | ((first | with_reducible refine runF_id ?_ | with_reducible refine stepF_id ?_); simp (maxSteps := 2000000) only [runF, stepF, forkOf, gdOf, List.toList_toArray, stepOp, look, opAV, pureOp, callOp, memOp, AS.ev, AS.get, AS.obj, initS, initFrom, AV.cells, AS.upd, Option.bind_some, Option.bind_none, Option.map_some, Option.map_none, Option.getD_none, Option.getD_some, ↓reduceIte, Nat.reduceEqDiff, Nat.reduceAdd, Nat.reduceMul, Nat.reduceSub, List.nil_append, List.append_nil, List.cons_append, List.map_cons, List.map_nil, true_and, and_true, AS.fin, pick, dedup, List.mem_cons, List.not_mem_nil, or_false, false_or, List.size_toArray, List.length_cons, List.length_nil, loadAV, List.drop_zero, List.drop_succ_cons, List.take_zero, List.take_succ_cons, List.getElem?_cons_zero, List.getElem?_cons_succ, List.head?_cons, List.mapM_cons, List.mapM_nil, Option.bind_eq_bind, Option.pure_def, deeps3, deep3, deep2, deep1, deeps, deeps2, mixInts, AV.plain, mk, mkD, DCon.lift, DCon.runC, ren3, ren2, ren1, numb, List.zipIdx_nil, List.zipIdx_cons, List.all_nil, List.all_cons, Nat.reduceLeDiff, List.range, List.range.loop, Ty.sz, beq_self_eq_true, Bool.and_self, and_self, Ty.ofC, AO.isDead, Nat.reduceLT, if_true, Nat.zero_add, Nat.add_zero, ite_true, Nat.le_refl, Bool.false_eq_true, reduceCtorEq, if_false, ite_false, binAV, AO.ren, AV.isCell, fillAV, List.set_cons_zero, List.set_cons_succ, Ty.cells, Ty.flat, Ty.dflt, List.getD_cons_zero, List.getD_cons_succ, Int.reduceToNat, Int.reduceSub, Int.reduceAdd, Int.reduceMul, Int.reduceNeg, forall_eq_or_imp, forall_eq, gdL, id_eq, Nat.lt_irrefl, srcOf, List.replicate_succ, List.replicate_zero, dite_true, List.isEmpty_cons, Option.isSome_some, List.length_append, List.length_singleton, bne_self_eq_false, Bool.not_true, Bool.not_false, conF, asArgs, asArg, asTy, asI1, asB1, asS1, asL1, canons, canon, Fork.true_, Fork.false_, bne, Bool.not_not, List.length_map, pickO, AS.over, TI.bl, bne_iff_ne, AS.over2, without, keys, List.mem_singleton, memOp2, memOp3, absorb, abInt, abBool, abStr, abList, gones, Int.toNat_natCast, List.take_length, subE, List.nodup_cons, List.nodup_nil, not_false_eq_true, Nat.sub_self, conR, asG, asI, asBo, asStr, asIs, asBs, asE4, asI2, asI3, asLL, asLLL, Th_int, Th_implSDealing, G_ndlC, c_ndlCI, m_ndlCI, hL])
    | ((with_reducible refine ens_step ?_ (fun hE => ?_)); · ((repeat' with_reducible apply And.intro) <;> first | with_reducible assumption | omega | exact True.intro | with_reducible rfl | (show ByteArray.size _ ≤ _; decide) | (simp; done) | (simp; omega) | rfl))
    | ((with_reducible refine And.intro ?_ ?_); · ((repeat' with_reducible apply And.intro) <;> first | with_reducible assumption | omega | exact True.intro | with_reducible rfl | (show ByteArray.size _ ≤ _; decide) | (simp; done) | (simp; omega) | rfl))
    | ((with_reducible refine Fork.intro (fun h' => ?_) (fun h' => ?_)) <;> (try simp only [Bool.not_eq_true', Bool.not_eq_false', bne] at h') <;> (replace hL := And.intro h' hL) <;> (try simp only [decide_eq_true_eq, decide_eq_false_iff_not, beq_iff_eq, beq_eq_false_iff_ne, ne_eq] at h'))
    | (with_reducible refine AWp.skipS ?_)
    | ((with_reducible refine AWp.condT rfl ?_))
    | ((with_reducible refine AWp.condF rfl ?_))
    | (with_reducible refine AWp.condB rfl ?_)
    | (with_reducible refine AWp.ret ?_)
    | (with_reducible refine seqQ_n ?_)
    | (with_reducible refine seqQ_ret ?_)
    | (with_reducible refine blkQ_ret ?_)
    | (with_reducible refine blkQ_n ?_)
    | (with_reducible refine seqQ_exit ?_)
    | (with_reducible refine blkQ_exit ?_)
    | (with_reducible refine blkQ_other (by decide) ?_)
    | (with_reducible refine AWp.block ?_)
    | (with_reducible refine AWp.exit ?_)
    | (with_reducible refine AWp.skip ?_)
    | ((with_reducible refine EndsAt_id ?_); (try subst_vars); rw [← ixf_any _ xs 0]; refine EndsAt.done [] (by first | exact .inr rfl | exact .inl rfl) rfl rfl (by decide) trivial)
    | (with_reducible refine AWp.seq ?_)⟩
def m_nkgP : List AV → Option (List Int × List Int × List (List Int × List Int))
  | [.agg [.sl .int cs, .sl .int ss], .rp [.sl (.pair (.list .int) (.list .int)) l]] => some (cs, ss, l)
  | _ => none
noncomputable def c_nkgP : Con0 := conR m_nkgP fun ((cs, ss, l) : List Int × List Int × List (List Int × List Int)) => (0 < l.length, .lit (.bool (nkgB l (cs, ss))), [])
noncomputable def G_nkgP : List (FuncId × Con) := [(140, mk c_sameShape)]
theorem G_nkgP_ok : ∀ f C, (f, C) ∈ G_nkgP → C.ok Try.prog f := by
  intro f C h
  simp only [G_nkgP, List.mem_cons, Prod.mk.injEq, List.not_mem_nil, or_false] at h
  obtain ⟨rfl, rfl⟩ := h
  exact ok_sameShape
set_option maxRecDepth 100000 in
set_option maxHeartbeats 4000000 in
theorem ok_nkgP : (mk c_nkgP).ok Try.prog 139 := okR (Θ := Th) (N := 18) (rs := [.tmp 3]) Th_ok Try.func139 (by kernel_rfl) rfl Try.results139 (by decide) (by kernel_rfl) (fun ((cs, ss, l) : List Int × List Int × List (List Int × List Int)) => [.agg [.sl .int cs, .sl .int ss], .rp [.sl (.pair (.list .int) (.list .int)) l]]) (fun args d h => by unfold m_nkgP at h; split at h <;> cases h; rfl) fun ((cs, ss, l) : List Int × List Int × List (List Int × List Int)) => ⟨rfl, rfl, Nat.le_of_ble_eq_true rfl, fun hc w0 => by
  have hL := dmy_eq
  try dsimp only at hc
  try dsimp only
  have hG := hc
  refine AWp.body rfl ?_
  repeat' first
    | ((with_reducible refine hK _ _ ?_); clear hK K)
    | ((with_reducible refine hK _ _ (by kernel_rfl) ?_); clear hK K)
    | ((with_reducible refine AWp.pS Th_ok G_nkgP_ok [0, 1, 2, 3] (by decide) ?_); intro K hK)
    | ((with_reducible refine AWp.dS (by kernel_rfl) Th_ok G_nkgP_ok [0, 1, 2, 3] ?_); intro K hK)
    | ((with_reducible refine AWp.pE Th_ok G_nkgP_ok [0, 1, 2, 3] (by decide) ?_); intro K hK)
    | ((with_reducible refine AWp.dE (by kernel_rfl) Th_ok G_nkgP_ok [0, 1, 2, 3] ?_); intro K hK)
    | ((first | with_reducible refine runF_id ?_ | with_reducible refine stepF_id ?_); simp (maxSteps := 2000000) only [runF, stepF, forkOf, gdOf, List.toList_toArray, stepOp, look, opAV, pureOp, callOp, memOp, AS.ev, AS.get, AS.obj, initS, initFrom, AV.cells, AS.upd, Option.bind_some, Option.bind_none, Option.map_some, Option.map_none, Option.getD_none, Option.getD_some, ↓reduceIte, Nat.reduceEqDiff, Nat.reduceAdd, Nat.reduceMul, Nat.reduceSub, List.nil_append, List.append_nil, List.cons_append, List.map_cons, List.map_nil, true_and, and_true, AS.fin, pick, dedup, List.mem_cons, List.not_mem_nil, or_false, false_or, List.size_toArray, List.length_cons, List.length_nil, loadAV, List.drop_zero, List.drop_succ_cons, List.take_zero, List.take_succ_cons, List.getElem?_cons_zero, List.getElem?_cons_succ, List.head?_cons, List.mapM_cons, List.mapM_nil, Option.bind_eq_bind, Option.pure_def, deeps3, deep3, deep2, deep1, deeps, deeps2, mixInts, AV.plain, mk, mkD, DCon.lift, DCon.runC, ren3, ren2, ren1, numb, List.zipIdx_nil, List.zipIdx_cons, List.all_nil, List.all_cons, Nat.reduceLeDiff, List.range, List.range.loop, Ty.sz, beq_self_eq_true, Bool.and_self, and_self, Ty.ofC, AO.isDead, Nat.reduceLT, if_true, Nat.zero_add, Nat.add_zero, ite_true, Nat.le_refl, Bool.false_eq_true, reduceCtorEq, if_false, ite_false, binAV, AO.ren, AV.isCell, fillAV, List.set_cons_zero, List.set_cons_succ, Ty.cells, Ty.flat, Ty.dflt, List.getD_cons_zero, List.getD_cons_succ, Int.reduceToNat, Int.reduceSub, Int.reduceAdd, Int.reduceMul, Int.reduceNeg, forall_eq_or_imp, forall_eq, gdL, id_eq, Nat.lt_irrefl, srcOf, List.replicate_succ, List.replicate_zero, dite_true, List.isEmpty_cons, Option.isSome_some, List.length_append, List.length_singleton, bne_self_eq_false, Bool.not_true, Bool.not_false, conF, asArgs, asArg, asTy, asI1, asB1, asS1, asL1, canons, canon, Fork.true_, Fork.false_, bne, Bool.not_not, List.length_map, pickO, AS.over, TI.bl, bne_iff_ne, AS.over2, without, keys, List.mem_singleton, memOp2, memOp3, absorb, abInt, abBool, abStr, abList, gones, Int.toNat_natCast, List.take_length, subE, List.nodup_cons, List.nodup_nil, not_false_eq_true, Nat.sub_self, conR, asG, asI, asBo, asStr, asIs, asBs, asE4, asI2, asI3, asLL, asLLL, Th_int, Th_Sint, Th_bool, Th_implDealing, Th_implSDealing, Th_string, G_nkgP, c_sameShape, hL])
    | ((with_reducible refine ens_step ?_ (fun hE => ?_)); · ((repeat' with_reducible apply And.intro) <;> first | with_reducible assumption | omega | exact True.intro | with_reducible rfl | (show ByteArray.size _ ≤ _; decide) | (simp; done) | (simp; omega) | rfl))
    | ((with_reducible refine And.intro ?_ ?_); · ((repeat' with_reducible apply And.intro) <;> first | with_reducible assumption | omega | exact True.intro | with_reducible rfl | (show ByteArray.size _ ≤ _; decide) | (simp; done) | (simp; omega) | rfl))
    | ((with_reducible refine Fork.intro (fun h' => ?_) (fun h' => ?_)) <;> (try simp only [Bool.not_eq_true', Bool.not_eq_false', bne] at h') <;> (replace hL := And.intro h' hL) <;> (try simp only [decide_eq_true_eq, decide_eq_false_iff_not, beq_iff_eq, beq_eq_false_iff_ne, ne_eq] at h'))
    | (with_reducible refine AWp.skipS ?_)
    | ((with_reducible refine AWp.condT rfl ?_))
    | ((with_reducible refine AWp.condF rfl ?_))
    | (with_reducible refine AWp.condB rfl ?_)
    | (with_reducible refine AWp.ret ?_)
    | (with_reducible refine seqQ_n ?_)
    | (with_reducible refine seqQ_ret ?_)
    | (with_reducible refine blkQ_ret ?_)
    | (with_reducible refine blkQ_n ?_)
    | (with_reducible refine seqQ_exit ?_)
    | (with_reducible refine blkQ_exit ?_)
    | (with_reducible refine blkQ_other (by decide) ?_)
    | (with_reducible refine AWp.block ?_)
    | (with_reducible refine AWp.exit ?_)
    | (with_reducible refine AWp.skip ?_)
    | ((with_reducible refine EndsAt_id ?_); (try subst_vars); (try simp only [nkgB, nshB, hL, List.length_cons, List.length_nil, Nat.zero_add, Nat.reduceAdd, Bool.and_true, Bool.and_false, Bool.true_and, Bool.false_and, Bool.and_self, ↓reduceIte, Bool.false_eq_true, Bool.not_true, Bool.not_false, bne]); refine EndsAt.done [] (by first | exact .inr rfl | exact .inl rfl) rfl rfl ?_ ?_ <;> first | decide | (repeat' (first | rfl | apply And.intro | trivial)))
    | (with_reducible refine AWp.seq ?_)⟩
def m_nkgCI : List AV → Option (List (List Int × List Int) × List (List Int × List Int))
  | [.sl (.pair (.list .int) (.list .int)) xs, .fn (.func 139) [.rp [.sl (.pair (.list .int) (.list .int)) l]]] => some (xs, l)
  | _ => none
noncomputable def c_nkgCI : Con0 := conR m_nkgCI fun ((xs, l) : List (List Int × List Int) × List (List Int × List Int)) => (xs.length ≤ 9223372036854775806 ∧ 0 < l.length, .lit (.int .i64 (idxF (nkgB l) xs 0)), [])
noncomputable def G_nkgCI : List (FuncId × Con) := [(139, mk c_nkgP)]
theorem G_nkgCI_ok : ∀ f C, (f, C) ∈ G_nkgCI → C.ok Try.prog f := by
  intro f C h
  simp only [G_nkgCI, List.mem_cons, Prod.mk.injEq, List.not_mem_nil, or_false] at h
  obtain ⟨rfl, rfl⟩ := h
  exact ok_nkgP
set_option maxRecDepth 100000 in
set_option maxHeartbeats 4000000 in
theorem ok_nkgCI : (mk c_nkgCI).ok Try.prog 181 := okR (Θ := Th) (N := 19) (rs := [.tmp 4]) Th_ok Try.func181 (by kernel_rfl) rfl Try.results181 (by decide) (by kernel_rfl) (fun ((xs, l) : List (List Int × List Int) × List (List Int × List Int)) => [.sl (.pair (.list .int) (.list .int)) xs, .fn (.func 139) [.rp [.sl (.pair (.list .int) (.list .int)) l]]]) (fun args d h => by unfold m_nkgCI at h; split at h <;> cases h; rfl) fun ((xs, l) : List (List Int × List Int) × List (List Int × List Int)) => ⟨rfl, rfl, Nat.le_of_ble_eq_true rfl, fun hc w0 => by
  have hL := dmy_eq
  try dsimp only at hc
  try dsimp only
  obtain ⟨hxl, hcc⟩ := hc
  have hG := hcc
  refine AWp.body rfl ?_
  repeat' first
    | ((with_reducible refine hK _ _ ?_); clear hK K)
    | ((with_reducible refine hK _ _ (by kernel_rfl) ?_); clear hK K)
    | ((with_reducible refine AWp.pS Th_ok G_nkgCI_ok [0, 1, 4, 5, 7, 8, 9, 16] (by decide) ?_); intro K hK)
    | ((with_reducible refine AWp.dS (by kernel_rfl) Th_ok G_nkgCI_ok [0, 1, 4, 5, 7, 8, 9, 16] ?_); intro K hK)
    | ((with_reducible refine AWp.pE Th_ok G_nkgCI_ok [0, 1, 4, 5, 7, 8, 9, 16] (by decide) ?_); intro K hK)
    | ((with_reducible refine AWp.dE (by kernel_rfl) Th_ok G_nkgCI_ok [0, 1, 4, 5, 7, 8, 9, 16] ?_); intro K hK)
    | ((first | with_reducible refine runF_id ?_ | with_reducible refine stepF_id ?_); simp (maxSteps := 2000000) only [runF, stepF, forkOf, gdOf, List.toList_toArray, stepOp, look, opAV, pureOp, callOp, memOp, AS.ev, AS.get, AS.obj, initS, initFrom, AV.cells, AS.upd, Option.bind_some, Option.bind_none, Option.map_some, Option.map_none, Option.getD_none, Option.getD_some, ↓reduceIte, Nat.reduceEqDiff, Nat.reduceAdd, Nat.reduceMul, Nat.reduceSub, List.nil_append, List.append_nil, List.cons_append, List.map_cons, List.map_nil, true_and, and_true, AS.fin, pick, dedup, List.mem_cons, List.not_mem_nil, or_false, false_or, List.size_toArray, List.length_cons, List.length_nil, loadAV, List.drop_zero, List.drop_succ_cons, List.take_zero, List.take_succ_cons, List.getElem?_cons_zero, List.getElem?_cons_succ, List.head?_cons, List.mapM_cons, List.mapM_nil, Option.bind_eq_bind, Option.pure_def, deeps3, deep3, deep2, deep1, deeps, deeps2, mixInts, AV.plain, mk, mkD, DCon.lift, DCon.runC, ren3, ren2, ren1, numb, List.zipIdx_nil, List.zipIdx_cons, List.all_nil, List.all_cons, Nat.reduceLeDiff, List.range, List.range.loop, Ty.sz, beq_self_eq_true, Bool.and_self, and_self, Ty.ofC, AO.isDead, Nat.reduceLT, if_true, Nat.zero_add, Nat.add_zero, ite_true, Nat.le_refl, Bool.false_eq_true, reduceCtorEq, if_false, ite_false, binAV, AO.ren, AV.isCell, fillAV, List.set_cons_zero, List.set_cons_succ, Ty.cells, Ty.flat, Ty.dflt, List.getD_cons_zero, List.getD_cons_succ, Int.reduceToNat, Int.reduceSub, Int.reduceAdd, Int.reduceMul, Int.reduceNeg, forall_eq_or_imp, forall_eq, gdL, id_eq, Nat.lt_irrefl, srcOf, List.replicate_succ, List.replicate_zero, dite_true, List.isEmpty_cons, Option.isSome_some, List.length_append, List.length_singleton, bne_self_eq_false, Bool.not_true, Bool.not_false, conF, asArgs, asArg, asTy, asI1, asB1, asS1, asL1, canons, canon, Fork.true_, Fork.false_, bne, Bool.not_not, List.length_map, pickO, AS.over, TI.bl, bne_iff_ne, AS.over2, without, keys, List.mem_singleton, memOp2, memOp3, absorb, abInt, abBool, abStr, abList, gones, Int.toNat_natCast, List.take_length, subE, List.nodup_cons, List.nodup_nil, not_false_eq_true, Nat.sub_self, conR, asG, asI, asBo, asStr, asIs, asBs, asE4, asI2, asI3, asLL, asLLL, Th_int, Th_implDealing, Th_implSDealing, G_nkgCI, c_nkgP, m_nkgP, hL])
    | ((with_reducible refine ens_step ?_ (fun hE => ?_)); · ((repeat' with_reducible apply And.intro) <;> first | with_reducible assumption | omega | exact True.intro | with_reducible rfl | (show ByteArray.size _ ≤ _; decide) | (simp; done) | (simp; omega) | rfl))
    | ((with_reducible refine And.intro ?_ ?_); · ((repeat' with_reducible apply And.intro) <;> first | with_reducible assumption | omega | exact True.intro | with_reducible rfl | (show ByteArray.size _ ≤ _; decide) | (simp; done) | (simp; omega) | rfl))
    | ((with_reducible refine Fork.intro (fun h' => ?_) (fun h' => ?_)) <;> (try simp only [Bool.not_eq_true', Bool.not_eq_false', bne] at h') <;> (replace hL := And.intro h' hL) <;> (try simp only [decide_eq_true_eq, decide_eq_false_iff_not, beq_iff_eq, beq_eq_false_iff_ne, ne_eq] at h') <;> (try (have hnx := ixf_next (p := nkgB l) (d := (([] : List Int), ([] : List Int))) (xs := xs) (k := k) (by omega) h'; rw [hnx] at hk2)) <;> (try (have hke : k = xs.length := (by omega); subst hke)))
    | (with_reducible refine AWp.skipS ?_)
    | ((with_reducible refine AWp.condT rfl ?_))
    | ((with_reducible refine AWp.condF rfl ?_))
    | (with_reducible refine AWp.condB rfl ?_)
    | (with_reducible refine AWp.ret ?_)
    | (with_reducible refine seqQ_n ?_)
    | (with_reducible refine seqQ_ret ?_)
    | (with_reducible refine blkQ_ret ?_)
    | (with_reducible refine blkQ_n ?_)
    | (with_reducible refine seqQ_exit ?_)
    | (with_reducible refine blkQ_exit ?_)
    | (with_reducible refine blkQ_other (by decide) ?_)
    | (with_reducible refine AWp.block ?_)
    | (with_reducible refine AWp.exit ?_)
    | (with_reducible refine AWp.skip ?_)
    | ((with_reducible refine loop_id ?_); refine AWp.loopAt 2 rfl ?_; refine AWp.loopO [4, 5, 8, 9, 10, 11, 12, 13, 14, 15, 16, 17, 18] (fun k => [(8, .lit (.int .i64 (k : Nat)))]) (fun k => []) (fun k => k ≤ xs.length ∧ idxF (nkgB l) xs 0 = idxF (nkgB l) (xs.drop k) k) (fun k => xs.length - k) 0 (by exact ⟨by omega, by simp⟩) (by refine Sub.auto (by first | exact frok0 | assumption) rfl rfl ?_ ?_ <;> (try simp only [subE, AS.over2, without, keys, look, List.cons_append, List.nil_append, List.append_nil, List.mem_cons, List.not_mem_nil, or_false, or_true, true_or, false_or, Nat.reduceEqDiff, ↓reduceIte, Option.some.injEq, AV.lit.injEq, Value.int.injEq, Value.bool.injEq, AV.own.injEq, AO.row.injEq, AO.box.injEq, List.cons.injEq, AV.agg.injEq, AV.sl.injEq, true_and, and_true, and_self, heq_eq_eq, List.length_nil, List.length_cons, List.map_nil, List.take_zero, Int.natCast_add, Int.cast_ofNat_Int, Int.natCast_zero, List.length_append, List.length_map, List.length_take, Nat.zero_add]) <;> (simp)) (fun k hk_2 L2 hLoop2 => ?_); obtain ⟨hk1, hk2⟩ := hk_2)
    | ((with_reducible refine seqQ_f ?_); refine hLoop2 (k + 1) _ (by exact ⟨by omega, hk2⟩) (by omega) ?_; (refine Sub.auto (by first | exact frok0 | assumption) rfl rfl ?_ ?_ <;> (try simp only [subE, AS.over2, without, keys, look, List.cons_append, List.nil_append, List.append_nil, List.mem_cons, List.not_mem_nil, or_false, or_true, true_or, false_or, Nat.reduceEqDiff, ↓reduceIte, Option.some.injEq, AV.lit.injEq, Value.int.injEq, Value.bool.injEq, AV.own.injEq, AO.row.injEq, AO.box.injEq, List.cons.injEq, AV.agg.injEq, AV.sl.injEq, true_and, and_true, and_self, heq_eq_eq, List.length_nil, List.length_cons, List.map_nil, List.take_zero, Int.natCast_add, Int.cast_ofNat_Int, Int.natCast_zero, List.length_append, List.length_map, List.length_take, Nat.zero_add]) <;> (omega)))
    | ((with_reducible refine EndsAt_id ?_); (try subst_vars); first | (rw [hk2, ixf_hit (p := nkgB l) (d := (([] : List Int), ([] : List Int))) (by omega) h']; refine EndsAt.done [] (by first | exact .inr rfl | exact .inl rfl) rfl rfl (by decide) trivial) | (rw [hk2, ixf_end]; refine EndsAt.done [] (by first | exact .inr rfl | exact .inl rfl) rfl rfl (by decide) trivial))
    | (with_reducible refine AWp.seq ?_)⟩
def m_nkgC : List AV → Option (List (List Int × List Int) × List (List Int × List Int))
  | [.sl (.pair (.list .int) (.list .int)) xs, .fn (.func 139) [.rp [.sl (.pair (.list .int) (.list .int)) l]]] => some (xs, l)
  | _ => none
noncomputable def c_nkgC : Con0 := conR m_nkgC fun ((xs, l) : List (List Int × List Int) × List (List Int × List Int)) => (xs.length ≤ 9223372036854775806 ∧ 0 < l.length, .lit (.bool (xs.any (nkgB l))), [])
noncomputable def G_nkgC : List (FuncId × Con) := [(181, mk c_nkgCI)]
theorem G_nkgC_ok : ∀ f C, (f, C) ∈ G_nkgC → C.ok Try.prog f := by
  intro f C h
  simp only [G_nkgC, List.mem_cons, Prod.mk.injEq, List.not_mem_nil, or_false] at h
  obtain ⟨rfl, rfl⟩ := h
  exact ok_nkgCI
set_option maxRecDepth 100000 in
set_option maxHeartbeats 4000000 in
theorem ok_nkgC : (mk c_nkgC).ok Try.prog 138 := okR (Θ := Th) (N := 9) (rs := [.tmp 4]) Th_ok Try.func138 (by kernel_rfl) rfl Try.results138 (by decide) (by kernel_rfl) (fun ((xs, l) : List (List Int × List Int) × List (List Int × List Int)) => [.sl (.pair (.list .int) (.list .int)) xs, .fn (.func 139) [.rp [.sl (.pair (.list .int) (.list .int)) l]]]) (fun args d h => by unfold m_nkgC at h; split at h <;> cases h; rfl) fun ((xs, l) : List (List Int × List Int) × List (List Int × List Int)) => ⟨rfl, rfl, Nat.le_of_ble_eq_true rfl, fun hc w0 => by
  have hL := dmy_eq
  try dsimp only at hc
  try dsimp only
  obtain ⟨hxl, hcc⟩ := hc
  have hG := hcc
  refine AWp.body rfl ?_
  repeat' first
    | ((with_reducible refine hK _ _ ?_); clear hK K)
    | ((with_reducible refine hK _ _ (by kernel_rfl) ?_); clear hK K)
    | ((with_reducible refine AWp.pS Th_ok G_nkgC_ok [0, 1, 4] (by decide) ?_); intro K hK)
    | ((with_reducible refine AWp.dS (by kernel_rfl) Th_ok G_nkgC_ok [0, 1, 4] ?_); intro K hK)
    | ((with_reducible refine AWp.pE Th_ok G_nkgC_ok [0, 1, 4] (by decide) ?_); intro K hK)
    | ((with_reducible refine AWp.dE (by kernel_rfl) Th_ok G_nkgC_ok [0, 1, 4] ?_); intro K hK)
    | ((first | with_reducible refine runF_id ?_ | with_reducible refine stepF_id ?_); simp (maxSteps := 2000000) only [runF, stepF, forkOf, gdOf, List.toList_toArray, stepOp, look, opAV, pureOp, callOp, memOp, AS.ev, AS.get, AS.obj, initS, initFrom, AV.cells, AS.upd, Option.bind_some, Option.bind_none, Option.map_some, Option.map_none, Option.getD_none, Option.getD_some, ↓reduceIte, Nat.reduceEqDiff, Nat.reduceAdd, Nat.reduceMul, Nat.reduceSub, List.nil_append, List.append_nil, List.cons_append, List.map_cons, List.map_nil, true_and, and_true, AS.fin, pick, dedup, List.mem_cons, List.not_mem_nil, or_false, false_or, List.size_toArray, List.length_cons, List.length_nil, loadAV, List.drop_zero, List.drop_succ_cons, List.take_zero, List.take_succ_cons, List.getElem?_cons_zero, List.getElem?_cons_succ, List.head?_cons, List.mapM_cons, List.mapM_nil, Option.bind_eq_bind, Option.pure_def, deeps3, deep3, deep2, deep1, deeps, deeps2, mixInts, AV.plain, mk, mkD, DCon.lift, DCon.runC, ren3, ren2, ren1, numb, List.zipIdx_nil, List.zipIdx_cons, List.all_nil, List.all_cons, Nat.reduceLeDiff, List.range, List.range.loop, Ty.sz, beq_self_eq_true, Bool.and_self, and_self, Ty.ofC, AO.isDead, Nat.reduceLT, if_true, Nat.zero_add, Nat.add_zero, ite_true, Nat.le_refl, Bool.false_eq_true, reduceCtorEq, if_false, ite_false, binAV, AO.ren, AV.isCell, fillAV, List.set_cons_zero, List.set_cons_succ, Ty.cells, Ty.flat, Ty.dflt, List.getD_cons_zero, List.getD_cons_succ, Int.reduceToNat, Int.reduceSub, Int.reduceAdd, Int.reduceMul, Int.reduceNeg, forall_eq_or_imp, forall_eq, gdL, id_eq, Nat.lt_irrefl, srcOf, List.replicate_succ, List.replicate_zero, dite_true, List.isEmpty_cons, Option.isSome_some, List.length_append, List.length_singleton, bne_self_eq_false, Bool.not_true, Bool.not_false, conF, asArgs, asArg, asTy, asI1, asB1, asS1, asL1, canons, canon, Fork.true_, Fork.false_, bne, Bool.not_not, List.length_map, pickO, AS.over, TI.bl, bne_iff_ne, AS.over2, without, keys, List.mem_singleton, memOp2, memOp3, absorb, abInt, abBool, abStr, abList, gones, Int.toNat_natCast, List.take_length, subE, List.nodup_cons, List.nodup_nil, not_false_eq_true, Nat.sub_self, conR, asG, asI, asBo, asStr, asIs, asBs, asE4, asI2, asI3, asLL, asLLL, Th_int, Th_implSDealing, G_nkgC, c_nkgCI, m_nkgCI, hL])
    | ((with_reducible refine ens_step ?_ (fun hE => ?_)); · ((repeat' with_reducible apply And.intro) <;> first | with_reducible assumption | omega | exact True.intro | with_reducible rfl | (show ByteArray.size _ ≤ _; decide) | (simp; done) | (simp; omega) | rfl))
    | ((with_reducible refine And.intro ?_ ?_); · ((repeat' with_reducible apply And.intro) <;> first | with_reducible assumption | omega | exact True.intro | with_reducible rfl | (show ByteArray.size _ ≤ _; decide) | (simp; done) | (simp; omega) | rfl))
    | ((with_reducible refine Fork.intro (fun h' => ?_) (fun h' => ?_)) <;> (try simp only [Bool.not_eq_true', Bool.not_eq_false', bne] at h') <;> (replace hL := And.intro h' hL) <;> (try simp only [decide_eq_true_eq, decide_eq_false_iff_not, beq_iff_eq, beq_eq_false_iff_ne, ne_eq] at h'))
    | (with_reducible refine AWp.skipS ?_)
    | ((with_reducible refine AWp.condT rfl ?_))
    | ((with_reducible refine AWp.condF rfl ?_))
    | (with_reducible refine AWp.condB rfl ?_)
    | (with_reducible refine AWp.ret ?_)
    | (with_reducible refine seqQ_n ?_)
    | (with_reducible refine seqQ_ret ?_)
    | (with_reducible refine blkQ_ret ?_)
    | (with_reducible refine blkQ_n ?_)
    | (with_reducible refine seqQ_exit ?_)
    | (with_reducible refine blkQ_exit ?_)
    | (with_reducible refine blkQ_other (by decide) ?_)
    | (with_reducible refine AWp.block ?_)
    | (with_reducible refine AWp.exit ?_)
    | (with_reducible refine AWp.skip ?_)
    | ((with_reducible refine EndsAt_id ?_); (try subst_vars); rw [← ixf_any _ xs 0]; refine EndsAt.done [] (by first | exact .inr rfl | exact .inl rfl) rfl rfl (by decide) trivial)
    | (with_reducible refine AWp.seq ?_)⟩
noncomputable def c_hasDealings : Con0 := conF [(.pair .int (.pair .int .int)), (.list (.pair (.list .int) (.list .int)))] fun (⟨⟨p, q, g⟩, l, _⟩ : (Int × Int × Int) × (List (List Int × List Int)) × Unit) => (M.Grp p q g ∧ l.length ≤ 9223372036854775806, .lit (.bool (hdsB p q l)), [])
noncomputable def G_hasDealings : List (FuncId × Con) := [(138, mk c_ndlC), (161, mk c_hasDealing)]
theorem G_hasDealings_ok : ∀ f C, (f, C) ∈ G_hasDealings → C.ok Try.prog f := by
  intro f C h
  simp only [G_hasDealings, List.mem_cons, Prod.mk.injEq, List.not_mem_nil, or_false] at h
  rcases h with ⟨rfl, rfl⟩ | ⟨rfl, rfl⟩
  · exact ok_ndlC
  · exact ok_hasDealing
set_option maxRecDepth 100000 in
set_option maxHeartbeats 4000000 in
theorem ok_hasDealings : (mk c_hasDealings).ok Try.prog 137 := okF (Θ := Th) (N := 14) (rs := [.tmp 4]) Th_ok Try.func137 (by kernel_rfl) rfl Try.results137 (by decide) (by kernel_rfl) fun (⟨⟨p, q, g⟩, l, _⟩ : (Int × Int × Int) × (List (List Int × List Int)) × Unit) => ⟨rfl, rfl, Nat.le_of_ble_eq_true rfl, fun hc w0 => by
  have hL := dmy_eq
  try dsimp only at hc
  try dsimp only
  obtain ⟨hG, hbl⟩ := hc
  refine AWp.body rfl ?_
  repeat' first
    | ((with_reducible refine hK _ _ ?_); clear hK K)
    | ((with_reducible refine hK _ _ (by kernel_rfl) ?_); clear hK K)
    | ((with_reducible refine AWp.pS Th_ok G_hasDealings_ok [0, 1, 2, 4] (by decide) ?_); intro K hK)
    | ((with_reducible refine AWp.dS (by kernel_rfl) Th_ok G_hasDealings_ok [0, 1, 2, 4] ?_); intro K hK)
    | ((with_reducible refine AWp.pE Th_ok G_hasDealings_ok [0, 1, 2, 4] (by decide) ?_); intro K hK)
    | ((with_reducible refine AWp.dE (by kernel_rfl) Th_ok G_hasDealings_ok [0, 1, 2, 4] ?_); intro K hK)
    | ((first | with_reducible refine runF_id ?_ | with_reducible refine stepF_id ?_); simp (maxSteps := 2000000) only [runF, stepF, forkOf, gdOf, List.toList_toArray, stepOp, look, opAV, pureOp, callOp, memOp, AS.ev, AS.get, AS.obj, initS, initFrom, AV.cells, AS.upd, Option.bind_some, Option.bind_none, Option.map_some, Option.map_none, Option.getD_none, Option.getD_some, ↓reduceIte, Nat.reduceEqDiff, Nat.reduceAdd, Nat.reduceMul, Nat.reduceSub, List.nil_append, List.append_nil, List.cons_append, List.map_cons, List.map_nil, true_and, and_true, AS.fin, pick, dedup, List.mem_cons, List.not_mem_nil, or_false, false_or, List.size_toArray, List.length_cons, List.length_nil, loadAV, List.drop_zero, List.drop_succ_cons, List.take_zero, List.take_succ_cons, List.getElem?_cons_zero, List.getElem?_cons_succ, List.head?_cons, List.mapM_cons, List.mapM_nil, Option.bind_eq_bind, Option.pure_def, deeps3, deep3, deep2, deep1, deeps, deeps2, mixInts, AV.plain, mk, mkD, DCon.lift, DCon.runC, ren3, ren2, ren1, numb, List.zipIdx_nil, List.zipIdx_cons, List.all_nil, List.all_cons, Nat.reduceLeDiff, List.range, List.range.loop, Ty.sz, beq_self_eq_true, Bool.and_self, and_self, Ty.ofC, AO.isDead, Nat.reduceLT, if_true, Nat.zero_add, Nat.add_zero, ite_true, Nat.le_refl, Bool.false_eq_true, reduceCtorEq, if_false, ite_false, binAV, AO.ren, AV.isCell, fillAV, List.set_cons_zero, List.set_cons_succ, Ty.cells, Ty.flat, Ty.dflt, List.getD_cons_zero, List.getD_cons_succ, Int.reduceToNat, Int.reduceSub, Int.reduceAdd, Int.reduceMul, Int.reduceNeg, forall_eq_or_imp, forall_eq, gdL, id_eq, Nat.lt_irrefl, srcOf, List.replicate_succ, List.replicate_zero, dite_true, List.isEmpty_cons, Option.isSome_some, List.length_append, List.length_singleton, bne_self_eq_false, Bool.not_true, Bool.not_false, conF, asArgs, asArg, asTy, asI1, asB1, asS1, asL1, canons, canon, Fork.true_, Fork.false_, bne, Bool.not_not, List.length_map, pickO, AS.over, TI.bl, bne_iff_ne, AS.over2, without, keys, List.mem_singleton, memOp2, memOp3, absorb, abInt, abBool, abStr, abList, gones, Int.toNat_natCast, List.take_length, subE, List.nodup_cons, List.nodup_nil, not_false_eq_true, Nat.sub_self, conR, asG, asI, asBo, asStr, asIs, asBs, asE4, asI2, asI3, asLL, asLLL, Th_int, Th_bool, Th_implGroup, Th_implSDealing, Th_string, G_hasDealings, c_ndlC, m_ndlC, c_hasDealing, hL])
    | ((with_reducible refine ens_step ?_ (fun hE => ?_)); · ((repeat' with_reducible apply And.intro) <;> first | with_reducible assumption | omega | exact True.intro | with_reducible rfl | (show ByteArray.size _ ≤ _; decide) | (simp; done) | (simp; omega) | rfl))
    | ((with_reducible refine And.intro ?_ ?_); · ((repeat' with_reducible apply And.intro) <;> first | with_reducible assumption | omega | exact True.intro | with_reducible rfl | (show ByteArray.size _ ≤ _; decide) | (simp; done) | (simp; omega) | rfl))
    | ((with_reducible refine Fork.intro (fun h' => ?_) (fun h' => ?_)) <;> (try simp only [Bool.not_eq_true', Bool.not_eq_false', bne] at h') <;> (replace hL := And.intro h' hL) <;> (try simp only [decide_eq_true_eq, decide_eq_false_iff_not, beq_iff_eq, beq_eq_false_iff_ne, ne_eq] at h'))
    | (with_reducible refine AWp.skipS ?_)
    | ((with_reducible refine AWp.condT rfl ?_))
    | ((with_reducible refine AWp.condF rfl ?_))
    | (with_reducible refine AWp.condB rfl ?_)
    | (with_reducible refine AWp.ret ?_)
    | (with_reducible refine seqQ_n ?_)
    | (with_reducible refine seqQ_ret ?_)
    | (with_reducible refine blkQ_ret ?_)
    | (with_reducible refine blkQ_n ?_)
    | (with_reducible refine seqQ_exit ?_)
    | (with_reducible refine blkQ_exit ?_)
    | (with_reducible refine blkQ_other (by decide) ?_)
    | (with_reducible refine AWp.block ?_)
    | (with_reducible refine AWp.exit ?_)
    | (with_reducible refine AWp.skip ?_)
    | ((with_reducible refine EndsAt_id ?_); (try subst_vars); (try simp only [hdsB, hL, List.length_cons, List.length_nil, Nat.zero_add, Nat.reduceAdd, Bool.and_true, Bool.and_false, Bool.true_and, Bool.false_and, Bool.and_self, ↓reduceIte, Bool.false_eq_true, Bool.not_true, Bool.not_false, bne]); refine EndsAt.done [] (by first | exact .inr rfl | exact .inl rfl) rfl rfl ?_ ?_ <;> first | decide | (repeat' (first | rfl | apply And.intro | trivial)))
    | (with_reducible refine AWp.seq ?_)⟩
noncomputable def c_sAlike : Con0 := conF [(.pair .int (.pair .int .int)), (.list (.pair (.list .int) (.list .int)))] fun (⟨⟨p, q, g⟩, l, _⟩ : (Int × Int × Int) × (List (List Int × List Int)) × Unit) => (M.Grp p q g ∧ l.length ≤ 9223372036854775806, .lit (.bool (alkB p q l)), [])
noncomputable def G_sAlike : List (FuncId × Con) := [(92, mk c_l1In), (112, mk c_sDealing)]
theorem G_sAlike_ok : ∀ f C, (f, C) ∈ G_sAlike → C.ok Try.prog f := by
  intro f C h
  simp only [G_sAlike, List.mem_cons, Prod.mk.injEq, List.not_mem_nil, or_false] at h
  rcases h with ⟨rfl, rfl⟩ | ⟨rfl, rfl⟩
  · exact ok_l1In
  · exact ok_sDealing
set_option maxRecDepth 100000 in
set_option maxHeartbeats 4000000 in
theorem ok_sAlike : (mk c_sAlike).ok Try.prog 135 := okF (Θ := Th) (N := 44) (rs := [.tmp 4]) Th_ok Try.func135 (by kernel_rfl) rfl Try.results135 (by decide) (by kernel_rfl) fun (⟨⟨p, q, g⟩, l, _⟩ : (Int × Int × Int) × (List (List Int × List Int)) × Unit) => ⟨rfl, rfl, Nat.le_of_ble_eq_true rfl, fun hc w0 => by
  have hL := dmy_eq
  try dsimp only at hc
  try dsimp only
  obtain ⟨hG, hbl⟩ := hc
  refine AWp.body rfl ?_
  repeat' first
    | ((with_reducible refine hK _ _ ?_); clear hK K)
    | ((with_reducible refine hK _ _ (by kernel_rfl) ?_); clear hK K)
    | ((with_reducible refine AWp.pS Th_ok G_sAlike_ok [0, 1, 2, 4, 6, 10, 11, 12, 13, 14, 42] (by decide) ?_); intro K hK)
    | ((with_reducible refine AWp.dS (by kernel_rfl) Th_ok G_sAlike_ok [0, 1, 2, 4, 6, 10, 11, 12, 13, 14, 42] ?_); intro K hK)
    | ((with_reducible refine AWp.pE Th_ok G_sAlike_ok [0, 1, 2, 4, 6, 10, 11, 12, 13, 14, 42] (by decide) ?_); intro K hK)
    | ((with_reducible refine AWp.dE (by kernel_rfl) Th_ok G_sAlike_ok [0, 1, 2, 4, 6, 10, 11, 12, 13, 14, 42] ?_); intro K hK)
    | ((first | with_reducible refine runF_id ?_ | with_reducible refine stepF_id ?_); simp (maxSteps := 2000000) only [runF, stepF, forkOf, gdOf, List.toList_toArray, stepOp, look, opAV, pureOp, callOp, memOp, AS.ev, AS.get, AS.obj, initS, initFrom, AV.cells, AS.upd, Option.bind_some, Option.bind_none, Option.map_some, Option.map_none, Option.getD_none, Option.getD_some, ↓reduceIte, Nat.reduceEqDiff, Nat.reduceAdd, Nat.reduceMul, Nat.reduceSub, List.nil_append, List.append_nil, List.cons_append, List.map_cons, List.map_nil, true_and, and_true, AS.fin, pick, dedup, List.mem_cons, List.not_mem_nil, or_false, false_or, List.size_toArray, List.length_cons, List.length_nil, loadAV, List.drop_zero, List.drop_succ_cons, List.take_zero, List.take_succ_cons, List.getElem?_cons_zero, List.getElem?_cons_succ, List.head?_cons, List.mapM_cons, List.mapM_nil, Option.bind_eq_bind, Option.pure_def, deeps3, deep3, deep2, deep1, deeps, deeps2, mixInts, AV.plain, mk, mkD, DCon.lift, DCon.runC, ren3, ren2, ren1, numb, List.zipIdx_nil, List.zipIdx_cons, List.all_nil, List.all_cons, Nat.reduceLeDiff, List.range, List.range.loop, Ty.sz, beq_self_eq_true, Bool.and_self, and_self, Ty.ofC, AO.isDead, Nat.reduceLT, if_true, Nat.zero_add, Nat.add_zero, ite_true, Nat.le_refl, Bool.false_eq_true, reduceCtorEq, if_false, ite_false, binAV, AO.ren, AV.isCell, fillAV, List.set_cons_zero, List.set_cons_succ, Ty.cells, Ty.flat, Ty.dflt, List.getD_cons_zero, List.getD_cons_succ, Int.reduceToNat, Int.reduceSub, Int.reduceAdd, Int.reduceMul, Int.reduceNeg, forall_eq_or_imp, forall_eq, gdL, id_eq, Nat.lt_irrefl, srcOf, List.replicate_succ, List.replicate_zero, dite_true, List.isEmpty_cons, Option.isSome_some, List.length_append, List.length_singleton, bne_self_eq_false, Bool.not_true, Bool.not_false, conF, asArgs, asArg, asTy, asI1, asB1, asS1, asL1, canons, canon, Fork.true_, Fork.false_, bne, Bool.not_not, List.length_map, pickO, AS.over, TI.bl, bne_iff_ne, AS.over2, without, keys, List.mem_singleton, memOp2, memOp3, absorb, abInt, abBool, abStr, abList, gones, Int.toNat_natCast, List.take_length, subE, List.nodup_cons, List.nodup_nil, not_false_eq_true, Nat.sub_self, conR, asG, asI, asBo, asStr, asIs, asBs, asE4, asI2, asI3, asLL, asLLL, Th_int, Th_Sint, Th_bool, Th_implDealing, Th_implEqualLog, Th_implGroup, Th_implSDealing, Th_lawsGroup, Th_string, G_sAlike, c_l1In, c_sDealing, hL])
    | ((with_reducible refine ens_step ?_ (fun hE => ?_)); · ((repeat' with_reducible apply And.intro) <;> first | with_reducible assumption | omega | exact True.intro | with_reducible rfl | (show ByteArray.size _ ≤ _; decide) | (simp; done) | (simp; omega) | rfl))
    | ((with_reducible refine And.intro ?_ ?_); · ((repeat' with_reducible apply And.intro) <;> first | with_reducible assumption | omega | exact True.intro | with_reducible rfl | (show ByteArray.size _ ≤ _; decide) | (simp; done) | (simp; omega) | rfl))
    | ((with_reducible refine Fork.intro (fun h' => ?_) (fun h' => ?_)) <;> (try simp only [Bool.not_eq_true', Bool.not_eq_false', bne] at h') <;> (replace hL := And.intro h' hL) <;> (try simp only [decide_eq_true_eq, decide_eq_false_iff_not, beq_iff_eq, beq_eq_false_iff_ne, ne_eq] at h') <;> (try (have hin := inr_t h')) <;> (try (have hbb := any_yes (f := nalB p q l) (getD_in (([] : List Int), ([] : List Int)) (xs := l) (k := k) (by omega)) (nalB_1 hL.1); replace hL := And.intro hbb hL)) <;> (try (have hbb := any_yes (f := nalB p q l) (getD_in (([] : List Int), ([] : List Int)) (xs := l) (k := k) (by omega)) (nalB_2 hL.1); replace hL := And.intro hbb hL)) <;> (try (have hbb := any_yes (f := nalB p q l) (getD_in (([] : List Int), ([] : List Int)) (xs := l) (k := k) (by omega)) (nalB_3 hL.1); replace hL := And.intro hbb hL)) <;> (try (have hke : k = l.length := (by omega); subst hke; rw [List.take_length] at hk2; replace hL := And.intro hk2 hL)))
    | (with_reducible refine AWp.skipS ?_)
    | ((with_reducible refine AWp.condT rfl ?_))
    | ((with_reducible refine AWp.condF rfl ?_))
    | (with_reducible refine AWp.condB rfl ?_)
    | (with_reducible refine AWp.ret ?_)
    | (with_reducible refine seqQ_n ?_)
    | (with_reducible refine seqQ_ret ?_)
    | (with_reducible refine blkQ_ret ?_)
    | (with_reducible refine blkQ_n ?_)
    | (with_reducible refine seqQ_exit ?_)
    | (with_reducible refine blkQ_exit ?_)
    | (with_reducible refine blkQ_other (by decide) ?_)
    | (with_reducible refine AWp.block ?_)
    | (with_reducible refine AWp.exit ?_)
    | (with_reducible refine AWp.skip ?_)
    | ((with_reducible refine loop_id ?_); refine AWp.loopAt 4 rfl ?_; refine AWp.loopO [4, 6, 13, 14, 15, 16, 17, 18, 19, 20, 21, 22, 23, 24, 25, 26, 27, 28, 29, 30, 31, 32, 33, 34, 35, 36, 37, 38, 39, 40, 41, 42, 43] (fun k => [(13, .lit (.int .i64 (k : Nat)))]) (fun k => []) (fun k => k ≤ l.length ∧ (l.take k).any (nalB p q l) = false) (fun k => l.length - k) 0 (by exact ⟨by omega, rfl⟩) (by refine Sub.auto (by first | exact frok0 | assumption) rfl rfl ?_ ?_ <;> (try simp only [subE, AS.over2, without, keys, look, List.cons_append, List.nil_append, List.append_nil, List.mem_cons, List.not_mem_nil, or_false, or_true, true_or, false_or, Nat.reduceEqDiff, ↓reduceIte, Option.some.injEq, AV.lit.injEq, Value.int.injEq, Value.bool.injEq, AV.own.injEq, AO.row.injEq, AO.box.injEq, List.cons.injEq, AV.agg.injEq, AV.sl.injEq, true_and, and_true, and_self, heq_eq_eq, List.length_nil, List.length_cons, List.map_nil, List.take_zero, Int.natCast_add, Int.cast_ofNat_Int, Int.natCast_zero, List.length_append, List.length_map, List.length_take, Nat.zero_add]) <;> (simp)) (fun k hk_4 L4 hLoop4 => ?_); obtain ⟨hk1, hk2⟩ := hk_4)
    | ((with_reducible refine seqQ_f ?_); refine hLoop4 (k + 1) _ (by exact ⟨by omega, any_next hk2 (([] : List Int), ([] : List Int)) (by omega) (nalB_0 hL.2.2.1 hL.2.1 hL.1)⟩) (by omega) ?_; (refine Sub.auto (by first | exact frok0 | assumption) rfl rfl ?_ ?_ <;> (try simp only [subE, AS.over2, without, keys, look, List.cons_append, List.nil_append, List.append_nil, List.mem_cons, List.not_mem_nil, or_false, or_true, true_or, false_or, Nat.reduceEqDiff, ↓reduceIte, Option.some.injEq, AV.lit.injEq, Value.int.injEq, Value.bool.injEq, AV.own.injEq, AO.row.injEq, AO.box.injEq, List.cons.injEq, AV.agg.injEq, AV.sl.injEq, true_and, and_true, and_self, heq_eq_eq, List.length_nil, List.length_cons, List.map_nil, List.take_zero, Int.natCast_add, Int.cast_ofNat_Int, Int.natCast_zero, List.length_append, List.length_map, List.length_take, Nat.zero_add]) <;> (omega)))
    | ((with_reducible refine EndsAt_id ?_); (try subst_vars); (try simp only [alkB, hL, List.length_cons, List.length_nil, Nat.zero_add, Nat.reduceAdd, Bool.and_true, Bool.and_false, Bool.true_and, Bool.false_and, Bool.and_self, ↓reduceIte, Bool.false_eq_true, Bool.not_true, Bool.not_false, bne]); refine EndsAt.done [] (by first | exact .inr rfl | exact .inl rfl) rfl rfl ?_ ?_ <;> first | decide | (repeat' (first | rfl | apply And.intro | trivial)))
    | (with_reducible refine AWp.seq ?_)⟩
noncomputable def c_kgInput : Con0 := conF [(.pair .int (.pair .int .int)), (.list (.pair (.list .int) (.list .int)))] fun (⟨⟨p, q, g⟩, l, _⟩ : (Int × Int × Int) × (List (List Int × List Int)) × Unit) => (l.length ≤ 9223372036854775806, .lit (.bool (kgB p q g l)), [])
noncomputable def G_kgInput : List (FuncId × Con) := [(91, mk c_sGroup), (135, mk c_sAlike)]
theorem G_kgInput_ok : ∀ f C, (f, C) ∈ G_kgInput → C.ok Try.prog f := by
  intro f C h
  simp only [G_kgInput, List.mem_cons, Prod.mk.injEq, List.not_mem_nil, or_false] at h
  rcases h with ⟨rfl, rfl⟩ | ⟨rfl, rfl⟩
  · exact ok_sGroup
  · exact ok_sAlike
set_option maxRecDepth 100000 in
set_option maxHeartbeats 4000000 in
theorem ok_kgInput : (mk c_kgInput).ok Try.prog 82 := okF (Θ := Th) (N := 22) (rs := [.tmp 4]) Th_ok Try.func82 (by kernel_rfl) rfl Try.results82 (by decide) (by kernel_rfl) fun (⟨⟨p, q, g⟩, l, _⟩ : (Int × Int × Int) × (List (List Int × List Int)) × Unit) => ⟨rfl, rfl, Nat.le_of_ble_eq_true rfl, fun hc w0 => by
  have hL := dmy_eq
  try dsimp only at hc
  try dsimp only
  have hbl := hc
  refine AWp.body rfl ?_
  repeat' first
    | ((with_reducible refine hK _ _ ?_); clear hK K)
    | ((with_reducible refine hK _ _ (by kernel_rfl) ?_); clear hK K)
    | ((with_reducible refine AWp.pS Th_ok G_kgInput_ok [0, 1, 2, 4] (by decide) ?_); intro K hK)
    | ((with_reducible refine AWp.dS (by kernel_rfl) Th_ok G_kgInput_ok [0, 1, 2, 4] ?_); intro K hK)
    | ((with_reducible refine AWp.pE Th_ok G_kgInput_ok [0, 1, 2, 4] (by decide) ?_); intro K hK)
    | ((with_reducible refine AWp.dE (by kernel_rfl) Th_ok G_kgInput_ok [0, 1, 2, 4] ?_); intro K hK)
    | ((first | with_reducible refine runF_id ?_ | with_reducible refine stepF_id ?_); simp (maxSteps := 2000000) only [runF, stepF, forkOf, gdOf, List.toList_toArray, stepOp, look, opAV, pureOp, callOp, memOp, AS.ev, AS.get, AS.obj, initS, initFrom, AV.cells, AS.upd, Option.bind_some, Option.bind_none, Option.map_some, Option.map_none, Option.getD_none, Option.getD_some, ↓reduceIte, Nat.reduceEqDiff, Nat.reduceAdd, Nat.reduceMul, Nat.reduceSub, List.nil_append, List.append_nil, List.cons_append, List.map_cons, List.map_nil, true_and, and_true, AS.fin, pick, dedup, List.mem_cons, List.not_mem_nil, or_false, false_or, List.size_toArray, List.length_cons, List.length_nil, loadAV, List.drop_zero, List.drop_succ_cons, List.take_zero, List.take_succ_cons, List.getElem?_cons_zero, List.getElem?_cons_succ, List.head?_cons, List.mapM_cons, List.mapM_nil, Option.bind_eq_bind, Option.pure_def, deeps3, deep3, deep2, deep1, deeps, deeps2, mixInts, AV.plain, mk, mkD, DCon.lift, DCon.runC, ren3, ren2, ren1, numb, List.zipIdx_nil, List.zipIdx_cons, List.all_nil, List.all_cons, Nat.reduceLeDiff, List.range, List.range.loop, Ty.sz, beq_self_eq_true, Bool.and_self, and_self, Ty.ofC, AO.isDead, Nat.reduceLT, if_true, Nat.zero_add, Nat.add_zero, ite_true, Nat.le_refl, Bool.false_eq_true, reduceCtorEq, if_false, ite_false, binAV, AO.ren, AV.isCell, fillAV, List.set_cons_zero, List.set_cons_succ, Ty.cells, Ty.flat, Ty.dflt, List.getD_cons_zero, List.getD_cons_succ, Int.reduceToNat, Int.reduceSub, Int.reduceAdd, Int.reduceMul, Int.reduceNeg, forall_eq_or_imp, forall_eq, gdL, id_eq, Nat.lt_irrefl, srcOf, List.replicate_succ, List.replicate_zero, dite_true, List.isEmpty_cons, Option.isSome_some, List.length_append, List.length_singleton, bne_self_eq_false, Bool.not_true, Bool.not_false, conF, asArgs, asArg, asTy, asI1, asB1, asS1, asL1, canons, canon, Fork.true_, Fork.false_, bne, Bool.not_not, List.length_map, pickO, AS.over, TI.bl, bne_iff_ne, AS.over2, without, keys, List.mem_singleton, memOp2, memOp3, absorb, abInt, abBool, abStr, abList, gones, Int.toNat_natCast, List.take_length, subE, List.nodup_cons, List.nodup_nil, not_false_eq_true, Nat.sub_self, conR, asG, asI, asBo, asStr, asIs, asBs, asE4, asI2, asI3, asLL, asLLL, Th_int, Th_Sint, Th_implDealing, Th_implGroup, Th_implSDealing, Th_string, G_kgInput, c_sGroup, c_sAlike, hL])
    | ((with_reducible refine ens_step ?_ (fun hE => ?_)); · ((repeat' with_reducible apply And.intro) <;> first | with_reducible assumption | omega | exact True.intro | with_reducible rfl | (show ByteArray.size _ ≤ _; decide) | (simp; done) | (simp; omega) | rfl))
    | ((with_reducible refine And.intro ?_ ?_); · ((repeat' with_reducible apply And.intro) <;> first | with_reducible assumption | omega | exact True.intro | with_reducible rfl | (show ByteArray.size _ ≤ _; decide) | (simp; done) | (simp; omega) | rfl))
    | ((with_reducible refine Fork.intro (fun h' => ?_) (fun h' => ?_)) <;> (try simp only [Bool.not_eq_true', Bool.not_eq_false', bne] at h') <;> (replace hL := And.intro h' hL) <;> (try simp only [decide_eq_true_eq, decide_eq_false_iff_not, beq_iff_eq, beq_eq_false_iff_ne, ne_eq] at h') <;> (try (have hsh := shB_of h'; obtain ⟨hgd, hq7⟩ := hsh; have hG := M.goodB_of hgd; have hq2 := hG.q2; have hqp := hG.qp; have hp3 := hG.p3; have hpM := hG.pM)) <;> (try (have hal := (alk_iff.1 h').1)))
    | (with_reducible refine AWp.skipS ?_)
    | ((with_reducible refine AWp.condT rfl ?_))
    | ((with_reducible refine AWp.condF rfl ?_))
    | (with_reducible refine AWp.condB rfl ?_)
    | (with_reducible refine AWp.ret ?_)
    | (with_reducible refine seqQ_n ?_)
    | (with_reducible refine seqQ_ret ?_)
    | (with_reducible refine blkQ_ret ?_)
    | (with_reducible refine blkQ_n ?_)
    | (with_reducible refine seqQ_exit ?_)
    | (with_reducible refine blkQ_exit ?_)
    | (with_reducible refine blkQ_other (by decide) ?_)
    | (with_reducible refine AWp.block ?_)
    | (with_reducible refine AWp.exit ?_)
    | (with_reducible refine AWp.skip ?_)
    | ((with_reducible refine EndsAt_id ?_); (try subst_vars); (try simp only [kgB, hL, List.length_cons, List.length_nil, Nat.zero_add, Nat.reduceAdd, Bool.and_true, Bool.and_false, Bool.true_and, Bool.false_and, Bool.and_self, ↓reduceIte, Bool.false_eq_true, Bool.not_true, Bool.not_false, bne]); refine EndsAt.done [] (by first | exact .inr rfl | exact .inl rfl) rfl rfl ?_ ?_ <;> first | decide | (repeat' (first | rfl | apply And.intro | trivial)))
    | (with_reducible refine AWp.seq ?_)⟩
noncomputable def c_IsKeyGenInputI : Con0 := conF [(.pair .int (.pair .int .int)), (.list (.pair (.list .int) (.list .int)))] fun (⟨⟨p, q, g⟩, l, _⟩ : (Int × Int × Int) × (List (List Int × List Int)) × Unit) => (l.length ≤ 9223372036854775806, .lit (.bool (kgB p q g l)), [])
noncomputable def G_IsKeyGenInputI : List (FuncId × Con) := [(97, mk c_isSharing), (137, mk c_hasDealings), (138, mk c_nkgC)]
theorem G_IsKeyGenInputI_ok : ∀ f C, (f, C) ∈ G_IsKeyGenInputI → C.ok Try.prog f := by
  intro f C h
  simp only [G_IsKeyGenInputI, List.mem_cons, Prod.mk.injEq, List.not_mem_nil, or_false] at h
  rcases h with ⟨rfl, rfl⟩ | ⟨rfl, rfl⟩ | ⟨rfl, rfl⟩
  · exact ok_isSharing
  · exact ok_hasDealings
  · exact ok_nkgC
set_option maxRecDepth 100000 in
set_option maxHeartbeats 4000000 in
theorem ok_IsKeyGenInputI : (mk c_IsKeyGenInputI).ok Try.prog 84 := okF (Θ := Th) (N := 23) (rs := [.tmp 4]) Th_ok Try.func84 (by kernel_rfl) rfl Try.results84 (by decide) (by kernel_rfl) fun (⟨⟨p, q, g⟩, l, _⟩ : (Int × Int × Int) × (List (List Int × List Int)) × Unit) => ⟨rfl, rfl, Nat.le_of_ble_eq_true rfl, fun hc w0 => by
  have hL := dmy_eq
  try dsimp only at hc
  try dsimp only
  have hbl := hc
  refine AWp.body rfl ?_
  repeat' first
    | ((with_reducible refine hK _ _ ?_); clear hK K)
    | ((with_reducible refine hK _ _ (by kernel_rfl) ?_); clear hK K)
    | ((with_reducible refine AWp.pS Th_ok G_IsKeyGenInputI_ok [0, 1, 2, 3, 4] (by decide) ?_); intro K hK)
    | ((with_reducible refine AWp.dS (by kernel_rfl) Th_ok G_IsKeyGenInputI_ok [0, 1, 2, 3, 4] ?_); intro K hK)
    | ((with_reducible refine AWp.pE Th_ok G_IsKeyGenInputI_ok [0, 1, 2, 3, 4] (by decide) ?_); intro K hK)
    | ((with_reducible refine AWp.dE (by kernel_rfl) Th_ok G_IsKeyGenInputI_ok [0, 1, 2, 3, 4] ?_); intro K hK)
    | ((first | with_reducible refine runF_id ?_ | with_reducible refine stepF_id ?_); simp (maxSteps := 2000000) only [runF, stepF, forkOf, gdOf, List.toList_toArray, stepOp, look, opAV, pureOp, callOp, memOp, AS.ev, AS.get, AS.obj, initS, initFrom, AV.cells, AS.upd, Option.bind_some, Option.bind_none, Option.map_some, Option.map_none, Option.getD_none, Option.getD_some, ↓reduceIte, Nat.reduceEqDiff, Nat.reduceAdd, Nat.reduceMul, Nat.reduceSub, List.nil_append, List.append_nil, List.cons_append, List.map_cons, List.map_nil, true_and, and_true, AS.fin, pick, dedup, List.mem_cons, List.not_mem_nil, or_false, false_or, List.size_toArray, List.length_cons, List.length_nil, loadAV, List.drop_zero, List.drop_succ_cons, List.take_zero, List.take_succ_cons, List.getElem?_cons_zero, List.getElem?_cons_succ, List.head?_cons, List.mapM_cons, List.mapM_nil, Option.bind_eq_bind, Option.pure_def, deeps3, deep3, deep2, deep1, deeps, deeps2, mixInts, AV.plain, mk, mkD, DCon.lift, DCon.runC, ren3, ren2, ren1, numb, List.zipIdx_nil, List.zipIdx_cons, List.all_nil, List.all_cons, Nat.reduceLeDiff, List.range, List.range.loop, Ty.sz, beq_self_eq_true, Bool.and_self, and_self, Ty.ofC, AO.isDead, Nat.reduceLT, if_true, Nat.zero_add, Nat.add_zero, ite_true, Nat.le_refl, Bool.false_eq_true, reduceCtorEq, if_false, ite_false, binAV, AO.ren, AV.isCell, fillAV, List.set_cons_zero, List.set_cons_succ, Ty.cells, Ty.flat, Ty.dflt, List.getD_cons_zero, List.getD_cons_succ, Int.reduceToNat, Int.reduceSub, Int.reduceAdd, Int.reduceMul, Int.reduceNeg, forall_eq_or_imp, forall_eq, gdL, id_eq, Nat.lt_irrefl, srcOf, List.replicate_succ, List.replicate_zero, dite_true, List.isEmpty_cons, Option.isSome_some, List.length_append, List.length_singleton, bne_self_eq_false, Bool.not_true, Bool.not_false, conF, asArgs, asArg, asTy, asI1, asB1, asS1, asL1, canons, canon, Fork.true_, Fork.false_, bne, Bool.not_not, List.length_map, pickO, AS.over, TI.bl, bne_iff_ne, AS.over2, without, keys, List.mem_singleton, memOp2, memOp3, absorb, abInt, abBool, abStr, abList, gones, Int.toNat_natCast, List.take_length, subE, List.nodup_cons, List.nodup_nil, not_false_eq_true, Nat.sub_self, conR, asG, asI, asBo, asStr, asIs, asBs, asE4, asI2, asI3, asLL, asLLL, Th_int, Th_bool, Th_implGroup, Th_implSDealing, Th_string, G_IsKeyGenInputI, c_isSharing, c_hasDealings, c_nkgC, m_nkgC, hL])
    | ((with_reducible refine ens_step ?_ (fun hE => ?_)); · ((repeat' with_reducible apply And.intro) <;> first | with_reducible assumption | omega | exact True.intro | with_reducible rfl | (show ByteArray.size _ ≤ _; decide) | (simp; done) | (simp; omega) | rfl))
    | ((with_reducible refine And.intro ?_ ?_); · ((repeat' with_reducible apply And.intro) <;> first | with_reducible assumption | omega | exact True.intro | with_reducible rfl | (show ByteArray.size _ ≤ _; decide) | (simp; done) | (simp; omega) | rfl))
    | ((with_reducible refine Fork.intro (fun h' => ?_) (fun h' => ?_)) <;> (try simp only [Bool.not_eq_true', Bool.not_eq_false', bne] at h') <;> (replace hL := And.intro h' hL) <;> (try simp only [decide_eq_true_eq, decide_eq_false_iff_not, beq_iff_eq, beq_eq_false_iff_ne, ne_eq] at h') <;> (try (have hsh := shB_of h'; obtain ⟨hgd, hq7⟩ := hsh; have hG := M.goodB_of hgd; have hq2 := hG.q2; have hqp := hG.qp; have hp3 := hG.p3; have hpM := hG.pM)))
    | (with_reducible refine AWp.skipS ?_)
    | ((with_reducible refine AWp.condT rfl ?_))
    | ((with_reducible refine AWp.condF rfl ?_))
    | (with_reducible refine AWp.condB rfl ?_)
    | (with_reducible refine AWp.ret ?_)
    | (with_reducible refine seqQ_n ?_)
    | (with_reducible refine seqQ_ret ?_)
    | (with_reducible refine blkQ_ret ?_)
    | (with_reducible refine blkQ_n ?_)
    | (with_reducible refine seqQ_exit ?_)
    | (with_reducible refine blkQ_exit ?_)
    | (with_reducible refine blkQ_other (by decide) ?_)
    | (with_reducible refine AWp.block ?_)
    | (with_reducible refine AWp.exit ?_)
    | (with_reducible refine AWp.skip ?_)
    | ((with_reducible refine EndsAt_id ?_); (try subst_vars); (try simp only [kg_eq, hL, List.length_cons, List.length_nil, Nat.zero_add, Nat.reduceAdd, Bool.and_true, Bool.and_false, Bool.true_and, Bool.false_and, Bool.and_self, ↓reduceIte, Bool.false_eq_true, Bool.not_true, Bool.not_false, bne]); refine EndsAt.done [] (by first | exact .inr rfl | exact .inl rfl) rfl rfl ?_ ?_ <;> first | decide | (repeat' (first | rfl | apply And.intro | trivial)))
    | (with_reducible refine AWp.seq ?_)⟩
/-- a row that takes in another one -/
def setZ (f : Int → Int → Int) : List Int → Nat → List Int → List Int
  | [], _, out => out
  | c :: l, k, out => setZ f l (k + 1) (out.set k (f (out.getD k 0) c))
theorem setZ_at {f : Int → Int → Int} {xs out : List Int} {k : Nat} (h : k < xs.length) : setZ f (xs.drop k) k out = setZ f (xs.drop (k + 1)) (k + 1) (out.set k (f (out.getD k 0) (xs.getD k 0))) := by rw [drop_at 0 h]; rfl
theorem setZ_end {f : Int → Int → Int} {xs out : List Int} {k : Nat} : setZ f (xs.drop xs.length) k out = out := by simp [setZ]
theorem setZ_ok {f : Int → Int → Int} {B : Int} (hf : ∀ a b, 0 ≤ f a b ∧ f a b < B) : ∀ (xs : List Int) (k : Nat) (out : List Int), (∀ x ∈ out, 0 ≤ x ∧ x < B) → (setZ f xs k out).length = out.length ∧ ∀ x ∈ setZ f xs k out, 0 ≤ x ∧ x < B
  | [], _, out, h => ⟨rfl, h⟩
  | c :: l, k, out, h => by
    have := setZ_ok hf l (k + 1) _ (set_bd (j := k) h (hf (out.getD k 0) c))
    rw [List.length_set] at this
    exact this
def addM (p a b : Int) : Int := M.mulL p [a, b]
def addS (q a b : Int) : Int := (a + b) % q
def sumF (p q : Int) (s d : List Int × List Int) : List Int × List Int := (setZ (addM p) d.1 0 s.1, setZ (addS q) d.2 0 s.2)
def sumFo (p q : Int) : List (List Int × List Int) → List Int × List Int → List Int × List Int
  | [], s => s
  | d :: l, s => sumFo p q l (sumF p q s d)
def sumD (p q : Int) (l : List (List Int × List Int)) : List Int × List Int := sumFo p q (l.drop 1) (l.getD 0 ([], []))
theorem sumFo_at {p q : Int} {l : List (List Int × List Int)} {s : List Int × List Int} {k : Nat} (h : k < l.length) : sumFo p q (l.drop k) s = sumFo p q (l.drop (k + 1)) (sumF p q s (l.getD k ([], []))) := by rw [drop_at ([], []) h]; rfl
theorem sumFo_end {p q : Int} {l : List (List Int × List Int)} {s : List Int × List Int} : sumFo p q (l.drop l.length) s = s := by simp [sumFo]
theorem addM_bd {p : Int} (hp : 3 ≤ p) (a b : Int) : 0 ≤ addM p a b ∧ addM p a b < p := mulL_bd' hp
theorem addS_bd {q : Int} (hq : 2 ≤ q) (a b : Int) : 0 ≤ addS q a b ∧ addS q a b < q := emod_bd (by omega)
/-- dealings of one shape -/
structure DsOK (p q : Int) (l : List (List Int × List Int)) : Prop where
  len : 1 ≤ l.length ∧ l.length ≤ 7
  each : ∀ d ∈ l, dlB p q d.1 d.2 = true ∧ d.1.length = (l.getD 0 ([], [])).1.length ∧ d.2.length = (l.getD 0 ([], [])).2.length
theorem alk_use {p q : Int} {l : List (List Int × List Int)} (h : alkB p q l = true) : DsOK p q l := ⟨(alk_iff.1 h).1, (alk_iff.1 h).2⟩
theorem DsOK.at {p q : Int} {l : List (List Int × List Int)} (h : DsOK p q l) {k : Nat} (hk : k < l.length) : (∀ x ∈ (l.getD k ([], [])).1, 0 ≤ x ∧ x < p) ∧ (∀ x ∈ (l.getD k ([], [])).2, 0 ≤ x ∧ x < q) ∧ (l.getD k ([], [])).1.length = (l.getD 0 ([], [])).1.length ∧ (l.getD k ([], [])).2.length = (l.getD 0 ([], [])).2.length := by
  obtain ⟨h1, h2, h3⟩ := h.each _ (getD_in ([], []) hk)
  obtain ⟨_, h5, _, h7⟩ := dlB_use h1
  exact ⟨h5, h7, h2, h3⟩
theorem DsOK.dim {p q : Int} {l : List (List Int × List Int)} (h : DsOK p q l) : (1 ≤ (l.getD 0 ([], [])).1.length ∧ (l.getD 0 ([], [])).1.length ≤ 7) ∧ (l.getD 0 ([], [])).1.length ≤ (l.getD 0 ([], [])).2.length ∧ (l.getD 0 ([], [])).2.length ≤ 7 := by
  obtain ⟨h1, _, _⟩ := h.each _ (getD_in ([], []) (by have := h.len; omega) : l.getD 0 ([], []) ∈ l)
  obtain ⟨h4, _, h6, _⟩ := dlB_use h1
  exact ⟨h4, h6⟩
theorem sumFo_ok {p q : Int} (hp : 3 ≤ p) (hq : 2 ≤ q) : ∀ (l : List (List Int × List Int)) (s : List Int × List Int), ((∀ x ∈ s.1, 0 ≤ x ∧ x < p) ∧ ∀ x ∈ s.2, 0 ≤ x ∧ x < q) → ((sumFo p q l s).1.length = s.1.length ∧ (sumFo p q l s).2.length = s.2.length) ∧ (∀ x ∈ (sumFo p q l s).1, 0 ≤ x ∧ x < p) ∧ ∀ x ∈ (sumFo p q l s).2, 0 ≤ x ∧ x < q
  | [], s, h => ⟨⟨rfl, rfl⟩, h⟩
  | d :: l, s, h => by
    have h1 := setZ_ok (addM_bd hp) d.1 0 s.1 h.1
    have h2 := setZ_ok (addS_bd hq) d.2 0 s.2 h.2
    have := sumFo_ok hp hq l (sumF p q s d) ⟨h1.2, h2.2⟩
    simp only [sumF, h1.1, h2.1] at this
    exact this
theorem sumD_ok {p q : Int} {l : List (List Int × List Int)} (hp : 3 ≤ p) (hq : 2 ≤ q) (h : DsOK p q l) : ((sumD p q l).1.length = (l.getD 0 ([], [])).1.length ∧ (sumD p q l).2.length = (l.getD 0 ([], [])).2.length) ∧ (∀ x ∈ (sumD p q l).1, 0 ≤ x ∧ x < p) ∧ ∀ x ∈ (sumD p q l).2, 0 ≤ x ∧ x < q := by
  have := h.at (k := 0) (by have := h.len; omega)
  exact sumFo_ok hp hq _ _ ⟨this.1, this.2.1⟩
noncomputable def c_Clone : Con0 := conF [(.list .int)] fun (⟨xs, _⟩ : (List Int) × Unit) => (0 < xs.length ∧ xs.length ≤ 1000000, .own 0 xs.length, [.row 3 .int xs])
noncomputable def G_Clone : List (FuncId × Con) := []
theorem G_Clone_ok : ∀ f C, (f, C) ∈ G_Clone → C.ok Try.prog f := by
  intro f C h
  simp only [G_Clone, List.mem_cons, Prod.mk.injEq, List.not_mem_nil, or_false] at h
set_option maxRecDepth 100000 in
set_option maxHeartbeats 4000000 in
theorem ok_Clone : (mk c_Clone).ok Try.prog 104 := okF (Θ := Th) (N := 8) (rs := [.tmp 2]) Th_ok Try.func104 (by kernel_rfl) rfl Try.results104 (by decide) (by kernel_rfl) fun (⟨xs, _⟩ : (List Int) × Unit) => ⟨rfl, rfl, Nat.le_of_ble_eq_true rfl, fun hc w0 => by
  have hL := dmy_eq
  try dsimp only at hc
  try dsimp only
  obtain ⟨hx0, hxl⟩ := hc
  refine AWp.body rfl ?_
  repeat' first
    | ((with_reducible refine hK _ _ ?_); clear hK K)
    | ((with_reducible refine hK _ _ (by kernel_rfl) ?_); clear hK K)
    | ((with_reducible refine AWp.pS Th_ok G_Clone_ok [0, 2, 4] (by decide) ?_); intro K hK)
    | ((with_reducible refine AWp.dS (by kernel_rfl) Th_ok G_Clone_ok [0, 2, 4] ?_); intro K hK)
    | ((with_reducible refine AWp.pE Th_ok G_Clone_ok [0, 2, 4] (by decide) ?_); intro K hK)
    | ((with_reducible refine AWp.dE (by kernel_rfl) Th_ok G_Clone_ok [0, 2, 4] ?_); intro K hK)
    | ((first | with_reducible refine runF_id ?_ | with_reducible refine stepF_id ?_); simp (maxSteps := 2000000) only [runF, stepF, forkOf, gdOf, List.toList_toArray, stepOp, look, opAV, pureOp, callOp, memOp, AS.ev, AS.get, AS.obj, initS, initFrom, AV.cells, AS.upd, Option.bind_some, Option.bind_none, Option.map_some, Option.map_none, Option.getD_none, Option.getD_some, ↓reduceIte, Nat.reduceEqDiff, Nat.reduceAdd, Nat.reduceMul, Nat.reduceSub, List.nil_append, List.append_nil, List.cons_append, List.map_cons, List.map_nil, true_and, and_true, AS.fin, pick, dedup, List.mem_cons, List.not_mem_nil, or_false, false_or, List.size_toArray, List.length_cons, List.length_nil, loadAV, List.drop_zero, List.drop_succ_cons, List.take_zero, List.take_succ_cons, List.getElem?_cons_zero, List.getElem?_cons_succ, List.head?_cons, List.mapM_cons, List.mapM_nil, Option.bind_eq_bind, Option.pure_def, deeps3, deep3, deep2, deep1, deeps, deeps2, mixInts, AV.plain, mk, mkD, DCon.lift, DCon.runC, ren3, ren2, ren1, numb, List.zipIdx_nil, List.zipIdx_cons, List.all_nil, List.all_cons, Nat.reduceLeDiff, List.range, List.range.loop, Ty.sz, beq_self_eq_true, Bool.and_self, and_self, Ty.ofC, AO.isDead, Nat.reduceLT, if_true, Nat.zero_add, Nat.add_zero, ite_true, Nat.le_refl, Bool.false_eq_true, reduceCtorEq, if_false, ite_false, binAV, AO.ren, AV.isCell, fillAV, List.set_cons_zero, List.set_cons_succ, Ty.cells, Ty.flat, Ty.dflt, List.getD_cons_zero, List.getD_cons_succ, Int.reduceToNat, Int.reduceSub, Int.reduceAdd, Int.reduceMul, Int.reduceNeg, forall_eq_or_imp, forall_eq, gdL, id_eq, Nat.lt_irrefl, srcOf, List.replicate_succ, List.replicate_zero, dite_true, List.isEmpty_cons, Option.isSome_some, List.length_append, List.length_singleton, bne_self_eq_false, Bool.not_true, Bool.not_false, conF, asArgs, asArg, asTy, asI1, asB1, asS1, asL1, canons, canon, Fork.true_, Fork.false_, bne, Bool.not_not, List.length_map, pickO, AS.over, TI.bl, bne_iff_ne, AS.over2, without, keys, List.mem_singleton, memOp2, memOp3, absorb, abInt, abBool, abStr, abList, gones, Int.toNat_natCast, List.take_length, subE, List.nodup_cons, List.nodup_nil, not_false_eq_true, Nat.sub_self, conR, asG, asI, asBo, asStr, asIs, asBs, asE4, asI2, asI3, asLL, asLLL, Th_int, Th_Sint, G_Clone, hL])
    | ((with_reducible refine ens_step ?_ (fun hE => ?_)); · ((repeat' with_reducible apply And.intro) <;> first | with_reducible assumption | omega | exact True.intro | with_reducible rfl | (show ByteArray.size _ ≤ _; decide) | (simp; done) | (simp; omega) | rfl))
    | ((with_reducible refine And.intro ?_ ?_); · ((repeat' with_reducible apply And.intro) <;> first | with_reducible assumption | omega | exact True.intro | with_reducible rfl | (show ByteArray.size _ ≤ _; decide) | (simp; done) | (simp; omega) | rfl))
    | ((with_reducible refine Fork.intro (fun h' => ?_) (fun h' => ?_)) <;> (try simp only [Bool.not_eq_true', Bool.not_eq_false', bne] at h') <;> (replace hL := And.intro h' hL) <;> (try simp only [decide_eq_true_eq, decide_eq_false_iff_not, beq_iff_eq, beq_eq_false_iff_ne, ne_eq] at h'))
    | (with_reducible refine AWp.skipS ?_)
    | ((with_reducible refine AWp.condT rfl ?_))
    | ((with_reducible refine AWp.condF rfl ?_))
    | (with_reducible refine AWp.condB rfl ?_)
    | (with_reducible refine AWp.ret ?_)
    | (with_reducible refine seqQ_n ?_)
    | (with_reducible refine seqQ_ret ?_)
    | (with_reducible refine blkQ_ret ?_)
    | (with_reducible refine blkQ_n ?_)
    | (with_reducible refine seqQ_exit ?_)
    | (with_reducible refine blkQ_exit ?_)
    | (with_reducible refine blkQ_other (by decide) ?_)
    | (with_reducible refine AWp.block ?_)
    | (with_reducible refine AWp.exit ?_)
    | (with_reducible refine AWp.skip ?_)
    | ((with_reducible refine EndsAt_id ?_); (try subst_vars); refine EndsAt.done [_] (by first | exact .inr rfl | exact .inl rfl) rfl rfl ?_ ?_ <;> first | decide | (repeat' (first | rfl | apply And.intro | trivial)))
    | (with_reducible refine AWp.seq ?_)⟩
noncomputable def c_l1Own : Con0 := conF [(.list .int)] fun (⟨xs, _⟩ : (List Int) × Unit) => (xs.length ≤ 1000000, .own 0 xs.length, [.row 3 .int xs])
noncomputable def G_l1Own : List (FuncId × Con) := []
theorem G_l1Own_ok : ∀ f C, (f, C) ∈ G_l1Own → C.ok Try.prog f := by
  intro f C h
  simp only [G_l1Own, List.mem_cons, Prod.mk.injEq, List.not_mem_nil, or_false] at h
set_option maxRecDepth 100000 in
set_option maxHeartbeats 4000000 in
theorem ok_l1Own : (mk c_l1Own).ok Try.prog 182 := okF (Θ := Th) (N := 6) (rs := [.tmp 2]) Th_ok Try.func182 (by kernel_rfl) rfl Try.results182 (by decide) (by kernel_rfl) fun (⟨xs, _⟩ : (List Int) × Unit) => ⟨rfl, rfl, Nat.le_of_ble_eq_true rfl, fun hc w0 => by
  have hL := dmy_eq
  try dsimp only at hc
  try dsimp only
  have hxl := hc
  refine AWp.body rfl ?_
  repeat' first
    | ((with_reducible refine hK _ _ ?_); clear hK K)
    | ((with_reducible refine hK _ _ (by kernel_rfl) ?_); clear hK K)
    | ((with_reducible refine AWp.pS Th_ok G_l1Own_ok [0, 2] (by decide) ?_); intro K hK)
    | ((with_reducible refine AWp.dS (by kernel_rfl) Th_ok G_l1Own_ok [0, 2] ?_); intro K hK)
    | ((with_reducible refine AWp.pE Th_ok G_l1Own_ok [0, 2] (by decide) ?_); intro K hK)
    | ((with_reducible refine AWp.dE (by kernel_rfl) Th_ok G_l1Own_ok [0, 2] ?_); intro K hK)
    | ((first | with_reducible refine runF_id ?_ | with_reducible refine stepF_id ?_); simp (maxSteps := 2000000) only [runF, stepF, forkOf, gdOf, List.toList_toArray, stepOp, look, opAV, pureOp, callOp, memOp, AS.ev, AS.get, AS.obj, initS, initFrom, AV.cells, AS.upd, Option.bind_some, Option.bind_none, Option.map_some, Option.map_none, Option.getD_none, Option.getD_some, ↓reduceIte, Nat.reduceEqDiff, Nat.reduceAdd, Nat.reduceMul, Nat.reduceSub, List.nil_append, List.append_nil, List.cons_append, List.map_cons, List.map_nil, true_and, and_true, AS.fin, pick, dedup, List.mem_cons, List.not_mem_nil, or_false, false_or, List.size_toArray, List.length_cons, List.length_nil, loadAV, List.drop_zero, List.drop_succ_cons, List.take_zero, List.take_succ_cons, List.getElem?_cons_zero, List.getElem?_cons_succ, List.head?_cons, List.mapM_cons, List.mapM_nil, Option.bind_eq_bind, Option.pure_def, deeps3, deep3, deep2, deep1, deeps, deeps2, mixInts, AV.plain, mk, mkD, DCon.lift, DCon.runC, ren3, ren2, ren1, numb, List.zipIdx_nil, List.zipIdx_cons, List.all_nil, List.all_cons, Nat.reduceLeDiff, List.range, List.range.loop, Ty.sz, beq_self_eq_true, Bool.and_self, and_self, Ty.ofC, AO.isDead, Nat.reduceLT, if_true, Nat.zero_add, Nat.add_zero, ite_true, Nat.le_refl, Bool.false_eq_true, reduceCtorEq, if_false, ite_false, binAV, AO.ren, AV.isCell, fillAV, List.set_cons_zero, List.set_cons_succ, Ty.cells, Ty.flat, Ty.dflt, List.getD_cons_zero, List.getD_cons_succ, Int.reduceToNat, Int.reduceSub, Int.reduceAdd, Int.reduceMul, Int.reduceNeg, forall_eq_or_imp, forall_eq, gdL, id_eq, Nat.lt_irrefl, srcOf, List.replicate_succ, List.replicate_zero, dite_true, List.isEmpty_cons, Option.isSome_some, List.length_append, List.length_singleton, bne_self_eq_false, Bool.not_true, Bool.not_false, conF, asArgs, asArg, asTy, asI1, asB1, asS1, asL1, canons, canon, Fork.true_, Fork.false_, bne, Bool.not_not, List.length_map, pickO, AS.over, TI.bl, bne_iff_ne, AS.over2, without, keys, List.mem_singleton, memOp2, memOp3, absorb, abInt, abBool, abStr, abList, gones, Int.toNat_natCast, List.take_length, subE, List.nodup_cons, List.nodup_nil, not_false_eq_true, Nat.sub_self, conR, asG, asI, asBo, asStr, asIs, asBs, asE4, asI2, asI3, asLL, asLLL, Th_int, Th_Sint, Th_bool, G_l1Own, hL])
    | ((with_reducible refine ens_step ?_ (fun hE => ?_)); · ((repeat' with_reducible apply And.intro) <;> first | with_reducible assumption | omega | exact True.intro | with_reducible rfl | (show ByteArray.size _ ≤ _; decide) | (simp; done) | (simp; omega) | rfl))
    | ((with_reducible refine And.intro ?_ ?_); · ((repeat' with_reducible apply And.intro) <;> first | with_reducible assumption | omega | exact True.intro | with_reducible rfl | (show ByteArray.size _ ≤ _; decide) | (simp; done) | (simp; omega) | rfl))
    | ((with_reducible refine Fork.intro (fun h' => ?_) (fun h' => ?_)) <;> (try simp only [Bool.not_eq_true', Bool.not_eq_false', bne] at h') <;> (replace hL := And.intro h' hL) <;> (try simp only [decide_eq_true_eq, decide_eq_false_iff_not, beq_iff_eq, beq_eq_false_iff_ne, ne_eq] at h'))
    | (with_reducible refine AWp.skipS ?_)
    | ((with_reducible refine AWp.condT rfl ?_))
    | ((with_reducible refine AWp.condF rfl ?_))
    | (with_reducible refine AWp.condB rfl ?_)
    | (with_reducible refine AWp.ret ?_)
    | (with_reducible refine seqQ_n ?_)
    | (with_reducible refine seqQ_ret ?_)
    | (with_reducible refine blkQ_ret ?_)
    | (with_reducible refine blkQ_n ?_)
    | (with_reducible refine seqQ_exit ?_)
    | (with_reducible refine blkQ_exit ?_)
    | (with_reducible refine blkQ_other (by decide) ?_)
    | (with_reducible refine AWp.block ?_)
    | (with_reducible refine AWp.exit ?_)
    | (with_reducible refine AWp.skip ?_)
    | ((with_reducible refine EndsAt_id ?_); (try subst_vars); refine EndsAt.done [_] (by first | exact .inr rfl | exact .inl rfl) rfl rfl ?_ ?_ <;> first | decide | (repeat' (first | rfl | apply And.intro | trivial)))
    | (with_reducible refine AWp.seq ?_)⟩
theorem drop1_getD {α : Type} {l : List α} {k : Nat} (d : α) : (l.drop 1).getD k d = l.getD (k + 1) d := by simp [List.getD_eq_getElem?_getD, Nat.add_comm]
noncomputable def c_sumOf : Con0 := conF [(.pair .int (.pair .int .int)), (.list (.pair (.list .int) (.list .int)))] fun (⟨⟨p, q, g⟩, l, _⟩ : (Int × Int × Int) × (List (List Int × List Int)) × Unit) => (M.Grp p q g ∧ DsOK p q l, .agg [.own 0 (sumD p q l).1.length, .own 1 (sumD p q l).2.length], [.row 3 .int (sumD p q l).1, .row 3 .int (sumD p q l).2])
noncomputable def G_sumOf : List (FuncId × Con) := [(104, mk c_Clone), (131, mk c_mul), (100, mk c_exp)]
theorem G_sumOf_ok : ∀ f C, (f, C) ∈ G_sumOf → C.ok Try.prog f := by
  intro f C h
  simp only [G_sumOf, List.mem_cons, Prod.mk.injEq, List.not_mem_nil, or_false] at h
  rcases h with ⟨rfl, rfl⟩ | ⟨rfl, rfl⟩ | ⟨rfl, rfl⟩
  · exact ok_Clone
  · exact ok_mul
  · exact ok_exp
set_option maxRecDepth 100000 in
set_option maxHeartbeats 4000000 in
theorem ok_sumOf : (mk c_sumOf).ok Try.prog 105 := okF (Θ := Th) (N := 76) (rs := [.cell 4 81]) Th_ok Try.func105 (by kernel_rfl) rfl Try.results105 (by decide) (by kernel_rfl) fun (⟨⟨p, q, g⟩, l, _⟩ : (Int × Int × Int) × (List (List Int × List Int)) × Unit) => ⟨rfl, rfl, Nat.le_of_ble_eq_true rfl, fun hc w0 => by
  have hL := dmy_eq
  try dsimp only at hc
  try dsimp only
  obtain ⟨hG, hD⟩ := hc
  have hq2 := hG.q2
  have hqp := hG.qp
  have hp3 := hG.p3
  have hpM := hG.pM
  have hgb : 0 ≤ g ∧ g < p := ⟨by have := hG.g2; omega, hG.gp⟩
  have hll := hD.len
  have hdm := hD.dim
  have hsd := sumD_ok hp3 hq2 hD
  obtain ⟨⟨hsd1, hsd2⟩, _⟩ := hsd
  have hd00 := hD.at (k := 0) (by omega)
  obtain ⟨hd01, hd02, _, _⟩ := hd00
  refine AWp.body rfl ?_
  repeat' first
    | ((with_reducible refine hK _ _ ?_); clear hK K)
    | ((with_reducible refine hK _ _ (by kernel_rfl) ?_); clear hK K)
    | ((with_reducible refine AWp.pS Th_ok G_sumOf_ok [0, 1, 2, 4, 5, 7, 8, 9, 10, 11, 24, 25, 26, 27, 31, 32, 33, 34, 53, 54, 55, 56] (by decide) ?_); intro K hK)
    | ((with_reducible refine AWp.dS (by kernel_rfl) Th_ok G_sumOf_ok [0, 1, 2, 4, 5, 7, 8, 9, 10, 11, 24, 25, 26, 27, 31, 32, 33, 34, 53, 54, 55, 56] ?_); intro K hK)
    | ((with_reducible refine AWp.pE Th_ok G_sumOf_ok [0, 1, 2, 4, 5, 7, 8, 9, 10, 11, 24, 25, 26, 27, 31, 32, 33, 34, 53, 54, 55, 56] (by decide) ?_); intro K hK)
    | ((with_reducible refine AWp.dE (by kernel_rfl) Th_ok G_sumOf_ok [0, 1, 2, 4, 5, 7, 8, 9, 10, 11, 24, 25, 26, 27, 31, 32, 33, 34, 53, 54, 55, 56] ?_); intro K hK)
    | ((first | with_reducible refine runF_id ?_ | with_reducible refine stepF_id ?_); simp (maxSteps := 2000000) only [runF, stepF, forkOf, gdOf, List.toList_toArray, stepOp, look, opAV, pureOp, callOp, memOp, AS.ev, AS.get, AS.obj, initS, initFrom, AV.cells, AS.upd, Option.bind_some, Option.bind_none, Option.map_some, Option.map_none, Option.getD_none, Option.getD_some, ↓reduceIte, Nat.reduceEqDiff, Nat.reduceAdd, Nat.reduceMul, Nat.reduceSub, List.nil_append, List.append_nil, List.cons_append, List.map_cons, List.map_nil, true_and, and_true, AS.fin, pick, dedup, List.mem_cons, List.not_mem_nil, or_false, false_or, List.size_toArray, List.length_cons, List.length_nil, loadAV, List.drop_zero, List.drop_succ_cons, List.take_zero, List.take_succ_cons, List.getElem?_cons_zero, List.getElem?_cons_succ, List.head?_cons, List.mapM_cons, List.mapM_nil, Option.bind_eq_bind, Option.pure_def, deeps3, deep3, deep2, deep1, deeps, deeps2, mixInts, AV.plain, mk, mkD, DCon.lift, DCon.runC, ren3, ren2, ren1, numb, List.zipIdx_nil, List.zipIdx_cons, List.all_nil, List.all_cons, Nat.reduceLeDiff, List.range, List.range.loop, Ty.sz, beq_self_eq_true, Bool.and_self, and_self, Ty.ofC, AO.isDead, Nat.reduceLT, if_true, Nat.zero_add, Nat.add_zero, ite_true, Nat.le_refl, Bool.false_eq_true, reduceCtorEq, if_false, ite_false, binAV, AO.ren, AV.isCell, fillAV, List.set_cons_zero, List.set_cons_succ, Ty.cells, Ty.flat, Ty.dflt, List.getD_cons_zero, List.getD_cons_succ, Int.reduceToNat, Int.reduceSub, Int.reduceAdd, Int.reduceMul, Int.reduceNeg, forall_eq_or_imp, forall_eq, gdL, id_eq, Nat.lt_irrefl, srcOf, List.replicate_succ, List.replicate_zero, dite_true, List.isEmpty_cons, Option.isSome_some, List.length_append, List.length_singleton, bne_self_eq_false, Bool.not_true, Bool.not_false, conF, asArgs, asArg, asTy, asI1, asB1, asS1, asL1, canons, canon, Fork.true_, Fork.false_, bne, Bool.not_not, List.length_map, pickO, AS.over, TI.bl, bne_iff_ne, AS.over2, without, keys, List.mem_singleton, memOp2, memOp3, absorb, abInt, abBool, abStr, abList, gones, Int.toNat_natCast, List.take_length, subE, List.nodup_cons, List.nodup_nil, not_false_eq_true, Nat.sub_self, conR, asG, asI, asBo, asStr, asIs, asBs, asE4, asI2, asI3, asLL, asLLL, Th_int, Th_Sint, Th_bool, Th_implDealing, Th_implEqualLog, Th_implGroup, Th_implSDealing, Th_lawsDealing, Th_lawsGroup, Th_lawsSDealing, Th_string, G_sumOf, c_Clone, c_mul, c_exp, List.length_drop, hL])
    | ((with_reducible refine ens_step ?_ (fun hE => ?_)); · ((repeat' with_reducible apply And.intro) <;> first | with_reducible assumption | omega | exact True.intro | with_reducible rfl | (show ByteArray.size _ ≤ _; decide) | (simp; done) | (simp; omega) | rfl))
    | ((with_reducible refine And.intro ?_ ?_); · ((repeat' with_reducible apply And.intro) <;> first | with_reducible assumption | omega | exact True.intro | with_reducible rfl | (show ByteArray.size _ ≤ _; decide) | (simp; done) | (simp; omega) | rfl))
    | ((with_reducible refine Fork.intro (fun h' => ?_) (fun h' => ?_)) <;> (try simp only [Bool.not_eq_true', Bool.not_eq_false', bne] at h') <;> (replace hL := And.intro h' hL) <;> (try simp only [decide_eq_true_eq, decide_eq_false_iff_not, beq_iff_eq, beq_eq_false_iff_ne, ne_eq] at h') <;> (try (have hdk := hD.at (k := k + 1) (by omega); obtain ⟨hd1, hd2, hd3, hd4⟩ := hdk; have hgk := drop1_getD (l := l) (k := k) ([], []); rw [sumFo_at (by omega)] at hz2; have hm1 := setZ_ok (addM_bd hp3) (l.getD (k + 1) ([], [])).1 0 s1 hz4; have hm2 := setZ_ok (addS_bd hq2) (l.getD (k + 1) ([], [])).2 0 s2 hz5; replace hL := And.intro hgk hL)) <;> (try (rw [setZ_at (by omega)] at hy2; have hoj := getD_bd' hy4 (k := j) (by omega); have hcj := getD_bd' hd1 (k := j) (by omega))) <;> (try (rw [setZ_at (by omega)] at hx2; have hoj := getD_bd' hx4 (k := j) (by omega); have hcj := getD_bd' hd2 (k := j) (by omega))) <;> (try (have hje : j = (l.getD (k + 1) ([], [])).1.length := (by omega); subst hje; rw [setZ_end] at hy2; subst hy2)) <;> (try (have hje : j = (l.getD (k + 1) ([], [])).2.length := (by omega); subst hje; rw [setZ_end] at hx2; subst hx2)) <;> (try (have hke : k + 1 = l.length := (by omega); rw [hke, sumFo_end] at hz2; have hs1 := congrArg Prod.fst hz2; have hs2 := congrArg Prod.snd hz2; dsimp only at hs1 hs2; subst hs1 hs2)))
    | (with_reducible refine AWp.skipS ?_)
    | ((with_reducible refine AWp.condT rfl ?_))
    | ((with_reducible refine AWp.condF rfl ?_))
    | (with_reducible refine AWp.condB rfl ?_)
    | (with_reducible refine AWp.ret ?_)
    | (with_reducible refine seqQ_n ?_)
    | (with_reducible refine seqQ_ret ?_)
    | (with_reducible refine blkQ_ret ?_)
    | (with_reducible refine blkQ_n ?_)
    | (with_reducible refine seqQ_exit ?_)
    | (with_reducible refine blkQ_exit ?_)
    | (with_reducible refine blkQ_other (by decide) ?_)
    | (with_reducible refine AWp.block ?_)
    | (with_reducible refine AWp.exit ?_)
    | (with_reducible refine AWp.skip ?_)
    | ((with_reducible refine loop_id ?_); refine AWp.loopAt 3 rfl ?_; refine AWp.loopO [7, 8, 9, 10, 11, 26, 27, 28, 29, 30, 31, 32, 33, 34, 35, 36, 37, 38, 39, 40, 41, 42, 43, 44, 45, 46, 47, 48, 49, 50, 51, 52, 53, 54, 55, 56, 57, 58, 59, 60, 61, 62, 63, 64, 65, 66, 67, 68, 69, 70, 71, 72, 73, 74] (fun z : Nat × List Int × List Int => [(26, .lit (.int .i64 (z.1 : Nat)))]) (fun z => [(48, .row 3 .int z.2.1), (88, .row 3 .int z.2.2)]) (fun z => z.1 ≤ l.length - 1 ∧ sumFo p q (l.drop (z.1 + 1)) (z.2.1, z.2.2) = sumD p q l ∧ (z.2.1.length = (l.getD 0 ([], [])).1.length ∧ z.2.2.length = (l.getD 0 ([], [])).2.length) ∧ (∀ x ∈ z.2.1, 0 ≤ x ∧ x < p) ∧ ∀ x ∈ z.2.2, 0 ≤ x ∧ x < q) (fun z => l.length - z.1) (0, (l.getD 0 ([], [])).1, (l.getD 0 ([], [])).2) (by (try dsimp only); exact ⟨by omega, rfl, ⟨rfl, rfl⟩, hd01, hd02⟩) (by (refine Sub.auto (by first | exact frok0 | assumption) rfl rfl ?_ ?_ <;> (try simp only [subE, AS.over2, without, keys, look, List.cons_append, List.nil_append, List.append_nil, List.mem_cons, List.not_mem_nil, or_false, or_true, true_or, false_or, Nat.reduceEqDiff, ↓reduceIte, Option.some.injEq, AV.lit.injEq, Value.int.injEq, Value.bool.injEq, AV.own.injEq, AO.row.injEq, AO.box.injEq, List.cons.injEq, AV.agg.injEq, AV.sl.injEq, true_and, and_true, and_self, heq_eq_eq, List.length_nil, List.length_cons, List.map_nil, List.take_zero, Int.natCast_add, Int.cast_ofNat_Int, Int.natCast_zero, List.length_append, List.length_map, List.length_take, Nat.zero_add]) <;> (simp))) (fun z hz3 L3 hLoop3 => ?_); obtain ⟨k, s1, s2⟩ := z; (try dsimp only at hz3); obtain ⟨hz1, hz2, hz3, hz4, hz5⟩ := hz3)
    | ((with_reducible refine seqQ_f ?_); refine hLoop3 (k + 1, setZ (addM p) (l.getD (k + 1) ([], [])).1 0 s1, setZ (addS q) (l.getD (k + 1) ([], [])).2 0 s2) _ (by (try dsimp only); exact ⟨by omega, hz2, ⟨hm1.1.trans hz3.1, hm2.1.trans hz3.2⟩, hm1.2, hm2.2⟩) (by (try dsimp only); omega) ?_; ((refine Sub.auto (by first | exact frok0 | assumption) rfl rfl ?_ ?_ <;> (try simp only [subE, AS.over2, without, keys, look, List.cons_append, List.nil_append, List.append_nil, List.mem_cons, List.not_mem_nil, or_false, or_true, true_or, false_or, Nat.reduceEqDiff, ↓reduceIte, Option.some.injEq, AV.lit.injEq, Value.int.injEq, Value.bool.injEq, AV.own.injEq, AO.row.injEq, AO.box.injEq, List.cons.injEq, AV.agg.injEq, AV.sl.injEq, true_and, and_true, and_self, heq_eq_eq, List.length_nil, List.length_cons, List.map_nil, List.take_zero, Int.natCast_add, Int.cast_ofNat_Int, Int.natCast_zero, List.length_append, List.length_map, List.length_take, Nat.zero_add]) <;> ((repeat' apply And.intro) <;> first | rfl | omega | (simp; done)))))
    | ((with_reducible refine loop_id ?_); refine AWp.loopAt 6 rfl ?_; refine AWp.loopO [8, 9, 33, 34, 35, 36, 37, 38, 39, 40, 41, 42, 43, 44, 45, 46, 47, 48, 49, 50, 51] (fun z : Nat × List Int => [(33, .lit (.int .i64 (z.1 : Nat)))]) (fun z => [(48, .row 3 .int z.2)]) (fun z => z.1 ≤ (l.getD (k + 1) ([], [])).1.length ∧ setZ (addM p) ((l.getD (k + 1) ([], [])).1.drop z.1) z.1 z.2 = setZ (addM p) (l.getD (k + 1) ([], [])).1 0 s1 ∧ z.2.length = s1.length ∧ ∀ x ∈ z.2, 0 ≤ x ∧ x < p) (fun z => (l.getD (k + 1) ([], [])).1.length - z.1) (0, s1) (by (try dsimp only); exact ⟨by omega, rfl, rfl, hz4⟩) (by (refine Sub.auto (by first | exact frok0 | assumption) rfl rfl ?_ ?_ <;> (try simp only [subE, AS.over2, without, keys, look, List.cons_append, List.nil_append, List.append_nil, List.mem_cons, List.not_mem_nil, or_false, or_true, true_or, false_or, Nat.reduceEqDiff, ↓reduceIte, Option.some.injEq, AV.lit.injEq, Value.int.injEq, Value.bool.injEq, AV.own.injEq, AO.row.injEq, AO.box.injEq, List.cons.injEq, AV.agg.injEq, AV.sl.injEq, true_and, and_true, and_self, heq_eq_eq, List.length_nil, List.length_cons, List.map_nil, List.take_zero, Int.natCast_add, Int.cast_ofNat_Int, Int.natCast_zero, List.length_append, List.length_map, List.length_take, Nat.zero_add]) <;> (simp))) (fun z hz6 L6 hLoop6 => ?_); obtain ⟨j, o⟩ := z; (try dsimp only at hz6); obtain ⟨hy1, hy2, hy3, hy4⟩ := hz6)
    | ((with_reducible refine seqQ_f ?_); refine hLoop6 (j + 1, o.set j (addM p (o.getD j 0) ((l.getD (k + 1) ([], [])).1.getD j 0))) _ (by (try dsimp only); exact ⟨by omega, hy2, by rw [List.length_set]; exact hy3, set_bd hy4 (addM_bd hp3 _ _)⟩) (by (try dsimp only); omega) ?_; ((refine Sub.auto (by first | exact frok0 | assumption) rfl rfl ?_ ?_ <;> (try simp only [subE, AS.over2, without, keys, look, List.cons_append, List.nil_append, List.append_nil, List.mem_cons, List.not_mem_nil, or_false, or_true, true_or, false_or, Nat.reduceEqDiff, ↓reduceIte, Option.some.injEq, AV.lit.injEq, Value.int.injEq, Value.bool.injEq, AV.own.injEq, AO.row.injEq, AO.box.injEq, List.cons.injEq, AV.agg.injEq, AV.sl.injEq, true_and, and_true, and_self, heq_eq_eq, List.length_nil, List.length_cons, List.map_nil, List.take_zero, Int.natCast_add, Int.cast_ofNat_Int, Int.natCast_zero, List.length_append, List.length_map, List.length_take, Nat.zero_add]) <;> ((repeat' apply And.intro) <;> first | rfl | omega | (simp; done)))))
    | ((with_reducible refine loop_id ?_); refine AWp.loopAt 11 rfl ?_; refine AWp.loopO [10, 11, 55, 56, 57, 58, 59, 60, 61, 62, 63, 64, 65, 66, 67, 68, 69, 70, 71, 72, 73] (fun z : Nat × List Int => [(55, .lit (.int .i64 (z.1 : Nat)))]) (fun z => [(88, .row 3 .int z.2)]) (fun z => z.1 ≤ (l.getD (k + 1) ([], [])).2.length ∧ setZ (addS q) ((l.getD (k + 1) ([], [])).2.drop z.1) z.1 z.2 = setZ (addS q) (l.getD (k + 1) ([], [])).2 0 s2 ∧ z.2.length = s2.length ∧ ∀ x ∈ z.2, 0 ≤ x ∧ x < q) (fun z => (l.getD (k + 1) ([], [])).2.length - z.1) (0, s2) (by (try dsimp only); exact ⟨by omega, rfl, rfl, hz5⟩) (by (refine Sub.auto (by first | exact frok0 | assumption) rfl rfl ?_ ?_ <;> (try simp only [subE, AS.over2, without, keys, look, List.cons_append, List.nil_append, List.append_nil, List.mem_cons, List.not_mem_nil, or_false, or_true, true_or, false_or, Nat.reduceEqDiff, ↓reduceIte, Option.some.injEq, AV.lit.injEq, Value.int.injEq, Value.bool.injEq, AV.own.injEq, AO.row.injEq, AO.box.injEq, List.cons.injEq, AV.agg.injEq, AV.sl.injEq, true_and, and_true, and_self, heq_eq_eq, List.length_nil, List.length_cons, List.map_nil, List.take_zero, Int.natCast_add, Int.cast_ofNat_Int, Int.natCast_zero, List.length_append, List.length_map, List.length_take, Nat.zero_add]) <;> (simp))) (fun z hz11 L11 hLoop11 => ?_); obtain ⟨j, o⟩ := z; (try dsimp only at hz11); obtain ⟨hx1, hx2, hx3, hx4⟩ := hz11)
    | ((with_reducible refine seqQ_f ?_); refine hLoop11 (j + 1, o.set j (addS q (o.getD j 0) ((l.getD (k + 1) ([], [])).2.getD j 0))) _ (by (try dsimp only); exact ⟨by omega, hx2, by rw [List.length_set]; exact hx3, set_bd hx4 (addS_bd hq2 _ _)⟩) (by (try dsimp only); omega) ?_; ((refine Sub.auto (by first | exact frok0 | assumption) rfl rfl ?_ ?_ <;> (try simp only [subE, AS.over2, without, keys, look, List.cons_append, List.nil_append, List.append_nil, List.mem_cons, List.not_mem_nil, or_false, or_true, true_or, false_or, Nat.reduceEqDiff, ↓reduceIte, Option.some.injEq, AV.lit.injEq, Value.int.injEq, Value.bool.injEq, AV.own.injEq, AO.row.injEq, AO.box.injEq, List.cons.injEq, AV.agg.injEq, AV.sl.injEq, true_and, and_true, and_self, heq_eq_eq, List.length_nil, List.length_cons, List.map_nil, List.take_zero, Int.natCast_add, Int.cast_ofNat_Int, Int.natCast_zero, List.length_append, List.length_map, List.length_take, Nat.zero_add]) <;> ((repeat' apply And.intro) <;> first | rfl | omega | (simp; done)))))
    | ((with_reducible refine EndsAt_id ?_); (try subst_vars); (try simp only [hsd1, hsd2, hL, List.length_cons, List.length_nil, Nat.zero_add, Nat.reduceAdd, Bool.and_true, Bool.and_false, Bool.true_and, Bool.false_and, Bool.and_self, ↓reduceIte, Bool.false_eq_true, Bool.not_true, Bool.not_false, bne]); refine EndsAt.done [_, _] (by first | exact .inr rfl | exact .inl rfl) rfl rfl ?_ ?_ <;> first | decide | (repeat' (first | rfl | apply And.intro | trivial)))
    | (with_reducible refine AWp.seq ?_)⟩
noncomputable def c_sSum : Con0 := conF [(.pair .int (.pair .int .int)), (.list (.pair (.list .int) (.list .int)))] fun (⟨⟨p, q, g⟩, l, _⟩ : (Int × Int × Int) × (List (List Int × List Int)) × Unit) => (M.Grp p q g ∧ DsOK p q l, .agg [.own 0 (sumD p q l).1.length, .own 1 (sumD p q l).2.length], [.row 3 .int (sumD p q l).1, .row 3 .int (sumD p q l).2])
noncomputable def G_sSum : List (FuncId × Con) := [(182, mk c_l1Own), (175, mk c_gMul)]
theorem G_sSum_ok : ∀ f C, (f, C) ∈ G_sSum → C.ok Try.prog f := by
  intro f C h
  simp only [G_sSum, List.mem_cons, Prod.mk.injEq, List.not_mem_nil, or_false] at h
  rcases h with ⟨rfl, rfl⟩ | ⟨rfl, rfl⟩
  · exact ok_l1Own
  · exact ok_gMul
set_option maxRecDepth 100000 in
set_option maxHeartbeats 4000000 in
theorem ok_sSum : (mk c_sSum).ok Try.prog 155 := okF (Θ := Th) (N := 77) (rs := [.cell 4 81]) Th_ok Try.func155 (by kernel_rfl) rfl Try.results155 (by decide) (by kernel_rfl) fun (⟨⟨p, q, g⟩, l, _⟩ : (Int × Int × Int) × (List (List Int × List Int)) × Unit) => ⟨rfl, rfl, Nat.le_of_ble_eq_true rfl, fun hc w0 => by
  have hL := dmy_eq
  try dsimp only at hc
  try dsimp only
  obtain ⟨hG, hD⟩ := hc
  have hq2 := hG.q2
  have hqp := hG.qp
  have hp3 := hG.p3
  have hpM := hG.pM
  have hgb : 0 ≤ g ∧ g < p := ⟨by have := hG.g2; omega, hG.gp⟩
  have hll := hD.len
  have hdm := hD.dim
  have hsd := sumD_ok hp3 hq2 hD
  obtain ⟨⟨hsd1, hsd2⟩, _⟩ := hsd
  have hd00 := hD.at (k := 0) (by omega)
  obtain ⟨hd01, hd02, _, _⟩ := hd00
  refine AWp.body rfl ?_
  repeat' first
    | ((with_reducible refine hK _ _ ?_); clear hK K)
    | ((with_reducible refine hK _ _ (by kernel_rfl) ?_); clear hK K)
    | ((with_reducible refine AWp.pS Th_ok G_sSum_ok [0, 1, 2, 4, 5, 7, 8, 9, 10, 11, 24, 25, 26, 27, 31, 32, 33, 34, 53, 54, 55, 56] (by decide) ?_); intro K hK)
    | ((with_reducible refine AWp.dS (by kernel_rfl) Th_ok G_sSum_ok [0, 1, 2, 4, 5, 7, 8, 9, 10, 11, 24, 25, 26, 27, 31, 32, 33, 34, 53, 54, 55, 56] ?_); intro K hK)
    | ((with_reducible refine AWp.pE Th_ok G_sSum_ok [0, 1, 2, 4, 5, 7, 8, 9, 10, 11, 24, 25, 26, 27, 31, 32, 33, 34, 53, 54, 55, 56] (by decide) ?_); intro K hK)
    | ((with_reducible refine AWp.dE (by kernel_rfl) Th_ok G_sSum_ok [0, 1, 2, 4, 5, 7, 8, 9, 10, 11, 24, 25, 26, 27, 31, 32, 33, 34, 53, 54, 55, 56] ?_); intro K hK)
    | ((first | with_reducible refine runF_id ?_ | with_reducible refine stepF_id ?_); simp (maxSteps := 2000000) only [runF, stepF, forkOf, gdOf, List.toList_toArray, stepOp, look, opAV, pureOp, callOp, memOp, AS.ev, AS.get, AS.obj, initS, initFrom, AV.cells, AS.upd, Option.bind_some, Option.bind_none, Option.map_some, Option.map_none, Option.getD_none, Option.getD_some, ↓reduceIte, Nat.reduceEqDiff, Nat.reduceAdd, Nat.reduceMul, Nat.reduceSub, List.nil_append, List.append_nil, List.cons_append, List.map_cons, List.map_nil, true_and, and_true, AS.fin, pick, dedup, List.mem_cons, List.not_mem_nil, or_false, false_or, List.size_toArray, List.length_cons, List.length_nil, loadAV, List.drop_zero, List.drop_succ_cons, List.take_zero, List.take_succ_cons, List.getElem?_cons_zero, List.getElem?_cons_succ, List.head?_cons, List.mapM_cons, List.mapM_nil, Option.bind_eq_bind, Option.pure_def, deeps3, deep3, deep2, deep1, deeps, deeps2, mixInts, AV.plain, mk, mkD, DCon.lift, DCon.runC, ren3, ren2, ren1, numb, List.zipIdx_nil, List.zipIdx_cons, List.all_nil, List.all_cons, Nat.reduceLeDiff, List.range, List.range.loop, Ty.sz, beq_self_eq_true, Bool.and_self, and_self, Ty.ofC, AO.isDead, Nat.reduceLT, if_true, Nat.zero_add, Nat.add_zero, ite_true, Nat.le_refl, Bool.false_eq_true, reduceCtorEq, if_false, ite_false, binAV, AO.ren, AV.isCell, fillAV, List.set_cons_zero, List.set_cons_succ, Ty.cells, Ty.flat, Ty.dflt, List.getD_cons_zero, List.getD_cons_succ, Int.reduceToNat, Int.reduceSub, Int.reduceAdd, Int.reduceMul, Int.reduceNeg, forall_eq_or_imp, forall_eq, gdL, id_eq, Nat.lt_irrefl, srcOf, List.replicate_succ, List.replicate_zero, dite_true, List.isEmpty_cons, Option.isSome_some, List.length_append, List.length_singleton, bne_self_eq_false, Bool.not_true, Bool.not_false, conF, asArgs, asArg, asTy, asI1, asB1, asS1, asL1, canons, canon, Fork.true_, Fork.false_, bne, Bool.not_not, List.length_map, pickO, AS.over, TI.bl, bne_iff_ne, AS.over2, without, keys, List.mem_singleton, memOp2, memOp3, absorb, abInt, abBool, abStr, abList, gones, Int.toNat_natCast, List.take_length, subE, List.nodup_cons, List.nodup_nil, not_false_eq_true, Nat.sub_self, conR, asG, asI, asBo, asStr, asIs, asBs, asE4, asI2, asI3, asLL, asLLL, Th_int, Th_Sint, Th_bool, Th_implDealing, Th_implEqualLog, Th_implGroup, Th_implSDealing, Th_lawsDealing, Th_lawsGroup, Th_lawsSDealing, Th_string, G_sSum, c_l1Own, c_gMul, List.length_drop, hL])
    | ((with_reducible refine ens_step ?_ (fun hE => ?_)); · ((repeat' with_reducible apply And.intro) <;> first | with_reducible assumption | omega | exact True.intro | with_reducible rfl | (show ByteArray.size _ ≤ _; decide) | (simp; done) | (simp; omega) | rfl))
    | ((with_reducible refine And.intro ?_ ?_); · ((repeat' with_reducible apply And.intro) <;> first | with_reducible assumption | omega | exact True.intro | with_reducible rfl | (show ByteArray.size _ ≤ _; decide) | (simp; done) | (simp; omega) | rfl))
    | ((with_reducible refine Fork.intro (fun h' => ?_) (fun h' => ?_)) <;> (try simp only [Bool.not_eq_true', Bool.not_eq_false', bne] at h') <;> (replace hL := And.intro h' hL) <;> (try simp only [decide_eq_true_eq, decide_eq_false_iff_not, beq_iff_eq, beq_eq_false_iff_ne, ne_eq] at h') <;> (try (have hdk := hD.at (k := k + 1) (by omega); obtain ⟨hd1, hd2, hd3, hd4⟩ := hdk; have hgk := drop1_getD (l := l) (k := k) ([], []); rw [sumFo_at (by omega)] at hz2; have hm1 := setZ_ok (addM_bd hp3) (l.getD (k + 1) ([], [])).1 0 s1 hz4; have hm2 := setZ_ok (addS_bd hq2) (l.getD (k + 1) ([], [])).2 0 s2 hz5; replace hL := And.intro hgk hL)) <;> (try (rw [setZ_at (by omega)] at hy2; have hoj := getD_bd' hy4 (k := j) (by omega); have hcj := getD_bd' hd1 (k := j) (by omega))) <;> (try (rw [setZ_at (by omega)] at hx2; have hoj := getD_bd' hx4 (k := j) (by omega); have hcj := getD_bd' hd2 (k := j) (by omega))) <;> (try (have hje : j = (l.getD (k + 1) ([], [])).1.length := (by omega); subst hje; rw [setZ_end] at hy2; subst hy2)) <;> (try (have hje : j = (l.getD (k + 1) ([], [])).2.length := (by omega); subst hje; rw [setZ_end] at hx2; subst hx2)) <;> (try (have hke : k + 1 = l.length := (by omega); rw [hke, sumFo_end] at hz2; have hs1 := congrArg Prod.fst hz2; have hs2 := congrArg Prod.snd hz2; dsimp only at hs1 hs2; subst hs1 hs2)))
    | (with_reducible refine AWp.skipS ?_)
    | ((with_reducible refine AWp.condT rfl ?_))
    | ((with_reducible refine AWp.condF rfl ?_))
    | (with_reducible refine AWp.condB rfl ?_)
    | (with_reducible refine AWp.ret ?_)
    | (with_reducible refine seqQ_n ?_)
    | (with_reducible refine seqQ_ret ?_)
    | (with_reducible refine blkQ_ret ?_)
    | (with_reducible refine blkQ_n ?_)
    | (with_reducible refine seqQ_exit ?_)
    | (with_reducible refine blkQ_exit ?_)
    | (with_reducible refine blkQ_other (by decide) ?_)
    | (with_reducible refine AWp.block ?_)
    | (with_reducible refine AWp.exit ?_)
    | (with_reducible refine AWp.skip ?_)
    | ((with_reducible refine loop_id ?_); refine AWp.loopAt 3 rfl ?_; refine AWp.loopO [7, 8, 9, 10, 11, 26, 27, 28, 29, 30, 31, 32, 33, 34, 35, 36, 37, 38, 39, 40, 41, 42, 43, 44, 45, 46, 47, 48, 49, 50, 51, 52, 53, 54, 55, 56, 57, 58, 59, 60, 61, 62, 63, 64, 65, 66, 67, 68, 69, 70, 71, 72, 73, 74, 75] (fun z : Nat × List Int × List Int => [(26, .lit (.int .i64 (z.1 : Nat)))]) (fun z => [(48, .row 3 .int z.2.1), (88, .row 3 .int z.2.2)]) (fun z => z.1 ≤ l.length - 1 ∧ sumFo p q (l.drop (z.1 + 1)) (z.2.1, z.2.2) = sumD p q l ∧ (z.2.1.length = (l.getD 0 ([], [])).1.length ∧ z.2.2.length = (l.getD 0 ([], [])).2.length) ∧ (∀ x ∈ z.2.1, 0 ≤ x ∧ x < p) ∧ ∀ x ∈ z.2.2, 0 ≤ x ∧ x < q) (fun z => l.length - z.1) (0, (l.getD 0 ([], [])).1, (l.getD 0 ([], [])).2) (by (try dsimp only); exact ⟨by omega, rfl, ⟨rfl, rfl⟩, hd01, hd02⟩) (by (refine Sub.auto (by first | exact frok0 | assumption) rfl rfl ?_ ?_ <;> (try simp only [subE, AS.over2, without, keys, look, List.cons_append, List.nil_append, List.append_nil, List.mem_cons, List.not_mem_nil, or_false, or_true, true_or, false_or, Nat.reduceEqDiff, ↓reduceIte, Option.some.injEq, AV.lit.injEq, Value.int.injEq, Value.bool.injEq, AV.own.injEq, AO.row.injEq, AO.box.injEq, List.cons.injEq, AV.agg.injEq, AV.sl.injEq, true_and, and_true, and_self, heq_eq_eq, List.length_nil, List.length_cons, List.map_nil, List.take_zero, Int.natCast_add, Int.cast_ofNat_Int, Int.natCast_zero, List.length_append, List.length_map, List.length_take, Nat.zero_add]) <;> (simp))) (fun z hz3 L3 hLoop3 => ?_); obtain ⟨k, s1, s2⟩ := z; (try dsimp only at hz3); obtain ⟨hz1, hz2, hz3, hz4, hz5⟩ := hz3)
    | ((with_reducible refine seqQ_f ?_); refine hLoop3 (k + 1, setZ (addM p) (l.getD (k + 1) ([], [])).1 0 s1, setZ (addS q) (l.getD (k + 1) ([], [])).2 0 s2) _ (by (try dsimp only); exact ⟨by omega, hz2, ⟨hm1.1.trans hz3.1, hm2.1.trans hz3.2⟩, hm1.2, hm2.2⟩) (by (try dsimp only); omega) ?_; ((refine Sub.auto (by first | exact frok0 | assumption) rfl rfl ?_ ?_ <;> (try simp only [subE, AS.over2, without, keys, look, List.cons_append, List.nil_append, List.append_nil, List.mem_cons, List.not_mem_nil, or_false, or_true, true_or, false_or, Nat.reduceEqDiff, ↓reduceIte, Option.some.injEq, AV.lit.injEq, Value.int.injEq, Value.bool.injEq, AV.own.injEq, AO.row.injEq, AO.box.injEq, List.cons.injEq, AV.agg.injEq, AV.sl.injEq, true_and, and_true, and_self, heq_eq_eq, List.length_nil, List.length_cons, List.map_nil, List.take_zero, Int.natCast_add, Int.cast_ofNat_Int, Int.natCast_zero, List.length_append, List.length_map, List.length_take, Nat.zero_add]) <;> ((repeat' apply And.intro) <;> first | rfl | omega | (simp; done)))))
    | ((with_reducible refine loop_id ?_); refine AWp.loopAt 6 rfl ?_; refine AWp.loopO [8, 9, 33, 34, 35, 36, 37, 38, 39, 40, 41, 42, 43, 44, 45, 46, 47, 48, 49, 50, 51] (fun z : Nat × List Int => [(33, .lit (.int .i64 (z.1 : Nat)))]) (fun z => [(48, .row 3 .int z.2)]) (fun z => z.1 ≤ (l.getD (k + 1) ([], [])).1.length ∧ setZ (addM p) ((l.getD (k + 1) ([], [])).1.drop z.1) z.1 z.2 = setZ (addM p) (l.getD (k + 1) ([], [])).1 0 s1 ∧ z.2.length = s1.length ∧ ∀ x ∈ z.2, 0 ≤ x ∧ x < p) (fun z => (l.getD (k + 1) ([], [])).1.length - z.1) (0, s1) (by (try dsimp only); exact ⟨by omega, rfl, rfl, hz4⟩) (by (refine Sub.auto (by first | exact frok0 | assumption) rfl rfl ?_ ?_ <;> (try simp only [subE, AS.over2, without, keys, look, List.cons_append, List.nil_append, List.append_nil, List.mem_cons, List.not_mem_nil, or_false, or_true, true_or, false_or, Nat.reduceEqDiff, ↓reduceIte, Option.some.injEq, AV.lit.injEq, Value.int.injEq, Value.bool.injEq, AV.own.injEq, AO.row.injEq, AO.box.injEq, List.cons.injEq, AV.agg.injEq, AV.sl.injEq, true_and, and_true, and_self, heq_eq_eq, List.length_nil, List.length_cons, List.map_nil, List.take_zero, Int.natCast_add, Int.cast_ofNat_Int, Int.natCast_zero, List.length_append, List.length_map, List.length_take, Nat.zero_add]) <;> (simp))) (fun z hz6 L6 hLoop6 => ?_); obtain ⟨j, o⟩ := z; (try dsimp only at hz6); obtain ⟨hy1, hy2, hy3, hy4⟩ := hz6)
    | ((with_reducible refine seqQ_f ?_); refine hLoop6 (j + 1, o.set j (addM p (o.getD j 0) ((l.getD (k + 1) ([], [])).1.getD j 0))) _ (by (try dsimp only); exact ⟨by omega, hy2, by rw [List.length_set]; exact hy3, set_bd hy4 (addM_bd hp3 _ _)⟩) (by (try dsimp only); omega) ?_; ((refine Sub.auto (by first | exact frok0 | assumption) rfl rfl ?_ ?_ <;> (try simp only [subE, AS.over2, without, keys, look, List.cons_append, List.nil_append, List.append_nil, List.mem_cons, List.not_mem_nil, or_false, or_true, true_or, false_or, Nat.reduceEqDiff, ↓reduceIte, Option.some.injEq, AV.lit.injEq, Value.int.injEq, Value.bool.injEq, AV.own.injEq, AO.row.injEq, AO.box.injEq, List.cons.injEq, AV.agg.injEq, AV.sl.injEq, true_and, and_true, and_self, heq_eq_eq, List.length_nil, List.length_cons, List.map_nil, List.take_zero, Int.natCast_add, Int.cast_ofNat_Int, Int.natCast_zero, List.length_append, List.length_map, List.length_take, Nat.zero_add]) <;> ((repeat' apply And.intro) <;> first | rfl | omega | (simp; done)))))
    | ((with_reducible refine loop_id ?_); refine AWp.loopAt 11 rfl ?_; refine AWp.loopO [10, 11, 55, 56, 57, 58, 59, 60, 61, 62, 63, 64, 65, 66, 67, 68, 69, 70, 71, 72, 73, 74] (fun z : Nat × List Int => [(55, .lit (.int .i64 (z.1 : Nat)))]) (fun z => [(88, .row 3 .int z.2)]) (fun z => z.1 ≤ (l.getD (k + 1) ([], [])).2.length ∧ setZ (addS q) ((l.getD (k + 1) ([], [])).2.drop z.1) z.1 z.2 = setZ (addS q) (l.getD (k + 1) ([], [])).2 0 s2 ∧ z.2.length = s2.length ∧ ∀ x ∈ z.2, 0 ≤ x ∧ x < q) (fun z => (l.getD (k + 1) ([], [])).2.length - z.1) (0, s2) (by (try dsimp only); exact ⟨by omega, rfl, rfl, hz5⟩) (by (refine Sub.auto (by first | exact frok0 | assumption) rfl rfl ?_ ?_ <;> (try simp only [subE, AS.over2, without, keys, look, List.cons_append, List.nil_append, List.append_nil, List.mem_cons, List.not_mem_nil, or_false, or_true, true_or, false_or, Nat.reduceEqDiff, ↓reduceIte, Option.some.injEq, AV.lit.injEq, Value.int.injEq, Value.bool.injEq, AV.own.injEq, AO.row.injEq, AO.box.injEq, List.cons.injEq, AV.agg.injEq, AV.sl.injEq, true_and, and_true, and_self, heq_eq_eq, List.length_nil, List.length_cons, List.map_nil, List.take_zero, Int.natCast_add, Int.cast_ofNat_Int, Int.natCast_zero, List.length_append, List.length_map, List.length_take, Nat.zero_add]) <;> (simp))) (fun z hz11 L11 hLoop11 => ?_); obtain ⟨j, o⟩ := z; (try dsimp only at hz11); obtain ⟨hx1, hx2, hx3, hx4⟩ := hz11)
    | ((with_reducible refine seqQ_f ?_); refine hLoop11 (j + 1, o.set j (addS q (o.getD j 0) ((l.getD (k + 1) ([], [])).2.getD j 0))) _ (by (try dsimp only); exact ⟨by omega, hx2, by rw [List.length_set]; exact hx3, set_bd hx4 (addS_bd hq2 _ _)⟩) (by (try dsimp only); omega) ?_; ((refine Sub.auto (by first | exact frok0 | assumption) rfl rfl ?_ ?_ <;> (try simp only [subE, AS.over2, without, keys, look, List.cons_append, List.nil_append, List.append_nil, List.mem_cons, List.not_mem_nil, or_false, or_true, true_or, false_or, Nat.reduceEqDiff, ↓reduceIte, Option.some.injEq, AV.lit.injEq, Value.int.injEq, Value.bool.injEq, AV.own.injEq, AO.row.injEq, AO.box.injEq, List.cons.injEq, AV.agg.injEq, AV.sl.injEq, true_and, and_true, and_self, heq_eq_eq, List.length_nil, List.length_cons, List.map_nil, List.take_zero, Int.natCast_add, Int.cast_ofNat_Int, Int.natCast_zero, List.length_append, List.length_map, List.length_take, Nat.zero_add]) <;> ((repeat' apply And.intro) <;> first | rfl | omega | (simp; done)))))
    | ((with_reducible refine EndsAt_id ?_); (try subst_vars); (try simp only [hsd1, hsd2, hL, List.length_cons, List.length_nil, Nat.zero_add, Nat.reduceAdd, Bool.and_true, Bool.and_false, Bool.true_and, Bool.false_and, Bool.and_self, ↓reduceIte, Bool.false_eq_true, Bool.not_true, Bool.not_false, bne]); refine EndsAt.done [_, _] (by first | exact .inr rfl | exact .inl rfl) rfl rfl ?_ ?_ <;> first | decide | (repeat' (first | rfl | apply And.intro | trivial)))
    | (with_reducible refine AWp.seq ?_)⟩
end Go.Proofs.Ytlggpehioflbdaa
