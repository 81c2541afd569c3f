import Derived.Test.YtgnnmifpfgpllaaGreatZAJ
import Derived.Test.YtgnnmifpfgpllaaGreatZB10
import Derived.Test.YtgnnmifpfgpllaaGreatZB4
/- Dealings: values of polynomials, shares that are wrong. -/
set_option linter.all false
set_option linter.unusedVariables false
set_option linter.unusedSimpArgs false
namespace Go.Proofs.YtgnnmifpfgpllaaGreat
open Go.RowKit
theorem expsB_all12' {q : Int} {xs : List Int} (h : expsB q xs = true) : ∀ x ∈ xs, 0 ≤ x ∧ x < q := fun x hx => expsB_mem h hx
theorem comB_use {p q : Int} {cs : List Int} (h : comB p q cs = true) : (1 ≤ cs.length ∧ cs.length ≤ 7) ∧ ∀ x ∈ cs, 0 ≤ x ∧ x < p := by
  obtain ⟨h1, h2⟩ := comB_of h
  exact ⟨h1, fun x hx => elem_bd (elemsB_mem h2 hx)⟩
theorem dlB_use {p q : Int} {cs ss : List Int} (h : dlB p q cs ss = true) : (1 ≤ cs.length ∧ cs.length ≤ 7) ∧ (∀ x ∈ cs, 0 ≤ x ∧ x < p) ∧ (cs.length ≤ ss.length ∧ ss.length ≤ 7) ∧ ∀ x ∈ ss, 0 ≤ x ∧ x < q := by
  obtain ⟨h1, h2, h3⟩ := dlB_of h
  obtain ⟨h4, h5⟩ := comB_use h1
  exact ⟨h4, h5, h2, expsB_all12' h3⟩
theorem getD_bd' {p : Int} {xs : List Int} (h : ∀ x ∈ xs, 0 ≤ x ∧ x < p) {k : Nat} (hk : k < xs.length) : 0 ≤ xs.getD k 0 ∧ xs.getD k 0 < p := h _ (getD_in 0 hk)
theorem drop_at {α : Type} {xs : List α} (d : α) {k : Nat} (hk : k < xs.length) : xs.drop k = xs.getD k d :: xs.drop (k + 1) := by
  rw [List.drop_eq_getElem_cons hk]
  simp [List.getD_eq_getElem?_getD, List.getElem?_eq_getElem hk]
theorem take_at {α : Type} {xs : List α} (d : α) {k : Nat} (hk : k < xs.length) : xs.take (k + 1) = xs.take k ++ [xs.getD k d] := by
  rw [List.take_succ_eq_append_getElem hk]
  simp [List.getD_eq_getElem?_getD, List.getElem?_eq_getElem hk]
/-- a polynomial's value -/
def evL (q x : Int) : List Int → Int
  | [] => 0
  | a :: l => (evL q x l * x + a) % q
theorem evL_bd {q x : Int} (hq : 2 ≤ q) : ∀ l : List Int, 0 ≤ evL q x l ∧ evL q x l < q
  | [] => by simp [evL]; omega
  | a :: l => emod_bd (by omega)
theorem evL_s {q x : Int} {f : List Int} {j : Nat} (h : j < f.length) : (evL q x (f.drop (j + 1)) * x + f.getD j 0) % q = evL q x (f.drop j) := by
  rw [drop_at 0 h]; rfl
theorem evL_i {q x : Int} {f : List Int} {j : Nat} (h : j < f.length) : (evL q x (f.drop (j + 1)) * x % q + f.getD j 0) % q = evL q x (f.drop j) := by
  rw [Int.emod_add_emod]; exact evL_s h
noncomputable def c_evalPoly : Con0 := conF [.int, (.list .int), .int] fun (⟨q, xs, x, _⟩ : Int × (List Int) × Int × Unit) => ((2 ≤ q ∧ q ≤ 2000000000) ∧ (0 ≤ x ∧ x ≤ 2000000000) ∧ (∀ a ∈ xs, 0 ≤ a ∧ a < q) ∧ xs.length ≤ 1000000, .lit (.int .i64 (evL q x xs)), [])
noncomputable def G_evalPoly : List (FuncId × Con) := []
theorem G_evalPoly_ok : ∀ f C, (f, C) ∈ G_evalPoly → C.ok Tryz.prog f := by
  intro f C h
  simp only [G_evalPoly, List.mem_cons, Prod.mk.injEq, List.not_mem_nil, or_false] at h
set_option maxRecDepth 100000 in
set_option maxHeartbeats 4000000 in
theorem ok_evalPoly : (mk c_evalPoly).ok Tryz.prog 106 := okF (Θ := Th) (N := 29) (rs := [.tmp 6]) Th_ok Tryz.func106 (by kernel_rfl) rfl Tryz.results106 (by decide) (by kernel_rfl) fun (⟨q, xs, x, _⟩ : Int × (List Int) × Int × Unit) => ⟨rfl, rfl, Nat.le_of_ble_eq_true rfl, fun hc w0 => by
  have hL := dmy_eq
  try dsimp only at hc
  try dsimp only
  obtain ⟨⟨hq2, hqM⟩, hx, hxs, hxl⟩ := hc
  refine AWp.body rfl ?_
  repeat' first
    | ((with_reducible refine hK _ _ ?_); clear hK K)
    | ((with_reducible refine hK _ _ (by kernel_rfl) ?_); clear hK K)
    | ((with_reducible refine AWp.pS Th_ok G_evalPoly_ok [0, 1, 2, 6, 7, 8, 13] (by decide) ?_); intro K hK)
    | ((with_reducible refine AWp.dS (by kernel_rfl) Th_ok G_evalPoly_ok [0, 1, 2, 6, 7, 8, 13] ?_); intro K hK)
    | ((with_reducible refine AWp.pE Th_ok G_evalPoly_ok [0, 1, 2, 6, 7, 8, 13] (by decide) ?_); intro K hK)
    | ((with_reducible refine AWp.dE (by kernel_rfl) Th_ok G_evalPoly_ok [0, 1, 2, 6, 7, 8, 13] ?_); intro K hK)
    | ((first | with_reducible refine runF_id ?_ | with_reducible refine stepF_id ?_); simp (maxSteps := 2000000) only [runF, stepF, forkOf, gdOf, List.toList_toArray, stepOp, look, opAV, pureOp, callOp, memOp, AS.ev, AS.get, AS.obj, initS, initFrom, AV.cells, AS.upd, Option.bind_some, Option.bind_none, Option.map_some, Option.map_none, Option.getD_none, Option.getD_some, ↓reduceIte, Nat.reduceEqDiff, Nat.reduceAdd, Nat.reduceMul, Nat.reduceSub, List.nil_append, List.append_nil, List.cons_append, List.map_cons, List.map_nil, true_and, and_true, AS.fin, pick, dedup, List.mem_cons, List.not_mem_nil, or_false, false_or, List.size_toArray, List.length_cons, List.length_nil, loadAV, List.drop_zero, List.drop_succ_cons, List.take_zero, List.take_succ_cons, List.getElem?_cons_zero, List.getElem?_cons_succ, List.head?_cons, List.mapM_cons, List.mapM_nil, Option.bind_eq_bind, Option.pure_def, deeps3, deep3, deep2, deep1, deeps, deeps2, mixInts, AV.plain, mk, mkD, DCon.lift, DCon.runC, ren3, ren2, ren1, numb, List.zipIdx_nil, List.zipIdx_cons, List.all_nil, List.all_cons, Nat.reduceLeDiff, List.range, List.range.loop, Ty.sz, beq_self_eq_true, Bool.and_self, and_self, Ty.ofC, AO.isDead, Nat.reduceLT, if_true, Nat.zero_add, Nat.add_zero, ite_true, Nat.le_refl, Bool.false_eq_true, reduceCtorEq, if_false, ite_false, binAV, AO.ren, AV.isCell, fillAV, List.set_cons_zero, List.set_cons_succ, Ty.cells, Ty.flat, Ty.dflt, List.getD_cons_zero, List.getD_cons_succ, Int.reduceToNat, Int.reduceSub, Int.reduceAdd, Int.reduceMul, Int.reduceNeg, forall_eq_or_imp, forall_eq, gdL, id_eq, Nat.lt_irrefl, srcOf, List.replicate_succ, List.replicate_zero, dite_true, List.isEmpty_cons, Option.isSome_some, List.length_append, List.length_singleton, bne_self_eq_false, Bool.not_true, Bool.not_false, conF, asArgs, asArg, asTy, asI1, asB1, asS1, asL1, canons, canon, Fork.true_, Fork.false_, bne, Bool.not_not, List.length_map, pickO, AS.over, TI.bl, bne_iff_ne, AS.over2, without, keys, List.mem_singleton, memOp2, memOp3, absorb, abInt, abBool, abStr, abList, gones, Int.toNat_natCast, List.take_length, subE, List.nodup_cons, List.nodup_nil, not_false_eq_true, Nat.sub_self, conR, asG, asI, asBo, asStr, asIs, asBs, asE4, asI2, asI3, asLL, asLLL, Th_int, Th_Sint, Th_implGroup, Th_lawsGroup, Th_string, G_evalPoly, hL])
    | ((with_reducible refine ens_step ?_ (fun hE => ?_)); · ((repeat' with_reducible apply And.intro) <;> first | with_reducible assumption | omega | exact True.intro | with_reducible rfl | (show ByteArray.size _ ≤ _; decide) | (simp; done) | (simp; omega) | rfl))
    | ((with_reducible refine And.intro ?_ ?_); · ((repeat' with_reducible apply And.intro) <;> first | with_reducible assumption | omega | exact True.intro | with_reducible rfl | (show ByteArray.size _ ≤ _; decide) | (simp; done) | (simp; omega) | rfl))
    | ((with_reducible refine Fork.intro (fun h' => ?_) (fun h' => ?_)) <;> (try simp only [Bool.not_eq_true', Bool.not_eq_false', bne] at h') <;> (replace hL := And.intro h' hL) <;> (try simp only [decide_eq_true_eq, decide_eq_false_iff_not, beq_iff_eq, beq_eq_false_iff_ne, ne_eq] at h') <;> (try (have hjj : ∃ j, k = j + 1 := ⟨k - 1, by omega⟩; obtain ⟨j, rfl⟩ := hjj; have hj1 : ((j + 1 : Nat) : Int) - 1 = j := (by omega); have heb := evL_bd (x := x) hq2 (xs.drop (j + 1)); have hab := getD_bd' hxs (k := j) (by omega); have hmb := mul_bd (a := evL q x (xs.drop (j + 1))) (b := x) (by omega) (by omega); have hrb := emod_bd (n := evL q x (xs.drop (j + 1)) * x) (q := q) (by omega); have hst := evL_i (q := q) (x := x) (f := xs) (j := j) (by omega); replace hL := And.intro hst (And.intro hj1 hL))) <;> (try (have hk0 : k = 0 := (by omega); subst hk0; replace hL := And.intro (List.drop_zero (l := xs)) hL)))
    | (with_reducible refine AWp.skipS ?_)
    | ((with_reducible refine AWp.condT rfl ?_))
    | ((with_reducible refine AWp.condF rfl ?_))
    | (with_reducible refine AWp.condB rfl ?_)
    | (with_reducible refine AWp.ret ?_)
    | (with_reducible refine seqQ_n ?_)
    | (with_reducible refine seqQ_ret ?_)
    | (with_reducible refine blkQ_ret ?_)
    | (with_reducible refine blkQ_n ?_)
    | (with_reducible refine seqQ_exit ?_)
    | (with_reducible refine blkQ_exit ?_)
    | (with_reducible refine blkQ_other (by decide) ?_)
    | (with_reducible refine AWp.block ?_)
    | (with_reducible refine AWp.exit ?_)
    | (with_reducible refine AWp.skip ?_)
    | ((with_reducible refine loop_id ?_); refine AWp.loopAt 3 rfl ?_; refine AWp.loopO [7, 8, 12, 13, 14, 15, 16, 17, 18, 19, 20, 21, 22, 23, 24, 25, 26, 27] (fun k => [(8, .lit (.int .i64 ((k : Nat) - 1))), (7, .lit (.int .i64 (evL q x (xs.drop k))))]) (fun k => []) (fun k => k ≤ xs.length) (fun k => k) xs.length (by omega) (by refine Sub.auto (by first | exact frok0 | assumption) rfl rfl ?_ ?_ <;> (try simp only [subE, AS.over2, without, keys, look, List.cons_append, List.nil_append, List.append_nil, List.mem_cons, List.not_mem_nil, or_false, or_true, true_or, false_or, Nat.reduceEqDiff, ↓reduceIte, Option.some.injEq, AV.lit.injEq, Value.int.injEq, Value.bool.injEq, AV.own.injEq, AO.row.injEq, AO.box.injEq, List.cons.injEq, AV.agg.injEq, AV.sl.injEq, true_and, and_true, and_self, heq_eq_eq, List.length_nil, List.length_cons, List.map_nil, List.take_zero, Int.natCast_add, Int.cast_ofNat_Int, Int.natCast_zero, List.length_append, List.length_map, List.length_take, Nat.zero_add]) <;> (simp [evL])) (fun k hk_3 L3 hLoop3 => ?_))
    | ((with_reducible refine seqQ_f ?_); refine hLoop3 (j) _ (by omega) (by omega) ?_; (refine Sub.auto (by first | exact frok0 | assumption) rfl rfl ?_ ?_ <;> (try simp only [subE, AS.over2, without, keys, look, List.cons_append, List.nil_append, List.append_nil, List.mem_cons, List.not_mem_nil, or_false, or_true, true_or, false_or, Nat.reduceEqDiff, ↓reduceIte, Option.some.injEq, AV.lit.injEq, Value.int.injEq, Value.bool.injEq, AV.own.injEq, AO.row.injEq, AO.box.injEq, List.cons.injEq, AV.agg.injEq, AV.sl.injEq, true_and, and_true, and_self, heq_eq_eq, List.length_nil, List.length_cons, List.map_nil, List.take_zero, Int.natCast_add, Int.cast_ofNat_Int, Int.natCast_zero, List.length_append, List.length_map, List.length_take, Nat.zero_add]) <;> ((repeat' apply And.intro) <;> first | rfl | omega | exact hst | exact hj1)))
    | ((with_reducible refine EndsAt_id ?_); (try subst_vars); refine EndsAt.done [] (by first | exact .inr rfl | exact .inl rfl) rfl rfl ?_ ?_ <;> first | decide | (repeat' (first | rfl | apply And.intro | trivial)))
    | (with_reducible refine AWp.seq ?_)⟩
end Go.Proofs.YtgnnmifpfgpllaaGreat
