import Derived.Test.YtgnnmifpfgpllaaGreatZD6
import Derived.Test.YtgnnmifpfgpllaaGreatZD20
/- Partial decryptions. -/
set_option linter.all false
set_option linter.unusedVariables false
set_option linter.unusedSimpArgs false
namespace Go.Proofs.YtgnnmifpfgpllaaGreat
open Go.RowKit
theorem elemsB_2 {p q a b : Int} : elemsB p q [a, b] = (elemB p q a && elemB p q b) := by simp [elemsB]
theorem elemsB_1 {p q a : Int} : elemsB p q [a] = elemB p q a := by simp [elemsB]
theorem elemB_bd {p q a : Int} (h : elemB p q a = true) : 0 ≤ a ∧ a < p := elem_bd (elemB_t h)
def badC (p q : Int) (c : Int × Int) : Bool := !elemsB p q [c.1, c.2]
def egB (p q : Int) (l : List (Int × Int)) : Bool := decide ((l.length : Int) ≤ 24) && !(l.any (badC p q))
theorem egB_1 {p q u v : Int} : egB p q [(u, v)] = elemsB p q [u, v] := by
  unfold egB badC
  simp
theorem badC_t {p q : Int} {c : Int × Int} (h : elemsB p q [c.1, c.2] = false) : badC p q c = true := by unfold badC; rw [h]; rfl
theorem badC_f {p q : Int} {c : Int × Int} (h : elemsB p q [c.1, c.2] = true) : badC p q c = false := by unfold badC; rw [h]; rfl
theorem any_y {α : Type} {f : α → Bool} {xs : List α} {x : α} (hx : x ∈ xs) (h : f x = true) : xs.any f = true := List.any_eq_true.2 ⟨x, hx, h⟩
theorem any_n {α : Type} {f : α → Bool} {xs : List α} {k : Nat} (h : (xs.take k).any f = false) (d : α) (hk : k < xs.length) (hf : f (xs.getD k d) = false) : (xs.take (k + 1)).any f = false := by rw [take_at d hk, List.any_append, h]; simp only [List.any_cons, List.any_nil, hf, Bool.or_false]
theorem rowsOK_2 {p a c : Int} (ha : 0 ≤ a ∧ a < p) (hc : 0 ≤ c ∧ c < p) : RowsOK p [[a], [c]] :=
  ⟨by simp, by simp, by simp, by
    intro row hr x hx
    simp only [List.mem_cons, List.not_mem_nil, or_false] at hr
    rcases hr with rfl | rfl <;> simp only [List.mem_cons, List.not_mem_nil, or_false] at hx <;> subst hx <;> assumption⟩
theorem all2 {q a b : Int} (ha : 0 ≤ a ∧ a < q) (hb : 0 ≤ b ∧ b < q) : ∀ x ∈ [a, b], 0 ≤ x ∧ x < q := by
  intro x hx; simp only [List.mem_cons, List.not_mem_nil, or_false] at hx; rcases hx with rfl | rfl <;> assumption
noncomputable def iptB (p q g : Int) (cs : List Int) (u i d : Int) (pa pc pr : List Int) : Bool := inr i 1 7 && elemB p q d && vLin p q g (ByteArray.mk #[112, 97, 114, 116, 105, 97, 108]) [[g], [u]] [atV p q i cs, d] pa pc pr
noncomputable def okDc (p q g : Int) (cs : List Int) (u v : Int) : Bool := shB p q g && comB p q cs && (elemB p q u && elemB p q v)
theorem okDc_use {p q g : Int} {cs : List Int} {u v : Int} (h : okDc p q g cs u v = true) : shB p q g = true ∧ comB p q cs = true ∧ elemB p q u = true ∧ elemB p q v = true := by
  simp only [okDc, Bool.and_eq_true] at h
  exact ⟨h.1.1, h.1.2, h.2.1, h.2.2⟩
noncomputable def c_hasCipher : Con0 := conF [(.pair .int (.pair .int .int)), (.pair .int .int)] fun (⟨⟨p, q, g⟩, ⟨u, v⟩, _⟩ : (Int × Int × Int) × (Int × Int) × Unit) => (M.Grp p q g, .lit (.bool (elemB p q u && elemB p q v)), [])
noncomputable def G_hasCipher : List (FuncId × Con) := [(60, mk c_has)]
theorem G_hasCipher_ok : ∀ f C, (f, C) ∈ G_hasCipher → C.ok Tryz.prog f := by
  intro f C h
  simp only [G_hasCipher, List.mem_cons, Prod.mk.injEq, List.not_mem_nil, or_false] at h
  obtain ⟨rfl, rfl⟩ := h
  exact ok_has
set_option maxRecDepth 100000 in
set_option maxHeartbeats 4000000 in
theorem ok_hasCipher : (mk c_hasCipher).ok Tryz.prog 58 := okF (Θ := Th) (N := 15) (rs := [.tmp 4]) Th_ok Tryz.func58 (by kernel_rfl) rfl Tryz.results58 (by decide) (by kernel_rfl) fun (⟨⟨p, q, g⟩, ⟨u, v⟩, _⟩ : (Int × Int × Int) × (Int × Int) × Unit) => ⟨rfl, rfl, Nat.le_of_ble_eq_true rfl, fun hc w0 => by
  have hL := dmy_eq
  try dsimp only at hc
  try dsimp only
  have hG := hc
  refine AWp.body rfl ?_
  repeat' first
    | ((with_reducible refine hK _ _ ?_); clear hK K)
    | ((with_reducible refine hK _ _ (by kernel_rfl) ?_); clear hK K)
    | ((with_reducible refine AWp.pS Th_ok G_hasCipher_ok [0, 1, 2, 3, 4] (by decide) ?_); intro K hK)
    | ((with_reducible refine AWp.dS (by kernel_rfl) Th_ok G_hasCipher_ok [0, 1, 2, 3, 4] ?_); intro K hK)
    | ((with_reducible refine AWp.pE Th_ok G_hasCipher_ok [0, 1, 2, 3, 4] (by decide) ?_); intro K hK)
    | ((with_reducible refine AWp.dE (by kernel_rfl) Th_ok G_hasCipher_ok [0, 1, 2, 3, 4] ?_); intro K hK)
    | ((first | with_reducible refine runF_id ?_ | with_reducible refine stepF_id ?_); simp (maxSteps := 2000000) only [runF, stepF, forkOf, gdOf, List.toList_toArray, stepOp, look, opAV, pureOp, callOp, memOp, AS.ev, AS.get, AS.obj, initS, initFrom, AV.cells, AS.upd, Option.bind_some, Option.bind_none, Option.map_some, Option.map_none, Option.getD_none, Option.getD_some, ↓reduceIte, Nat.reduceEqDiff, Nat.reduceAdd, Nat.reduceMul, Nat.reduceSub, List.nil_append, List.append_nil, List.cons_append, List.map_cons, List.map_nil, true_and, and_true, AS.fin, pick, dedup, List.mem_cons, List.not_mem_nil, or_false, false_or, List.size_toArray, List.length_cons, List.length_nil, loadAV, List.drop_zero, List.drop_succ_cons, List.take_zero, List.take_succ_cons, List.getElem?_cons_zero, List.getElem?_cons_succ, List.head?_cons, List.mapM_cons, List.mapM_nil, Option.bind_eq_bind, Option.pure_def, deeps3, deep3, deep2, deep1, deeps, deeps2, mixInts, AV.plain, mk, mkD, DCon.lift, DCon.runC, ren3, ren2, ren1, numb, List.zipIdx_nil, List.zipIdx_cons, List.all_nil, List.all_cons, Nat.reduceLeDiff, List.range, List.range.loop, Ty.sz, beq_self_eq_true, Bool.and_self, and_self, Ty.ofC, AO.isDead, Nat.reduceLT, if_true, Nat.zero_add, Nat.add_zero, ite_true, Nat.le_refl, Bool.false_eq_true, reduceCtorEq, if_false, ite_false, binAV, AO.ren, AV.isCell, fillAV, List.set_cons_zero, List.set_cons_succ, Ty.cells, Ty.flat, Ty.dflt, List.getD_cons_zero, List.getD_cons_succ, Int.reduceToNat, Int.reduceSub, Int.reduceAdd, Int.reduceMul, Int.reduceNeg, forall_eq_or_imp, forall_eq, gdL, id_eq, Nat.lt_irrefl, srcOf, List.replicate_succ, List.replicate_zero, dite_true, List.isEmpty_cons, Option.isSome_some, List.length_append, List.length_singleton, bne_self_eq_false, Bool.not_true, Bool.not_false, conF, asArgs, asArg, asTy, asI1, asB1, asS1, asL1, canons, canon, Fork.true_, Fork.false_, bne, Bool.not_not, List.length_map, pickO, AS.over, TI.bl, bne_iff_ne, AS.over2, without, keys, List.mem_singleton, memOp2, memOp3, absorb, abInt, abBool, abStr, abList, gones, Int.toNat_natCast, List.take_length, subE, List.nodup_cons, List.nodup_nil, not_false_eq_true, Nat.sub_self, conR, asG, asI, asBo, asStr, asIs, asBs, asE4, asI2, asI3, asLL, asLLL, Th_int, Th_implCipher, Th_implGroup, Th_string, G_hasCipher, c_has, hL])
    | ((with_reducible refine ens_step ?_ (fun hE => ?_)); · ((repeat' with_reducible apply And.intro) <;> first | with_reducible assumption | omega | exact True.intro | with_reducible rfl | (show ByteArray.size _ ≤ _; decide) | (simp; done) | (simp; omega) | rfl))
    | ((with_reducible refine And.intro ?_ ?_); · ((repeat' with_reducible apply And.intro) <;> first | with_reducible assumption | omega | exact True.intro | with_reducible rfl | (show ByteArray.size _ ≤ _; decide) | (simp; done) | (simp; omega) | rfl))
    | ((with_reducible refine Fork.intro (fun h' => ?_) (fun h' => ?_)) <;> (try simp only [Bool.not_eq_true', Bool.not_eq_false', bne] at h') <;> (replace hL := And.intro h' hL) <;> (try simp only [decide_eq_true_eq, decide_eq_false_iff_not, beq_iff_eq, beq_eq_false_iff_ne, ne_eq] at h'))
    | (with_reducible refine AWp.skipS ?_)
    | ((with_reducible refine AWp.condT rfl ?_))
    | ((with_reducible refine AWp.condF rfl ?_))
    | (with_reducible refine AWp.condB rfl ?_)
    | (with_reducible refine AWp.ret ?_)
    | (with_reducible refine seqQ_n ?_)
    | (with_reducible refine seqQ_ret ?_)
    | (with_reducible refine blkQ_ret ?_)
    | (with_reducible refine blkQ_n ?_)
    | (with_reducible refine seqQ_exit ?_)
    | (with_reducible refine blkQ_exit ?_)
    | (with_reducible refine blkQ_other (by decide) ?_)
    | (with_reducible refine AWp.block ?_)
    | (with_reducible refine AWp.exit ?_)
    | (with_reducible refine AWp.skip ?_)
    | ((with_reducible refine EndsAt_id ?_); (try subst_vars); (try simp only [id_eq, hL, List.length_cons, List.length_nil, Nat.zero_add, Nat.reduceAdd, Bool.and_true, Bool.and_false, Bool.true_and, Bool.false_and, Bool.and_self, ↓reduceIte, Bool.false_eq_true, Bool.not_true, Bool.not_false, bne]); refine EndsAt.done [] (by first | exact .inr rfl | exact .inl rfl) rfl rfl ?_ ?_ <;> first | decide | (repeat' (first | rfl | apply And.intro | trivial)))
    | (with_reducible refine AWp.seq ?_)⟩
noncomputable def c_eGood : Con0 := conF [(.pair .int (.pair .int .int)), (.list (.pair .int .int))] fun (⟨⟨p, q, g⟩, l, _⟩ : (Int × Int × Int) × (List (Int × Int)) × Unit) => (M.Grp p q g ∧ l.length ≤ 9223372036854775806, .lit (.bool (egB p q l)), [])
noncomputable def G_eGood : List (FuncId × Con) := [(54, mk c_gIs)]
theorem G_eGood_ok : ∀ f C, (f, C) ∈ G_eGood → C.ok Tryz.prog f := by
  intro f C h
  simp only [G_eGood, List.mem_cons, Prod.mk.injEq, List.not_mem_nil, or_false] at h
  obtain ⟨rfl, rfl⟩ := h
  exact ok_gIs
set_option maxRecDepth 100000 in
set_option maxHeartbeats 4000000 in
theorem ok_eGood : (mk c_eGood).ok Tryz.prog 48 := okF (Θ := Th) (N := 25) (rs := [.tmp 4]) Th_ok Tryz.func48 (by kernel_rfl) rfl Tryz.results48 (by decide) (by kernel_rfl) fun (⟨⟨p, q, g⟩, l, _⟩ : (Int × Int × Int) × (List (Int × Int)) × Unit) => ⟨rfl, rfl, Nat.le_of_ble_eq_true rfl, fun hc w0 => by
  have hL := dmy_eq
  try dsimp only at hc
  try dsimp only
  obtain ⟨hG, hbl⟩ := hc
  refine AWp.body rfl ?_
  repeat' first
    | ((with_reducible refine hK _ _ ?_); clear hK K)
    | ((with_reducible refine hK _ _ (by kernel_rfl) ?_); clear hK K)
    | ((with_reducible refine AWp.pS Th_ok G_eGood_ok [0, 1, 2, 4, 6, 9, 10, 11, 12, 13, 23] (by decide) ?_); intro K hK)
    | ((with_reducible refine AWp.dS (by kernel_rfl) Th_ok G_eGood_ok [0, 1, 2, 4, 6, 9, 10, 11, 12, 13, 23] ?_); intro K hK)
    | ((with_reducible refine AWp.pE Th_ok G_eGood_ok [0, 1, 2, 4, 6, 9, 10, 11, 12, 13, 23] (by decide) ?_); intro K hK)
    | ((with_reducible refine AWp.dE (by kernel_rfl) Th_ok G_eGood_ok [0, 1, 2, 4, 6, 9, 10, 11, 12, 13, 23] ?_); intro K hK)
    | ((first | with_reducible refine runF_id ?_ | with_reducible refine stepF_id ?_); simp (maxSteps := 2000000) only [runF, stepF, forkOf, gdOf, List.toList_toArray, stepOp, look, opAV, pureOp, callOp, memOp, AS.ev, AS.get, AS.obj, initS, initFrom, AV.cells, AS.upd, Option.bind_some, Option.bind_none, Option.map_some, Option.map_none, Option.getD_none, Option.getD_some, ↓reduceIte, Nat.reduceEqDiff, Nat.reduceAdd, Nat.reduceMul, Nat.reduceSub, List.nil_append, List.append_nil, List.cons_append, List.map_cons, List.map_nil, true_and, and_true, AS.fin, pick, dedup, List.mem_cons, List.not_mem_nil, or_false, false_or, List.size_toArray, List.length_cons, List.length_nil, loadAV, List.drop_zero, List.drop_succ_cons, List.take_zero, List.take_succ_cons, List.getElem?_cons_zero, List.getElem?_cons_succ, List.head?_cons, List.mapM_cons, List.mapM_nil, Option.bind_eq_bind, Option.pure_def, deeps3, deep3, deep2, deep1, deeps, deeps2, mixInts, AV.plain, mk, mkD, DCon.lift, DCon.runC, ren3, ren2, ren1, numb, List.zipIdx_nil, List.zipIdx_cons, List.all_nil, List.all_cons, Nat.reduceLeDiff, List.range, List.range.loop, Ty.sz, beq_self_eq_true, Bool.and_self, and_self, Ty.ofC, AO.isDead, Nat.reduceLT, if_true, Nat.zero_add, Nat.add_zero, ite_true, Nat.le_refl, Bool.false_eq_true, reduceCtorEq, if_false, ite_false, binAV, AO.ren, AV.isCell, fillAV, List.set_cons_zero, List.set_cons_succ, Ty.cells, Ty.flat, Ty.dflt, List.getD_cons_zero, List.getD_cons_succ, Int.reduceToNat, Int.reduceSub, Int.reduceAdd, Int.reduceMul, Int.reduceNeg, forall_eq_or_imp, forall_eq, gdL, id_eq, Nat.lt_irrefl, srcOf, List.replicate_succ, List.replicate_zero, dite_true, List.isEmpty_cons, Option.isSome_some, List.length_append, List.length_singleton, bne_self_eq_false, Bool.not_true, Bool.not_false, conF, asArgs, asArg, asTy, asI1, asB1, asS1, asL1, canons, canon, Fork.true_, Fork.false_, bne, Bool.not_not, List.length_map, pickO, AS.over, TI.bl, bne_iff_ne, AS.over2, without, keys, List.mem_singleton, memOp2, memOp3, absorb, abInt, abBool, abStr, abList, gones, Int.toNat_natCast, List.take_length, subE, List.nodup_cons, List.nodup_nil, not_false_eq_true, Nat.sub_self, conR, asG, asI, asBo, asStr, asIs, asBs, asE4, asI2, asI3, asLL, asLLL, Th_int, Th_Sint, Th_bool, Th_implCipher, Th_implGroup, Th_implSCipher, G_eGood, c_gIs, hL])
    | ((with_reducible refine ens_step ?_ (fun hE => ?_)); · ((repeat' with_reducible apply And.intro) <;> first | with_reducible assumption | omega | exact True.intro | with_reducible rfl | (show ByteArray.size _ ≤ _; decide) | (simp; done) | (simp; omega) | rfl))
    | ((with_reducible refine And.intro ?_ ?_); · ((repeat' with_reducible apply And.intro) <;> first | with_reducible assumption | omega | exact True.intro | with_reducible rfl | (show ByteArray.size _ ≤ _; decide) | (simp; done) | (simp; omega) | rfl))
    | ((with_reducible refine Fork.intro (fun h' => ?_) (fun h' => ?_)) <;> (try simp only [Bool.not_eq_true', Bool.not_eq_false', bne] at h') <;> (replace hL := And.intro h' hL) <;> (try simp only [decide_eq_true_eq, decide_eq_false_iff_not, beq_iff_eq, beq_eq_false_iff_ne, ne_eq] at h') <;> (try (have hd24 : decide ((l.length : Int) ≤ 24) = false := decide_eq_false (by omega); replace hL := And.intro hd24 hL)) <;> (try (have hd24 : decide ((l.length : Int) ≤ 24) = true := decide_eq_true (by omega); replace hL := And.intro hd24 hL)) <;> (try (have hby := any_y (f := badC p q) (getD_in (0, 0) (xs := l) (k := k) (by omega)) (badC_t h'); replace hL := And.intro hby hL)) <;> (try (have hbn := any_n hk2 (0, 0) (by omega) (badC_f h'))) <;> (try (have hke : k = l.length := (by omega); subst hke; rw [List.take_length] at hk2; replace hL := And.intro hk2 hL)))
    | (with_reducible refine AWp.skipS ?_)
    | ((with_reducible refine AWp.condT rfl ?_))
    | ((with_reducible refine AWp.condF rfl ?_))
    | (with_reducible refine AWp.condB rfl ?_)
    | (with_reducible refine AWp.ret ?_)
    | (with_reducible refine seqQ_n ?_)
    | (with_reducible refine seqQ_ret ?_)
    | (with_reducible refine blkQ_ret ?_)
    | (with_reducible refine blkQ_n ?_)
    | (with_reducible refine seqQ_exit ?_)
    | (with_reducible refine blkQ_exit ?_)
    | (with_reducible refine blkQ_other (by decide) ?_)
    | (with_reducible refine AWp.block ?_)
    | (with_reducible refine AWp.exit ?_)
    | (with_reducible refine AWp.skip ?_)
    | ((with_reducible refine loop_id ?_); refine AWp.loopAt 4 rfl ?_; refine AWp.loopO [4, 6, 12, 13, 14, 15, 16, 17, 18, 19, 20, 21, 22, 23, 24] (fun k => [(12, .lit (.int .i64 (k : Nat)))]) (fun k => []) (fun k => k ≤ l.length ∧ (l.take k).any (badC p q) = false) (fun k => l.length - k) 0 (by exact ⟨by omega, rfl⟩) (by refine Sub.auto (by first | exact frok0 | assumption) rfl rfl ?_ ?_ <;> (try simp only [subE, AS.over2, without, keys, look, List.cons_append, List.nil_append, List.append_nil, List.mem_cons, List.not_mem_nil, or_false, or_true, true_or, false_or, Nat.reduceEqDiff, ↓reduceIte, Option.some.injEq, AV.lit.injEq, Value.int.injEq, Value.bool.injEq, AV.own.injEq, AO.row.injEq, AO.box.injEq, List.cons.injEq, AV.agg.injEq, AV.sl.injEq, true_and, and_true, and_self, heq_eq_eq, List.length_nil, List.length_cons, List.map_nil, List.take_zero, Int.natCast_add, Int.cast_ofNat_Int, Int.natCast_zero, List.length_append, List.length_map, List.length_take, Nat.zero_add]) <;> (simp)) (fun k hk_4 L4 hLoop4 => ?_); obtain ⟨hk1, hk2⟩ := hk_4)
    | ((with_reducible refine seqQ_f ?_); refine hLoop4 (k + 1) _ (by exact ⟨by omega, hbn⟩) (by omega) ?_; (refine Sub.auto (by first | exact frok0 | assumption) rfl rfl ?_ ?_ <;> (try simp only [subE, AS.over2, without, keys, look, List.cons_append, List.nil_append, List.append_nil, List.mem_cons, List.not_mem_nil, or_false, or_true, true_or, false_or, Nat.reduceEqDiff, ↓reduceIte, Option.some.injEq, AV.lit.injEq, Value.int.injEq, Value.bool.injEq, AV.own.injEq, AO.row.injEq, AO.box.injEq, List.cons.injEq, AV.agg.injEq, AV.sl.injEq, true_and, and_true, and_self, heq_eq_eq, List.length_nil, List.length_cons, List.map_nil, List.take_zero, Int.natCast_add, Int.cast_ofNat_Int, Int.natCast_zero, List.length_append, List.length_map, List.length_take, Nat.zero_add]) <;> (omega)))
    | ((with_reducible refine EndsAt_id ?_); (try subst_vars); (try simp only [egB, hL, List.length_cons, List.length_nil, Nat.zero_add, Nat.reduceAdd, Bool.and_true, Bool.and_false, Bool.true_and, Bool.false_and, Bool.and_self, ↓reduceIte, Bool.false_eq_true, Bool.not_true, Bool.not_false, bne]); refine EndsAt.done [] (by first | exact .inr rfl | exact .inl rfl) rfl rfl ?_ ?_ <;> first | decide | (repeat' (first | rfl | apply And.intro | trivial)))
    | (with_reducible refine AWp.seq ?_)⟩
end Go.Proofs.YtgnnmifpfgpllaaGreat
