import Derived.Test.YtgnnmifpfgpllaaGreatZB7
import Derived.Test.YtgnnmifpfgpllaaGreatZD2
import Derived.Test.YtgnnmifpfgpllaaGreatZD3
/- Linear statements: checks. -/
set_option linter.all false
set_option linter.unusedVariables false
set_option linter.unusedSimpArgs false
namespace Go.Proofs.YtgnnmifpfgpllaaGreat
open Go.RowKit
/-- rows of bases that are right -/
structure RowsOK (p : Int) (rows : List (List Int)) : Prop where
  len : 1 ≤ rows.length ∧ rows.length ≤ 8
  wid : 1 ≤ (rows.getD 0 []).length ∧ (rows.getD 0 []).length ≤ 8
  each : ∀ row ∈ rows, row.length = (rows.getD 0 []).length
  bd : ∀ row ∈ rows, ∀ x ∈ row, 0 ≤ x ∧ x < p
theorem flat_len {m : Nat} : ∀ (rows : List (List Int)), (∀ row ∈ rows, row.length = m) → rows.flatten.length = rows.length * m
  | [], _ => by simp
  | r :: rows, h => by
    rw [List.flatten_cons, List.length_append, h r (by simp), flat_len rows fun x hx => h x (by simp [hx]), List.length_cons, Nat.succ_mul]; omega
theorem RowsOK.flat {p : Int} {rows : List (List Int)} (h : RowsOK p rows) : 1 ≤ rows.flatten.length ∧ rows.flatten.length ≤ 64 ∧ ∀ x ∈ rows.flatten, 0 ≤ x ∧ x < p := by
  have h1 := flat_len rows h.each
  have h2 := h.len
  have h3 := h.wid
  generalize (rows.getD 0 []).length = m at *
  refine ⟨?_, ?_, fun x hx => ?_⟩
  · rw [h1]; exact Nat.mul_pos (by omega) (by omega)
  · rw [h1]; exact Nat.mul_le_mul h2.2 h3.2
  · obtain ⟨row, hr, hx⟩ := List.mem_flatten.1 hx
    exact h.bd row hr x hx
/-- images of a linear statement -/
noncomputable def imgs (p q : Int) (rows : List (List Int)) (es : List Int) : List Int := rows.map fun row => M.powL p q 1 row es
theorem imgs_get {p q : Int} {rows : List (List Int)} {es : List Int} {k : Nat} (h : k < rows.length) : (imgs p q rows es).getD k 0 = M.powL p q 1 (rows.getD k []) es := by
  simp [imgs, List.getD_eq_getElem?_getD, List.getElem?_eq_getElem h]
theorem map_step {α β : Type} (f : α → β) (xs : List α) (d : α) {k : Nat} (hk : k < xs.length) : (xs.take k).map f ++ [f (xs.getD k d)] = (xs.take (k + 1)).map f := by
  rw [List.take_succ_eq_append_getElem hk, List.map_append]
  simp [List.getD_eq_getElem?_getD, List.getElem?_eq_getElem hk]
theorem imgs_len {p q : Int} {rows : List (List Int)} {es : List Int} : (imgs p q rows es).length = rows.length := by simp [imgs]
noncomputable def linEq (p q : Int) (rows : List (List Int)) (ims pa pr : List Int) (e : Int) (i : Nat) : Bool := M.powL p q 1 (rows.getD i []) pr == M.mulL p [pa.getD i 0, M.gpw p q (ims.getD i 0) e]
noncomputable def linForm (p q : Int) (rows : List (List Int)) (pa pc pr : List Int) : Bool := ((pa.length : Int) == rows.length) && ((pc.length : Int) == 1) && ((pr.length : Int) == (rows.getD 0 []).length) && elemsB p q pa && expsB q pr
noncomputable def vLin (p q g : Int) (s : ByteArray) (rows : List (List Int)) (ims pa pc pr : List Int) : Bool := linForm p q rows pa pc pr && (pc.getD 0 0 == M.chal p q g s.data.toList (rows.flatten ++ (ims ++ pa))) && (List.range rows.length).all (linEq p q rows ims pa pr (M.chal p q g s.data.toList (rows.flatten ++ (ims ++ pa))))
theorem all_step {f : Nat → Bool} {k : Nat} (h : (List.range k).all f = true) (hk : f k = true) : (List.range (k + 1)).all f = true := by
  rw [List.range_succ, List.all_append, h]; simp [hk]
theorem all_false {f : Nat → Bool} {k n : Nat} (hk : k < n) (h : f k = false) : (List.range n).all f = false := by
  rw [List.all_eq_false]; exact ⟨k, List.mem_range.2 hk, by simp [h]⟩
theorem elemsB_all {p q : Int} {xs : List Int} (h : elemsB p q xs = true) : ∀ x ∈ xs, 0 ≤ x ∧ x < p := fun x hx => by have := elemsB_mem h hx; exact ⟨by have := this.1.1; omega, this.1.2⟩
theorem getD_bd {p : Int} {xs : List Int} (h : ∀ x ∈ xs, 0 ≤ x ∧ x < p) {k : Nat} (hk : k < xs.length) : 0 ≤ xs.getD k 0 ∧ xs.getD k 0 < p := h _ (getD_mem hk)
theorem lin_mem {p : Int} (hp : p ≤ 2000000000) {a b c : List Int} (ha : ∀ x ∈ a, 0 ≤ x ∧ x < p) (hb : ∀ x ∈ b, 0 ≤ x ∧ x < p) (hc : ∀ x ∈ c, 0 ≤ x ∧ x < p) : ∀ x ∈ a ++ (b ++ c), 0 ≤ x ∧ x ≤ 4611686018427387903 := by
  intro x hx
  rcases List.mem_append.1 hx with hx | hx
  · have := ha x hx; omega
  · rcases List.mem_append.1 hx with hx | hx
    · have := hb x hx; omega
    · have := hc x hx; omega
theorem getD_memL {xs : List (List Int)} {k : Nat} (h : k < xs.length) : xs.getD k [] ∈ xs := by
  rw [List.getD_eq_getElem?_getD, List.getElem?_eq_getElem h]; simp
noncomputable def c_images : Con0 := conF [(.pair .int (.pair .int .int)), (.list (.list .int)), (.list .int)] fun (⟨⟨p, q, g⟩, rows, es, _⟩ : (Int × Int × Int) × (List (List Int)) × (List Int) × Unit) => (M.Grp p q g ∧ rows.length ≤ 8 ∧ (∀ row ∈ rows, row.length ≤ es.length ∧ ∀ x ∈ row, 0 ≤ x ∧ x < p) ∧ ∀ e ∈ es, 0 ≤ e ∧ e < q, .own 0 (imgs p q rows es).length, [.row 3 .int (imgs p q rows es)])
noncomputable def G_images : List (FuncId × Con) := [(70, mk c_powers)]
theorem G_images_ok : ∀ f C, (f, C) ∈ G_images → C.ok Tryz.prog f := by
  intro f C h
  simp only [G_images, List.mem_cons, Prod.mk.injEq, List.not_mem_nil, or_false] at h
  obtain ⟨rfl, rfl⟩ := h
  exact ok_powers
set_option maxRecDepth 100000 in
set_option maxHeartbeats 4000000 in
theorem ok_images : (mk c_images).ok Tryz.prog 87 := okF (Θ := Th) (N := 26) (rs := [.tmp 6]) Th_ok Tryz.func87 (by kernel_rfl) rfl Tryz.results87 (by decide) (by kernel_rfl) fun (⟨⟨p, q, g⟩, rows, es, _⟩ : (Int × Int × Int) × (List (List Int)) × (List Int) × Unit) => ⟨rfl, rfl, Nat.le_of_ble_eq_true rfl, fun hc w0 => by
  have hL := dmy_eq
  try dsimp only at hc
  try dsimp only
  obtain ⟨hG, hrl, hall, hes⟩ := hc
  refine AWp.body rfl ?_
  repeat' first
    | ((with_reducible refine hK _ _ ?_); clear hK K)
    | ((with_reducible refine hK _ _ (by kernel_rfl) ?_); clear hK K)
    | ((with_reducible refine AWp.pS Th_ok G_images_ok [0, 1, 2, 3, 6, 7, 9, 11, 12, 13, 14] (by decide) ?_); intro K hK)
    | ((with_reducible refine AWp.dS (by kernel_rfl) Th_ok G_images_ok [0, 1, 2, 3, 6, 7, 9, 11, 12, 13, 14] ?_); intro K hK)
    | ((with_reducible refine AWp.pE Th_ok G_images_ok [0, 1, 2, 3, 6, 7, 9, 11, 12, 13, 14] (by decide) ?_); intro K hK)
    | ((with_reducible refine AWp.dE (by kernel_rfl) Th_ok G_images_ok [0, 1, 2, 3, 6, 7, 9, 11, 12, 13, 14] ?_); intro K hK)
    | ((first | with_reducible refine runF_id ?_ | with_reducible refine stepF_id ?_); simp (maxSteps := 2000000) only [runF, stepF, forkOf, gdOf, List.toList_toArray, stepOp, look, opAV, pureOp, callOp, memOp, AS.ev, AS.get, AS.obj, initS, initFrom, AV.cells, AS.upd, Option.bind_some, Option.bind_none, Option.map_some, Option.map_none, Option.getD_none, Option.getD_some, ↓reduceIte, Nat.reduceEqDiff, Nat.reduceAdd, Nat.reduceMul, Nat.reduceSub, List.nil_append, List.append_nil, List.cons_append, List.map_cons, List.map_nil, true_and, and_true, AS.fin, pick, dedup, List.mem_cons, List.not_mem_nil, or_false, false_or, List.size_toArray, List.length_cons, List.length_nil, loadAV, List.drop_zero, List.drop_succ_cons, List.take_zero, List.take_succ_cons, List.getElem?_cons_zero, List.getElem?_cons_succ, List.head?_cons, List.mapM_cons, List.mapM_nil, Option.bind_eq_bind, Option.pure_def, deeps3, deep3, deep2, deep1, deeps, deeps2, mixInts, AV.plain, mk, mkD, DCon.lift, DCon.runC, ren3, ren2, ren1, numb, List.zipIdx_nil, List.zipIdx_cons, List.all_nil, List.all_cons, Nat.reduceLeDiff, List.range, List.range.loop, Ty.sz, beq_self_eq_true, Bool.and_self, and_self, Ty.ofC, AO.isDead, Nat.reduceLT, if_true, Nat.zero_add, Nat.add_zero, ite_true, Nat.le_refl, Bool.false_eq_true, reduceCtorEq, if_false, ite_false, binAV, AO.ren, AV.isCell, fillAV, List.set_cons_zero, List.set_cons_succ, Ty.cells, Ty.flat, Ty.dflt, List.getD_cons_zero, List.getD_cons_succ, Int.reduceToNat, Int.reduceSub, Int.reduceAdd, Int.reduceMul, Int.reduceNeg, forall_eq_or_imp, forall_eq, gdL, id_eq, Nat.lt_irrefl, srcOf, List.replicate_succ, List.replicate_zero, dite_true, List.isEmpty_cons, Option.isSome_some, List.length_append, List.length_singleton, bne_self_eq_false, Bool.not_true, Bool.not_false, conF, asArgs, asArg, asTy, asI1, asB1, asS1, asL1, canons, canon, Fork.true_, Fork.false_, bne, Bool.not_not, List.length_map, pickO, AS.over, TI.bl, bne_iff_ne, AS.over2, without, keys, List.mem_singleton, memOp2, memOp3, absorb, abInt, abBool, abStr, abList, gones, Int.toNat_natCast, List.take_length, subE, List.nodup_cons, List.nodup_nil, not_false_eq_true, Nat.sub_self, conR, asG, asI, asBo, asStr, asIs, asBs, asE4, asI2, asI3, asLL, asLLL, Th_int, Th_bool, Th_string, Th_Sint, Th_SSint, Th_implGroup, Th_implProof, G_images, c_powers, List.append_assoc, hL])
    | ((with_reducible refine ens_step ?_ (fun hE => ?_)); · ((repeat' with_reducible apply And.intro) <;> first | with_reducible assumption | omega | exact True.intro | with_reducible rfl | (show ByteArray.size _ ≤ _; decide) | (simp; done) | (simp; omega) | rfl))
    | ((with_reducible refine And.intro ?_ ?_); · ((repeat' with_reducible apply And.intro) <;> first | with_reducible assumption | omega | exact True.intro | with_reducible rfl | (show ByteArray.size _ ≤ _; decide) | (simp; done) | (simp; omega) | rfl))
    | ((with_reducible refine Fork.intro (fun h' => ?_) (fun h' => ?_)) <;> (try simp only [Bool.not_eq_true', Bool.not_eq_false', bne] at h') <;> (replace hL := And.intro h' hL) <;> (try simp only [decide_eq_true_eq, decide_eq_false_iff_not, beq_iff_eq, beq_eq_false_iff_ne, ne_eq] at h') <;> (try (have hrow := hall _ (getD_memL (xs := rows) (k := k) (by omega)); obtain ⟨hr1, hr2⟩ := hrow)) <;> (try (have hke : k = rows.length := (by omega); subst hke)))
    | (with_reducible refine AWp.skipS ?_)
    | ((with_reducible refine AWp.condT rfl ?_))
    | ((with_reducible refine AWp.condF rfl ?_))
    | (with_reducible refine AWp.condB rfl ?_)
    | (with_reducible refine AWp.ret ?_)
    | (with_reducible refine seqQ_n ?_)
    | (with_reducible refine seqQ_ret ?_)
    | (with_reducible refine blkQ_ret ?_)
    | (with_reducible refine blkQ_n ?_)
    | (with_reducible refine seqQ_exit ?_)
    | (with_reducible refine blkQ_exit ?_)
    | (with_reducible refine blkQ_other (by decide) ?_)
    | (with_reducible refine AWp.block ?_)
    | (with_reducible refine AWp.exit ?_)
    | (with_reducible refine AWp.skip ?_)
    | ((with_reducible refine loop_id ?_); refine AWp.loopAt 3 rfl ?_; refine AWp.loopO [7, 9, 13, 14, 15, 16, 17, 18, 19, 20, 21, 22, 23, 24] (fun k => [(13, .lit (.int .i64 (k : Nat))), (7, .own 16 ((rows.take k).map (fun row => M.powL p q 1 row es)).length)]) (fun k => [(16, .row 3 .int ((rows.take k).map (fun row => M.powL p q 1 row es)))]) (fun k => k ≤ rows.length) (fun k => rows.length - k) 0 (by omega) (by refine Sub.auto (by first | exact frok0 | assumption) rfl rfl ?_ ?_ <;> (try simp only [subE, AS.over2, without, keys, look, List.cons_append, List.nil_append, List.append_nil, List.mem_cons, List.not_mem_nil, or_false, or_true, true_or, false_or, Nat.reduceEqDiff, ↓reduceIte, Option.some.injEq, AV.lit.injEq, Value.int.injEq, Value.bool.injEq, AV.own.injEq, AO.row.injEq, AO.box.injEq, List.cons.injEq, AV.agg.injEq, AV.sl.injEq, true_and, and_true, and_self, heq_eq_eq, List.length_nil, List.length_cons, List.map_nil, List.take_zero, Int.natCast_add, Int.cast_ofNat_Int, Int.natCast_zero, List.length_append, List.length_map, List.length_take, Nat.zero_add]) <;> (simp)) (fun k hk_3 L3 hLoop3 => ?_))
    | ((with_reducible refine seqQ_f ?_); refine hLoop3 (k + 1) _ (by omega) (by omega) ?_; (refine Sub.auto (by first | exact frok0 | assumption) rfl rfl ?_ ?_ <;> (try simp only [subE, AS.over2, without, keys, look, List.cons_append, List.nil_append, List.append_nil, List.mem_cons, List.not_mem_nil, or_false, or_true, true_or, false_or, Nat.reduceEqDiff, ↓reduceIte, Option.some.injEq, AV.lit.injEq, Value.int.injEq, Value.bool.injEq, AV.own.injEq, AO.row.injEq, AO.box.injEq, List.cons.injEq, AV.agg.injEq, AV.sl.injEq, true_and, and_true, and_self, heq_eq_eq, List.length_nil, List.length_cons, List.map_nil, List.take_zero, Int.natCast_add, Int.cast_ofNat_Int, Int.natCast_zero, List.length_append, List.length_map, List.length_take, Nat.zero_add]) <;> (first | (refine ⟨?_, ?_⟩ <;> omega) | omega | exact map_step (fun row => M.powL p q 1 row es) rows [] (by omega))))
    | ((with_reducible refine EndsAt_id ?_); (try subst_vars); (try simp only [imgs, List.length_map, hL, List.length_cons, List.length_nil, Nat.zero_add, Nat.reduceAdd, Bool.and_true, Bool.and_false, Bool.true_and, Bool.false_and, Bool.and_self, ↓reduceIte, Bool.false_eq_true, Bool.not_true, Bool.not_false, bne]); refine EndsAt.done [_] (by first | exact .inr rfl | exact .inl rfl) rfl rfl ?_ ?_ <;> first | decide | (repeat' (first | rfl | apply And.intro | trivial)))
    | (with_reducible refine AWp.seq ?_)⟩
noncomputable def c_sStatement : Con0 := conF [(.list (.list .int)), (.list .int), (.list .int)] fun (⟨rows, ims, pa, _⟩ : (List (List Int)) × (List Int) × (List Int) × Unit) => (rows.flatten.length ≤ 1000 ∧ ims.length ≤ 1000 ∧ pa.length ≤ 1000 ∧ rows.length ≤ 1000, .own 0 (rows.flatten ++ (ims ++ pa)).length, [.row 3 .int (rows.flatten ++ (ims ++ pa))])
noncomputable def G_sStatement : List (FuncId × Con) := []
theorem G_sStatement_ok : ∀ f C, (f, C) ∈ G_sStatement → C.ok Tryz.prog f := by
  intro f C h
  simp only [G_sStatement, List.mem_cons, Prod.mk.injEq, List.not_mem_nil, or_false] at h
set_option maxRecDepth 100000 in
set_option maxHeartbeats 4000000 in
theorem ok_sStatement : (mk c_sStatement).ok Tryz.prog 114 := okF (Θ := Th) (N := 25) (rs := [.tmp 6]) Th_ok Tryz.func114 (by kernel_rfl) rfl Tryz.results114 (by decide) (by kernel_rfl) fun (⟨rows, ims, pa, _⟩ : (List (List Int)) × (List Int) × (List Int) × Unit) => ⟨rfl, rfl, Nat.le_of_ble_eq_true rfl, fun hc w0 => by
  have hL := dmy_eq
  try dsimp only at hc
  try dsimp only
  obtain ⟨h1, h2, h3, h4⟩ := hc
  have hcl := cat_len (xss := rows) (by omega)
  refine AWp.body rfl ?_
  repeat' first
    | ((with_reducible refine hK _ _ ?_); clear hK K)
    | ((with_reducible refine hK _ _ (by kernel_rfl) ?_); clear hK K)
    | ((with_reducible refine AWp.pS Th_ok G_sStatement_ok [0, 1, 2, 6, 7, 9, 10, 11, 12, 13] (by decide) ?_); intro K hK)
    | ((with_reducible refine AWp.dS (by kernel_rfl) Th_ok G_sStatement_ok [0, 1, 2, 6, 7, 9, 10, 11, 12, 13] ?_); intro K hK)
    | ((with_reducible refine AWp.pE Th_ok G_sStatement_ok [0, 1, 2, 6, 7, 9, 10, 11, 12, 13] (by decide) ?_); intro K hK)
    | ((with_reducible refine AWp.dE (by kernel_rfl) Th_ok G_sStatement_ok [0, 1, 2, 6, 7, 9, 10, 11, 12, 13] ?_); intro K hK)
    | ((first | with_reducible refine runF_id ?_ | with_reducible refine stepF_id ?_); simp (maxSteps := 2000000) only [runF, stepF, forkOf, gdOf, List.toList_toArray, stepOp, look, opAV, pureOp, callOp, memOp, AS.ev, AS.get, AS.obj, initS, initFrom, AV.cells, AS.upd, Option.bind_some, Option.bind_none, Option.map_some, Option.map_none, Option.getD_none, Option.getD_some, ↓reduceIte, Nat.reduceEqDiff, Nat.reduceAdd, Nat.reduceMul, Nat.reduceSub, List.nil_append, List.append_nil, List.cons_append, List.map_cons, List.map_nil, true_and, and_true, AS.fin, pick, dedup, List.mem_cons, List.not_mem_nil, or_false, false_or, List.size_toArray, List.length_cons, List.length_nil, loadAV, List.drop_zero, List.drop_succ_cons, List.take_zero, List.take_succ_cons, List.getElem?_cons_zero, List.getElem?_cons_succ, List.head?_cons, List.mapM_cons, List.mapM_nil, Option.bind_eq_bind, Option.pure_def, deeps3, deep3, deep2, deep1, deeps, deeps2, mixInts, AV.plain, mk, mkD, DCon.lift, DCon.runC, ren3, ren2, ren1, numb, List.zipIdx_nil, List.zipIdx_cons, List.all_nil, List.all_cons, Nat.reduceLeDiff, List.range, List.range.loop, Ty.sz, beq_self_eq_true, Bool.and_self, and_self, Ty.ofC, AO.isDead, Nat.reduceLT, if_true, Nat.zero_add, Nat.add_zero, ite_true, Nat.le_refl, Bool.false_eq_true, reduceCtorEq, if_false, ite_false, binAV, AO.ren, AV.isCell, fillAV, List.set_cons_zero, List.set_cons_succ, Ty.cells, Ty.flat, Ty.dflt, List.getD_cons_zero, List.getD_cons_succ, Int.reduceToNat, Int.reduceSub, Int.reduceAdd, Int.reduceMul, Int.reduceNeg, forall_eq_or_imp, forall_eq, gdL, id_eq, Nat.lt_irrefl, srcOf, List.replicate_succ, List.replicate_zero, dite_true, List.isEmpty_cons, Option.isSome_some, List.length_append, List.length_singleton, bne_self_eq_false, Bool.not_true, Bool.not_false, conF, asArgs, asArg, asTy, asI1, asB1, asS1, asL1, canons, canon, Fork.true_, Fork.false_, bne, Bool.not_not, List.length_map, pickO, AS.over, TI.bl, bne_iff_ne, AS.over2, without, keys, List.mem_singleton, memOp2, memOp3, absorb, abInt, abBool, abStr, abList, gones, Int.toNat_natCast, List.take_length, subE, List.nodup_cons, List.nodup_nil, not_false_eq_true, Nat.sub_self, conR, asG, asI, asBo, asStr, asIs, asBs, asE4, asI2, asI3, asLL, asLLL, Th_int, Th_bool, Th_string, Th_Sint, Th_SSint, Th_implGroup, Th_implProof, G_sStatement, List.append_assoc, hL])
    | ((with_reducible refine ens_step ?_ (fun hE => ?_)); · ((repeat' with_reducible apply And.intro) <;> first | with_reducible assumption | omega | exact True.intro | with_reducible rfl | (show ByteArray.size _ ≤ _; decide) | (simp; done) | (simp; omega) | rfl))
    | ((with_reducible refine And.intro ?_ ?_); · ((repeat' with_reducible apply And.intro) <;> first | with_reducible assumption | omega | exact True.intro | with_reducible rfl | (show ByteArray.size _ ≤ _; decide) | (simp; done) | (simp; omega) | rfl))
    | ((with_reducible refine Fork.intro (fun h' => ?_) (fun h' => ?_)) <;> (try simp only [Bool.not_eq_true', Bool.not_eq_false', bne] at h') <;> (replace hL := And.intro h' hL) <;> (try simp only [decide_eq_true_eq, decide_eq_false_iff_not, beq_iff_eq, beq_eq_false_iff_ne, ne_eq] at h') <;> (try (have hct := congrArg List.length (cat_take (xss := rows) (k := k) (by omega)); rw [List.length_append] at hct)) <;> (try (have hke : k = rows.length := (by omega); subst hke)))
    | (with_reducible refine AWp.skipS ?_)
    | ((with_reducible refine AWp.condT rfl ?_))
    | ((with_reducible refine AWp.condF rfl ?_))
    | (with_reducible refine AWp.condB rfl ?_)
    | (with_reducible refine AWp.ret ?_)
    | (with_reducible refine seqQ_n ?_)
    | (with_reducible refine seqQ_ret ?_)
    | (with_reducible refine blkQ_ret ?_)
    | (with_reducible refine blkQ_n ?_)
    | (with_reducible refine seqQ_exit ?_)
    | (with_reducible refine blkQ_exit ?_)
    | (with_reducible refine blkQ_other (by decide) ?_)
    | (with_reducible refine AWp.block ?_)
    | (with_reducible refine AWp.exit ?_)
    | (with_reducible refine AWp.skip ?_)
    | ((with_reducible refine loop_id ?_); refine AWp.loopAt 3 rfl ?_; refine AWp.sub (Sub.nilSlot 7 300007 3 .int rfl rfl) ?_; refine AWp.loopO [7, 9, 12, 13, 14, 15, 16, 17, 18, 19] (fun k => [(12, .lit (.int .i64 (k : Nat))), (7, .own 300007 (rows.take k).flatten.length)]) (fun k => [(300007, .row 3 .int (rows.take k).flatten)]) (fun k => k ≤ rows.length) (fun k => rows.length - k) 0 (by omega) (by refine Sub.auto (by first | exact frok0 | assumption) rfl rfl ?_ ?_ <;> (try simp only [subE, AS.over2, without, keys, look, List.cons_append, List.nil_append, List.append_nil, List.mem_cons, List.not_mem_nil, or_false, or_true, true_or, false_or, Nat.reduceEqDiff, ↓reduceIte, Option.some.injEq, AV.lit.injEq, Value.int.injEq, Value.bool.injEq, AV.own.injEq, AO.row.injEq, AO.box.injEq, List.cons.injEq, AV.agg.injEq, AV.sl.injEq, true_and, and_true, and_self, heq_eq_eq, List.length_nil, List.length_cons, List.map_nil, List.take_zero, Int.natCast_add, Int.cast_ofNat_Int, Int.natCast_zero, List.length_append, List.length_map, List.length_take, Nat.zero_add]) <;> (simp)) (fun k hk_3 L3 hLoop3 => ?_); have hk1 := hcl k; have hk2 := hcl (k + 1))
    | ((with_reducible refine seqQ_f ?_); refine hLoop3 (k + 1) _ (by omega) (by omega) ?_; (refine Sub.auto (by first | exact frok0 | assumption) rfl rfl ?_ ?_ <;> (try simp only [subE, AS.over2, without, keys, look, List.cons_append, List.nil_append, List.append_nil, List.mem_cons, List.not_mem_nil, or_false, or_true, true_or, false_or, Nat.reduceEqDiff, ↓reduceIte, Option.some.injEq, AV.lit.injEq, Value.int.injEq, Value.bool.injEq, AV.own.injEq, AO.row.injEq, AO.box.injEq, List.cons.injEq, AV.agg.injEq, AV.sl.injEq, true_and, and_true, and_self, heq_eq_eq, List.length_nil, List.length_cons, List.map_nil, List.take_zero, Int.natCast_add, Int.cast_ofNat_Int, Int.natCast_zero, List.length_append, List.length_map, List.length_take, Nat.zero_add]) <;> (first | omega | exact (cat_take (by omega)).symm)))
    | ((with_reducible refine EndsAt_id ?_); (try subst_vars); (try simp only [List.length_append, List.append_assoc, hL, List.length_cons, List.length_nil, Nat.zero_add, Nat.reduceAdd, Bool.and_true, Bool.and_false, Bool.true_and, Bool.false_and, Bool.and_self, ↓reduceIte, Bool.false_eq_true, Bool.not_true, Bool.not_false, bne]); refine EndsAt.done [_] (by first | exact .inr rfl | exact .inl rfl) rfl rfl ?_ ?_ <;> first | decide | (repeat' (first | rfl | apply And.intro | trivial)))
    | (with_reducible refine AWp.seq ?_)⟩
noncomputable def c_verifyLinear : Con0 := conF [(.pair .int (.pair .int .int)), .str, (.list (.list .int)), (.list .int), (.pair (.list .int) (.pair (.list .int) (.list .int)))] fun (⟨⟨p, q, g⟩, s, rows, ims, ⟨pa, pc, pr⟩, _⟩ : (Int × Int × Int) × ByteArray × (List (List Int)) × (List Int) × (List Int × List Int × List Int) × Unit) => (M.Grp p q g ∧ s.size ≤ 40 ∧ RowsOK p rows ∧ ims.length = rows.length ∧ ∀ x ∈ ims, 0 ≤ x ∧ x < p, .lit (.bool (vLin p q g s rows ims pa pc pr)), [])
noncomputable def G_verifyLinear : List (FuncId × Con) := [(73, mk c_hasAll), (84, mk c_areExps), (86, mk c_Concat), (85, mk c_challenge), (87, mk c_images), (88, mk c_pow), (68, mk c_mul)]
theorem G_verifyLinear_ok : ∀ f C, (f, C) ∈ G_verifyLinear → C.ok Tryz.prog f := by
  intro f C h
  simp only [G_verifyLinear, List.mem_cons, Prod.mk.injEq, List.not_mem_nil, or_false] at h
  rcases h with ⟨rfl, rfl⟩ | ⟨rfl, rfl⟩ | ⟨rfl, rfl⟩ | ⟨rfl, rfl⟩ | ⟨rfl, rfl⟩ | ⟨rfl, rfl⟩ | ⟨rfl, rfl⟩
  · exact ok_hasAll
  · exact ok_areExps
  · exact ok_Concat
  · exact ok_challenge
  · exact ok_images
  · exact ok_pow
  · exact ok_mul
set_option maxRecDepth 100000 in
set_option maxHeartbeats 4000000 in
theorem ok_verifyLinear : (mk c_verifyLinear).ok Tryz.prog 61 := okF (Θ := Th) (N := 103) (rs := [.tmp 10]) Th_ok Tryz.func61 (by kernel_rfl) rfl Tryz.results61 (by decide) (by kernel_rfl) fun (⟨⟨p, q, g⟩, s, rows, ims, ⟨pa, pc, pr⟩, _⟩ : (Int × Int × Int) × ByteArray × (List (List Int)) × (List Int) × (List Int × List Int × List Int) × Unit) => ⟨rfl, rfl, Nat.le_of_ble_eq_true rfl, fun hc w0 => by
  have hL := dmy_eq
  try dsimp only at hc
  try dsimp only
  obtain ⟨hG, hs, hR, hil, him⟩ := hc
  have hq2 := hG.q2
  have hqp := hG.qp
  have hp3 := hG.p3
  have hpM := hG.pM
  have hgb : 0 ≤ g ∧ g < p := ⟨by have := hG.g2; omega, hG.gp⟩
  have hrl := hR.len
  have hrw := hR.wid
  obtain ⟨hf1, hf2, hf3⟩ := hR.flat
  have hch := chal_bd (p := p) (q := q) (g := g) (by omega) s.data.toList (rows.flatten ++ (ims ++ pa))
  refine AWp.body rfl ?_
  repeat' first
    | ((with_reducible refine hK _ _ ?_); clear hK K)
    | ((with_reducible refine hK _ _ (by kernel_rfl) ?_); clear hK K)
    | ((with_reducible refine AWp.pS Th_ok G_verifyLinear_ok [0, 1, 2, 3, 4, 5, 9, 10, 11, 12, 13, 14, 50, 73, 78, 79, 80, 81, 101] (by decide) ?_); intro K hK)
    | ((with_reducible refine AWp.dS (by kernel_rfl) Th_ok G_verifyLinear_ok [0, 1, 2, 3, 4, 5, 9, 10, 11, 12, 13, 14, 50, 73, 78, 79, 80, 81, 101] ?_); intro K hK)
    | ((with_reducible refine AWp.pE Th_ok G_verifyLinear_ok [0, 1, 2, 3, 4, 5, 9, 10, 11, 12, 13, 14, 50, 73, 78, 79, 80, 81, 101] (by decide) ?_); intro K hK)
    | ((with_reducible refine AWp.dE (by kernel_rfl) Th_ok G_verifyLinear_ok [0, 1, 2, 3, 4, 5, 9, 10, 11, 12, 13, 14, 50, 73, 78, 79, 80, 81, 101] ?_); intro K hK)
    | ((first | with_reducible refine runF_id ?_ | with_reducible refine stepF_id ?_); simp (maxSteps := 2000000) only [runF, stepF, forkOf, gdOf, List.toList_toArray, stepOp, look, opAV, pureOp, callOp, memOp, AS.ev, AS.get, AS.obj, initS, initFrom, AV.cells, AS.upd, Option.bind_some, Option.bind_none, Option.map_some, Option.map_none, Option.getD_none, Option.getD_some, ↓reduceIte, Nat.reduceEqDiff, Nat.reduceAdd, Nat.reduceMul, Nat.reduceSub, List.nil_append, List.append_nil, List.cons_append, List.map_cons, List.map_nil, true_and, and_true, AS.fin, pick, dedup, List.mem_cons, List.not_mem_nil, or_false, false_or, List.size_toArray, List.length_cons, List.length_nil, loadAV, List.drop_zero, List.drop_succ_cons, List.take_zero, List.take_succ_cons, List.getElem?_cons_zero, List.getElem?_cons_succ, List.head?_cons, List.mapM_cons, List.mapM_nil, Option.bind_eq_bind, Option.pure_def, deeps3, deep3, deep2, deep1, deeps, deeps2, mixInts, AV.plain, mk, mkD, DCon.lift, DCon.runC, ren3, ren2, ren1, numb, List.zipIdx_nil, List.zipIdx_cons, List.all_nil, List.all_cons, Nat.reduceLeDiff, List.range, List.range.loop, Ty.sz, beq_self_eq_true, Bool.and_self, and_self, Ty.ofC, AO.isDead, Nat.reduceLT, if_true, Nat.zero_add, Nat.add_zero, ite_true, Nat.le_refl, Bool.false_eq_true, reduceCtorEq, if_false, ite_false, binAV, AO.ren, AV.isCell, fillAV, List.set_cons_zero, List.set_cons_succ, Ty.cells, Ty.flat, Ty.dflt, List.getD_cons_zero, List.getD_cons_succ, Int.reduceToNat, Int.reduceSub, Int.reduceAdd, Int.reduceMul, Int.reduceNeg, forall_eq_or_imp, forall_eq, gdL, id_eq, Nat.lt_irrefl, srcOf, List.replicate_succ, List.replicate_zero, dite_true, List.isEmpty_cons, Option.isSome_some, List.length_append, List.length_singleton, bne_self_eq_false, Bool.not_true, Bool.not_false, conF, asArgs, asArg, asTy, asI1, asB1, asS1, asL1, canons, canon, Fork.true_, Fork.false_, bne, Bool.not_not, List.length_map, pickO, AS.over, TI.bl, bne_iff_ne, AS.over2, without, keys, List.mem_singleton, memOp2, memOp3, absorb, abInt, abBool, abStr, abList, gones, Int.toNat_natCast, List.take_length, subE, List.nodup_cons, List.nodup_nil, not_false_eq_true, Nat.sub_self, conR, asG, asI, asBo, asStr, asIs, asBs, asE4, asI2, asI3, asLL, asLLL, Th_int, Th_bool, Th_string, Th_Sint, Th_SSint, Th_implGroup, Th_implProof, G_verifyLinear, c_hasAll, c_areExps, c_Concat, c_challenge, c_images, c_pow, c_mul, List.append_assoc, List.flatten_cons, List.flatten_nil, List.append_nil, imgs_len, hL])
    | ((with_reducible refine ens_step ?_ (fun hE => ?_)); · ((repeat' with_reducible apply And.intro) <;> first | with_reducible assumption | omega | exact True.intro | with_reducible rfl | exact (gpw_bd (by omega)).1 | exact (gpw_bd (by omega)).2 | (show ByteArray.size _ ≤ _; decide) | (simp; done) | (simp; omega) | rfl))
    | ((with_reducible refine And.intro ?_ ?_); · ((repeat' with_reducible apply And.intro) <;> first | with_reducible assumption | omega | exact True.intro | with_reducible rfl | exact (gpw_bd (by omega)).1 | exact (gpw_bd (by omega)).2 | (show ByteArray.size _ ≤ _; decide) | (simp; done) | (simp; omega) | rfl))
    | ((with_reducible refine Fork.intro (fun h' => ?_) (fun h' => ?_)) <;> (try simp only [Bool.not_eq_true', Bool.not_eq_false', bne] at h') <;> (replace hL := And.intro h' hL) <;> (try simp only [decide_eq_true_eq, decide_eq_false_iff_not, beq_iff_eq, beq_eq_false_iff_ne, ne_eq] at h') <;> (try (have hpa := elemsB_all h'; have hmem := lin_mem hpM hf3 him hpa)) <;> (try (have hpr := expsB_all h'; have hall : ∀ row ∈ rows, row.length ≤ pr.length ∧ ∀ x ∈ row, 0 ≤ x ∧ x < p := fun row hr => ⟨by have := hR.each row hr; omega, hR.bd row hr⟩)) <;> (try (have hb1 := getD_bd hpa (k := k) (by omega); have hb2 := getD_bd him (k := k) (by omega); have hrow := hall _ (getD_memL (xs := rows) (k := k) (by omega)); obtain ⟨hr1, hr2⟩ := hrow; have hig := imgs_get (p := p) (q := q) (rows := rows) (es := pr) (k := k) (by omega); replace hL := And.intro hig hL)) <;> (try (have hlf : linEq p q rows ims pa pr (M.chal p q g s.data.toList (rows.flatten ++ (ims ++ pa))) k = false := hL.2.1; have haf := all_false (n := rows.length) (by omega) hlf; replace hL := And.intro haf hL)) <;> (try (have hke : k = rows.length := (by omega); subst hke; replace hL := And.intro hk2 hL)))
    | (with_reducible refine AWp.skipS ?_)
    | ((with_reducible refine AWp.condT rfl ?_))
    | ((with_reducible refine AWp.condF rfl ?_))
    | (with_reducible refine AWp.condB rfl ?_)
    | (with_reducible refine AWp.ret ?_)
    | (with_reducible refine seqQ_n ?_)
    | (with_reducible refine seqQ_ret ?_)
    | (with_reducible refine blkQ_ret ?_)
    | (with_reducible refine blkQ_n ?_)
    | (with_reducible refine seqQ_exit ?_)
    | (with_reducible refine blkQ_exit ?_)
    | (with_reducible refine blkQ_other (by decide) ?_)
    | (with_reducible refine AWp.block ?_)
    | (with_reducible refine AWp.exit ?_)
    | (with_reducible refine AWp.skip ?_)
    | ((with_reducible refine loop_id ?_); refine AWp.loopAt 7 rfl ?_; refine AWp.loopO [10, 13, 14, 80, 81, 82, 83, 84, 85, 86, 87, 88, 89, 90, 91, 92, 93, 94, 95, 96, 97, 98, 99, 100, 101, 102] (fun k => [(80, .lit (.int .i64 (k : Nat)))]) (fun k => []) (fun k => k ≤ rows.length ∧ (List.range k).all (linEq p q rows ims pa pr (M.chal p q g s.data.toList (rows.flatten ++ (ims ++ pa)))) = true) (fun k => rows.length - k) 0 (by exact ⟨by omega, rfl⟩) (by refine Sub.auto (by first | exact frok0 | assumption) rfl rfl ?_ ?_ <;> (try simp only [subE, AS.over2, without, keys, look, List.cons_append, List.nil_append, List.append_nil, List.mem_cons, List.not_mem_nil, or_false, or_true, true_or, false_or, Nat.reduceEqDiff, ↓reduceIte, Option.some.injEq, AV.lit.injEq, Value.int.injEq, Value.bool.injEq, AV.own.injEq, AO.row.injEq, AO.box.injEq, List.cons.injEq, AV.agg.injEq, AV.sl.injEq, true_and, and_true, and_self, heq_eq_eq, List.length_nil, List.length_cons, List.map_nil, List.take_zero, Int.natCast_add, Int.cast_ofNat_Int, Int.natCast_zero, List.length_append, List.length_map, List.length_take, Nat.zero_add]) <;> (simp)) (fun k hk_7 L7 hLoop7 => ?_); obtain ⟨hk1, hk2⟩ := hk_7)
    | ((with_reducible refine seqQ_f ?_); refine hLoop7 (k + 1) _ (by exact ⟨by omega, all_step hk2 hL.2.1⟩) (by omega) ?_; (refine Sub.auto (by first | exact frok0 | assumption) rfl rfl ?_ ?_ <;> (try simp only [subE, AS.over2, without, keys, look, List.cons_append, List.nil_append, List.append_nil, List.mem_cons, List.not_mem_nil, or_false, or_true, true_or, false_or, Nat.reduceEqDiff, ↓reduceIte, Option.some.injEq, AV.lit.injEq, Value.int.injEq, Value.bool.injEq, AV.own.injEq, AO.row.injEq, AO.box.injEq, List.cons.injEq, AV.agg.injEq, AV.sl.injEq, true_and, and_true, and_self, heq_eq_eq, List.length_nil, List.length_cons, List.map_nil, List.take_zero, Int.natCast_add, Int.cast_ofNat_Int, Int.natCast_zero, List.length_append, List.length_map, List.length_take, Nat.zero_add]) <;> (omega)))
    | ((with_reducible refine EndsAt_id ?_); (try subst_vars); (try simp only [vLin, linForm, hL, List.length_cons, List.length_nil, Nat.zero_add, Nat.reduceAdd, Bool.and_true, Bool.and_false, Bool.true_and, Bool.false_and, Bool.and_self, ↓reduceIte, Bool.false_eq_true, Bool.not_true, Bool.not_false, bne]); refine EndsAt.done [] (by first | exact .inr rfl | exact .inl rfl) rfl rfl ?_ ?_ <;> first | decide | (repeat' (first | rfl | apply And.intro | trivial)))
    | (with_reducible refine AWp.seq ?_)⟩
noncomputable def c_sVerify : Con0 := conF [(.pair .int (.pair .int .int)), .str, (.list (.list .int)), (.list .int), (.pair (.list .int) (.pair (.list .int) (.list .int)))] fun (⟨⟨p, q, g⟩, s, rows, ims, ⟨pa, pc, pr⟩, _⟩ : (Int × Int × Int) × ByteArray × (List (List Int)) × (List Int) × (List Int × List Int × List Int) × Unit) => (M.Grp p q g ∧ s.size ≤ 40 ∧ RowsOK p rows ∧ ims.length = rows.length ∧ ∀ x ∈ ims, 0 ≤ x ∧ x < p, .lit (.bool (vLin p q g s rows ims pa pc pr)), [])
noncomputable def G_sVerify : List (FuncId × Con) := [(54, mk c_gIs), (112, mk c_gExps), (114, mk c_sStatement), (113, mk c_hChallenge), (103, mk c_gProd), (82, mk c_gExp), (81, mk c_gMul)]
theorem G_sVerify_ok : ∀ f C, (f, C) ∈ G_sVerify → C.ok Tryz.prog f := by
  intro f C h
  simp only [G_sVerify, List.mem_cons, Prod.mk.injEq, List.not_mem_nil, or_false] at h
  rcases h with ⟨rfl, rfl⟩ | ⟨rfl, rfl⟩ | ⟨rfl, rfl⟩ | ⟨rfl, rfl⟩ | ⟨rfl, rfl⟩ | ⟨rfl, rfl⟩ | ⟨rfl, rfl⟩
  · exact ok_gIs
  · exact ok_gExps
  · exact ok_sStatement
  · exact ok_hChallenge
  · exact ok_gProd
  · exact ok_gExp
  · exact ok_gMul
set_option maxRecDepth 100000 in
set_option maxHeartbeats 4000000 in
theorem ok_sVerify : (mk c_sVerify).ok Tryz.prog 80 := okF (Θ := Th) (N := 93) (rs := [.tmp 10]) Th_ok Tryz.func80 (by kernel_rfl) rfl Tryz.results80 (by decide) (by kernel_rfl) fun (⟨⟨p, q, g⟩, s, rows, ims, ⟨pa, pc, pr⟩, _⟩ : (Int × Int × Int) × ByteArray × (List (List Int)) × (List Int) × (List Int × List Int × List Int) × Unit) => ⟨rfl, rfl, Nat.le_of_ble_eq_true rfl, fun hc w0 => by
  have hL := dmy_eq
  try dsimp only at hc
  try dsimp only
  obtain ⟨hG, hs, hR, hil, him⟩ := hc
  have hq2 := hG.q2
  have hqp := hG.qp
  have hp3 := hG.p3
  have hpM := hG.pM
  have hgb : 0 ≤ g ∧ g < p := ⟨by have := hG.g2; omega, hG.gp⟩
  have hrl := hR.len
  have hrw := hR.wid
  obtain ⟨hf1, hf2, hf3⟩ := hR.flat
  have hch := chal_bd (p := p) (q := q) (g := g) (by omega) s.data.toList (rows.flatten ++ (ims ++ pa))
  refine AWp.body rfl ?_
  repeat' first
    | ((with_reducible refine hK _ _ ?_); clear hK K)
    | ((with_reducible refine hK _ _ (by kernel_rfl) ?_); clear hK K)
    | ((with_reducible refine AWp.pS Th_ok G_sVerify_ok [0, 1, 2, 3, 4, 5, 9, 10, 11, 12, 13, 49, 63, 64, 65, 66, 67, 91] (by decide) ?_); intro K hK)
    | ((with_reducible refine AWp.dS (by kernel_rfl) Th_ok G_sVerify_ok [0, 1, 2, 3, 4, 5, 9, 10, 11, 12, 13, 49, 63, 64, 65, 66, 67, 91] ?_); intro K hK)
    | ((with_reducible refine AWp.pE Th_ok G_sVerify_ok [0, 1, 2, 3, 4, 5, 9, 10, 11, 12, 13, 49, 63, 64, 65, 66, 67, 91] (by decide) ?_); intro K hK)
    | ((with_reducible refine AWp.dE (by kernel_rfl) Th_ok G_sVerify_ok [0, 1, 2, 3, 4, 5, 9, 10, 11, 12, 13, 49, 63, 64, 65, 66, 67, 91] ?_); intro K hK)
    | ((first | with_reducible refine runF_id ?_ | with_reducible refine stepF_id ?_); simp (maxSteps := 2000000) only [runF, stepF, forkOf, gdOf, List.toList_toArray, stepOp, look, opAV, pureOp, callOp, memOp, AS.ev, AS.get, AS.obj, initS, initFrom, AV.cells, AS.upd, Option.bind_some, Option.bind_none, Option.map_some, Option.map_none, Option.getD_none, Option.getD_some, ↓reduceIte, Nat.reduceEqDiff, Nat.reduceAdd, Nat.reduceMul, Nat.reduceSub, List.nil_append, List.append_nil, List.cons_append, List.map_cons, List.map_nil, true_and, and_true, AS.fin, pick, dedup, List.mem_cons, List.not_mem_nil, or_false, false_or, List.size_toArray, List.length_cons, List.length_nil, loadAV, List.drop_zero, List.drop_succ_cons, List.take_zero, List.take_succ_cons, List.getElem?_cons_zero, List.getElem?_cons_succ, List.head?_cons, List.mapM_cons, List.mapM_nil, Option.bind_eq_bind, Option.pure_def, deeps3, deep3, deep2, deep1, deeps, deeps2, mixInts, AV.plain, mk, mkD, DCon.lift, DCon.runC, ren3, ren2, ren1, numb, List.zipIdx_nil, List.zipIdx_cons, List.all_nil, List.all_cons, Nat.reduceLeDiff, List.range, List.range.loop, Ty.sz, beq_self_eq_true, Bool.and_self, and_self, Ty.ofC, AO.isDead, Nat.reduceLT, if_true, Nat.zero_add, Nat.add_zero, ite_true, Nat.le_refl, Bool.false_eq_true, reduceCtorEq, if_false, ite_false, binAV, AO.ren, AV.isCell, fillAV, List.set_cons_zero, List.set_cons_succ, Ty.cells, Ty.flat, Ty.dflt, List.getD_cons_zero, List.getD_cons_succ, Int.reduceToNat, Int.reduceSub, Int.reduceAdd, Int.reduceMul, Int.reduceNeg, forall_eq_or_imp, forall_eq, gdL, id_eq, Nat.lt_irrefl, srcOf, List.replicate_succ, List.replicate_zero, dite_true, List.isEmpty_cons, Option.isSome_some, List.length_append, List.length_singleton, bne_self_eq_false, Bool.not_true, Bool.not_false, conF, asArgs, asArg, asTy, asI1, asB1, asS1, asL1, canons, canon, Fork.true_, Fork.false_, bne, Bool.not_not, List.length_map, pickO, AS.over, TI.bl, bne_iff_ne, AS.over2, without, keys, List.mem_singleton, memOp2, memOp3, absorb, abInt, abBool, abStr, abList, gones, Int.toNat_natCast, List.take_length, subE, List.nodup_cons, List.nodup_nil, not_false_eq_true, Nat.sub_self, conR, asG, asI, asBo, asStr, asIs, asBs, asE4, asI2, asI3, asLL, asLLL, Th_int, Th_bool, Th_string, Th_Sint, Th_SSint, Th_implGroup, Th_implProof, G_sVerify, c_gIs, c_gExps, c_sStatement, c_hChallenge, c_gProd, c_gExp, c_gMul, List.append_assoc, hL])
    | ((with_reducible refine ens_step ?_ (fun hE => ?_)); · ((repeat' with_reducible apply And.intro) <;> first | with_reducible assumption | omega | exact True.intro | with_reducible rfl | exact (gpw_bd (by omega)).1 | exact (gpw_bd (by omega)).2 | (show ByteArray.size _ ≤ _; decide) | (simp; done) | (simp; omega) | rfl))
    | ((with_reducible refine And.intro ?_ ?_); · ((repeat' with_reducible apply And.intro) <;> first | with_reducible assumption | omega | exact True.intro | with_reducible rfl | exact (gpw_bd (by omega)).1 | exact (gpw_bd (by omega)).2 | (show ByteArray.size _ ≤ _; decide) | (simp; done) | (simp; omega) | rfl))
    | ((with_reducible refine Fork.intro (fun h' => ?_) (fun h' => ?_)) <;> (try simp only [Bool.not_eq_true', Bool.not_eq_false', bne] at h') <;> (replace hL := And.intro h' hL) <;> (try simp only [decide_eq_true_eq, decide_eq_false_iff_not, beq_iff_eq, beq_eq_false_iff_ne, ne_eq] at h') <;> (try (have hpa := elemsB_all h'; have hmem := lin_mem hpM hf3 him hpa)) <;> (try (have hpr := expsB_all h'; have hall : ∀ row ∈ rows, row.length ≤ pr.length ∧ ∀ x ∈ row, 0 ≤ x ∧ x < p := fun row hr => ⟨by have := hR.each row hr; omega, hR.bd row hr⟩)) <;> (try (have hpc := h'; replace hpc : pc.getD 0 0 = M.chal p q g s.data.toList (rows.flatten ++ (ims ++ pa)) := h')) <;> (try (have hb1 := getD_bd hpa (k := k) (by omega); have hb2 := getD_bd him (k := k) (by omega); have hrow := hall _ (getD_memL (xs := rows) (k := k) (by omega)); obtain ⟨hr1, hr2⟩ := hrow)) <;> (try (have hlf : linEq p q rows ims pa pr (M.chal p q g s.data.toList (rows.flatten ++ (ims ++ pa))) k = false := hpc ▸ hL.1; have haf := all_false (n := rows.length) (by omega) hlf; replace hL := And.intro haf hL)) <;> (try (have hke : k = rows.length := (by omega); subst hke; replace hL := And.intro hk2 hL)))
    | (with_reducible refine AWp.skipS ?_)
    | ((with_reducible refine AWp.condT rfl ?_))
    | ((with_reducible refine AWp.condF rfl ?_))
    | (with_reducible refine AWp.condB rfl ?_)
    | (with_reducible refine AWp.ret ?_)
    | (with_reducible refine seqQ_n ?_)
    | (with_reducible refine seqQ_ret ?_)
    | (with_reducible refine blkQ_ret ?_)
    | (with_reducible refine blkQ_n ?_)
    | (with_reducible refine seqQ_exit ?_)
    | (with_reducible refine blkQ_exit ?_)
    | (with_reducible refine blkQ_other (by decide) ?_)
    | (with_reducible refine AWp.block ?_)
    | (with_reducible refine AWp.exit ?_)
    | (with_reducible refine AWp.skip ?_)
    | ((with_reducible refine loop_id ?_); refine AWp.loopAt 7 rfl ?_; refine AWp.loopO [10, 12, 13, 66, 67, 68, 69, 70, 71, 72, 73, 74, 75, 76, 77, 78, 79, 80, 81, 82, 83, 84, 85, 86, 87, 88, 89, 90, 91, 92] (fun k => [(66, .lit (.int .i64 (k : Nat)))]) (fun k => []) (fun k => k ≤ rows.length ∧ (List.range k).all (linEq p q rows ims pa pr (M.chal p q g s.data.toList (rows.flatten ++ (ims ++ pa)))) = true) (fun k => rows.length - k) 0 (by exact ⟨by omega, rfl⟩) (by refine Sub.auto (by first | exact frok0 | assumption) rfl rfl ?_ ?_ <;> (try simp only [subE, AS.over2, without, keys, look, List.cons_append, List.nil_append, List.append_nil, List.mem_cons, List.not_mem_nil, or_false, or_true, true_or, false_or, Nat.reduceEqDiff, ↓reduceIte, Option.some.injEq, AV.lit.injEq, Value.int.injEq, Value.bool.injEq, AV.own.injEq, AO.row.injEq, AO.box.injEq, List.cons.injEq, AV.agg.injEq, AV.sl.injEq, true_and, and_true, and_self, heq_eq_eq, List.length_nil, List.length_cons, List.map_nil, List.take_zero, Int.natCast_add, Int.cast_ofNat_Int, Int.natCast_zero, List.length_append, List.length_map, List.length_take, Nat.zero_add]) <;> (simp)) (fun k hk_7 L7 hLoop7 => ?_); obtain ⟨hk1, hk2⟩ := hk_7)
    | ((with_reducible refine seqQ_f ?_); refine hLoop7 (k + 1) _ (by exact ⟨by omega, all_step hk2 (hpc ▸ hL.1)⟩) (by omega) ?_; (refine Sub.auto (by first | exact frok0 | assumption) rfl rfl ?_ ?_ <;> (try simp only [subE, AS.over2, without, keys, look, List.cons_append, List.nil_append, List.append_nil, List.mem_cons, List.not_mem_nil, or_false, or_true, true_or, false_or, Nat.reduceEqDiff, ↓reduceIte, Option.some.injEq, AV.lit.injEq, Value.int.injEq, Value.bool.injEq, AV.own.injEq, AO.row.injEq, AO.box.injEq, List.cons.injEq, AV.agg.injEq, AV.sl.injEq, true_and, and_true, and_self, heq_eq_eq, List.length_nil, List.length_cons, List.map_nil, List.take_zero, Int.natCast_add, Int.cast_ofNat_Int, Int.natCast_zero, List.length_append, List.length_map, List.length_take, Nat.zero_add]) <;> (omega)))
    | ((with_reducible refine EndsAt_id ?_); (try subst_vars); (try simp only [vLin, linForm, hL, List.length_cons, List.length_nil, Nat.zero_add, Nat.reduceAdd, Bool.and_true, Bool.and_false, Bool.true_and, Bool.false_and, Bool.and_self, ↓reduceIte, Bool.false_eq_true, Bool.not_true, Bool.not_false, bne]); refine EndsAt.done [] (by first | exact .inr rfl | exact .inl rfl) rfl rfl ?_ ?_ <;> first | decide | (repeat' (first | rfl | apply And.intro | trivial)))
    | (with_reducible refine AWp.seq ?_)⟩
end Go.Proofs.YtgnnmifpfgpllaaGreat
