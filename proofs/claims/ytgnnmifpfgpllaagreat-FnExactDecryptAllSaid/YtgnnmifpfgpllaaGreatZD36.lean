import Derived.Test.YtgnnmifpfgpllaaGreatZD34
import Derived.Test.YtgnnmifpfgpllaaGreatZD24
/- Combined contributions. -/
set_option linter.all false
set_option linter.unusedVariables false
set_option linter.unusedSimpArgs false
namespace Go.Proofs.YtgnnmifpfgpllaaGreat
open Go.RowKit
theorem gd_inv {F : (Int × Int × List Int × List Int × List Int) → Bool} {l : List (Int × Int × List Int × List Int × List Int)} : ∀ k : Nat, k ≤ l.length → (∀ x ∈ (gd F l k).1, (0 ≤ x ∧ x < k) ∧ F (l.getD x.toNat ((0 : Int), (0 : Int), ([] : List Int), ([] : List Int), ([] : List Int))) = true) ∧ (gd F l k).2 = (gd F l k).1.map (fun j : Int => (l.getD j.toNat ((0 : Int), (0 : Int), ([] : List Int), ([] : List Int), ([] : List Int))).1) ∧ (gd F l k).2.Nodup
  | 0, _ => by simp [gd]
  | k + 1, hk => by
    obtain ⟨h1, h2, h3⟩ := gd_inv (F := F) (l := l) k (by omega)
    rw [gd]; split
    · rename_i h
      refine ⟨fun x hx => ?_, ?_, ?_⟩
      · rcases List.mem_append.1 hx with hx | hx
        · have := h1 x hx; exact ⟨by omega, this.2⟩
        · simp only [List.mem_singleton] at hx; subst hx
          exact ⟨by omega, by simpa using h.2⟩
      · simp only [List.map_append, List.map_cons, List.map_nil, h2, Int.toNat_natCast]
      · refine List.nodup_append.2 ⟨h3, by simp, fun a ha b hb hab => ?_⟩
        simp only [List.mem_singleton] at hb
        subst hb hab
        have := hasN_iff.2 ha
        rw [h.1] at this; cases this
    · refine ⟨fun x hx => ?_, h2, h3⟩
      have := h1 x hx; exact ⟨by omega, this.2⟩
noncomputable def gdW (p q g : Int) (cs : List Int) (u : Int) (l : List (Int × Int × List Int × List Int × List Int)) : List Int := (gdP p q g cs u l l.length).1
noncomputable def gdT (p q g : Int) (cs : List Int) (u : Int) (l : List (Int × Int × List Int × List Int × List Int)) : List Int := (gdW p q g cs u l).take cs.length
/-- indices and values of chosen contributions -/
def selX (l : List (Int × Int × List Int × List Int × List Int)) (r : List Int) (k : Nat) : List Int := (r.take k).map fun j : Int => (l.getD j.toNat ((0 : Int), (0 : Int), ([] : List Int), ([] : List Int), ([] : List Int))).1
def selV (l : List (Int × Int × List Int × List Int × List Int)) (r : List Int) (k : Nat) : List Int := (r.take k).map fun j : Int => (l.getD j.toNat ((0 : Int), (0 : Int), ([] : List Int), ([] : List Int), ([] : List Int))).2.1
section
variable {p q g u : Int} {cs : List Int} {l : List (Int × Int × List Int × List Int × List Int)} {k : Nat} {r : List Int}
theorem gdW_mem {x : Int} (hx : x ∈ gdW p q g cs u l) : (0 ≤ x ∧ x < l.length) ∧ inr (l.getD x.toNat ((0 : Int), (0 : Int), ([] : List Int), ([] : List Int), ([] : List Int))).1 1 7 = true ∧ elemB p q (l.getD x.toNat ((0 : Int), (0 : Int), ([] : List Int), ([] : List Int), ([] : List Int))).2.1 = true := by
  have h := (gd_inv (F := ipF p q g cs u) (l := l) l.length (Nat.le_refl _)).1 x hx
  have h2 := h.2
  simp only [ipF, iptB, Bool.and_eq_true] at h2
  exact ⟨h.1, h2.1.1, h2.1.2⟩
theorem gdT_at (hk : k < (gdT p q g cs u l).length) : 0 ≤ (gdT p q g cs u l).getD k 0 ∧ (gdT p q g cs u l).getD k 0 < l.length := (gdW_mem (List.mem_of_mem_take (getD_in 0 hk))).1
theorem gdT_len (h : ¬ ((gdW p q g cs u l).length : Int) < cs.length) : (gdT p q g cs u l).length = cs.length := by
  unfold gdT; rw [List.length_take]; omega
theorem selX_step (hk : k < r.length) : selX l r k ++ [(l.getD (r.getD k 0).toNat ((0 : Int), (0 : Int), ([] : List Int), ([] : List Int), ([] : List Int))).1] = selX l r (k + 1) := by
  unfold selX; rw [take_at 0 hk]; simp
theorem selV_step (hk : k < r.length) : selV l r k ++ [(l.getD (r.getD k 0).toNat ((0 : Int), (0 : Int), ([] : List Int), ([] : List Int), ([] : List Int))).2.1] = selV l r (k + 1) := by
  unfold selV; rw [take_at 0 hk]; simp
theorem selX_len (hk : k ≤ r.length) : (selX l r k).length = k := by
  unfold selX; rw [List.length_map, List.length_take]; omega
theorem selV_len (hk : k ≤ r.length) : (selV l r k).length = k := by
  unfold selV; rw [List.length_map, List.length_take]; omega
theorem selV_el : ∀ x ∈ selV l (gdT p q g cs u l) k, elemB p q x = true := fun x hx => by
  obtain ⟨j, hj, rfl⟩ := List.mem_map.1 hx
  exact (gdW_mem (List.mem_of_mem_take (List.mem_of_mem_take hj))).2.2
theorem selV_bd : ∀ x ∈ selV l (gdT p q g cs u l) k, 0 ≤ x ∧ x < p := fun x hx => elemB_bd (selV_el x hx)
theorem selX_pts (hq : M.Prime q) (hb : 7 < q ∧ q ≤ 2000000000) (hk : k ≤ 7) : PtsOK q (selX l (gdT p q g cs u l) k) := by
  refine ⟨hq, hb, ?_, fun x hx => ?_, ?_⟩
  · unfold selX; rw [List.length_map, List.length_take]; omega
  · obtain ⟨j, hj, rfl⟩ := List.mem_map.1 hx
    exact inr_t (gdW_mem (List.mem_of_mem_take (List.mem_of_mem_take hj))).2.1
  · have h := gd_inv (F := ipF p q g cs u) (l := l) l.length (Nat.le_refl _)
    have h3 := h.2.2
    rw [h.2.1] at h3
    unfold selX gdT
    rw [List.map_take, List.map_take]
    exact h3.sublist ((List.take_sublist _ _).trans (List.take_sublist _ _))
end
/-- what good contributions give -/
noncomputable def cmW (p q g : Int) (cs : List Int) (u v : Int) (l : List (Int × Int × List Int × List Int × List Int)) : Int × Bool :=
  if ((gdW p q g cs u l).length : Int) < cs.length then (0, false) else (M.mulL p [v, M.gpw p q (M.powL p q 1 (selV l (gdT p q g cs u l) cs.length) (lagL q (selX l (gdT p q g cs u l) cs.length) 0 cs.length)) (-1)], true)
noncomputable def cmV (p q g : Int) (cs : List Int) (u v : Int) (l : List (Int × Int × List Int × List Int × List Int)) : Int × Bool := if okGp p q g cs u v l = true then cmW p q g cs u v l else (0, false)
theorem PGp_t {p q g : Int} {cs : List Int} {u v : Int} {l : List (Int × Int × List Int × List Int × List Int)} (h : okGp p q g cs u v l = true) : PGp p q g cs u v l = gdW p q g cs u l := if_pos h
theorem cmW_f {p q g : Int} {cs : List Int} {u v : Int} {l : List (Int × Int × List Int × List Int × List Int)} (h : ((gdW p q g cs u l).length : Int) < cs.length) : cmW p q g cs u v l = (0, false) := if_pos h
theorem cmW_t {p q g : Int} {cs : List Int} {u v : Int} {l : List (Int × Int × List Int × List Int × List Int)} (h : ¬ ((gdW p q g cs u l).length : Int) < cs.length) : cmW p q g cs u v l = (M.mulL p [v, M.gpw p q (M.powL p q 1 (selV l (gdT p q g cs u l) cs.length) (lagL q (selX l (gdT p q g cs u l) cs.length) 0 cs.length)) (-1)], true) := if_neg h
noncomputable def c_CombinePartialsI : Con0 := conF [(.pair .int (.pair .int .int)), (.list .int), (.pair .int .int), (.list (.pair .int (.pair .int (.pair (.list .int) (.pair (.list .int) (.list .int))))))] fun (⟨⟨p, q, g⟩, cs, ⟨u, v⟩, l, _⟩ : (Int × Int × Int) × (List Int) × (Int × Int) × (List (Int × Int × (List Int) × (List Int) × (List Int))) × Unit) => (l.length ≤ 9223372036854775806, .tup [.lit (.int .i64 ((cmV p q g cs u v l).1)), .lit (.bool ((cmV p q g cs u v l).2))], [])
noncomputable def G_CombinePartialsI : List (FuncId × Con) := [(67, mk c_GoodPartialsI), (71, mk c_lagrange), (70, mk c_powers), (69, mk c_inv), (68, mk c_mul)]
theorem G_CombinePartialsI_ok : ∀ f C, (f, C) ∈ G_CombinePartialsI → C.ok Tryz.prog f := by
  intro f C h
  simp only [G_CombinePartialsI, List.mem_cons, Prod.mk.injEq, List.not_mem_nil, or_false] at h
  rcases h with ⟨rfl, rfl⟩ | ⟨rfl, rfl⟩ | ⟨rfl, rfl⟩ | ⟨rfl, rfl⟩ | ⟨rfl, rfl⟩
  · exact ok_GoodPartialsI
  · exact ok_lagrange
  · exact ok_powers
  · exact ok_inv
  · exact ok_mul
set_option maxRecDepth 100000 in
set_option maxHeartbeats 4000000 in
theorem ok_CombinePartialsI : (mk c_CombinePartialsI).ok Tryz.prog 44 := okF (Θ := Th) (N := 75) (rs := [.tmp 8, .tmp 9]) Th_ok Tryz.func44 (by kernel_rfl) rfl Tryz.results44 (by decide) (by kernel_rfl) fun (⟨⟨p, q, g⟩, cs, ⟨u, v⟩, l, _⟩ : (Int × Int × Int) × (List Int) × (Int × Int) × (List (Int × Int × (List Int) × (List Int) × (List Int))) × Unit) => ⟨rfl, rfl, Nat.le_of_ble_eq_true rfl, fun hc w0 => by
  have hL := dmy_eq
  try dsimp only at hc
  try dsimp only
  have hbl := hc
  refine AWp.body rfl ?_
  repeat' first
    | ((with_reducible refine hK _ _ ?_); clear hK K)
    | ((with_reducible refine hK _ _ (by kernel_rfl) ?_); clear hK K)
    | ((with_reducible refine AWp.pS Th_ok G_CombinePartialsI_ok [0, 1, 2, 3, 4, 6, 8, 9, 10, 11, 12, 13, 15, 32, 38, 39, 40, 41] (by decide) ?_); intro K hK)
    | ((with_reducible refine AWp.dS (by kernel_rfl) Th_ok G_CombinePartialsI_ok [0, 1, 2, 3, 4, 6, 8, 9, 10, 11, 12, 13, 15, 32, 38, 39, 40, 41] ?_); intro K hK)
    | ((with_reducible refine AWp.pE Th_ok G_CombinePartialsI_ok [0, 1, 2, 3, 4, 6, 8, 9, 10, 11, 12, 13, 15, 32, 38, 39, 40, 41] (by decide) ?_); intro K hK)
    | ((with_reducible refine AWp.dE (by kernel_rfl) Th_ok G_CombinePartialsI_ok [0, 1, 2, 3, 4, 6, 8, 9, 10, 11, 12, 13, 15, 32, 38, 39, 40, 41] ?_); intro K hK)
    | ((first | with_reducible refine runF_id ?_ | with_reducible refine stepF_id ?_); simp (maxSteps := 2000000) only [runF, stepF, forkOf, gdOf, List.toList_toArray, stepOp, look, opAV, pureOp, callOp, memOp, AS.ev, AS.get, AS.obj, initS, initFrom, AV.cells, AS.upd, Option.bind_some, Option.bind_none, Option.map_some, Option.map_none, Option.getD_none, Option.getD_some, ↓reduceIte, Nat.reduceEqDiff, Nat.reduceAdd, Nat.reduceMul, Nat.reduceSub, List.nil_append, List.append_nil, List.cons_append, List.map_cons, List.map_nil, true_and, and_true, AS.fin, pick, dedup, List.mem_cons, List.not_mem_nil, or_false, false_or, List.size_toArray, List.length_cons, List.length_nil, loadAV, List.drop_zero, List.drop_succ_cons, List.take_zero, List.take_succ_cons, List.getElem?_cons_zero, List.getElem?_cons_succ, List.head?_cons, List.mapM_cons, List.mapM_nil, Option.bind_eq_bind, Option.pure_def, deeps3, deep3, deep2, deep1, deeps, deeps2, mixInts, AV.plain, mk, mkD, DCon.lift, DCon.runC, ren3, ren2, ren1, numb, List.zipIdx_nil, List.zipIdx_cons, List.all_nil, List.all_cons, Nat.reduceLeDiff, List.range, List.range.loop, Ty.sz, beq_self_eq_true, Bool.and_self, and_self, Ty.ofC, AO.isDead, Nat.reduceLT, if_true, Nat.zero_add, Nat.add_zero, ite_true, Nat.le_refl, Bool.false_eq_true, reduceCtorEq, if_false, ite_false, binAV, AO.ren, AV.isCell, fillAV, List.set_cons_zero, List.set_cons_succ, Ty.cells, Ty.flat, Ty.dflt, List.getD_cons_zero, List.getD_cons_succ, Int.reduceToNat, Int.reduceSub, Int.reduceAdd, Int.reduceMul, Int.reduceNeg, forall_eq_or_imp, forall_eq, gdL, id_eq, Nat.lt_irrefl, srcOf, List.replicate_succ, List.replicate_zero, dite_true, List.isEmpty_cons, Option.isSome_some, List.length_append, List.length_singleton, bne_self_eq_false, Bool.not_true, Bool.not_false, conF, asArgs, asArg, asTy, asI1, asB1, asS1, asL1, canons, canon, Fork.true_, Fork.false_, bne, Bool.not_not, List.length_map, pickO, AS.over, TI.bl, bne_iff_ne, AS.over2, without, keys, List.mem_singleton, memOp2, memOp3, absorb, abInt, abBool, abStr, abList, gones, Int.toNat_natCast, List.take_length, subE, List.nodup_cons, List.nodup_nil, not_false_eq_true, Nat.sub_self, conR, asG, asI, asBo, asStr, asIs, asBs, asE4, asI2, asI3, asLL, asLLL, Th_int, Th_SSint, Th_Sint, Th_bool, Th_implCipher, Th_implGroup, Th_implPartial, Th_implProof, Th_implSPartial, Th_lawsGroup, G_CombinePartialsI, c_GoodPartialsI, c_lagrange, c_powers, c_inv, c_mul, hL])
    | ((with_reducible refine ens_step ?_ (fun hE => ?_)); · ((repeat' with_reducible apply And.intro) <;> first | with_reducible assumption | omega | exact True.intro | with_reducible rfl | (show ByteArray.size _ ≤ _; decide) | (simp; done) | (simp; omega) | rfl))
    | ((with_reducible refine And.intro ?_ ?_); · ((repeat' with_reducible apply And.intro) <;> first | with_reducible assumption | omega | exact True.intro | with_reducible rfl | (show ByteArray.size _ ≤ _; decide) | (simp; done) | (simp; omega) | rfl))
    | ((with_reducible refine Fork.intro (fun h' => ?_) (fun h' => ?_)) <;> (try simp only [Bool.not_eq_true', Bool.not_eq_false', bne] at h') <;> (replace hL := And.intro h' hL) <;> (try simp only [decide_eq_true_eq, decide_eq_false_iff_not, beq_iff_eq, beq_eq_false_iff_ne, ne_eq] at h') <;> (try (have hPg := PGp_t h'; have hgu := gp_use h'; replace hL := And.intro hPg hL)) <;> (try (have hgp : okDc p q g cs u v = true ∧ l.length ≤ 14 := gp_use h'; obtain ⟨hgp1, hl14⟩ := hgp; have hdc := okDc_use hgp1; obtain ⟨hd1, hd2, hd3, hd4⟩ := hdc; have hsh := shB_of hd1; obtain ⟨hgd, hq7⟩ := hsh; have hG := M.goodB_of hgd; have hcm := comB_use hd2; obtain ⟨hcl, hcb⟩ := hcm; have hu := elemB_bd hd3; have hv := elemB_bd hd4; have hq2 := hG.q2; have hqp := hG.qp; have hp3 := hG.p3; have hpM := hG.pM)) <;> (try (have hwf := cmW_f (v := v) h'; replace hL := And.intro hwf hL)) <;> (try (have hwt := cmW_t (v := v) (p := p) (q := q) (g := g) (u := u) (cs := cs) (l := l) (by omega); have htl := gdT_len (p := p) (q := q) (g := g) (u := u) (cs := cs) (l := l) (by omega); have hgt : (gdW p q g cs u l).take cs.length = gdT p q g cs u l := rfl; replace hL := And.intro hwt (And.intro hgt hL))) <;> (try (have hat := gdT_at (p := p) (q := q) (g := g) (u := u) (cs := cs) (l := l) (k := k) (by omega); have hsx := selX_step (l := l) (r := (gdT p q g cs u l)) (k := k) (by omega); have hsv := selV_step (l := l) (r := (gdT p q g cs u l)) (k := k) (by omega))) <;> (try (have hke : k = cs.length := (by omega); subst hke; have hpt := selX_pts (p := p) (g := g) (cs := cs) (u := u) (l := l) (k := cs.length) hG.pq ⟨hq7, by omega⟩ (by omega); have hlb := lagL_bd (q := q) (x := 0) (by omega) (xs := selX l (gdT p q g cs u l) cs.length) (k := cs.length); have hll := lagL_len (q := q) (x := 0) (xs := selX l (gdT p q g cs u l) cs.length) (k := cs.length); have hvb := selV_bd (p := p) (q := q) (g := g) (cs := cs) (u := u) (l := l) (k := cs.length); have hpw := M.powL_lt (p := p) (q := q) (by omega) (selV l (gdT p q g cs u l) cs.length) (lagL q (selX l (gdT p q g cs u l) cs.length) 0 cs.length) 1 (by omega); have hgi := M.gpw_lt (p := p) (q := q) (x := M.powL p q 1 (selV l (gdT p q g cs u l) cs.length) (lagL q (selX l (gdT p q g cs u l) cs.length) 0 cs.length)) (e := -1) hp3; have hmm := all2 hv hgi; replace hL := And.intro hxl (And.intro hvl hL))))
    | (with_reducible refine AWp.skipS ?_)
    | ((with_reducible refine AWp.condT rfl ?_))
    | ((with_reducible refine AWp.condF rfl ?_))
    | (with_reducible refine AWp.condB rfl ?_)
    | (with_reducible refine AWp.ret ?_)
    | (with_reducible refine seqQ_n ?_)
    | (with_reducible refine seqQ_ret ?_)
    | (with_reducible refine blkQ_ret ?_)
    | (with_reducible refine blkQ_n ?_)
    | (with_reducible refine seqQ_exit ?_)
    | (with_reducible refine blkQ_exit ?_)
    | (with_reducible refine blkQ_other (by decide) ?_)
    | (with_reducible refine AWp.block ?_)
    | (with_reducible refine AWp.exit ?_)
    | (with_reducible refine AWp.skip ?_)
    | ((with_reducible refine loop_id ?_); refine AWp.loopAt 6 rfl ?_; refine AWp.loopO [12, 13, 15, 40, 41, 42, 43, 44, 45, 46, 47, 48, 49, 50, 51, 52, 53, 54, 55, 56, 57, 58, 59, 60] (fun k => [(40, .lit (.int .i64 (k : Nat))), (12, .own 184 k), (13, .own 192 k)]) (fun k => [(184, .row 3 .int (selX l (gdT p q g cs u l) k)), (192, .row 3 .int (selV l (gdT p q g cs u l) k))]) (fun k => k ≤ cs.length) (fun k => cs.length - k) 0 (by omega) (by refine Sub.auto (by first | exact frok0 | assumption) rfl rfl ?_ ?_ <;> (try simp only [subE, AS.over2, without, keys, look, List.cons_append, List.nil_append, List.append_nil, List.mem_cons, List.not_mem_nil, or_false, or_true, true_or, false_or, Nat.reduceEqDiff, ↓reduceIte, Option.some.injEq, AV.lit.injEq, Value.int.injEq, Value.bool.injEq, AV.own.injEq, AO.row.injEq, AO.box.injEq, List.cons.injEq, AV.agg.injEq, AV.sl.injEq, true_and, and_true, and_self, heq_eq_eq, List.length_nil, List.length_cons, List.map_nil, List.take_zero, Int.natCast_add, Int.cast_ofNat_Int, Int.natCast_zero, List.length_append, List.length_map, List.length_take, Nat.zero_add]) <;> ((repeat' apply And.intro) <;> first | rfl | (simp [selX, selV]; done))) (fun k hk_6 L6 hLoop6 => ?_); have hxl := selX_len (l := l) (r := (gdT p q g cs u l)) (k := k) (by omega); have hvl := selV_len (l := l) (r := (gdT p q g cs u l)) (k := k) (by omega))
    | ((with_reducible refine seqQ_f ?_); refine hLoop6 (k + 1) _ (by omega) (by omega) ?_; (refine Sub.auto (by first | exact frok0 | assumption) rfl rfl ?_ ?_ <;> (try simp only [subE, AS.over2, without, keys, look, List.cons_append, List.nil_append, List.append_nil, List.mem_cons, List.not_mem_nil, or_false, or_true, true_or, false_or, Nat.reduceEqDiff, ↓reduceIte, Option.some.injEq, AV.lit.injEq, Value.int.injEq, Value.bool.injEq, AV.own.injEq, AO.row.injEq, AO.box.injEq, List.cons.injEq, AV.agg.injEq, AV.sl.injEq, true_and, and_true, and_self, heq_eq_eq, List.length_nil, List.length_cons, List.map_nil, List.take_zero, Int.natCast_add, Int.cast_ofNat_Int, Int.natCast_zero, List.length_append, List.length_map, List.length_take, Nat.zero_add]) <;> ((repeat' apply And.intro) <;> first | rfl | omega | exact hsx | exact hsv)))
    | ((with_reducible refine EndsAt_id ?_); (try subst_vars); (try simp only [cmV, hL, List.length_cons, List.length_nil, Nat.zero_add, Nat.reduceAdd, Bool.and_true, Bool.and_false, Bool.true_and, Bool.false_and, Bool.and_self, ↓reduceIte, Bool.false_eq_true, Bool.not_true, Bool.not_false, bne]); refine EndsAt.done [] (by first | exact .inr rfl | exact .inl rfl) rfl rfl ?_ ?_ <;> first | decide | (repeat' (first | rfl | apply And.intro | trivial)))
    | (with_reducible refine AWp.seq ?_)⟩
noncomputable def c_tCombine : Con0 := conF [(.pair .int (.pair .int .int)), (.list .int), (.pair .int .int), (.list (.pair .int (.pair .int (.pair (.list .int) (.pair (.list .int) (.list .int))))))] fun (⟨⟨p, q, g⟩, cs, ⟨u, v⟩, l, _⟩ : (Int × Int × Int) × (List Int) × (Int × Int) × (List (Int × Int × (List Int) × (List Int) × (List Int))) × Unit) => (M.Grp p q g ∧ (0 ≤ u ∧ u < p) ∧ (∀ c ∈ cs, 0 ≤ c ∧ c < p) ∧ cs.length ≤ 7 ∧ l.length ≤ 14 ∧ (0 ≤ v ∧ v < p) ∧ 7 < q ∧ 1 ≤ cs.length, .tup [.lit (.int .i64 ((cmW p q g cs u v l).1)), .lit (.bool ((cmW p q g cs u v l).2))], [])
noncomputable def G_tCombine : List (FuncId × Con) := [(101, mk c_tGood), (104, mk c_yLagrange), (103, mk c_gProd), (102, mk c_gInv), (81, mk c_gMul)]
theorem G_tCombine_ok : ∀ f C, (f, C) ∈ G_tCombine → C.ok Tryz.prog f := by
  intro f C h
  simp only [G_tCombine, List.mem_cons, Prod.mk.injEq, List.not_mem_nil, or_false] at h
  rcases h with ⟨rfl, rfl⟩ | ⟨rfl, rfl⟩ | ⟨rfl, rfl⟩ | ⟨rfl, rfl⟩ | ⟨rfl, rfl⟩
  · exact ok_tGood
  · exact ok_yLagrange
  · exact ok_gProd
  · exact ok_gInv
  · exact ok_gMul
set_option maxRecDepth 100000 in
set_option maxHeartbeats 4000000 in
theorem ok_tCombine : (mk c_tCombine).ok Tryz.prog 66 := okF (Θ := Th) (N := 66) (rs := [.tmp 8, .tmp 9]) Th_ok Tryz.func66 (by kernel_rfl) rfl Tryz.results66 (by decide) (by kernel_rfl) fun (⟨⟨p, q, g⟩, cs, ⟨u, v⟩, l, _⟩ : (Int × Int × Int) × (List Int) × (Int × Int) × (List (Int × Int × (List Int) × (List Int) × (List Int))) × Unit) => ⟨rfl, rfl, Nat.le_of_ble_eq_true rfl, fun hc w0 => by
  have hL := dmy_eq
  try dsimp only at hc
  try dsimp only
  obtain ⟨hG, hu, hcs, hcl, hll, hv, hq7, hc1⟩ := hc
  have hq2 := hG.q2
  have hqp := hG.qp
  have hp3 := hG.p3
  have hpM := hG.pM
  have hgb : 0 ≤ g ∧ g < p := ⟨by have := hG.g2; omega, hG.gp⟩
  have hgl : (gdP p q g cs u l l.length).1 = gdW p q g cs u l := rfl
  replace hL := And.intro hgl hL
  refine AWp.body rfl ?_
  repeat' first
    | ((with_reducible refine hK _ _ ?_); clear hK K)
    | ((with_reducible refine hK _ _ (by kernel_rfl) ?_); clear hK K)
    | ((with_reducible refine AWp.pS Th_ok G_tCombine_ok [0, 1, 2, 3, 4, 6, 8, 9, 10, 11, 12, 13, 15, 26, 29, 30, 31, 32] (by decide) ?_); intro K hK)
    | ((with_reducible refine AWp.dS (by kernel_rfl) Th_ok G_tCombine_ok [0, 1, 2, 3, 4, 6, 8, 9, 10, 11, 12, 13, 15, 26, 29, 30, 31, 32] ?_); intro K hK)
    | ((with_reducible refine AWp.pE Th_ok G_tCombine_ok [0, 1, 2, 3, 4, 6, 8, 9, 10, 11, 12, 13, 15, 26, 29, 30, 31, 32] (by decide) ?_); intro K hK)
    | ((with_reducible refine AWp.dE (by kernel_rfl) Th_ok G_tCombine_ok [0, 1, 2, 3, 4, 6, 8, 9, 10, 11, 12, 13, 15, 26, 29, 30, 31, 32] ?_); intro K hK)
    | ((first | with_reducible refine runF_id ?_ | with_reducible refine stepF_id ?_); simp (maxSteps := 2000000) only [runF, stepF, forkOf, gdOf, List.toList_toArray, stepOp, look, opAV, pureOp, callOp, memOp, AS.ev, AS.get, AS.obj, initS, initFrom, AV.cells, AS.upd, Option.bind_some, Option.bind_none, Option.map_some, Option.map_none, Option.getD_none, Option.getD_some, ↓reduceIte, Nat.reduceEqDiff, Nat.reduceAdd, Nat.reduceMul, Nat.reduceSub, List.nil_append, List.append_nil, List.cons_append, List.map_cons, List.map_nil, true_and, and_true, AS.fin, pick, dedup, List.mem_cons, List.not_mem_nil, or_false, false_or, List.size_toArray, List.length_cons, List.length_nil, loadAV, List.drop_zero, List.drop_succ_cons, List.take_zero, List.take_succ_cons, List.getElem?_cons_zero, List.getElem?_cons_succ, List.head?_cons, List.mapM_cons, List.mapM_nil, Option.bind_eq_bind, Option.pure_def, deeps3, deep3, deep2, deep1, deeps, deeps2, mixInts, AV.plain, mk, mkD, DCon.lift, DCon.runC, ren3, ren2, ren1, numb, List.zipIdx_nil, List.zipIdx_cons, List.all_nil, List.all_cons, Nat.reduceLeDiff, List.range, List.range.loop, Ty.sz, beq_self_eq_true, Bool.and_self, and_self, Ty.ofC, AO.isDead, Nat.reduceLT, if_true, Nat.zero_add, Nat.add_zero, ite_true, Nat.le_refl, Bool.false_eq_true, reduceCtorEq, if_false, ite_false, binAV, AO.ren, AV.isCell, fillAV, List.set_cons_zero, List.set_cons_succ, Ty.cells, Ty.flat, Ty.dflt, List.getD_cons_zero, List.getD_cons_succ, Int.reduceToNat, Int.reduceSub, Int.reduceAdd, Int.reduceMul, Int.reduceNeg, forall_eq_or_imp, forall_eq, gdL, id_eq, Nat.lt_irrefl, srcOf, List.replicate_succ, List.replicate_zero, dite_true, List.isEmpty_cons, Option.isSome_some, List.length_append, List.length_singleton, bne_self_eq_false, Bool.not_true, Bool.not_false, conF, asArgs, asArg, asTy, asI1, asB1, asS1, asL1, canons, canon, Fork.true_, Fork.false_, bne, Bool.not_not, List.length_map, pickO, AS.over, TI.bl, bne_iff_ne, AS.over2, without, keys, List.mem_singleton, memOp2, memOp3, absorb, abInt, abBool, abStr, abList, gones, Int.toNat_natCast, List.take_length, subE, List.nodup_cons, List.nodup_nil, not_false_eq_true, Nat.sub_self, conR, asG, asI, asBo, asStr, asIs, asBs, asE4, asI2, asI3, asLL, asLLL, Th_int, Th_Sint, Th_bool, Th_implCipher, Th_implGroup, Th_implPartial, Th_implSCipher, Th_implSPartial, Th_lawsGroup, G_tCombine, c_tGood, c_yLagrange, c_gProd, c_gInv, c_gMul, hL])
    | ((with_reducible refine ens_step ?_ (fun hE => ?_)); · ((repeat' with_reducible apply And.intro) <;> first | with_reducible assumption | omega | exact True.intro | with_reducible rfl | (show ByteArray.size _ ≤ _; decide) | (simp; done) | (simp; omega) | rfl))
    | ((with_reducible refine And.intro ?_ ?_); · ((repeat' with_reducible apply And.intro) <;> first | with_reducible assumption | omega | exact True.intro | with_reducible rfl | (show ByteArray.size _ ≤ _; decide) | (simp; done) | (simp; omega) | rfl))
    | ((with_reducible refine Fork.intro (fun h' => ?_) (fun h' => ?_)) <;> (try simp only [Bool.not_eq_true', Bool.not_eq_false', bne] at h') <;> (replace hL := And.intro h' hL) <;> (try simp only [decide_eq_true_eq, decide_eq_false_iff_not, beq_iff_eq, beq_eq_false_iff_ne, ne_eq] at h') <;> (try (have hwf := cmW_f (v := v) h'; replace hL := And.intro hwf hL)) <;> (try (have hwt := cmW_t (v := v) (p := p) (q := q) (g := g) (u := u) (cs := cs) (l := l) (by omega); have htl := gdT_len (p := p) (q := q) (g := g) (u := u) (cs := cs) (l := l) (by omega); have hgt : (gdW p q g cs u l).take cs.length = gdT p q g cs u l := rfl; replace hL := And.intro hwt (And.intro hgt hL))) <;> (try (have hat := gdT_at (p := p) (q := q) (g := g) (u := u) (cs := cs) (l := l) (k := k) (by omega); have hsx := selX_step (l := l) (r := (gdT p q g cs u l)) (k := k) (by omega); have hsv := selV_step (l := l) (r := (gdT p q g cs u l)) (k := k) (by omega))) <;> (try (have hke : k = cs.length := (by omega); subst hke; have hpt := selX_pts (p := p) (g := g) (cs := cs) (u := u) (l := l) (k := cs.length) hG.pq ⟨hq7, by omega⟩ (by omega); have hlb := lagL_bd (q := q) (x := 0) (by omega) (xs := selX l (gdT p q g cs u l) cs.length) (k := cs.length); have hll := lagL_len (q := q) (x := 0) (xs := selX l (gdT p q g cs u l) cs.length) (k := cs.length); have hvb := selV_bd (p := p) (q := q) (g := g) (cs := cs) (u := u) (l := l) (k := cs.length); have hpw := M.powL_lt (p := p) (q := q) (by omega) (selV l (gdT p q g cs u l) cs.length) (lagL q (selX l (gdT p q g cs u l) cs.length) 0 cs.length) 1 (by omega); have hgi := M.gpw_lt (p := p) (q := q) (x := M.powL p q 1 (selV l (gdT p q g cs u l) cs.length) (lagL q (selX l (gdT p q g cs u l) cs.length) 0 cs.length)) (e := -1) hp3; have hmm := all2 hv hgi; replace hL := And.intro hxl (And.intro hvl hL))))
    | (with_reducible refine AWp.skipS ?_)
    | ((with_reducible refine AWp.condT rfl ?_))
    | ((with_reducible refine AWp.condF rfl ?_))
    | (with_reducible refine AWp.condB rfl ?_)
    | (with_reducible refine AWp.ret ?_)
    | (with_reducible refine seqQ_n ?_)
    | (with_reducible refine seqQ_ret ?_)
    | (with_reducible refine blkQ_ret ?_)
    | (with_reducible refine blkQ_n ?_)
    | (with_reducible refine seqQ_exit ?_)
    | (with_reducible refine blkQ_exit ?_)
    | (with_reducible refine blkQ_other (by decide) ?_)
    | (with_reducible refine AWp.block ?_)
    | (with_reducible refine AWp.exit ?_)
    | (with_reducible refine AWp.skip ?_)
    | ((with_reducible refine loop_id ?_); refine AWp.loopAt 7 rfl ?_; refine AWp.sub (Sub.nilSlot 12 300012 3 .int rfl rfl) ?_; refine AWp.sub (Sub.nilSlot 13 300013 3 .int rfl rfl) ?_; refine AWp.loopO [12, 13, 15, 31, 32, 33, 34, 35, 36, 37, 38, 39, 40, 41, 42, 43, 44, 45, 46, 47, 48, 49, 50, 51] (fun k => [(31, .lit (.int .i64 (k : Nat))), (12, .own 300012 k), (13, .own 300013 k)]) (fun k => [(300012, .row 3 .int (selX l (gdT p q g cs u l) k)), (300013, .row 3 .int (selV l (gdT p q g cs u l) k))]) (fun k => k ≤ cs.length) (fun k => cs.length - k) 0 (by omega) (by refine Sub.auto (by first | exact frok0 | assumption) rfl rfl ?_ ?_ <;> (try simp only [subE, AS.over2, without, keys, look, List.cons_append, List.nil_append, List.append_nil, List.mem_cons, List.not_mem_nil, or_false, or_true, true_or, false_or, Nat.reduceEqDiff, ↓reduceIte, Option.some.injEq, AV.lit.injEq, Value.int.injEq, Value.bool.injEq, AV.own.injEq, AO.row.injEq, AO.box.injEq, List.cons.injEq, AV.agg.injEq, AV.sl.injEq, true_and, and_true, and_self, heq_eq_eq, List.length_nil, List.length_cons, List.map_nil, List.take_zero, Int.natCast_add, Int.cast_ofNat_Int, Int.natCast_zero, List.length_append, List.length_map, List.length_take, Nat.zero_add]) <;> ((repeat' apply And.intro) <;> first | rfl | (simp [selX, selV]; done))) (fun k hk_7 L7 hLoop7 => ?_); have hxl := selX_len (l := l) (r := (gdT p q g cs u l)) (k := k) (by omega); have hvl := selV_len (l := l) (r := (gdT p q g cs u l)) (k := k) (by omega))
    | ((with_reducible refine seqQ_f ?_); refine hLoop7 (k + 1) _ (by omega) (by omega) ?_; (refine Sub.auto (by first | exact frok0 | assumption) rfl rfl ?_ ?_ <;> (try simp only [subE, AS.over2, without, keys, look, List.cons_append, List.nil_append, List.append_nil, List.mem_cons, List.not_mem_nil, or_false, or_true, true_or, false_or, Nat.reduceEqDiff, ↓reduceIte, Option.some.injEq, AV.lit.injEq, Value.int.injEq, Value.bool.injEq, AV.own.injEq, AO.row.injEq, AO.box.injEq, List.cons.injEq, AV.agg.injEq, AV.sl.injEq, true_and, and_true, and_self, heq_eq_eq, List.length_nil, List.length_cons, List.map_nil, List.take_zero, Int.natCast_add, Int.cast_ofNat_Int, Int.natCast_zero, List.length_append, List.length_map, List.length_take, Nat.zero_add]) <;> ((repeat' apply And.intro) <;> first | rfl | omega | exact hsx | exact hsv)))
    | ((with_reducible refine EndsAt_id ?_); (try subst_vars); (try simp only [id_eq, hL, List.length_cons, List.length_nil, Nat.zero_add, Nat.reduceAdd, Bool.and_true, Bool.and_false, Bool.true_and, Bool.false_and, Bool.and_self, ↓reduceIte, Bool.false_eq_true, Bool.not_true, Bool.not_false, bne]); refine EndsAt.done [] (by first | exact .inr rfl | exact .inl rfl) rfl rfl ?_ ?_ <;> first | decide | (repeat' (first | rfl | apply And.intro | trivial)))
    | (with_reducible refine AWp.seq ?_)⟩
noncomputable def c_CombinePartialsS : Con0 := conF [(.pair .int (.pair .int .int)), (.list .int), (.pair .int .int), (.list (.pair .int (.pair .int (.pair (.list .int) (.pair (.list .int) (.list .int))))))] fun (⟨⟨p, q, g⟩, cs, ⟨u, v⟩, l, _⟩ : (Int × Int × Int) × (List Int) × (Int × Int) × (List (Int × Int × (List Int) × (List Int) × (List Int))) × Unit) => (l.length ≤ 9223372036854775806, .tup [.lit (.int .i64 ((cmV p q g cs u v l).1)), .lit (.bool ((cmV p q g cs u v l).2))], [])
noncomputable def G_CombinePartialsS : List (FuncId × Con) := [(31, mk c_tInput), (66, mk c_tCombine)]
theorem G_CombinePartialsS_ok : ∀ f C, (f, C) ∈ G_CombinePartialsS → C.ok Tryz.prog f := by
  intro f C h
  simp only [G_CombinePartialsS, List.mem_cons, Prod.mk.injEq, List.not_mem_nil, or_false] at h
  rcases h with ⟨rfl, rfl⟩ | ⟨rfl, rfl⟩
  · exact ok_tInput
  · exact ok_tCombine
set_option maxRecDepth 100000 in
set_option maxHeartbeats 4000000 in
theorem ok_CombinePartialsS : (mk c_CombinePartialsS).ok Tryz.prog 42 := okF (Θ := Th) (N := 23) (rs := [.tmp 8, .tmp 9]) Th_ok Tryz.func42 (by kernel_rfl) rfl Tryz.results42 (by decide) (by kernel_rfl) fun (⟨⟨p, q, g⟩, cs, ⟨u, v⟩, l, _⟩ : (Int × Int × Int) × (List Int) × (Int × Int) × (List (Int × Int × (List Int) × (List Int) × (List Int))) × Unit) => ⟨rfl, rfl, Nat.le_of_ble_eq_true rfl, fun hc w0 => by
  have hL := dmy_eq
  try dsimp only at hc
  try dsimp only
  have hbl := hc
  have h14 : decide ((l.length : Int) ≤ 14) = !decide (14 < (l.length : Int)) := by rw [Bool.eq_iff_iff]; simp
  replace hL := And.intro h14 hL
  refine AWp.body rfl ?_
  repeat' first
    | ((with_reducible refine hK _ _ ?_); clear hK K)
    | ((with_reducible refine hK _ _ (by kernel_rfl) ?_); clear hK K)
    | ((with_reducible refine AWp.pS Th_ok G_CombinePartialsS_ok [0, 1, 2, 3, 4, 6, 8, 9, 15] (by decide) ?_); intro K hK)
    | ((with_reducible refine AWp.dS (by kernel_rfl) Th_ok G_CombinePartialsS_ok [0, 1, 2, 3, 4, 6, 8, 9, 15] ?_); intro K hK)
    | ((with_reducible refine AWp.pE Th_ok G_CombinePartialsS_ok [0, 1, 2, 3, 4, 6, 8, 9, 15] (by decide) ?_); intro K hK)
    | ((with_reducible refine AWp.dE (by kernel_rfl) Th_ok G_CombinePartialsS_ok [0, 1, 2, 3, 4, 6, 8, 9, 15] ?_); intro K hK)
    | ((first | with_reducible refine runF_id ?_ | with_reducible refine stepF_id ?_); simp (maxSteps := 2000000) only [runF, stepF, forkOf, gdOf, List.toList_toArray, stepOp, look, opAV, pureOp, callOp, memOp, AS.ev, AS.get, AS.obj, initS, initFrom, AV.cells, AS.upd, Option.bind_some, Option.bind_none, Option.map_some, Option.map_none, Option.getD_none, Option.getD_some, ↓reduceIte, Nat.reduceEqDiff, Nat.reduceAdd, Nat.reduceMul, Nat.reduceSub, List.nil_append, List.append_nil, List.cons_append, List.map_cons, List.map_nil, true_and, and_true, AS.fin, pick, dedup, List.mem_cons, List.not_mem_nil, or_false, false_or, List.size_toArray, List.length_cons, List.length_nil, loadAV, List.drop_zero, List.drop_succ_cons, List.take_zero, List.take_succ_cons, List.getElem?_cons_zero, List.getElem?_cons_succ, List.head?_cons, List.mapM_cons, List.mapM_nil, Option.bind_eq_bind, Option.pure_def, deeps3, deep3, deep2, deep1, deeps, deeps2, mixInts, AV.plain, mk, mkD, DCon.lift, DCon.runC, ren3, ren2, ren1, numb, List.zipIdx_nil, List.zipIdx_cons, List.all_nil, List.all_cons, Nat.reduceLeDiff, List.range, List.range.loop, Ty.sz, beq_self_eq_true, Bool.and_self, and_self, Ty.ofC, AO.isDead, Nat.reduceLT, if_true, Nat.zero_add, Nat.add_zero, ite_true, Nat.le_refl, Bool.false_eq_true, reduceCtorEq, if_false, ite_false, binAV, AO.ren, AV.isCell, fillAV, List.set_cons_zero, List.set_cons_succ, Ty.cells, Ty.flat, Ty.dflt, List.getD_cons_zero, List.getD_cons_succ, Int.reduceToNat, Int.reduceSub, Int.reduceAdd, Int.reduceMul, Int.reduceNeg, forall_eq_or_imp, forall_eq, gdL, id_eq, Nat.lt_irrefl, srcOf, List.replicate_succ, List.replicate_zero, dite_true, List.isEmpty_cons, Option.isSome_some, List.length_append, List.length_singleton, bne_self_eq_false, Bool.not_true, Bool.not_false, conF, asArgs, asArg, asTy, asI1, asB1, asS1, asL1, canons, canon, Fork.true_, Fork.false_, bne, Bool.not_not, List.length_map, pickO, AS.over, TI.bl, bne_iff_ne, AS.over2, without, keys, List.mem_singleton, memOp2, memOp3, absorb, abInt, abBool, abStr, abList, gones, Int.toNat_natCast, List.take_length, subE, List.nodup_cons, List.nodup_nil, not_false_eq_true, Nat.sub_self, conR, asG, asI, asBo, asStr, asIs, asBs, asE4, asI2, asI3, asLL, asLLL, Th_int, Th_Sint, Th_bool, Th_implCipher, Th_implGroup, Th_implSPartial, G_CombinePartialsS, c_tInput, c_tCombine, hL])
    | ((with_reducible refine ens_step ?_ (fun hE => ?_)); · ((repeat' with_reducible apply And.intro) <;> first | with_reducible assumption | omega | exact True.intro | with_reducible rfl | (show ByteArray.size _ ≤ _; decide) | (simp; done) | (simp; omega) | rfl))
    | ((with_reducible refine And.intro ?_ ?_); · ((repeat' with_reducible apply And.intro) <;> first | with_reducible assumption | omega | exact True.intro | with_reducible rfl | (show ByteArray.size _ ≤ _; decide) | (simp; done) | (simp; omega) | rfl))
    | ((with_reducible refine Fork.intro (fun h' => ?_) (fun h' => ?_)) <;> (try simp only [Bool.not_eq_true', Bool.not_eq_false', bne] at h') <;> (replace hL := And.intro h' hL) <;> (try simp only [decide_eq_true_eq, decide_eq_false_iff_not, beq_iff_eq, beq_eq_false_iff_ne, ne_eq] at h') <;> (try (have hgp : okDc p q g cs u v = true ∧ l.length ≤ 14 := gp_use h'; obtain ⟨hgp1, hl14⟩ := hgp; have hdc := okDc_use hgp1; obtain ⟨hd1, hd2, hd3, hd4⟩ := hdc; have hsh := shB_of hd1; obtain ⟨hgd, hq7⟩ := hsh; have hG := M.goodB_of hgd; have hcm := comB_use hd2; obtain ⟨hcl, hcb⟩ := hcm; have hu := elemB_bd hd3; have hv := elemB_bd hd4; have hq2 := hG.q2; have hqp := hG.qp; have hp3 := hG.p3; have hpM := hG.pM)))
    | (with_reducible refine AWp.skipS ?_)
    | ((with_reducible refine AWp.condT rfl ?_))
    | ((with_reducible refine AWp.condF rfl ?_))
    | (with_reducible refine AWp.condB rfl ?_)
    | (with_reducible refine AWp.ret ?_)
    | (with_reducible refine seqQ_n ?_)
    | (with_reducible refine seqQ_ret ?_)
    | (with_reducible refine blkQ_ret ?_)
    | (with_reducible refine blkQ_n ?_)
    | (with_reducible refine seqQ_exit ?_)
    | (with_reducible refine blkQ_exit ?_)
    | (with_reducible refine blkQ_other (by decide) ?_)
    | (with_reducible refine AWp.block ?_)
    | (with_reducible refine AWp.exit ?_)
    | (with_reducible refine AWp.skip ?_)
    | ((with_reducible refine EndsAt_id ?_); (try subst_vars); (try simp only [cmV, okGp, hL, List.length_cons, List.length_nil, Nat.zero_add, Nat.reduceAdd, Bool.and_true, Bool.and_false, Bool.true_and, Bool.false_and, Bool.and_self, ↓reduceIte, Bool.false_eq_true, Bool.not_true, Bool.not_false, bne]); refine EndsAt.done [] (by first | exact .inr rfl | exact .inl rfl) rfl rfl ?_ ?_ <;> first | decide | (repeat' (first | rfl | apply And.intro | trivial)))
    | (with_reducible refine AWp.seq ?_)⟩
end Go.Proofs.YtgnnmifpfgpllaaGreat
